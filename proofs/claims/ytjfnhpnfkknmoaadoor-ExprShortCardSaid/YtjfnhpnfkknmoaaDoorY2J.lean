/- A part of the texts that the claim's proof needs: functions of the program as the evaluator reads them, and what they come to. Conditions: those that its theorems state. -/
import Derived.Test.YtjfnhpnfkknmoaaDoorY2W
import Derived.Test.YtjfnhpnfkknmoaaDoorA4
set_option linter.unusedVariables false
set_option linter.unusedSimpArgs false
set_option maxRecDepth 100000
set_option maxHeartbeats 4000000
namespace Go.Proofs.YtjfnhpnfkknmoaaDoor
open Go.Proofs.Pe

theorem rwT : RwTypes Tryd.prog 75 46 := ⟨Tryd.underlying3, Tryd.underlying46, by kernel_rfl, _, Tryd.underlying75, rfl⟩
theorem size_p : ∀ (r : Nat), r ≤ 9 → ∀ {l : List Rw} {lv : V} {vs : List V}, IsSl 3 lv vs → All2 IsRw l vs → vs.length ≤ maxLen → ∀ {d : Int}, d = 9 - r → PFn Tryd.prog T 42 [lv, iV d] fun z => z = iV (szL r l)
  | 0, _, l, lv, vs, h1, h2, h3, d, hd => by
    obtain rfl : d = 9 := by omega
    intro yi hy
    refine Call.step hy ?_
    rw [body_eq t42]
    simp only [c42, c42x1, c42x2, c42x3, c42x4, c42x5, c42x6, c42x7, c42x8, c42x9, c42x10, RUA, RUB, RUC, RUD, RUE, if_true, if_false, ite_true, ite_false, Int.reduceEq, Int.reduceLT, Int.reduceLE, putCells, bslOf, bsaOf, bslS, isUpto, Nat.reduceEqDiff, Pe.step, E.at, List.replicate, Nat.reduceAdd, Nat.reduceSub, Nat.reduceLeDiff, Nat.reduceMul, Pe.intOf, Pe.iop, Pe.sop]
    exact ⟨_, _, rfl, rfl⟩
  | r + 1, hr, l, lv, vs, h1, h2, h3, d, hd => by
    have hq : decide (8 < d) = false := by simp; omega
    have hlen := h2.len
    unfold maxLen at h3
    intro yi hy
    refine Call.step hy ?_
    rw [body_eq t42]
    simp only [c42, c42x1, c42x2, c42x3, c42x4, c42x5, RUA, RUB, RUC, RUD, RUE, if_true, if_false, ite_true, ite_false, Int.reduceEq, Int.reduceLT, Int.reduceLE, putCells, bslOf, bsaOf, bslS, isUpto, Nat.reduceEqDiff, Pe.step, E.at, List.replicate, Nat.reduceAdd, Nat.reduceSub, Nat.reduceLeDiff, Nat.reduceMul, Pe.intOf, Pe.iop, Pe.sop, hq]
    refine Lfp.inv call_le hy (fun a : Nat × Int => ⟨⟨[lv, iV d, .dead, .dead, .dead, iV a.2, iV a.1, .dead, .dead, .dead, .dead, .dead, .dead, .dead, .dead, .dead, .dead, .dead, .dead, .dead, .dead, .dead, .dead, .dead, .dead, .dead, .dead, .dead, .dead, .dead, .dead], []⟩, []⟩) (fun a => vs.length - a.1)
      (fun a => a.1 ≤ vs.length ∧ 0 ≤ a.2 ∧ a.2 ≤ 3000 ∧ szLoop (szL r) (l.drop a.1) a.2 = szL (r + 1) l) (0, 0) ⟨Nat.zero_le _, by omega, by omega, rfl⟩ (by simp only [killTs_cons, killTs_nil, List.set_cons_succ, List.set_cons_zero] <;> rfl) ?_
    rintro ⟨i, n⟩ ⟨hi, hn0, hn1, hs⟩
    dsimp only at hi hn0 hn1 hs
    by_cases hlt : i < vs.length
    · have hd1 : decide ((i : Int) < (vs.length : Int)) = true := by simpa using hlt
      by_cases hn : n ≤ 20
      · have hd2 : decide (n ≤ 20) = true := by simpa using hn
        have hx : vs[i]? = some vs[i] := List.getElem?_eq_getElem hlt
        have hlx : i < l.length := by omega
        have hxl : l[i]? = some l[i] := List.getElem?_eq_getElem hlx
        have hE := h2.get hx hxl
        generalize hgv : vs[i] = u at hx hE
        generalize hgx : l[i] = x at hxl hE
        rcases x with ⟨k, m, xl⟩
        rw [szLoop_drop hxl hn] at hs
        obtain ⟨lv1, us, rfl, _, _, g1, g2, g3⟩ := hE
        rw [isRws_all] at g3
        have hI := fun o => h1.ix o hx
        have hw1 : IntKind.i64.wrap ((i : Int) + 1) = ((i + 1 : Nat) : Int) := wrap_succ (by omega)
        have hw2 : IntKind.i64.wrap (d + 1) = d + 1 := wrap_in (by unfold I64; omega)
        have hrow := fun o => h1.row o
        simp only [c42, c42x1, c42x2, c42x3, c42x4, c42x5, c42x6, c42x7, c42x8, c42x9, c42x10, RUA, RUB, RUC, RUD, RUE, if_true, if_false, ite_true, ite_false, Int.reduceEq, Int.reduceLT, Int.reduceLE, putCells, bslOf, bsaOf, bslS, isUpto, Nat.reduceEqDiff, Pe.step, E.at, List.replicate, Nat.reduceAdd, Nat.reduceSub, Nat.reduceLeDiff, Nat.reduceMul, Pe.intOf, Pe.iop, Pe.sop, hd1, hd2, hI, hrow, hw2]
        have hb := szL_le r xl
        refine (size_p r (by omega) g1 g3 g2 (d := d + 1) (by omega)).callE rfl (cf2 g1.freeV rfl _) rfl ?_
        have hw3 : IntKind.i64.wrap (n + 1) = n + 1 := wrap_in (by unfold I64; omega)
        have hw4 : IntKind.i64.wrap (n + 1 + szL r xl) = n + 1 + szL r xl := wrap_in (by unfold I64; omega)
        simp only [c42, c42x1, c42x2, c42x3, c42x4, c42x5, c42x6, c42x7, c42x8, c42x9, c42x10, RUA, RUB, RUC, RUD, RUE, if_true, if_false, ite_true, ite_false, Int.reduceEq, Int.reduceLT, Int.reduceLE, putCells, bslOf, bsaOf, bslS, isUpto, Nat.reduceEqDiff, Pe.step, E.at, List.replicate, Nat.reduceAdd, Nat.reduceSub, Nat.reduceLeDiff, Nat.reduceMul, Pe.intOf, Pe.iop, Pe.sop, hw1, hw3, hw4]
        exact ⟨(i + 1, n + 1 + szL r xl), ⟨by simp only; omega, by simp only; omega, by simp only; omega, hs⟩, by simp only; omega, rfl⟩
      · have hd2 : decide (n ≤ 20) = false := by simpa using hn
        rw [szLoop_stop hn] at hs
        have hrow := fun o => h1.row o
        simp only [c42, c42x1, c42x2, c42x3, c42x4, c42x5, c42x6, c42x7, c42x8, c42x9, c42x10, RUA, RUB, RUC, RUD, RUE, if_true, if_false, ite_true, ite_false, Int.reduceEq, Int.reduceLT, Int.reduceLE, putCells, bslOf, bsaOf, bslS, isUpto, Nat.reduceEqDiff, Pe.step, E.at, List.replicate, Nat.reduceAdd, Nat.reduceSub, Nat.reduceLeDiff, Nat.reduceMul, Pe.intOf, Pe.iop, Pe.sop, hd1, hd2, hrow]
        exact ⟨_, _, rfl, by rw [hs]⟩
    · have hd1 : decide ((i : Int) < (vs.length : Int)) = false := by simpa using hlt
      have hrow := fun o => h1.row o
      rw [List.drop_eq_nil_of_le (by omega)] at hs
      simp only [c42, c42x1, c42x2, c42x3, c42x4, c42x5, c42x6, c42x7, c42x8, c42x9, c42x10, RUA, RUB, RUC, RUD, RUE, if_true, if_false, ite_true, ite_false, Int.reduceEq, Int.reduceLT, Int.reduceLE, putCells, bslOf, bsaOf, bslS, isUpto, Nat.reduceEqDiff, Pe.step, E.at, List.replicate, Nat.reduceAdd, Nat.reduceSub, Nat.reduceLeDiff, Nat.reduceMul, Pe.intOf, Pe.iop, Pe.sop, hd1, hrow]
      exact ⟨_, _, rfl, by rw [← hs]; rfl⟩
theorem few_p {l : List Rw} {lv : V} {vs : List V} (h1 : IsSl 3 lv vs) (h2 : All2 IsRw l vs) (h3 : vs.length ≤ maxLen) : PFn Tryd.prog T 20 [lv] fun z => z = bV (decide (szL 9 l ≤ 20)) := by
  intro yi hy
  refine Call.step hy ?_
  rw [body_eq t20]
  simp only [c20, c20x1, RUA, RUB, RUC, RUD, RUE, if_true, if_false, ite_true, ite_false, Int.reduceEq, Int.reduceLT, Int.reduceLE, putCells, bslOf, bsaOf, bslS, isUpto, Nat.reduceEqDiff, Pe.step, E.at, List.replicate, Nat.reduceAdd, Nat.reduceSub, Nat.reduceLeDiff, Nat.reduceMul, Pe.intOf, Pe.iop, Pe.sop]
  refine (size_p 9 (by omega) h1 h2 h3 (d := 0) (by omega)).callE rfl (cf2 h1.freeV rfl _) rfl ?_
  simp only [c20, c20x1, RUA, RUB, RUC, RUD, RUE, if_true, if_false, ite_true, ite_false, Int.reduceEq, Int.reduceLT, Int.reduceLE, putCells, bslOf, bsaOf, bslS, isUpto, Nat.reduceEqDiff, Pe.step, E.at, List.replicate, Nat.reduceAdd, Nat.reduceSub, Nat.reduceLeDiff, Nat.reduceMul, Pe.intOf, Pe.iop, Pe.sop]
  exact ⟨_, _, rfl, rfl⟩
end Go.Proofs.YtjfnhpnfkknmoaaDoor

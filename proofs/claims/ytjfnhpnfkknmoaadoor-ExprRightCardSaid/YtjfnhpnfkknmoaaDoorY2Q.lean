/- A part of the texts that the claim's proof needs: functions of the program as the evaluator reads them, and what they come to. Conditions: those that its theorems state. -/
import Derived.Test.YtjfnhpnfkknmoaaDoorY2N
set_option linter.unusedVariables false
set_option linter.unusedSimpArgs false
set_option maxRecDepth 100000
set_option maxHeartbeats 4000000
namespace Go.Proofs.YtjfnhpnfkknmoaaDoor
open Go.Proofs.Pe

theorem allTake {α : Type} {p : α → Bool} {l : List α} {i : Nat} {x : α} (h : l[i]? = some x) : (l.take (i + 1)).all p = ((l.take i).all p && p x) := by
  rw [List.take_add_one, h]; simp
theorem rright_p (vars : Int) : ∀ (x : Ex) {u : V}, IsEx x u → PFn Tryd.prog T 32 [u, iV vars] fun z => z = bV (rightS vars x)
  | .mk k n nm l, u, hu => by
    have ih : ∀ x ∈ l, ∀ u, IsEx x u → PFn Tryd.prog T 32 [u, iV vars] fun z => z = bV (rightS vars x) := fun x hx u hu => rright_p vars x hu
    obtain ⟨lv, vs, rfl, h1, h2, h3⟩ := hu
    rw [isExs_all] at h3
    have hlen := h3.len
    unfold cap at h2
    have hone : lv.one = true := free1_one h1.free
    have hrow := fun o => h1.row o
    have hok := okN_iff (vars := vars) (k := k) (n := n) (nm := nm) (l := l)
    have hbad : okN vars (.mk k n nm l) = false → rightS vars (.mk k n nm l) = false := fun h => by rw [rightS_eq, h]; rfl
    have hgood : okN vars (.mk k n nm l) = true → rightS vars (.mk k n nm l) = l.all (rightS vars) := fun h => by rw [rightS_eq, h, Bool.true_and]
    have hloop : ∀ (w : Int) (yi : Nat → Sem') (hy : YLe yi yi) (f : Fr), okN vars (.mk k n nm l) = true → w = vs.length →
        ({ f with s := { f.s with t := killTs [0, 3, 4, 7, 8, 9, 10, 11, 12, 13, 14, 15, 16, 17, 18, 19, 20, 21, 22, 23, 24, 25, 26, 27, 28, 29, 30, 31, 32, 33, 34, 35, 36, 37, 38, 39, 40, 41, 42, 43, 44, 45, 46, 47, 48, 49, 50, 51, 52, 53, 54, 55, 56, 57, 58, 59, 60, 61, 62, 63, 64, 65, 66, 67, 68, 69, 70, 71, 72, 73, 74, 75, 76, 77, 78, 79, 80, 81, 82, 83] f.s.t } } : Fr) = ⟨⟨(.dead :: iV vars :: .pt 0 0 :: .dead :: .dead :: iV w :: iV 0 :: .dead :: .dead :: .dead :: .dead :: .dead :: .dead :: .dead :: .dead :: .dead :: .dead :: .dead :: .dead :: .dead :: .dead :: .dead :: .dead :: .dead :: .dead :: .dead :: .dead :: .dead :: .dead :: .dead :: .dead :: .dead :: .dead :: .dead :: .dead :: .dead :: .dead :: .dead :: .dead :: .dead :: .dead :: .dead :: .dead :: .dead :: .dead :: .dead :: .dead :: .dead :: .dead :: .dead :: .dead :: .dead :: .dead :: .dead :: .dead :: .dead :: .dead :: .dead :: .dead :: .dead :: .dead :: .dead :: .dead :: .dead :: .dead :: .dead :: .dead :: .dead :: .dead :: .dead :: .dead :: .dead :: .dead :: .dead :: .dead :: .dead :: .dead :: .dead :: .dead :: .dead :: .dead :: .dead :: .dead :: .dead :: []), [.cells [iV k, iV n, sV nm, lv]]⟩, []⟩ →
        ev Tryd.prog T (Pe.Call Tryd.prog T) Lfp c32x11 none yi f (fun x f' => match x with
          | .normal => ev Tryd.prog T (Pe.Call Tryd.prog T) Lfp c32x17 none yi f' (endK [Rv.tmp 4] fun y o' => ∃ z o2, freezeT o' y = some (z, o2) ∧ z = bV (rightS vars (.mk k n nm l)))
          | x => endK [Rv.tmp 4] (fun y o' => ∃ z o2, freezeT o' y = some (z, o2) ∧ z = bV (rightS vars (.mk k n nm l))) x f') := by
      rintro w yi hy ⟨⟨t, o⟩, m⟩ hg rfl hf
      rw [hgood hg]
      simp only [c32, c32x1, c32x2, c32x3, c32x4, c32x5, c32x6, c32x7, c32x8, c32x9, c32x10, c32x11, c32x11, s_block, s_loop]
      refine Lfp.inv call_le hy (fun a : Nat => ⟨⟨(.dead :: iV vars :: .pt 0 0 :: .dead :: .dead :: iV vs.length :: iV a :: .dead :: .dead :: .dead :: .dead :: .dead :: .dead :: .dead :: .dead :: .dead :: .dead :: .dead :: .dead :: .dead :: .dead :: .dead :: .dead :: .dead :: .dead :: .dead :: .dead :: .dead :: .dead :: .dead :: .dead :: .dead :: .dead :: .dead :: .dead :: .dead :: .dead :: .dead :: .dead :: .dead :: .dead :: .dead :: .dead :: .dead :: .dead :: .dead :: .dead :: .dead :: .dead :: .dead :: .dead :: .dead :: .dead :: .dead :: .dead :: .dead :: .dead :: .dead :: .dead :: .dead :: .dead :: .dead :: .dead :: .dead :: .dead :: .dead :: .dead :: .dead :: .dead :: .dead :: .dead :: .dead :: .dead :: .dead :: .dead :: .dead :: .dead :: .dead :: .dead :: .dead :: .dead :: .dead :: .dead :: .dead :: []), [.cells [iV k, iV n, sV nm, lv]]⟩, []⟩) (fun a => vs.length - a)
        (fun a => a ≤ vs.length ∧ (l.take a).all (rightS vars) = true) 0 ⟨by omega, rfl⟩ hf ?_
      rintro i ⟨hi, ha⟩
      by_cases hlt : i < vs.length
      · have hd1 : decide ((i : Int) < (vs.length : Int)) = true := by simpa using hlt
        have hx : vs[i]? = some vs[i] := List.getElem?_eq_getElem hlt
        have hxl : l[i]? = some l[i] := List.getElem?_eq_getElem (by omega)
        have hmem : l[i] ∈ l := List.getElem_mem _
        have hE := h3.get hx hxl
        generalize hgv : vs[i] = u at hx hE
        generalize hgx : l[i] = x at hxl hE hmem
        have hE' := hE
        rcases x with ⟨k1, n1, m1, l1⟩
        obtain ⟨lv1, us, rfl, g1, g2, g3⟩ := hE
        have hI := fun o => h1.ix o hx
        have hw1 : IntKind.i64.wrap ((i : Int) + 1) = ((i + 1 : Nat) : Int) := wrap_succ (by omega)
        simp only [c32, c32x1, c32x2, c32x3, c32x4, c32x5, c32x6, c32x7, c32x8, c32x9, c32x10, c32x11, c32x12, c32x13, c32x14, c32x15, c32x16, c32x17, RUA, RUB, RUC, RUD, RUE, if_true, if_false, ite_true, ite_false, Int.reduceEq, Int.reduceLT, Int.reduceLE, putCells, bslOf, bsaOf, bslS, isUpto, Nat.reduceEqDiff, Pe.step, E.at, List.replicate, Nat.reduceAdd, Nat.reduceSub, Nat.reduceLeDiff, Nat.reduceMul, Pe.intOf, Pe.iop, Pe.sop, hd1, hI]
        refine (ih _ hmem _ hE').callE rfl (cf2 hE'.ok.1 rfl _) rfl ?_
        cases hr : rightS vars (.mk k1 n1 m1 l1) with
        | true =>
          simp only [c32, c32x1, c32x2, c32x3, c32x4, c32x5, c32x6, c32x7, c32x8, c32x9, c32x10, c32x11, c32x12, c32x13, c32x14, c32x15, c32x16, c32x17, RUA, RUB, RUC, RUD, RUE, if_true, if_false, ite_true, ite_false, Int.reduceEq, Int.reduceLT, Int.reduceLE, putCells, bslOf, bsaOf, bslS, isUpto, Nat.reduceEqDiff, Pe.step, E.at, List.replicate, Nat.reduceAdd, Nat.reduceSub, Nat.reduceLeDiff, Nat.reduceMul, Pe.intOf, Pe.iop, Pe.sop, hw1]
          exact ⟨i + 1, ⟨by omega, by rw [allTake hxl, ha, hr]; rfl⟩, by omega, rfl⟩
        | false =>
          simp only [c32, c32x1, c32x2, c32x3, c32x4, c32x5, c32x6, c32x7, c32x8, c32x9, c32x10, c32x11, c32x12, c32x13, c32x14, c32x15, c32x16, c32x17, RUA, RUB, RUC, RUD, RUE, if_true, if_false, ite_true, ite_false, Int.reduceEq, Int.reduceLT, Int.reduceLE, putCells, bslOf, bsaOf, bslS, isUpto, Nat.reduceEqDiff, Pe.step, E.at, List.replicate, Nat.reduceAdd, Nat.reduceSub, Nat.reduceLeDiff, Nat.reduceMul, Pe.intOf, Pe.iop, Pe.sop]
          refine ⟨_, _, rfl, ?_⟩
          rw [show l.all (rightS vars) = false from List.all_eq_false.2 ⟨_, hmem, by simp [hr]⟩]
      · have hd1 : decide ((i : Int) < (vs.length : Int)) = false := by simpa using hlt
        rw [List.take_of_length_le (by omega)] at ha
        simp only [c32, c32x1, c32x2, c32x3, c32x4, c32x5, c32x6, c32x7, c32x8, c32x9, c32x10, c32x11, c32x12, c32x13, c32x14, c32x15, c32x16, c32x17, RUA, RUB, RUC, RUD, RUE, if_true, if_false, ite_true, ite_false, Int.reduceEq, Int.reduceLT, Int.reduceLE, putCells, bslOf, bsaOf, bslS, isUpto, Nat.reduceEqDiff, Pe.step, E.at, List.replicate, Nat.reduceAdd, Nat.reduceSub, Nat.reduceLeDiff, Nat.reduceMul, Pe.intOf, Pe.iop, Pe.sop, hd1]
        exact ⟨_, _, rfl, by rw [ha]⟩
    intro yi hy
    refine Call.step hy ?_
    rw [body_eq t32]
    simp only [c32, c32x1, c32x2, c32x3, c32x4, c32x5, c32x6, c32x7, c32x8, c32x9, RUA, RUB, RUC, RUD, RUE, if_true, if_false, ite_true, ite_false, Int.reduceEq, Int.reduceLT, Int.reduceLE, putCells, bslOf, bsaOf, bslS, isUpto, Nat.reduceEqDiff, Pe.step, E.at, List.replicate, Nat.reduceAdd, Nat.reduceSub, Nat.reduceLeDiff, Nat.reduceMul, Pe.intOf, Pe.iop, Pe.sop, hone]
    repeat' ((first | (refine cond_split _ rfl (fun h => ?_) (fun h => ?_)) | (refine gsplit_t _ rfl (fun h => ?_) (fun h => ?_)) | (refine gsplit_f _ rfl (fun h => ?_) (fun h => ?_))) <;> (try simp only [c32, c32x1, c32x2, c32x3, c32x4, c32x5, c32x6, c32x7, c32x8, c32x9, c32x10, c32x10, RUA, RUB, RUC, RUD, RUE, if_true, if_false, ite_true, ite_false, Int.reduceEq, Int.reduceLT, Int.reduceLE, putCells, bslOf, bsaOf, bslS, isUpto, Nat.reduceEqDiff, Pe.step, E.at, List.replicate, Nat.reduceAdd, Nat.reduceSub, Nat.reduceLeDiff, Nat.reduceMul, Pe.intOf, Pe.iop, Pe.sop, hrow, emp0, h]))
    all_goals have hk := kids_eq k
    all_goals have hk1 : k = 1 → kids k = 0 := fun h => hk.1 (.inl h)
    all_goals have hk2 : k = 2 → kids k = 0 := fun h => hk.1 (.inr h)
    all_goals have hk3 : k = 3 → kids k = 1 := fun h => hk.2.1 (.inl h)
    all_goals have hk4 : k = 4 → kids k = 1 := fun h => hk.2.1 (.inr h)
    all_goals have hk5 : 5 ≤ k → kids k = 2 := fun h => hk.2.2 (by omega) (by omega) (by omega) (by omega)
    all_goals clear hk
    all_goals simp only [decide_eq_true_eq, decide_eq_false_iff_not, Bool.not_eq_true', Bool.not_eq_false', beq_iff_eq, beq_eq_false_iff_ne, ne_eq] at *
    all_goals first
      | (refine hloop 1 yi hy _ (hok.2 ⟨⟨by omega, by omega⟩, by assumption, by omega, by omega, by omega, by omega⟩) (by omega) (by simp only [killTs_cons, killTs_nil, List.set_cons_succ, List.set_cons_zero] <;> rfl))
      | (refine hloop 2 yi hy _ (hok.2 ⟨⟨by omega, by omega⟩, by assumption, by omega, by omega, by omega, by omega⟩) (by omega) (by simp only [killTs_cons, killTs_nil, List.set_cons_succ, List.set_cons_zero] <;> rfl))
      | (refine ⟨_, _, rfl, ?_⟩
         rw [hbad (Bool.eq_false_iff.2 fun hc => ?_)]
         obtain ⟨⟨a1, a2⟩, a3, a4, a5, a6, a7⟩ := hok.1 hc
         first | omega | contradiction)
      | (refine ⟨_, _, rfl, ?_⟩
         by_cases h0 : vs.length = 0
         · have hl0 : l = [] := List.length_eq_zero_iff.1 (by omega)
           rw [hgood (hok.2 ⟨⟨by omega, by omega⟩, by assumption, by omega, by omega, by omega, by omega⟩), hl0]
           simp [h0]
         · rw [hbad (Bool.eq_false_iff.2 fun hc => ?_)]
           · have : ¬ ((vs.length : Int) = 0) := by omega
             simp [this]
             exact fun h => h0 (by simp [h])
           · obtain ⟨⟨a1, a2⟩, a3, a4, a5, a6, a7⟩ := hok.1 hc
             first | omega | contradiction)
termination_by x => SizeOf.sizeOf x
decreasing_by have := List.sizeOf_lt_of_mem hx; simp; omega
end Go.Proofs.YtjfnhpnfkknmoaaDoor

/- A part of the texts that the claim's proof needs: functions of the program as the evaluator reads them, and what they come to. Conditions: those that its theorems state. -/
import Derived.Test.YtjfnhpnfkknmoaaDoorY2J
set_option linter.unusedVariables false
set_option linter.unusedSimpArgs false
set_option maxRecDepth 100000
set_option maxHeartbeats 4000000
namespace Go.Proofs.YtjfnhpnfkknmoaaDoor
open Go.Proofs.Pe

theorem frE {x : Ex} {z : V} (h : IsEx x z) (o : List O) : ∃ w o2, freezeT o z = some (w, o2) ∧ IsEx x w := ⟨z, o, frzT_free h.ok.1, h⟩
theorem part_p {nm : List ByteArray} {nv : V} (hn : IsSl 1 nv (nm.map sV)) {k n : Int} {l : List Rw} {u : V} (h : IsRw (.mk k n l) u) (i : Nat) (hi : i < 1000)
    (ih : ∀ x ∈ l, ∀ u, IsRw x u → PFn Tryd.prog T 43 [u, nv] (IsEx (mkS nm x))) : PFn Tryd.prog T 62 [u, iV i, nv] (IsEx (ptS n (l.map (mkS nm)) i)) := by
  obtain ⟨lv, vs, rfl, hk, hnn, h1, h2, h3⟩ := h
  rw [isRws_all] at h3
  have hlen := h3.len
  have hone : lv.one = true := free1_one h1.free
  have hrow := fun o => h1.row o
  intro yi hy
  refine Call.step hy ?_
  rw [body_eq t62]
  by_cases hlt : i < vs.length
  · have hd1 : decide ((i : Int) < (vs.length : Int)) = true := by simpa using hlt
    have hx : vs[i]? = some vs[i] := List.getElem?_eq_getElem hlt
    have hxl : l[i]? = some l[i] := List.getElem?_eq_getElem (by omega)
    have hE := h3.get hx hxl
    have hmem : l[i] ∈ l := List.getElem_mem _
    have he : ptS n (l.map (mkS nm)) i = mkS nm l[i] := by
      unfold ptS; rw [List.getD_eq_getElem?_getD, List.getElem?_map, hxl]; rfl
    rw [he]
    generalize hgv : vs[i] = u at hx hE
    generalize hgx : l[i] = x at hxl hE hmem
    have hE' := hE
    rcases x with ⟨k1, n1, l1⟩
    obtain ⟨lv1, us, rfl, _, _, g1, g2, g3⟩ := hE
    have hI := fun o => h1.ix o hx
    simp only [c62, c62x1, c62x2, c62x3, RUA, RUB, RUC, RUD, RUE, if_true, if_false, ite_true, ite_false, Int.reduceEq, Int.reduceLT, Int.reduceLE, putCells, bslOf, bsaOf, bslS, isUpto, Nat.reduceEqDiff, Pe.step, E.at, List.replicate, Nat.reduceAdd, Nat.reduceSub, Nat.reduceLeDiff, Nat.reduceMul, Pe.intOf, Pe.iop, Pe.sop, hone, hd1, hrow, hI]
    refine (ih _ hmem _ hE').callF rfl (fun x hx => by simp only [List.mem_cons, List.not_mem_nil, or_false] at hx; rcases hx with rfl | rfl <;> first | exact hE'.ok.1 | exact hn.freeV) fun z hz => ?_
    have hz' := hz
    generalize mkS nm (.mk k1 n1 l1) = e at hz hz'
    rcases e with ⟨a, b, c, d⟩
    obtain ⟨zv, zs, rfl, q1, q2, q3⟩ := hz
    have honez : zv.one = true := free1_one q1.free
    simp only [c62, c62x1, c62x2, c62x3, RUA, RUB, RUC, RUD, RUE, if_true, if_false, ite_true, ite_false, Int.reduceEq, Int.reduceLT, Int.reduceLE, putCells, bslOf, bsaOf, bslS, isUpto, Nat.reduceEqDiff, Pe.step, E.at, List.replicate, Nat.reduceAdd, Nat.reduceSub, Nat.reduceLeDiff, Nat.reduceMul, Pe.intOf, Pe.iop, Pe.sop, honez, rets]
    exact frE hz' _
  · have hd1 : decide ((i : Int) < (vs.length : Int)) = false := by simpa using hlt
    have he : ptS n (l.map (mkS nm)) i = .mk 1 (withinI (IntKind.i64.wrap (n + i)) 5) emp [] := by
      unfold ptS; rw [List.getD_eq_getElem?_getD, List.getElem?_map, List.getElem?_eq_none (by omega)]; rfl
    rw [he]
    simp only [c62, c62x1, c62x2, c62x3, RUA, RUB, RUC, RUD, RUE, if_true, if_false, ite_true, ite_false, Int.reduceEq, Int.reduceLT, Int.reduceLE, putCells, bslOf, bsaOf, bslS, isUpto, Nat.reduceEqDiff, Pe.step, E.at, List.replicate, Nat.reduceAdd, Nat.reduceSub, Nat.reduceLeDiff, Nat.reduceMul, Pe.intOf, Pe.iop, Pe.sop, hone, hd1, hrow]
    refine (within_p _ 5 (by decide) (by decide)).callE rfl rfl rfl ?_
    simp only [c62, c62x1, c62x2, c62x3, RUA, RUB, RUC, RUD, RUE, if_true, if_false, ite_true, ite_false, Int.reduceEq, Int.reduceLT, Int.reduceLE, putCells, bslOf, bsaOf, bslS, isUpto, Nat.reduceEqDiff, Pe.step, E.at, List.replicate, Nat.reduceAdd, Nat.reduceSub, Nat.reduceLeDiff, Nat.reduceMul, Pe.intOf, Pe.iop, Pe.sop, hone, fillC, rets]
    exact frE (x := .mk 1 _ emp []) ⟨nilV, [], rfl, .inl ⟨rfl, rfl⟩, by simp, rfl⟩ _
theorem numsRow (i : Nat) (hi : i < 8) (o : List O) : ixOf 1 o (.sl 1 true [iV 0, iV 1, iV 2, iV 7, iV 99, iV 999999999999999999, iV 5, iV 3]) (iV i) = some (.ep [iV (nums.getD i 0)], o) := by
  have : i = 0 ∨ i = 1 ∨ i = 2 ∨ i = 3 ∨ i = 4 ∨ i = 5 ∨ i = 6 ∨ i = 7 := by omega
  rcases this with rfl | rfl | rfl | rfl | rfl | rfl | rfl | rfl <;> rfl
theorem natI {a n : Int} (h : 0 < n) : ∃ i : Nat, withinI a n = i ∧ (i : Int) < n := by
  have := withinI_ok a h
  exact ⟨(withinI a n).toNat, by omega, by omega⟩
theorem make_p {nm : List ByteArray} {nv : V} (hn : IsSl 1 nv (nm.map sV)) (hnl : nm.length ≤ 1000) : ∀ (x : Rw) (u : V), IsRw x u → PFn Tryd.prog T 43 [u, nv] (IsEx (mkS nm x))
  | .mk k n l, u, h => by
    have h' := h
    have ih : ∀ x ∈ l, ∀ u, IsRw x u → PFn Tryd.prog T 43 [u, nv] (IsEx (mkS nm x)) := fun x hx u hu => make_p hn hnl x u hu
    have hp0 := part_p hn h' 0 (by omega) ih
    have hp1 := part_p hn h' 1 (by omega) ih
    rw [mkS_eq]
    generalize l.map (mkS nm) = ps at hp0 hp1
    obtain ⟨lv, vs, rfl, hk, hnn, h1, h2, h3⟩ := h
    have hone : lv.one = true := free1_one h1.free
    have hrow := fun o => h1.row o
    have hrn := fun o => hn.row o
    have hfr : ∀ x : V, x ∈ [V.agg [iV k, iV n, lv], iV 0, nv] → x.free = true := fun x hx => by
      simp only [List.mem_cons, List.not_mem_nil, or_false] at hx; rcases hx with rfl | rfl | rfl <;> first | exact h'.ok.1 | exact hn.freeV | rfl
    have hfr1 : ∀ x : V, x ∈ [V.agg [iV k, iV n, lv], iV 1, nv] → x.free = true := fun x hx => by
      simp only [List.mem_cons, List.not_mem_nil, or_false] at hx; rcases hx with rfl | rfl | rfl <;> first | exact h'.ok.1 | exact hn.freeV | rfl
    unfold mkC
    intro yi hy
    refine Call.step hy ?_
    rw [body_eq t43]
    simp only [c43, c43x1, RUA, RUB, RUC, RUD, RUE, if_true, if_false, ite_true, ite_false, Int.reduceEq, Int.reduceLT, Int.reduceLE, putCells, bslOf, bsaOf, bslS, isUpto, Nat.reduceEqDiff, Pe.step, E.at, List.replicate, Nat.reduceAdd, Nat.reduceSub, Nat.reduceLeDiff, Nat.reduceMul, Pe.intOf, Pe.iop, Pe.sop, hone]
    refine (within_p _ 24 (by decide) (by decide)).callE rfl rfl rfl ?_
    obtain ⟨w1, w2⟩ := withinI_ok k (n := 24) (by decide)
    generalize withinI k 24 = kk at w1 w2
    by_cases c4 : kk < 4
    · have d4 : decide (kk < 4) = true := by simpa using c4
      rw [if_pos c4]
      simp only [c43, c43x1, c43x2, c43x3, c43x4, c43x5, c43x6, c43x7, RUA, RUB, RUC, RUD, RUE, if_true, if_false, ite_true, ite_false, Int.reduceEq, Int.reduceLT, Int.reduceLE, putCells, bslOf, bsaOf, bslS, isUpto, Nat.reduceEqDiff, Pe.step, E.at, List.replicate, Nat.reduceAdd, Nat.reduceSub, Nat.reduceLeDiff, Nat.reduceMul, Pe.intOf, Pe.iop, Pe.sop, hone, d4]
      refine (within_p _ 8 (by decide) (by decide)).callE rfl rfl rfl ?_
      obtain ⟨i, hi, hi2⟩ := natI (a := n) (n := 8) (by decide)
      rw [hi]
      have hI := fun o => numsRow i (by omega) o
      simp only [c43, c43x1, c43x2, c43x3, c43x4, c43x5, c43x6, c43x7, RUA, RUB, RUC, RUD, RUE, if_true, if_false, ite_true, ite_false, Int.reduceEq, Int.reduceLT, Int.reduceLE, putCells, bslOf, bsaOf, bslS, isUpto, Nat.reduceEqDiff, Pe.step, E.at, List.replicate, Nat.reduceAdd, Nat.reduceSub, Nat.reduceLeDiff, Nat.reduceMul, Pe.intOf, Pe.iop, Pe.sop, hone, hI, fillC, rets]
      exact frE (x := .mk 1 _ emp []) ⟨nilV, [], rfl, .inl ⟨rfl, rfl⟩, by simp, rfl⟩ _
    rw [if_neg c4]
    have d4 : decide (kk < 4) = false := by simpa using c4
    by_cases c9 : kk < 9
    · have d9 : decide (kk < 9) = true := by simpa using c9
      rw [if_pos c9]
      by_cases e : nm = []
      · rw [if_pos e]
        subst e
        simp only [c43, c43x1, c43x2, c43x3, c43x4, c43x5, c43x6, c43x7, RUA, RUB, RUC, RUD, RUE, if_true, if_false, ite_true, ite_false, Int.reduceEq, Int.reduceLT, Int.reduceLE, putCells, bslOf, bsaOf, bslS, isUpto, Nat.reduceEqDiff, Pe.step, E.at, List.replicate, Nat.reduceAdd, Nat.reduceSub, Nat.reduceLeDiff, Nat.reduceMul, Pe.intOf, Pe.iop, Pe.sop, hone, d4, d9, hrn]
        refine (within_p _ 3 (by decide) (by decide)).callE rfl rfl rfl ?_
        simp only [c43, c43x1, c43x2, c43x3, c43x4, c43x5, c43x6, c43x7, RUA, RUB, RUC, RUD, RUE, if_true, if_false, ite_true, ite_false, Int.reduceEq, Int.reduceLT, Int.reduceLE, putCells, bslOf, bsaOf, bslS, isUpto, Nat.reduceEqDiff, Pe.step, E.at, List.replicate, Nat.reduceAdd, Nat.reduceSub, Nat.reduceLeDiff, Nat.reduceMul, Pe.intOf, Pe.iop, Pe.sop, hone, fillC, rets]
        exact frE (x := .mk 2 _ emp []) ⟨nilV, [], rfl, .inl ⟨rfl, rfl⟩, by simp, rfl⟩ _
      · rw [if_neg e]
        have hl : 0 < nm.length := List.length_pos_iff.2 e
        have dl : decide ((0 : Int) < (nm.length : Int)) = true := by simpa using hl
        simp only [c43, c43x1, c43x2, c43x3, c43x4, c43x5, c43x6, c43x7, RUA, RUB, RUC, RUD, RUE, if_true, if_false, ite_true, ite_false, Int.reduceEq, Int.reduceLT, Int.reduceLE, putCells, bslOf, bsaOf, bslS, isUpto, Nat.reduceEqDiff, Pe.step, E.at, List.replicate, Nat.reduceAdd, Nat.reduceSub, Nat.reduceLeDiff, Nat.reduceMul, Pe.intOf, Pe.iop, Pe.sop, hone, d4, d9, hrn, List.length_map, dl]
        refine (within_p _ (nm.length : Int) (by omega) (by omega)).callE rfl rfl rfl ?_
        obtain ⟨i, hi, hi2⟩ := natI (a := n) (n := (nm.length : Int)) (by omega)
        rw [hi]
        have hI := fun o => hn.ix o (n := i) (y := sV (nm.getD i emp)) (by rw [List.getElem?_map, List.getD_eq_getElem?_getD, List.getElem?_eq_getElem (by omega)]; rfl)
        simp only [c43, c43x1, c43x2, c43x3, c43x4, c43x5, c43x6, c43x7, RUA, RUB, RUC, RUD, RUE, if_true, if_false, ite_true, ite_false, Int.reduceEq, Int.reduceLT, Int.reduceLE, putCells, bslOf, bsaOf, bslS, isUpto, Nat.reduceEqDiff, Pe.step, E.at, List.replicate, Nat.reduceAdd, Nat.reduceSub, Nat.reduceLeDiff, Nat.reduceMul, Pe.intOf, Pe.iop, Pe.sop, hone, hI, fillC, rets]
        exact frE (x := .mk 2 0 _ []) ⟨nilV, [], rfl, .inl ⟨rfl, rfl⟩, by simp, rfl⟩ _
    rw [if_neg c9]
    have d9 : decide (kk < 9) = false := by simpa using c9
    by_cases e9 : kk = 9
    · rw [if_pos e9]
      subst e9
      simp only [c43, c43x1, c43x2, c43x3, c43x4, c43x5, c43x6, c43x7, RUA, RUB, RUC, RUD, RUE, if_true, if_false, ite_true, ite_false, Int.reduceEq, Int.reduceLT, Int.reduceLE, putCells, bslOf, bsaOf, bslS, isUpto, Nat.reduceEqDiff, Pe.step, E.at, List.replicate, Nat.reduceAdd, Nat.reduceSub, Nat.reduceLeDiff, Nat.reduceMul, Pe.intOf, Pe.iop, Pe.sop, hone, hrn]
      refine hp0.callF rfl hfr fun z hz => ?_
      have hz' := hz.ok
      have hz4 : decide (z.cells.length = 4) = true := by simpa using hz'.2
      simp only [c43, c43x1, c43x2, c43x3, c43x4, c43x5, c43x6, c43x7, RUA, RUB, RUC, RUD, RUE, if_true, if_false, ite_true, ite_false, Int.reduceEq, Int.reduceLT, Int.reduceLE, putCells, bslOf, bsaOf, bslS, isUpto, Nat.reduceEqDiff, Pe.step, E.at, List.replicate, Nat.reduceAdd, Nat.reduceSub, Nat.reduceLeDiff, Nat.reduceMul, Pe.intOf, Pe.iop, Pe.sop, hone, hz'.1, hz4, fillC, rets]
      exact frE (x := .mk 3 0 emp [_]) ⟨_, [z], rfl, .inr ⟨_, rfl⟩, by simp [cap], z, [], rfl, hz, rfl⟩ _
    rw [if_neg e9]
    have f9 : decide (kk = 9) = false := by simpa using e9
    by_cases e10 : kk = 10
    · rw [if_pos e10]
      subst e10
      simp only [c43, c43x1, c43x2, c43x3, c43x4, c43x5, c43x6, c43x7, RUA, RUB, RUC, RUD, RUE, if_true, if_false, ite_true, ite_false, Int.reduceEq, Int.reduceLT, Int.reduceLE, putCells, bslOf, bsaOf, bslS, isUpto, Nat.reduceEqDiff, Pe.step, E.at, List.replicate, Nat.reduceAdd, Nat.reduceSub, Nat.reduceLeDiff, Nat.reduceMul, Pe.intOf, Pe.iop, Pe.sop, hone, hrn]
      refine hp0.callF rfl hfr fun z hz => ?_
      have hz' := hz.ok
      have hz4 : decide (z.cells.length = 4) = true := by simpa using hz'.2
      simp only [c43, c43x1, c43x2, c43x3, c43x4, c43x5, c43x6, c43x7, RUA, RUB, RUC, RUD, RUE, if_true, if_false, ite_true, ite_false, Int.reduceEq, Int.reduceLT, Int.reduceLE, putCells, bslOf, bsaOf, bslS, isUpto, Nat.reduceEqDiff, Pe.step, E.at, List.replicate, Nat.reduceAdd, Nat.reduceSub, Nat.reduceLeDiff, Nat.reduceMul, Pe.intOf, Pe.iop, Pe.sop, hone, hz'.1, hz4, fillC, rets]
      exact frE (x := .mk 4 0 emp [_]) ⟨_, [z], rfl, .inr ⟨_, rfl⟩, by simp [cap], z, [], rfl, hz, rfl⟩ _
    rw [if_neg e10]
    have f10 : decide (kk = 10) = false := by simpa using e10
    have hw : IntKind.i64.wrap (IntKind.i64.wrap (5 + kk) - 11) = 5 + kk - 11 := by
      rw [wrap_in (n := 5 + kk) (by unfold I64; omega), wrap_in (by unfold I64; omega)]
    simp only [c43, c43x1, c43x2, c43x3, c43x4, c43x5, c43x6, c43x7, RUA, RUB, RUC, RUD, RUE, if_true, if_false, ite_true, ite_false, Int.reduceEq, Int.reduceLT, Int.reduceLE, putCells, bslOf, bsaOf, bslS, isUpto, Nat.reduceEqDiff, Pe.step, E.at, List.replicate, Nat.reduceAdd, Nat.reduceSub, Nat.reduceLeDiff, Nat.reduceMul, Pe.intOf, Pe.iop, Pe.sop, hone, hrn, d4, d9, f9, f10, hw]
    refine hp0.callF rfl hfr fun z hz => ?_
    have hz' := hz.ok
    have hz4 : decide (z.cells.length = 4) = true := by simpa using hz'.2
    refine hp1.callF rfl hfr1 fun y hy' => ?_
    have hy2 := hy'.ok
    have hy4 : decide (y.cells.length = 4) = true := by simpa using hy2.2
    simp only [c43, c43x1, c43x2, c43x3, c43x4, c43x5, c43x6, c43x7, RUA, RUB, RUC, RUD, RUE, if_true, if_false, ite_true, ite_false, Int.reduceEq, Int.reduceLT, Int.reduceLE, putCells, bslOf, bsaOf, bslS, isUpto, Nat.reduceEqDiff, Pe.step, E.at, List.replicate, Nat.reduceAdd, Nat.reduceSub, Nat.reduceLeDiff, Nat.reduceMul, Pe.intOf, Pe.iop, Pe.sop, hone, hz'.1, hz4, hy2.1, hy4, fillC, rets]
    exact frE (x := .mk _ 0 emp [_, _]) ⟨_, [z, y], rfl, .inr ⟨_, rfl⟩, by simp [cap], z, [y], rfl, hz, y, [], rfl, hy', rfl⟩ _
termination_by x => SizeOf.sizeOf x
decreasing_by have := List.sizeOf_lt_of_mem hx; simp; omega
end Go.Proofs.YtjfnhpnfkknmoaaDoor

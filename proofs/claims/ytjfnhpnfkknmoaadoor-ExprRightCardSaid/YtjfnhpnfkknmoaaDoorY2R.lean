/- A part of the texts that the claim's proof needs: functions of the program as the evaluator reads them, and what they come to. Conditions: those that its theorems state. -/
import Derived.Test.YtjfnhpnfkknmoaaDoorY2O
import Derived.Test.YtjfnhpnfkknmoaaDoorY2Q
import Derived.Test.YtjfnhpnfkknmoaaDoorA6
set_option linter.unusedVariables false
set_option linter.unusedSimpArgs false
set_option maxRecDepth 100000
set_option maxHeartbeats 4000000
namespace Go.Proofs.YtjfnhpnfkknmoaaDoor
open Go.Proofs.Pe

theorem exT : ExTypes Tryd.prog 33 31 9 := ⟨Tryd.underlying3, Tryd.underlying9, Tryd.underlying31, by kernel_rfl, _, Tryd.underlying33, rfl⟩
theorem fewx_p : ∀ (r : Nat), r ≤ 21 → ∀ (x : Ex) {u : V}, IsExM x u → ∀ {d : Int}, d = 21 - r → PFn Tryd.prog T 30 [u, iV d] fun z => z = bV (fewS r x)
  | 0, _, .mk k n nm l, u, hu, d, hd => by
    obtain rfl : d = 21 := by omega
    obtain ⟨lv, vs, rfl, h1, h2, h3⟩ := hu
    have hone : lv.one = true := free1_one h1.free
    intro yi hy
    refine Call.step hy ?_
    rw [body_eq t30]
    simp only [c30, c30x1, c30x2, c30x3, c30x4, c30x5, c30x6, c30x7, c30x8, c30x9, c30x10, RUA, RUB, RUC, RUD, RUE, if_true, if_false, ite_true, ite_false, Int.reduceEq, Int.reduceLT, Int.reduceLE, putCells, bslOf, bsaOf, bslS, isUpto, Nat.reduceEqDiff, Pe.step, E.at, List.replicate, Nat.reduceAdd, Nat.reduceSub, Nat.reduceLeDiff, Nat.reduceMul, Pe.intOf, Pe.iop, Pe.sop, hone]
    exact ⟨_, _, rfl, rfl⟩
  | r + 1, hr, .mk k n nm l, u, hu, d, hd => by
    obtain ⟨lv, vs, rfl, h1, h2, h3⟩ := hu
    rw [isExMs_all] at h3
    have hone : lv.one = true := free1_one h1.free
    have hrow := fun o => h1.row o
    have hq : decide (20 < d) = false := by simp; omega
    have hlen := h3.len
    unfold maxLen at h2
    intro yi hy
    refine Call.step hy ?_
    rw [body_eq t30]
    by_cases hl : 10 < vs.length
    · have hq2 : decide ((10 : Int) < (vs.length : Int)) = true := by simp; omega
      simp only [c30, c30x1, c30x2, c30x3, RUA, RUB, RUC, RUD, RUE, if_true, if_false, ite_true, ite_false, Int.reduceEq, Int.reduceLT, Int.reduceLE, putCells, bslOf, bsaOf, bslS, isUpto, Nat.reduceEqDiff, Pe.step, E.at, List.replicate, Nat.reduceAdd, Nat.reduceSub, Nat.reduceLeDiff, Nat.reduceMul, Pe.intOf, Pe.iop, Pe.sop, hone, hq, hrow, hq2]
      refine ⟨_, _, rfl, ?_⟩
      have : ¬ l.length ≤ 10 := by omega
      simp [fewS, this]
    · have hq2 : decide ((10 : Int) < (vs.length : Int)) = false := by simp; omega
      have hl2 : l.length ≤ 10 := by omega
      have hfs : fewS (r + 1) (.mk k n nm l) = l.all (fewS r) := by simp [fewS, hl2]
      rw [hfs]
      simp only [c30, c30x1, c30x2, c30x3, c30x4, c30x4, RUA, RUB, RUC, RUD, RUE, if_true, if_false, ite_true, ite_false, Int.reduceEq, Int.reduceLT, Int.reduceLE, putCells, bslOf, bsaOf, bslS, isUpto, Nat.reduceEqDiff, Pe.step, E.at, List.replicate, Nat.reduceAdd, Nat.reduceSub, Nat.reduceLeDiff, Nat.reduceMul, Pe.intOf, Pe.iop, Pe.sop, hone, hq, hrow, hq2]
      refine Lfp.inv call_le hy (fun a : Nat => ⟨⟨[.dead, iV d, .pt 0 0, .dead, .dead, iV a, .dead, .dead, .dead, .dead, .dead, .dead, .dead, .dead, .dead, .dead, .dead, .dead, .dead, .dead, .dead, .dead, .dead, .dead, .dead, .dead, .dead, .dead, .dead, .dead], [.cells [iV k, iV n, sV nm, lv]]⟩, []⟩) (fun a => vs.length - a)
        (fun a => a ≤ vs.length ∧ (l.take a).all (fewS r) = true) 0 ⟨by omega, rfl⟩ (by simp only [killTs_cons, killTs_nil, List.set_cons_succ, List.set_cons_zero] <;> rfl) ?_
      rintro i ⟨hi, ha⟩
      by_cases hlt : i < vs.length
      · have hd1 : decide ((i : Int) < (vs.length : Int)) = true := by simpa using hlt
        have hx : vs[i]? = some vs[i] := List.getElem?_eq_getElem hlt
        have hxl : l[i]? = some l[i] := List.getElem?_eq_getElem (by omega)
        have hmem : l[i] ∈ l := List.getElem_mem _
        have hE := h3.get hx hxl
        generalize hgv : vs[i] = u at hx hE
        generalize hgx : l[i] = x at hxl hE hmem
        have hE' := hE
        rcases x with ⟨k1, n1, m1, l1⟩
        obtain ⟨lv1, us, rfl, g1, g2, g3⟩ := hE
        have hI := fun o => h1.ix o hx
        have hw1 : IntKind.i64.wrap ((i : Int) + 1) = ((i + 1 : Nat) : Int) := wrap_succ (by omega)
        have hw2 : IntKind.i64.wrap (d + 1) = d + 1 := wrap_in (by unfold I64; omega)
        simp only [c30, c30x1, c30x2, c30x3, c30x4, c30x5, c30x6, c30x7, c30x8, c30x9, c30x10, RUA, RUB, RUC, RUD, RUE, if_true, if_false, ite_true, ite_false, Int.reduceEq, Int.reduceLT, Int.reduceLE, putCells, bslOf, bsaOf, bslS, isUpto, Nat.reduceEqDiff, Pe.step, E.at, List.replicate, Nat.reduceAdd, Nat.reduceSub, Nat.reduceLeDiff, Nat.reduceMul, Pe.intOf, Pe.iop, Pe.sop, hrow, hd1, hI, hw2]
        refine (fewx_p r (by omega) _ hE' (d := d + 1) (by omega)).callE rfl (cf2 hE'.ok.1 rfl _) rfl ?_
        cases hr : fewS r (.mk k1 n1 m1 l1) with
        | true =>
          simp only [c30, c30x1, c30x2, c30x3, c30x4, c30x5, c30x6, c30x7, c30x8, c30x9, c30x10, RUA, RUB, RUC, RUD, RUE, if_true, if_false, ite_true, ite_false, Int.reduceEq, Int.reduceLT, Int.reduceLE, putCells, bslOf, bsaOf, bslS, isUpto, Nat.reduceEqDiff, Pe.step, E.at, List.replicate, Nat.reduceAdd, Nat.reduceSub, Nat.reduceLeDiff, Nat.reduceMul, Pe.intOf, Pe.iop, Pe.sop, hw1]
          exact ⟨i + 1, ⟨by omega, by rw [allTake hxl, ha, hr]; rfl⟩, by omega, rfl⟩
        | false =>
          simp only [c30, c30x1, c30x2, c30x3, c30x4, c30x5, c30x6, c30x7, c30x8, c30x9, c30x10, RUA, RUB, RUC, RUD, RUE, if_true, if_false, ite_true, ite_false, Int.reduceEq, Int.reduceLT, Int.reduceLE, putCells, bslOf, bsaOf, bslS, isUpto, Nat.reduceEqDiff, Pe.step, E.at, List.replicate, Nat.reduceAdd, Nat.reduceSub, Nat.reduceLeDiff, Nat.reduceMul, Pe.intOf, Pe.iop, Pe.sop]
          refine ⟨_, _, rfl, ?_⟩
          rw [show l.all (fewS r) = false from List.all_eq_false.2 ⟨_, hmem, by simp [hr]⟩]
      · have hd1 : decide ((i : Int) < (vs.length : Int)) = false := by simpa using hlt
        rw [List.take_of_length_le (by omega)] at ha
        simp only [c30, c30x1, c30x2, c30x3, c30x4, c30x5, c30x6, c30x7, c30x8, c30x9, c30x10, RUA, RUB, RUC, RUD, RUE, if_true, if_false, ite_true, ite_false, Int.reduceEq, Int.reduceLT, Int.reduceLE, putCells, bslOf, bsaOf, bslS, isUpto, Nat.reduceEqDiff, Pe.step, E.at, List.replicate, Nat.reduceAdd, Nat.reduceSub, Nat.reduceLeDiff, Nat.reduceMul, Pe.intOf, Pe.iop, Pe.sop, hrow, hd1]
        exact ⟨_, _, rfl, by rw [ha]⟩
theorem IsSl.slcLo {k : Nat} {v : V} {xs : List V} (h : IsSl k v xs) {lo : Nat} (h2 : lo ≤ xs.length) : ∃ w, (∀ o, slcOf k o v (some (iV lo)) none none = some (w, o)) ∧ IsSl k w (xs.drop lo) := by
  rcases h with ⟨rfl, rfl⟩ | ⟨f, rfl⟩
  · have : lo = 0 := by simpa using h2
    subst this
    exact ⟨nilV, fun o => by simp [slcOf, freeze1, V.free1, boundV, intOf], .inl ⟨rfl, by simp⟩⟩
  · refine ⟨.sl k (f && decide (xs.length = xs.length)) ((xs.take xs.length).drop lo), fun o => ?_, .inr ⟨f && decide (xs.length = xs.length), by simp⟩⟩
    simp [slcOf, freeze1, V.free1, boundV, intOf, h2]
theorem WfE.kids {n : Nat} {k m : Int} {nm : ByteArray} {l : List Ex} (h : WfE n (.mk k m nm l)) : l.length ≤ 2 ∧ ∀ x ∈ l, WfE n x := by
  cases h with
  | num _ => exact ⟨by simp, by simp⟩
  | var _ => exact ⟨by simp, by simp⟩
  | one _ _ hx => exact ⟨by simp, fun y hy => by rw [List.mem_singleton.1 hy]; exact hx⟩
  | two _ _ hx hy' => exact ⟨by simp, fun y hy => by simp only [List.mem_cons, List.not_mem_nil, or_false] at hy; rcases hy with rfl | rfl <;> assumption⟩
theorem ix5 (v : Int) (i : Nat) (hi : i < 5) (o : List O) : ixOf 1 o (.sl 1 true [iV (-1), iV 0, iV 2, iV 3, iV v]) (iV i) = some (.ep [iV (([-1, 0, 2, 3, v] : List Int).getD i 0)], o) := by
  have : i = 0 ∨ i = 1 ∨ i = 2 ∨ i = 3 ∨ i = 4 := by omega
  rcases this with rfl | rfl | rfl | rfl | rfl <;> rfl
theorem frzNode {o o1 : List O} {k n : Int} {nm : ByteArray} {v w : V} {l : List Ex} {ws : List V} (hf : freeze1 o v = some (w, o1)) (hw : IsSl 4 w ws) (hc : ws.length ≤ cap) (hl : All2 IsEx l ws) :
    ∃ z o2, freezeT o (.agg [iV k, iV n, sV nm, v]) = some (z, o2) ∧ ∃ x', IsEx x' z := by
  refine ⟨.agg [iV k, iV n, sV nm, w], o1, ?_, .mk k n nm l, w, ws, rfl, hw, hc, isExs_all.2 hl⟩
  show (freezes _ [iV k, iV n, sV nm, v]).map _ = _
  rw [frzs_cons frz1_sc, frzs_cons frz1_sc, frzs_cons frz1_sc, frzs_cons hf, frzs_nil]; rfl
theorem spoilt_tail {k n : Int} {nm : ByteArray} {l : List Ex} {lv u : V} {vs : List V} {which v a : Int} {x11 x12 x13 x14 x15 x16 x17 x18 x19 : V} (h1 : IsSl 4 lv vs) (h2 : vs.length ≤ 1000) (h3 : All2 IsEx l vs) {yi : Nat → Sem'} (hy : YLe yi yi) :
    ev Tryd.prog T (Pe.Call Tryd.prog T) Lfp c31x7 none yi ⟨⟨(u :: iV which :: iV v :: iV a :: .pt 0 0 :: .dead :: .dead :: .dead :: .pt 1 0 :: .dead :: .dead :: x11 :: x12 :: x13 :: x14 :: x15 :: x16 :: x17 :: x18 :: x19 :: .dead :: .dead :: .dead :: .dead :: .dead :: .dead :: .dead :: .dead :: .dead :: .dead :: .dead :: .dead :: .dead :: .dead :: .dead :: .dead :: .dead :: .dead :: .dead :: .dead :: .dead :: .dead :: .dead :: .dead :: .dead :: .dead :: .dead :: .dead :: .dead :: .dead :: .dead :: .dead :: .dead :: .dead :: .dead :: .dead :: .dead :: .dead :: .dead :: .dead :: .dead :: .dead :: .dead :: .dead :: .dead :: .dead :: .dead :: .dead :: .dead :: .dead :: .dead :: .dead :: .dead :: .dead :: .dead :: .dead :: .dead :: .dead :: .dead :: .dead :: .dead :: .dead :: .dead :: .dead :: .dead :: []), [.cells [iV k, iV n, sV nm, lv], .cells [iV 0, iV 0, sV (ByteArray.mk #[]), nilV]]⟩, []⟩
      (endK [Rv.cell 8 true 4] fun y o' => ∃ z o2, freezeT o' y = some (z, o2) ∧ ∃ x', IsEx x' z) := by
  have hone : lv.one = true := free1_one h1.free
  have hrow := fun o => h1.row o
  have hcap : vs.length ≤ cap := by unfold cap; omega
  simp only [c31, c31x1, c31x2, c31x3, c31x4, c31x5, c31x6, c31x7, c31x8, RUA, RUB, RUC, RUD, RUE, if_true, if_false, ite_true, ite_false, Int.reduceEq, Int.reduceLT, Int.reduceLE, putCells, bslOf, bsaOf, bslS, isUpto, Nat.reduceEqDiff, Pe.step, E.at, List.replicate, Nat.reduceAdd, Nat.reduceSub, Nat.reduceLeDiff, Nat.reduceMul, Pe.intOf, Pe.iop, Pe.sop]
  refine (within_p _ 5 (by decide) (by decide)).callE rfl rfl rfl ?_
  obtain ⟨w1, w2⟩ := withinI_ok which (n := 5) (by decide)
  generalize withinI which 5 = w at w1 w2
  have hw : w = 0 ∨ w = 1 ∨ w = 2 ∨ w = 3 ∨ w = 4 := by omega
  clear w1 w2
  rcases hw with rfl | rfl | rfl | rfl | rfl
  · simp only [c31, c31x1, c31x2, c31x3, c31x4, c31x5, c31x6, c31x7, c31x8, c31x9, c31x10, c31x11, c31x12, c31x13, c31x14, c31x15, RUA, RUB, RUC, RUD, RUE, if_true, if_false, ite_true, ite_false, Int.reduceEq, Int.reduceLT, Int.reduceLE, putCells, bslOf, bsaOf, bslS, isUpto, Nat.reduceEqDiff, Pe.step, E.at, List.replicate, Nat.reduceAdd, Nat.reduceSub, Nat.reduceLeDiff, Nat.reduceMul, Pe.intOf, Pe.iop, Pe.sop]
    refine (within_p _ 20 (by decide) (by decide)).callE rfl rfl rfl ?_
    simp only [c31, c31x1, c31x2, c31x3, c31x4, c31x5, c31x6, c31x7, c31x8, c31x9, c31x10, c31x11, c31x12, c31x13, c31x14, c31x15, RUA, RUB, RUC, RUD, RUE, if_true, if_false, ite_true, ite_false, Int.reduceEq, Int.reduceLT, Int.reduceLE, putCells, bslOf, bsaOf, bslS, isUpto, Nat.reduceEqDiff, Pe.step, E.at, List.replicate, Nat.reduceAdd, Nat.reduceSub, Nat.reduceLeDiff, Nat.reduceMul, Pe.intOf, Pe.iop, Pe.sop, hone, rets]
    exact frzNode (h1.frz1 _) h1 hcap h3
  · simp only [c31, c31x1, c31x2, c31x3, c31x4, c31x5, c31x6, c31x7, c31x8, c31x9, c31x10, c31x11, c31x12, c31x13, c31x14, c31x15, RUA, RUB, RUC, RUD, RUE, if_true, if_false, ite_true, ite_false, Int.reduceEq, Int.reduceLT, Int.reduceLE, putCells, bslOf, bsaOf, bslS, isUpto, Nat.reduceEqDiff, Pe.step, E.at, List.replicate, Nat.reduceAdd, Nat.reduceSub, Nat.reduceLeDiff, Nat.reduceMul, Pe.intOf, Pe.iop, Pe.sop]
    refine (within_p _ 5 (by decide) (by decide)).callE rfl rfl rfl ?_
    obtain ⟨i, hi, hi2⟩ := natI (a := v) (n := 5) (by decide)
    rw [hi]
    have hI := fun o => ix5 v i (by omega) o
    simp only [c31, c31x1, c31x2, c31x3, c31x4, c31x5, c31x6, c31x7, c31x8, c31x9, c31x10, c31x11, c31x12, c31x13, c31x14, c31x15, RUA, RUB, RUC, RUD, RUE, if_true, if_false, ite_true, ite_false, Int.reduceEq, Int.reduceLT, Int.reduceLE, putCells, bslOf, bsaOf, bslS, isUpto, Nat.reduceEqDiff, Pe.step, E.at, List.replicate, Nat.reduceAdd, Nat.reduceSub, Nat.reduceLeDiff, Nat.reduceMul, Pe.intOf, Pe.iop, Pe.sop, hI, hone, rets]
    exact frzNode (h1.frz1 _) h1 hcap h3
  · simp only [c31, c31x1, c31x2, c31x3, c31x4, c31x5, c31x6, c31x7, c31x8, c31x9, c31x10, c31x11, c31x12, c31x13, c31x14, c31x15, RUA, RUB, RUC, RUD, RUE, if_true, if_false, ite_true, ite_false, Int.reduceEq, Int.reduceLT, Int.reduceLE, putCells, bslOf, bsaOf, bslS, isUpto, Nat.reduceEqDiff, Pe.step, E.at, List.replicate, Nat.reduceAdd, Nat.reduceSub, Nat.reduceLeDiff, Nat.reduceMul, Pe.intOf, Pe.iop, Pe.sop, hone, rets]
    exact frzNode (h1.frz1 _) h1 hcap h3
  · let o0 : List O := [.cells [iV k, iV n, sV nm, lv], .cells [iV 0, iV 0, sV (ByteArray.mk #[]), nilV]]
    obtain ⟨w', o1, hap, hF, hlen, hs, hN⟩ := Fresh.cat (w := .sl 4 true []) (o := o0) (k := 4) (b := 56) (vs := []) (us := vs) (.inr (.inl ⟨rfl, rfl⟩)) (hrow _) (h3.okRow fun x v h => h.ok).s (by simp [room]; omega)
    obtain ⟨la, va, o2, hap2, hA, hlen2, hs2, hN2⟩ := hF.push (b := 56) (f := true) (y := .agg [iV 1, iV 0, sV (ByteArray.mk #[]), nilV]) (by rfl) (by simp [room]; omega)
    have hla : 2 ≤ la := by
      rcases hN2 with ⟨v0, e⟩ | e
      · rcases hN _ _ e with ⟨v1, e1⟩ | e1
        · cases e1
        · rw [e1]; exact Nat.le_refl _
      · rw [e]; exact hlen
    have g0 : o2[0]? = some (.cells [iV k, iV n, sV nm, lv]) := by
      rw [hs2 0 (by omega) (by have : (2 : Nat) ≤ o1.length := hlen; omega), hs 0 (fun _ e => by cases e) (by simp [o0])]; rfl
    have g1 : o2[1]? = some (.cells [iV 0, iV 0, sV (ByteArray.mk #[]), nilV]) := by
      rw [hs2 1 (by omega) (by have : (2 : Nat) ≤ o1.length := hlen; omega), hs 1 (fun _ e => by cases e) (by simp [o0])]; rfl
    have g2 : (o2.set 0 (.cells [iV k, iV n, sV nm, .ar la va]))[0]? = some (.cells [iV k, iV n, sV nm, .ar la va]) := get_set g0
    have g3 : (o2.set 0 (.cells [iV k, iV n, sV nm, .ar la va]))[1]? = some (.cells [iV 0, iV 0, sV (ByteArray.mk #[]), nilV]) := get_set_ne g1 (by omega)
    have g4 : ((o2.set 0 (.cells [iV k, iV n, sV nm, .ar la va])).set 1 (.cells [iV k, iV n, sV nm, .ar la va]))[1]? = some (.cells [iV k, iV n, sV nm, .ar la va]) := get_set g3
    have g5 : ((o2.set 0 (.cells [iV k, iV n, sV nm, .ar la va])).set 1 (.cells [iV k, iV n, sV nm, .ar la va]))[la]? = some (.arr va true 4 ([] ++ vs ++ [.agg [iV 1, iV 0, sV (ByteArray.mk #[]), nilV]])) := get_set_ne (get_set_ne hA (by omega)) (by omega)
    have hall := h3.snoc (x := .mk 1 0 emp []) (v := .agg [iV 1, iV 0, sV (ByteArray.mk #[]), nilV]) ⟨nilV, [], rfl, .inl ⟨rfl, rfl⟩, by simp, rfl⟩
    rw [List.nil_append] at g5
    have hff := hall.free fun x v h => h.ok.1
    simp only [o0] at hap
    simp only [c31, c31x1, c31x2, c31x3, c31x4, c31x5, c31x6, c31x7, c31x8, c31x9, c31x10, c31x11, c31x12, c31x13, c31x14, c31x15, RUA, RUB, RUC, RUD, RUE, if_true, if_false, ite_true, ite_false, Int.reduceEq, Int.reduceLT, Int.reduceLE, putCells, bslOf, bsaOf, bslS, isUpto, Nat.reduceEqDiff, Pe.step, E.at, List.replicate, Nat.reduceAdd, Nat.reduceSub, Nat.reduceLeDiff, Nat.reduceMul, Pe.intOf, Pe.iop, Pe.sop, hap, fillC, hap2, g0, g2, g3, g4, rets]
    exact frzNode (show freeze1 _ (.ar la va) = some (_, _) from by simp only [freeze1, g5, hff, and_self, if_true] <;> rfl) (.inr ⟨_, rfl⟩) (by unfold cap; simp; omega) hall
  · by_cases h0 : vs.length = 0
    · have hd : decide ((0 : Int) < (vs.length : Int)) = false := by rw [decide_eq_false_iff_not]; omega
      simp only [c31, c31x1, c31x2, c31x3, c31x4, c31x5, c31x6, c31x7, c31x8, c31x9, c31x10, c31x11, c31x12, c31x13, c31x14, c31x15, RUA, RUB, RUC, RUD, RUE, if_true, if_false, ite_true, ite_false, Int.reduceEq, Int.reduceLT, Int.reduceLE, putCells, bslOf, bsaOf, bslS, isUpto, Nat.reduceEqDiff, Pe.step, E.at, List.replicate, Nat.reduceAdd, Nat.reduceSub, Nat.reduceLeDiff, Nat.reduceMul, Pe.intOf, Pe.iop, Pe.sop, hrow, hd, hone, rets]
      exact frzNode (h1.frz1 _) h1 hcap h3
    · have hd : decide ((0 : Int) < (vs.length : Int)) = true := by rw [decide_eq_true_eq]; omega
      obtain ⟨w, hw, hw2⟩ := IsSl.slcLo h1 (lo := 1) (by omega)
      have hw1 : ∀ o, slcOf 4 o lv (some (iV 1)) none none = some (w, o) := hw
      have honew : w.one = true := free1_one hw2.free
      have hws : w.solid = true := hw2.solid
      have hwc : w.cells = [w] := hw2.cells
      have hcd : (vs.drop 1).length ≤ cap := by unfold cap; rw [List.length_drop]; omega
      have hd3 : All2 IsEx (l.drop 1) (vs.drop 1) := by
        match l, vs, h3 with
        | [], _, h => rw [show _ = [] from h]; rfl
        | _ :: _, _, ⟨_, _, rfl, _, h⟩ => exact h
      simp only [c31, c31x1, c31x2, c31x3, c31x4, c31x5, c31x6, c31x7, c31x8, c31x9, c31x10, c31x11, c31x12, c31x13, c31x14, c31x15, RUA, RUB, RUC, RUD, RUE, if_true, if_false, ite_true, ite_false, Int.reduceEq, Int.reduceLT, Int.reduceLE, putCells, bslOf, bsaOf, bslS, isUpto, Nat.reduceEqDiff, Pe.step, E.at, List.replicate, Nat.reduceAdd, Nat.reduceSub, Nat.reduceLeDiff, Nat.reduceMul, Pe.intOf, Pe.iop, Pe.sop, hrow, hd, hone, hw1, honew, hws, hwc, rets]
      exact frzNode (hw2.frz1 _) hw2 hcd hd3
theorem spoilt_p : ∀ (x : Ex), WfE 3 x → ∀ {u : V}, IsEx x u → ∀ (which v a : Int), PFn Tryd.prog T 31 [u, iV which, iV v, iV a] fun z => ∃ x', IsEx x' z
  | .mk k n nm l, hwf, u, hu, which, v, a => by
    obtain ⟨hl2, hch⟩ := WfE.kids hwf
    have ih : ∀ x ∈ l, ∀ u, IsEx x u → ∀ (which v a : Int), PFn Tryd.prog T 31 [u, iV which, iV v, iV a] fun z => ∃ x', IsEx x' z := fun x hx u hu => spoilt_p x (hch x hx) hu
    obtain ⟨lv, vs, rfl, h1, h2, h3⟩ := hu
    rw [isExs_all] at h3
    have hone : lv.one = true := free1_one h1.free
    have hrow := fun o => h1.row o
    have hlen := h3.len
    intro yi hy
    refine Call.step hy ?_
    rw [body_eq t31]
    by_cases h0 : vs.length = 0
    · have hd : decide ((0 : Int) < (vs.length : Int)) = false := by rw [decide_eq_false_iff_not]; omega
      simp only [c31, c31x1, c31x2, c31x3, RUA, RUB, RUC, RUD, RUE, if_true, if_false, ite_true, ite_false, Int.reduceEq, Int.reduceLT, Int.reduceLE, putCells, bslOf, bsaOf, bslS, isUpto, Nat.reduceEqDiff, Pe.step, E.at, List.replicate, Nat.reduceAdd, Nat.reduceSub, Nat.reduceLeDiff, Nat.reduceMul, Pe.intOf, Pe.iop, Pe.sop, hone, hrow, hd]
      exact spoilt_tail h1 (by omega) h3 hy
    have hd : decide ((0 : Int) < (vs.length : Int)) = true := by rw [decide_eq_true_eq]; omega
    simp only [c31, c31x1, c31x2, RUA, RUB, RUC, RUD, RUE, if_true, if_false, ite_true, ite_false, Int.reduceEq, Int.reduceLT, Int.reduceLE, putCells, bslOf, bsaOf, bslS, isUpto, Nat.reduceEqDiff, Pe.step, E.at, List.replicate, Nat.reduceAdd, Nat.reduceSub, Nat.reduceLeDiff, Nat.reduceMul, Pe.intOf, Pe.iop, Pe.sop, hone, hrow, hd]
    refine (within_p _ 3 (by decide) (by decide)).callE rfl rfl rfl ?_
    cases hw : decide (0 < withinI a 3) with
    | false =>
      simp only [c31, c31x1, c31x2, c31x3, RUA, RUB, RUC, RUD, RUE, if_true, if_false, ite_true, ite_false, Int.reduceEq, Int.reduceLT, Int.reduceLE, putCells, bslOf, bsaOf, bslS, isUpto, Nat.reduceEqDiff, Pe.step, E.at, List.replicate, Nat.reduceAdd, Nat.reduceSub, Nat.reduceLeDiff, Nat.reduceMul, Pe.intOf, Pe.iop, Pe.sop, hw]
      exact spoilt_tail h1 (by omega) h3 hy
    | true =>
      have hff := h3.free fun x v h => h.ok.1
      have hap : appOf 4 56 [.cells [iV k, iV n, sV nm, lv], .cells [iV 0, iV 0, sV (ByteArray.mk #[]), nilV]] (.sl 4 true []) lv = some (.ar 2 0, [.cells [iV k, iV n, sV nm, lv], .cells [iV 0, iV 0, sV (ByteArray.mk #[]), nilV], .arr 0 true 4 vs]) := by
        rw [ap_full (hrow _) (h3.okRow fun x v h => h.ok) (fun e => h0 (by rw [e]; rfl)) (by simp [room]; omega)]; rfl
      have hrA : rowOf [.cells [iV k, iV n, sV nm, lv], .cells [iV 0, iV 0, sV (ByteArray.mk #[]), nilV], .arr 0 true 4 vs] (.ar 2 0) = some vs := rfl
      simp only [c31, c31x1, c31x2, c31x3, c31x4, RUA, RUB, RUC, RUD, RUE, if_true, if_false, ite_true, ite_false, Int.reduceEq, Int.reduceLT, Int.reduceLE, putCells, bslOf, bsaOf, bslS, isUpto, Nat.reduceEqDiff, Pe.step, E.at, List.replicate, Nat.reduceAdd, Nat.reduceSub, Nat.reduceLeDiff, Nat.reduceMul, Pe.intOf, Pe.iop, Pe.sop, hw, hap, hrA]
      refine (within_p _ (vs.length : Int) (by omega) (by omega)).callE rfl rfl rfl ?_
      obtain ⟨i, hi, hi2⟩ := natI (a := IntKind.i64.wrap (a.tdiv 3)) (n := (vs.length : Int)) (by omega)
      rw [hi]
      have hlt : i < vs.length := by omega
      have hx : vs[i]? = some vs[i] := List.getElem?_eq_getElem hlt
      have hxl : l[i]? = some l[i] := List.getElem?_eq_getElem (by omega)
      have hmem : l[i] ∈ l := List.getElem_mem _
      have hE := h3.get hx hxl
      generalize hgv : vs[i] = u at hx hE
      generalize hgx : l[i] = x at hxl hE hmem
      have hE' := hE
      rcases x with ⟨k1, n1, m1, l1⟩
      obtain ⟨lv1, us, rfl, g1, g2, g3⟩ := hE
      have hI : ixOf 4 [.cells [iV k, iV n, sV nm, lv], .cells [iV 0, iV 0, sV (ByteArray.mk #[]), nilV], .arr 0 true 4 vs] (.ar 2 0) (iV i) = some (.pa 2 0 i 0, [.cells [iV k, iV n, sV nm, lv], .cells [iV 0, iV 0, sV (ByteArray.mk #[]), nilV], .arr 0 true 4 vs]) := by
        simp [ixOf, intOf, hlt]
      simp only [c31, c31x1, c31x2, c31x3, c31x4, c31x5, c31x6, RUA, RUB, RUC, RUD, RUE, if_true, if_false, ite_true, ite_false, Int.reduceEq, Int.reduceLT, Int.reduceLE, putCells, bslOf, bsaOf, bslS, isUpto, Nat.reduceEqDiff, Pe.step, E.at, List.replicate, Nat.reduceAdd, Nat.reduceSub, Nat.reduceLeDiff, Nat.reduceMul, Pe.intOf, Pe.iop, Pe.sop, hI, hx]
      refine (ih _ hmem _ hE' which v _).callF rfl (fun x hx => by simp only [List.mem_cons, List.not_mem_nil, or_false] at hx; rcases hx with rfl | rfl | rfl | rfl <;> first | exact hE'.ok.1 | rfl) fun z hz => ?_
      obtain ⟨x', hx'⟩ := hz
      have hz1 := hx'.solid
      have hz2 := hx'.ok.2
      have hset := h3.set i hx'
      have hff2 := hset.free fun x v h => h.ok.1
      simp only [c31, c31x1, c31x2, c31x3, c31x4, c31x5, c31x6, c31x7, c31x8, c31x9, c31x10, c31x11, c31x12, c31x13, c31x14, c31x15, RUA, RUB, RUC, RUD, RUE, if_true, if_false, ite_true, ite_false, Int.reduceEq, Int.reduceLT, Int.reduceLE, putCells, bslOf, bsaOf, bslS, isUpto, Nat.reduceEqDiff, Pe.step, E.at, List.replicate, Nat.reduceAdd, Nat.reduceSub, Nat.reduceLeDiff, Nat.reduceMul, Pe.intOf, Pe.iop, Pe.sop, hI, hx, hz1, hz2, rets]
      have hcs : (vs.set i z).length ≤ cap := by unfold cap; rw [List.length_set]; omega
      exact frzNode (show freeze1 _ (.ar 2 0) = some (_, _) from by simp only [freeze1, List.getElem?_cons_succ, List.getElem?_cons_zero, hff2, and_self, if_true] <;> rfl) (.inr ⟨_, rfl⟩) hcs hset
termination_by x => SizeOf.sizeOf x
decreasing_by have := List.sizeOf_lt_of_mem hx; simp; omega
end Go.Proofs.YtjfnhpnfkknmoaaDoor

/- A part of the texts that the claim's proof needs: functions of the program as the evaluator reads them, and what they come to. Conditions: those that its theorems state. -/
import Derived.Test.YtjfnhpnfkknmoaaDoorY2O
set_option linter.unusedVariables false
set_option linter.unusedSimpArgs false
set_option maxRecDepth 100000
set_option maxHeartbeats 4000000
namespace Go.Proofs.YtjfnhpnfkknmoaaDoor
open Go.Proofs.Pe

theorem WfE.mono {n m : Nat} (h : n ≤ m) {x : Ex} (hx : WfE n x) : WfE m x := by
  induction hx with
  | num h => exact .num h
  | var hi => exact .var (by omega)
  | one h1 h2 _ ih => exact .one h1 h2 ih
  | two h1 h2 _ _ ih1 ih2 => exact .two h1 h2 ih1 ih2
theorem cf_agg {o o1 : List O} {a b c v w : V} {l2 v2 k2 : Nat} {wr : Bool} {xs : List V} (ha : freeze1 o a = some (a, o)) (hb : freeze1 o b = some (b, o)) (hc : freeze1 o c = some (c, o)) (hv : freeze1 o v = some (w, o1))
    (h : o1[l2]? = some (.arr v2 wr k2 xs)) (hf : xs.all V.free = true) : commits o [.agg [a, b, c, v], .ar l2 v2] = some ([.agg [a, b, c, w], .sl k2 false xs], o1.set l2 (.arr v2 false k2 xs)) := by
  have h1 : Pe.freeze o (.agg [a, b, c, v]) = some (.agg [a, b, c, w], o1) := by
    show (freezes o [a, b, c, v]).map _ = _
    simp [freezes, ha, hb, hc, hv]
  have h2 : Pe.freeze o1 (.ar l2 v2) = some (.sl k2 false xs, o1.set l2 (.arr v2 false k2 xs)) := by
    show freeze1 o1 (.ar l2 v2) = _
    simp [freeze1, h, hf]
  simp [commits, step.freezes', h1, h2]
theorem short_tail {l : List Rw} {vs : List V} {x y : V} {left : Int} {or : Bool} {ws : List Int} {i : Int} {x25 x26 x27 x28 x29 x30 x31 x32 : V} (h1 : IsSl 3 x vs) (h2 : All2 IsRw l vs) (hl : ws.length = 3) (hI : ∀ z ∈ ws, I64 z) (hleft : I64 left) :
    ev Tryd.prog T (Pe.Call Tryd.prog T) Lfp c8x12 none noY ⟨⟨(x :: iV left :: bV or :: y :: .dead :: .dead :: .dead :: .dead :: .dead :: .ar 0 0 :: iV i :: .dead :: .dead :: .dead :: .dead :: .dead :: .dead :: .dead :: .dead :: .dead :: .dead :: .dead :: .dead :: .dead :: .dead :: x25 :: x26 :: x27 :: x28 :: x29 :: x30 :: x31 :: x32 :: .dead :: .dead :: .dead :: .dead :: .dead :: .dead :: .dead :: .dead :: .dead :: .dead :: .dead :: .dead :: .dead :: .dead :: .dead :: .dead :: .dead :: .dead :: .dead :: .dead :: .dead :: .dead :: .dead :: .dead :: .dead :: .dead :: .dead :: .dead :: .dead :: .dead :: .dead :: .dead :: .dead :: .dead :: .dead :: .dead :: .dead :: .dead :: .dead :: .dead :: .dead :: .dead :: .dead :: .dead :: .dead :: .dead :: .dead :: .dead :: .dead :: .dead :: .dead :: .dead :: .dead :: .dead :: .dead :: .dead :: .dead :: .dead :: .dead :: .dead :: .dead :: .dead :: .dead :: .dead :: .dead :: .dead :: .dead :: .dead :: .dead :: .dead :: .dead :: []), [O.arr 0 true 1 (ws.map iV)]⟩, []⟩ (endK [Rv.tmp 8] (fun y _ => y = .sc (.bool true))) := by
  have hap : appOf 1 8 [O.arr 0 true 1 (ws.map iV), O.arr 0 true 1 [iV left]] (.ar 0 0) (.ar 1 0) = some (.ar 0 1, [O.arr 1 true 1 ((ws ++ [left]).map iV), O.arr 0 true 1 [iV left]]) := by
    rw [ap_ar (l := 0) (v := 0) (wr := true) (xs := ws.map iV) (ys := [iV left]) rfl rfl (by simp [okRow, V.free, V.free1, V.cells]) (by simp) (by simp [hl, room])]
    simp
  have hw := WfE.mono (m := 4) (by omega) (oneS_wf l)
  have hv4 : (ws ++ [left]).length = 4 := by simp [hl]
  have hI4 : ∀ z ∈ ws ++ [left], I64 z := fun z hz => by
    rcases List.mem_append.1 hz with h | h
    · exact hI z h
    · rw [List.mem_singleton.1 h]; exact hleft
  have hcap : (ws ++ [left]).length ≤ cap := by rw [hv4]; decide
  have hg3 : (ws ++ [left]).getD 3 0 = left := by rw [List.getD_eq_getElem?_getD, List.getElem?_append_right (by omega), hl]; rfl
  have dd : ∀ n : Int, decide (n = n) = true := fun n => by simp
  cases or
  · simp only [c8, c8x1, c8x2, c8x3, c8x4, c8x5, c8x6, c8x7, c8x8, c8x9, c8x10, c8x11, c8x12, c8x13, c8x14, c8x15, c8x16, RUA, RUB, RUC, RUD, RUE, if_true, if_false, ite_true, ite_false, Int.reduceEq, Int.reduceLT, Int.reduceLE, putCells, bslOf, bsaOf, bslS, isUpto, Nat.reduceEqDiff, Pe.step, E.at, List.replicate, Nat.reduceAdd, Nat.reduceSub, Nat.reduceLeDiff, Nat.reduceMul, Pe.intOf, Pe.iop, Pe.sop, hap]
    refine (one_p (nm := []) (.inl ⟨rfl, rfl⟩) (by simp) h1 h2).callF rfl (fun x hx => by simp only [List.mem_cons, List.not_mem_nil, or_false] at hx; rcases hx with rfl | rfl <;> first | exact h1.freeV | rfl) fun z hz => ?_
    generalize oneS [] l = e at hz hw
    have hz' := hz
    have hzo := hz.ok
    rcases e with ⟨k, n, nm, el⟩
    obtain ⟨lv, us, rfl, e1, e2, e3⟩ := hz
    have hone : lv.one = true := free1_one e1.free
    have hr := evalS_I64 hI4 (x := .mk k n nm el) (by rw [hv4]; exact hw)
    have hev : evalS (ws ++ [left]) (.mk 16 0 emp [.mk 2 ((3 : Nat) : Int) emp [], .mk k n nm el]) = twoE 16 (left, 0) (evalS (ws ++ [left]) (.mk k n nm el)) := by
      have : evalS (ws ++ [left]) (.mk 2 ((3 : Nat) : Int) emp []) = (left, 0) := by
        show (if (2 : Int) = 1 then _ else if (2 : Int) = 2 then ((ws ++ [left]).getD (((3 : Nat) : Int)).toNat 0, 0) else _) = _
        rw [if_neg (by decide), if_pos rfl, Int.toNat_natCast, hg3]
      rw [evalS, this]
    have hE : IsEx (.mk 16 0 emp [.mk 2 ((3 : Nat) : Int) emp [], .mk k n nm el]) (.agg [iV 16, iV 0, sV (ByteArray.mk #[]), .sl 4 false [.agg [iV 2, iV 3, sV (ByteArray.mk #[]), nilV], .agg [iV k, iV n, sV nm, lv]]]) :=
      ⟨_, _, rfl, .inr ⟨_, rfl⟩, by simp [cap], _, _, rfl, ⟨nilV, [], rfl, .inl ⟨rfl, rfl⟩, by simp, rfl⟩, _, _, rfl, hz', rfl⟩
    have hc1 := (eval_p (vs := ws ++ [left]) (vv := .sl 1 false ((ws ++ [left]).map iV)) (.inr ⟨_, rfl⟩) hI4 hcap (.two (by decide) (by decide) (.var (by omega)) (by rw [hv4]; exact hw)) hE)
    have hc2 := (reval_p (vs := ws ++ [left]) (vv := .sl 1 false ((ws ++ [left]).map iV)) (.inr ⟨_, rfl⟩) hI4 hcap (by rw [hv4]; exact hw) hz')
    rw [hev] at hc1
    generalize evalS (ws ++ [left]) (.mk k n nm el) = r at hc1 hc2 hr
    have hfz : [V.agg [iV 2, iV 3, sV (ByteArray.mk #[]), nilV], V.agg [iV k, iV n, sV nm, lv]].all V.free = true := by
      rw [List.all_cons, List.all_cons, hzo.1]; rfl
    simp only [c8, c8x1, c8x2, c8x3, c8x4, c8x5, c8x6, c8x7, c8x8, c8x9, c8x10, c8x11, c8x12, c8x13, c8x14, c8x15, c8x16, c8x17, RUA, RUB, RUC, RUD, RUE, if_true, if_false, ite_true, ite_false, Int.reduceEq, Int.reduceLT, Int.reduceLE, putCells, bslOf, bsaOf, bslS, isUpto, Nat.reduceEqDiff, Pe.step, E.at, List.replicate, Nat.reduceAdd, Nat.reduceSub, Nat.reduceLeDiff, Nat.reduceMul, Pe.intOf, Pe.iop, Pe.sop, hone, fillC, hzo.2, hzo.1]
    refine hc1.callE rfl (cf_agg rfl rfl rfl (show freeze1 _ (.ar 3 0) = some (_, _) from by simp only [freeze1, List.getElem?_cons_succ, List.getElem?_cons_zero, hfz, and_self, if_true] <;> rfl) rfl (ints_free _)) rfl ?_
    simp only [c8, c8x1, c8x2, c8x3, c8x4, c8x5, c8x6, c8x7, c8x8, c8x9, c8x10, c8x11, c8x12, c8x13, c8x14, c8x15, c8x16, c8x17, c8x18, c8x19, RUA, RUB, RUC, RUD, RUE, if_true, if_false, ite_true, ite_false, Int.reduceEq, Int.reduceLT, Int.reduceLE, putCells, bslOf, bsaOf, bslS, isUpto, Nat.reduceEqDiff, Pe.step, E.at, List.replicate, Nat.reduceAdd, Nat.reduceSub, Nat.reduceLeDiff, Nat.reduceMul, Pe.intOf, Pe.iop, Pe.sop, hone]
    refine hc2.callE rfl (cf_ar2 hz'.ok.1 rfl (ints_free _)) rfl ?_
    by_cases hs : left = 0
    · have ds : decide (left = 0) = true := by simpa using hs
      have p1 : (twoE 16 (left, 0) r).1 = 0 := by simp [twoE, hs]
      have p2 : (twoE 16 (left, 0) r).2 = 0 := by simp [twoE, hs]
      simp only [c8, c8x1, c8x2, c8x3, c8x4, c8x5, c8x6, c8x7, c8x8, c8x9, c8x10, c8x11, c8x12, c8x13, c8x14, c8x15, c8x16, c8x17, c8x18, c8x19, c8x20, c8x21, c8x22, c8x23, c8x24, c8x25, c8x26, RUA, RUB, RUC, RUD, RUE, if_true, if_false, ite_true, ite_false, Int.reduceEq, Int.reduceLT, Int.reduceLE, putCells, bslOf, bsaOf, bslS, isUpto, Nat.reduceEqDiff, Pe.step, E.at, List.replicate, Nat.reduceAdd, Nat.reduceSub, Nat.reduceLeDiff, Nat.reduceMul, Pe.intOf, Pe.iop, Pe.sop, ds, p1, p2, dd]
    · have ds : decide (left = 0) = false := by simpa using hs
      by_cases h2 : r.2 = 0
      · have d2 : decide (r.2 = 0) = true := by simpa using h2
        have p2 : (twoE 16 (left, 0) r).2 = 0 := by simp [twoE, hs, h2]
        by_cases h3 : r.1 = 0
        · have d3 : decide (r.1 = 0) = true := by simpa using h3
          have p1 : (twoE 16 (left, 0) r).1 = 0 := by simp [twoE, hs, h2, h3, b2i]
          simp only [c8, c8x1, c8x2, c8x3, c8x4, c8x5, c8x6, c8x7, c8x8, c8x9, c8x10, c8x11, c8x12, c8x13, c8x14, c8x15, c8x16, c8x17, c8x18, c8x19, c8x20, c8x21, c8x22, c8x23, c8x24, c8x25, c8x26, RUA, RUB, RUC, RUD, RUE, if_true, if_false, ite_true, ite_false, Int.reduceEq, Int.reduceLT, Int.reduceLE, putCells, bslOf, bsaOf, bslS, isUpto, Nat.reduceEqDiff, Pe.step, E.at, List.replicate, Nat.reduceAdd, Nat.reduceSub, Nat.reduceLeDiff, Nat.reduceMul, Pe.intOf, Pe.iop, Pe.sop, ds, p1, p2, dd, d2, d3]
        · have d3 : decide (r.1 = 0) = false := by simpa using h3
          have p1 : (twoE 16 (left, 0) r).1 = 1 := by simp [twoE, hs, h2, h3, b2i]
          simp only [c8, c8x1, c8x2, c8x3, c8x4, c8x5, c8x6, c8x7, c8x8, c8x9, c8x10, c8x11, c8x12, c8x13, c8x14, c8x15, c8x16, c8x17, c8x18, c8x19, c8x20, c8x21, c8x22, c8x23, c8x24, c8x25, c8x26, RUA, RUB, RUC, RUD, RUE, if_true, if_false, ite_true, ite_false, Int.reduceEq, Int.reduceLT, Int.reduceLE, putCells, bslOf, bsaOf, bslS, isUpto, Nat.reduceEqDiff, Pe.step, E.at, List.replicate, Nat.reduceAdd, Nat.reduceSub, Nat.reduceLeDiff, Nat.reduceMul, Pe.intOf, Pe.iop, Pe.sop, ds, p1, p2, dd, d2, d3]
      · have d2 : decide (r.2 = 0) = false := by simpa using h2
        have p2 : (twoE 16 (left, 0) r).2 = r.2 := by simp [twoE, hs, h2]
        have p1 : (twoE 16 (left, 0) r).1 = 0 := by simp [twoE, hs, h2]
        simp only [c8, c8x1, c8x2, c8x3, c8x4, c8x5, c8x6, c8x7, c8x8, c8x9, c8x10, c8x11, c8x12, c8x13, c8x14, c8x15, c8x16, c8x17, c8x18, c8x19, c8x20, c8x21, c8x22, c8x23, c8x24, c8x25, c8x26, RUA, RUB, RUC, RUD, RUE, if_true, if_false, ite_true, ite_false, Int.reduceEq, Int.reduceLT, Int.reduceLE, putCells, bslOf, bsaOf, bslS, isUpto, Nat.reduceEqDiff, Pe.step, E.at, List.replicate, Nat.reduceAdd, Nat.reduceSub, Nat.reduceLeDiff, Nat.reduceMul, Pe.intOf, Pe.iop, Pe.sop, ds, p1, p2, dd, d2]
  · simp only [c8, c8x1, c8x2, c8x3, c8x4, c8x5, c8x6, c8x7, c8x8, c8x9, c8x10, c8x11, c8x12, c8x13, c8x14, c8x15, c8x16, RUA, RUB, RUC, RUD, RUE, if_true, if_false, ite_true, ite_false, Int.reduceEq, Int.reduceLT, Int.reduceLE, putCells, bslOf, bsaOf, bslS, isUpto, Nat.reduceEqDiff, Pe.step, E.at, List.replicate, Nat.reduceAdd, Nat.reduceSub, Nat.reduceLeDiff, Nat.reduceMul, Pe.intOf, Pe.iop, Pe.sop, hap]
    refine (one_p (nm := []) (.inl ⟨rfl, rfl⟩) (by simp) h1 h2).callF rfl (fun x hx => by simp only [List.mem_cons, List.not_mem_nil, or_false] at hx; rcases hx with rfl | rfl <;> first | exact h1.freeV | rfl) fun z hz => ?_
    generalize oneS [] l = e at hz hw
    have hz' := hz
    have hzo := hz.ok
    rcases e with ⟨k, n, nm, el⟩
    obtain ⟨lv, us, rfl, e1, e2, e3⟩ := hz
    have hone : lv.one = true := free1_one e1.free
    have hr := evalS_I64 hI4 (x := .mk k n nm el) (by rw [hv4]; exact hw)
    have hev : evalS (ws ++ [left]) (.mk 17 0 emp [.mk 2 ((3 : Nat) : Int) emp [], .mk k n nm el]) = twoE 17 (left, 0) (evalS (ws ++ [left]) (.mk k n nm el)) := by
      have : evalS (ws ++ [left]) (.mk 2 ((3 : Nat) : Int) emp []) = (left, 0) := by
        show (if (2 : Int) = 1 then _ else if (2 : Int) = 2 then ((ws ++ [left]).getD (((3 : Nat) : Int)).toNat 0, 0) else _) = _
        rw [if_neg (by decide), if_pos rfl, Int.toNat_natCast, hg3]
      rw [evalS, this]
    have hE : IsEx (.mk 17 0 emp [.mk 2 ((3 : Nat) : Int) emp [], .mk k n nm el]) (.agg [iV 17, iV 0, sV (ByteArray.mk #[]), .sl 4 false [.agg [iV 2, iV 3, sV (ByteArray.mk #[]), nilV], .agg [iV k, iV n, sV nm, lv]]]) :=
      ⟨_, _, rfl, .inr ⟨_, rfl⟩, by simp [cap], _, _, rfl, ⟨nilV, [], rfl, .inl ⟨rfl, rfl⟩, by simp, rfl⟩, _, _, rfl, hz', rfl⟩
    have hc1 := (eval_p (vs := ws ++ [left]) (vv := .sl 1 false ((ws ++ [left]).map iV)) (.inr ⟨_, rfl⟩) hI4 hcap (.two (by decide) (by decide) (.var (by omega)) (by rw [hv4]; exact hw)) hE)
    have hc2 := (reval_p (vs := ws ++ [left]) (vv := .sl 1 false ((ws ++ [left]).map iV)) (.inr ⟨_, rfl⟩) hI4 hcap (by rw [hv4]; exact hw) hz')
    rw [hev] at hc1
    generalize evalS (ws ++ [left]) (.mk k n nm el) = r at hc1 hc2 hr
    have hfz : [V.agg [iV 2, iV 3, sV (ByteArray.mk #[]), nilV], V.agg [iV k, iV n, sV nm, lv]].all V.free = true := by
      rw [List.all_cons, List.all_cons, hzo.1]; rfl
    simp only [c8, c8x1, c8x2, c8x3, c8x4, c8x5, c8x6, c8x7, c8x8, c8x9, c8x10, c8x11, c8x12, c8x13, c8x14, c8x15, c8x16, c8x17, RUA, RUB, RUC, RUD, RUE, if_true, if_false, ite_true, ite_false, Int.reduceEq, Int.reduceLT, Int.reduceLE, putCells, bslOf, bsaOf, bslS, isUpto, Nat.reduceEqDiff, Pe.step, E.at, List.replicate, Nat.reduceAdd, Nat.reduceSub, Nat.reduceLeDiff, Nat.reduceMul, Pe.intOf, Pe.iop, Pe.sop, hone, fillC, hzo.2, hzo.1]
    refine hc1.callE rfl (cf_agg rfl rfl rfl (show freeze1 _ (.ar 3 0) = some (_, _) from by simp only [freeze1, List.getElem?_cons_succ, List.getElem?_cons_zero, hfz, and_self, if_true] <;> rfl) rfl (ints_free _)) rfl ?_
    simp only [c8, c8x1, c8x2, c8x3, c8x4, c8x5, c8x6, c8x7, c8x8, c8x9, c8x10, c8x11, c8x12, c8x13, c8x14, c8x15, c8x16, c8x17, c8x18, c8x19, RUA, RUB, RUC, RUD, RUE, if_true, if_false, ite_true, ite_false, Int.reduceEq, Int.reduceLT, Int.reduceLE, putCells, bslOf, bsaOf, bslS, isUpto, Nat.reduceEqDiff, Pe.step, E.at, List.replicate, Nat.reduceAdd, Nat.reduceSub, Nat.reduceLeDiff, Nat.reduceMul, Pe.intOf, Pe.iop, Pe.sop, hone]
    refine hc2.callE rfl (cf_ar2 hz'.ok.1 rfl (ints_free _)) rfl ?_
    by_cases hs : left = 0
    · have ds : decide (left = 0) = true := by simpa using hs
      by_cases h2 : r.2 = 0
      · have d2 : decide (r.2 = 0) = true := by simpa using h2
        have p2 : (twoE 17 (left, 0) r).2 = 0 := by simp [twoE, hs, h2]
        by_cases h3 : r.1 = 0
        · have d3 : decide (r.1 = 0) = true := by simpa using h3
          have p1 : (twoE 17 (left, 0) r).1 = 0 := by simp [twoE, hs, h2, h3, b2i]
          simp only [c8, c8x1, c8x2, c8x3, c8x4, c8x5, c8x6, c8x7, c8x8, c8x9, c8x10, c8x11, c8x12, c8x13, c8x14, c8x15, c8x16, c8x17, c8x18, c8x19, c8x20, c8x21, c8x22, c8x23, c8x24, c8x25, c8x26, RUA, RUB, RUC, RUD, RUE, if_true, if_false, ite_true, ite_false, Int.reduceEq, Int.reduceLT, Int.reduceLE, putCells, bslOf, bsaOf, bslS, isUpto, Nat.reduceEqDiff, Pe.step, E.at, List.replicate, Nat.reduceAdd, Nat.reduceSub, Nat.reduceLeDiff, Nat.reduceMul, Pe.intOf, Pe.iop, Pe.sop, ds, p1, p2, dd, d2, d3]
        · have d3 : decide (r.1 = 0) = false := by simpa using h3
          have p1 : (twoE 17 (left, 0) r).1 = 1 := by simp [twoE, hs, h2, h3, b2i]
          simp only [c8, c8x1, c8x2, c8x3, c8x4, c8x5, c8x6, c8x7, c8x8, c8x9, c8x10, c8x11, c8x12, c8x13, c8x14, c8x15, c8x16, c8x17, c8x18, c8x19, c8x20, c8x21, c8x22, c8x23, c8x24, c8x25, c8x26, RUA, RUB, RUC, RUD, RUE, if_true, if_false, ite_true, ite_false, Int.reduceEq, Int.reduceLT, Int.reduceLE, putCells, bslOf, bsaOf, bslS, isUpto, Nat.reduceEqDiff, Pe.step, E.at, List.replicate, Nat.reduceAdd, Nat.reduceSub, Nat.reduceLeDiff, Nat.reduceMul, Pe.intOf, Pe.iop, Pe.sop, ds, p1, p2, dd, d2, d3]
      · have d2 : decide (r.2 = 0) = false := by simpa using h2
        have p2 : (twoE 17 (left, 0) r).2 = r.2 := by simp [twoE, hs, h2]
        have p1 : (twoE 17 (left, 0) r).1 = 0 := by simp [twoE, hs, h2]
        simp only [c8, c8x1, c8x2, c8x3, c8x4, c8x5, c8x6, c8x7, c8x8, c8x9, c8x10, c8x11, c8x12, c8x13, c8x14, c8x15, c8x16, c8x17, c8x18, c8x19, c8x20, c8x21, c8x22, c8x23, c8x24, c8x25, c8x26, RUA, RUB, RUC, RUD, RUE, if_true, if_false, ite_true, ite_false, Int.reduceEq, Int.reduceLT, Int.reduceLE, putCells, bslOf, bsaOf, bslS, isUpto, Nat.reduceEqDiff, Pe.step, E.at, List.replicate, Nat.reduceAdd, Nat.reduceSub, Nat.reduceLeDiff, Nat.reduceMul, Pe.intOf, Pe.iop, Pe.sop, ds, p1, p2, dd, d2]
    · have ds : decide (left = 0) = false := by simpa using hs
      have p1 : (twoE 17 (left, 0) r).1 = 1 := by simp [twoE, hs]
      have p2 : (twoE 17 (left, 0) r).2 = 0 := by simp [twoE, hs]
      simp only [c8, c8x1, c8x2, c8x3, c8x4, c8x5, c8x6, c8x7, c8x8, c8x9, c8x10, c8x11, c8x12, c8x13, c8x14, c8x15, c8x16, c8x17, c8x18, c8x19, c8x20, c8x21, c8x22, c8x23, c8x24, c8x25, c8x26, RUA, RUB, RUC, RUD, RUE, if_true, if_false, ite_true, ite_false, Int.reduceEq, Int.reduceLT, Int.reduceLE, putCells, bslOf, bsaOf, bslS, isUpto, Nat.reduceEqDiff, Pe.step, E.at, List.replicate, Nat.reduceAdd, Nat.reduceSub, Nat.reduceLeDiff, Nat.reduceMul, Pe.intOf, Pe.iop, Pe.sop, ds, p1, p2, dd]
theorem exprShort_call (x : V) (hx : ∃ n, VT Tryd.prog n 46 [x]) (left : Int) (hleft : (Lit.int .i64 left).wf = true) (or : Bool) (y : V) (hy : ∃ n, VT Tryd.prog n 24 [y]) :
    Pe.Call Tryd.prog T noY 8 [x, .sc (.int .i64 left), .sc (.bool or), y] [] (fun y _ => y = .sc (.bool true)) := by
  obtain ⟨l, vs, h1, h2, h3⟩ := rawArg hx
  obtain ⟨zs, g1, g2, g3⟩ := intArg hy
  replace hleft := I64.of hleft
  unfold maxLen at g3
  refine Call.step noY_le ?_
  rw [body_eq t8]
  simp only [c8, c8x1, c8x2, RUA, RUB, RUC, RUD, RUE, if_true, if_false, ite_true, ite_false, Int.reduceEq, Int.reduceLT, Int.reduceLE, putCells, bslOf, bsaOf, bslS, isUpto, Nat.reduceEqDiff, Pe.step, E.at, List.replicate, Nat.reduceAdd, Nat.reduceSub, Nat.reduceLeDiff, Nat.reduceMul, Pe.intOf, Pe.iop, Pe.sop]
  refine known_p.callE rfl rfl rfl ?_
  simp only [c8, c8x1, c8x2, c8x3, RUA, RUB, RUC, RUD, RUE, if_true, if_false, ite_true, ite_false, Int.reduceEq, Int.reduceLT, Int.reduceLE, putCells, bslOf, bsaOf, bslS, isUpto, Nat.reduceEqDiff, Pe.step, E.at, List.replicate, Nat.reduceAdd, Nat.reduceSub, Nat.reduceLeDiff, Nat.reduceMul, Pe.intOf, Pe.iop, Pe.sop]
  refine (few_p h1 h2 h3).callE rfl (cf1 h1.freeV _) rfl ?_
  cases hf : decide (szL 9 l ≤ 20) with
  | false => simp only [c8, c8x1, c8x2, c8x3, c8x4, RUA, RUB, RUC, RUD, RUE, if_true, if_false, ite_true, ite_false, Int.reduceEq, Int.reduceLT, Int.reduceLE, putCells, bslOf, bsaOf, bslS, isUpto, Nat.reduceEqDiff, Pe.step, E.at, List.replicate, Nat.reduceAdd, Nat.reduceSub, Nat.reduceLeDiff, Nat.reduceMul, Pe.intOf, Pe.iop, Pe.sop]
  | true =>
    have hrowy := fun o => g1.row o
    simp only [c8, c8x1, c8x2, c8x3, c8x4, c8x5, c8x6, c8x7, RUA, RUB, RUC, RUD, RUE, if_true, if_false, ite_true, ite_false, Int.reduceEq, Int.reduceLT, Int.reduceLE, putCells, bslOf, bsaOf, bslS, isUpto, Nat.reduceEqDiff, Pe.step, E.at, List.replicate, Nat.reduceAdd, Nat.reduceSub, Nat.reduceLeDiff, Nat.reduceMul, Pe.intOf, Pe.iop, Pe.sop]
    refine Lfp.inv call_le noY_le (fun a : Nat × List Int => ⟨⟨(x :: iV left :: bV or :: y :: .dead :: .dead :: .dead :: .dead :: .dead :: .ar 0 0 :: iV a.1 :: .dead :: .dead :: .dead :: .dead :: .dead :: .dead :: .dead :: .dead :: .dead :: .dead :: .dead :: .dead :: .dead :: .dead :: .dead :: .dead :: .dead :: .dead :: .dead :: .dead :: .dead :: .dead :: .dead :: .dead :: .dead :: .dead :: .dead :: .dead :: .dead :: .dead :: .dead :: .dead :: .dead :: .dead :: .dead :: .dead :: .dead :: .dead :: .dead :: .dead :: .dead :: .dead :: .dead :: .dead :: .dead :: .dead :: .dead :: .dead :: .dead :: .dead :: .dead :: .dead :: .dead :: .dead :: .dead :: .dead :: .dead :: .dead :: .dead :: .dead :: .dead :: .dead :: .dead :: .dead :: .dead :: .dead :: .dead :: .dead :: .dead :: .dead :: .dead :: .dead :: .dead :: .dead :: .dead :: .dead :: .dead :: .dead :: .dead :: .dead :: .dead :: .dead :: .dead :: .dead :: .dead :: .dead :: .dead :: .dead :: .dead :: .dead :: .dead :: .dead :: .dead :: []), [.arr 0 true 1 (a.2.map iV)]⟩, []⟩) (fun a => 3 - a.1)
      (fun a => a.1 ≤ 3 ∧ a.1 ≤ zs.length ∧ a.2.length = 3 ∧ ∀ z ∈ a.2, I64 z) (0, [1, 2, 3]) ⟨by omega, by omega, rfl, by intro z hz; simp at hz; unfold I64; omega⟩ (by simp only [killTs_cons, killTs_nil, List.set_cons_succ, List.set_cons_zero] <;> rfl) ?_
    rintro ⟨i, ws⟩ ⟨hi, hi2, hl, hI⟩
    dsimp only at hi hi2 hl hI
    by_cases c : i < zs.length ∧ i < 3
    · have d1 : decide ((i : Int) < (zs.length : Int)) = true := by simpa using c.1
      have d2 : decide ((i : Int) < 3) = true := by simp; omega
      have hzi : zs[i]? = some (zs[i]'c.1) := List.getElem?_eq_getElem c.1
      have hmem : zs[i]'c.1 ∈ zs := List.getElem_mem _
      generalize zs[i]'c.1 = zi at hzi hmem
      have hIy := fun o => g1.ix o (n := i) (y := iV zi) (by rw [List.getElem?_map, hzi]; rfl)
      have hIa : ixOf 1 [O.arr 0 true 1 (ws.map iV)] (.ar 0 0) (iV i) = some (.pa 0 0 i 0, [O.arr 0 true 1 (ws.map iV)]) := ixAr rfl (by simp; omega)
      have hwi : (ws.map iV)[i]? = some (iV (ws[i]'(by omega))) := by rw [List.getElem?_map, List.getElem?_eq_getElem (by omega)]; rfl
      have hw1 : IntKind.i64.wrap ((i : Int) + 1) = ((i + 1 : Nat) : Int) := wrap_succ (by omega)
      simp only [c8, c8x1, c8x2, c8x3, c8x4, c8x5, c8x6, c8x7, c8x8, c8x9, c8x10, c8x11, RUA, RUB, RUC, RUD, RUE, if_true, if_false, ite_true, ite_false, Int.reduceEq, Int.reduceLT, Int.reduceLE, putCells, bslOf, bsaOf, bslS, isUpto, Nat.reduceEqDiff, Pe.step, E.at, List.replicate, Nat.reduceAdd, Nat.reduceSub, Nat.reduceLeDiff, Nat.reduceMul, Pe.intOf, Pe.iop, Pe.sop, hrowy, List.length_map, d1, d2, hIy, hIa, hwi, setI, hw1]
      refine ⟨(i + 1, ws.set i zi), ⟨by simp only; omega, by simp only; omega, by simpa using hl, fun z hz => ?_⟩, by simp only; omega, rfl⟩
      rcases List.mem_or_eq_of_mem_set hz with h | rfl
      · exact hI z h
      · exact g2 _ hmem
    · by_cases c1 : i < zs.length
      · have d1 : decide ((i : Int) < (zs.length : Int)) = true := by simpa using c1
        have d2 : decide ((i : Int) < 3) = false := by simp; omega
        simp only [c8, c8x1, c8x2, c8x3, c8x4, c8x5, c8x6, c8x7, c8x8, c8x9, c8x10, c8x11, RUA, RUB, RUC, RUD, RUE, if_true, if_false, ite_true, ite_false, Int.reduceEq, Int.reduceLT, Int.reduceLE, putCells, bslOf, bsaOf, bslS, isUpto, Nat.reduceEqDiff, Pe.step, E.at, List.replicate, Nat.reduceAdd, Nat.reduceSub, Nat.reduceLeDiff, Nat.reduceMul, Pe.intOf, Pe.iop, Pe.sop, hrowy, List.length_map, d1, d2]
        exact short_tail h1 h2 hl hI hleft
      · have d1 : decide ((i : Int) < (zs.length : Int)) = false := by simpa using c1
        simp only [c8, c8x1, c8x2, c8x3, c8x4, c8x5, c8x6, c8x7, c8x8, c8x9, c8x10, c8x11, RUA, RUB, RUC, RUD, RUE, if_true, if_false, ite_true, ite_false, Int.reduceEq, Int.reduceLT, Int.reduceLE, putCells, bslOf, bsaOf, bslS, isUpto, Nat.reduceEqDiff, Pe.step, E.at, List.replicate, Nat.reduceAdd, Nat.reduceSub, Nat.reduceLeDiff, Nat.reduceMul, Pe.intOf, Pe.iop, Pe.sop, hrowy, List.length_map, d1]
        exact short_tail h1 h2 hl hI hleft
end Go.Proofs.YtjfnhpnfkknmoaaDoor

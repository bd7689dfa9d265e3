/- A part of the texts that the claim's proof needs: functions of the program as the evaluator reads them, and what they come to. Conditions: those that its theorems state. -/
import Derived.Test.YtjfnhpnfkknmoaaDoorY2M
set_option linter.unusedVariables false
set_option linter.unusedSimpArgs false
set_option maxRecDepth 100000
set_option maxHeartbeats 4000000
namespace Go.Proofs.YtjfnhpnfkknmoaaDoor
open Go.Proofs.Pe

theorem kids_p (k : Int) : PFn Tryd.prog T 54 [iV k] fun z => z = iV (kids k) := by
  have hk := kids_eq k
  intro yi hy
  refine Call.step hy ?_
  rw [body_eq t54]
  simp only [c54, c54x1, c54x2, c54x3, c54x4, RUA, RUB, RUC, RUD, RUE, if_true, if_false, ite_true, ite_false, Int.reduceEq, Int.reduceLT, Int.reduceLE, putCells, bslOf, bsaOf, bslS, isUpto, Nat.reduceEqDiff, Pe.step, E.at, List.replicate, Nat.reduceAdd, Nat.reduceSub, Nat.reduceLeDiff, Nat.reduceMul, Pe.intOf, Pe.iop, Pe.sop]
  repeat' ((first | (refine cond_split _ rfl (fun h => ?_) (fun h => ?_)) | (refine gsplit_t _ rfl (fun h => ?_) (fun h => ?_)) | (refine gsplit_f _ rfl (fun h => ?_) (fun h => ?_))) <;> (try simp only [c54, c54x1, c54x2, c54x3, c54x4, RUA, RUB, RUC, RUD, RUE, if_true, if_false, ite_true, ite_false, Int.reduceEq, Int.reduceLT, Int.reduceLE, putCells, bslOf, bsaOf, bslS, isUpto, Nat.reduceEqDiff, Pe.step, E.at, List.replicate, Nat.reduceAdd, Nat.reduceSub, Nat.reduceLeDiff, Nat.reduceMul, Pe.intOf, Pe.iop, Pe.sop, *]))
  all_goals refine ⟨_, _, rfl, ?_⟩
  all_goals simp only [decide_eq_true_eq, decide_eq_false_iff_not] at *
  all_goals first | (rw [hk.1 (by omega)]; rfl) | (rw [hk.2.1 (by omega)]; rfl) | (rw [hk.2.2 (by omega) (by omega) (by omega) (by omega)]; rfl)
theorem all_c {yi : Nat → Sem'} (hy : YLe yi yi) {u : V} {o : List O} {K : V → List O → Prop} (hs : u.solid = true) (hK : K (.fn (.func 64) [] [.pt o.length 0]) (o ++ [.cells u.cells])) : Pe.Call Tryd.prog T yi 51 [u] o K := by
  refine Call.step hy ?_
  rw [body_eq t51]
  simp only [c51, c51x1, RUA, RUB, RUC, RUD, RUE, if_true, if_false, ite_true, ite_false, Int.reduceEq, Int.reduceLT, Int.reduceLE, putCells, bslOf, bsaOf, bslS, isUpto, Nat.reduceEqDiff, Pe.step, E.at, List.replicate, Nat.reduceAdd, Nat.reduceSub, Nat.reduceLeDiff, Nat.reduceMul, Pe.intOf, Pe.iop, Pe.sop, hs]
  exact hK
theorem right_p {x0 : Ex} {u0 : V} (hu0 : IsEx x0 u0) (vars : Int) : PFn Tryd.prog T 29 [u0, iV vars] fun z => z = bV (rightS vars x0) := by
  have hu0' := hu0
  rcases x0 with ⟨k0, n0, m0, l0⟩
  obtain ⟨lv0, vs0, rfl, g1, g2, g3⟩ := hu0
  have hone0 : lv0.one = true := free1_one g1.free
  intro yi hy
  refine Call.step hy ?_
  rw [body_eq t29]
  simp only [c29, c29x1, c29x2, RUA, RUB, RUC, RUD, RUE, if_true, if_false, ite_true, ite_false, Int.reduceEq, Int.reduceLT, Int.reduceLE, putCells, bslOf, bsaOf, bslS, isUpto, Nat.reduceEqDiff, Pe.step, E.at, List.replicate, Nat.reduceAdd, Nat.reduceSub, Nat.reduceLeDiff, Nat.reduceMul, Pe.intOf, Pe.iop, Pe.sop, hone0]
  refine call2 rfl (cm_free hu0'.ok.1 cm_nil) (all_c hy hu0'.solid ?_)
  simp only [c29, c29x1, c29x2, RUA, RUB, RUC, RUD, RUE, if_true, if_false, ite_true, ite_false, Int.reduceEq, Int.reduceLT, Int.reduceLE, putCells, bslOf, bsaOf, bslS, isUpto, Nat.reduceEqDiff, Pe.step, E.at, List.replicate, Nat.reduceAdd, Nat.reduceSub, Nat.reduceLeDiff, Nat.reduceMul, Pe.intOf, Pe.iop, Pe.sop]
  refine ev_rfun rfl ?_
  simp only [List.length_cons, List.length_nil, Nat.reduceAdd, List.cons_append, List.nil_append]
  refine call2 rfl (cm_keep rfl (cm_pt cm_nil)) ?_
  have hy2 := yl_le (ca := Pe.Call Tryd.prog T) (P := Tryd.prog) (T := T) (ps := #[8]) (assign := ra29x0) (body := rb29x0) (cass := c29x3) (cb := c29x4) call_le lfp_le hy 5
  refine Call.step hy2 ?_
  rw [body_eq t64]
  simp only [c64, RUA, RUB, RUC, RUD, RUE, if_true, if_false, ite_true, ite_false, Int.reduceEq, Int.reduceLT, Int.reduceLE, putCells, bslOf, bsaOf, bslS, isUpto, Nat.reduceEqDiff, Pe.step, E.at, List.replicate, Nat.reduceAdd, Nat.reduceSub, Nat.reduceLeDiff, Nat.reduceMul, Pe.intOf, Pe.iop, Pe.sop, hone0]
  obtain ⟨ts, hts⟩ : ∃ ts : List V, ts = (V.agg [iV k0, iV n0, sV m0, lv0] :: iV vars :: V.pt 0 0 :: V.pt 1 0 :: V.pt 2 0 :: .dead :: V.agg [iV k0, iV n0, sV m0, lv0] :: V.fn (Fn.func 64) [] [V.pt 3 0] :: .dead :: .dead :: .dead :: .dead :: .dead :: .dead :: .dead :: .dead :: .dead :: .dead :: .dead :: .dead :: .dead :: .dead :: .dead :: .dead :: .dead :: .dead :: .dead :: .dead :: .dead :: .dead :: .dead :: .dead :: .dead :: .dead :: .dead :: .dead :: .dead :: .dead :: .dead :: .dead :: .dead :: .dead :: .dead :: .dead :: .dead :: .dead :: .dead :: .dead :: .dead :: .dead :: .dead :: .dead :: .dead :: .dead :: .dead :: .dead :: .dead :: .dead :: .dead :: .dead :: .dead :: .dead :: .dead :: .dead :: .dead :: []) := ⟨_, rfl⟩
  rw [← hts]
  generalize hx0 : Ex.mk k0 n0 m0 l0 = x0 at hu0' ⊢
  let J : List Ex → List O → Prop := fun d o => o[5]? = some (.loop .ready none ts #[8] ra29x0 rb29x0 4) ∧ o[4]? = some (.dfd (.sh false)) ∧ o[2]? = some (.cells [bV false]) ∧ o[1]? = some (.cells [iV vars]) ∧ d.all (okN vars) = true
  let F : List O → Prop := fun o => o[5]? = some (.loop .done (some .ret) ts #[8] ra29x0 rb29x0 4) ∧ o[4]? = some (.dfd (.sh false)) ∧ o[2]? = some (.cells [bV false]) ∧ (nodes x0).all (okN vars) = false
  refine call2 rfl (cm_free hu0'.ok.1 (cm_keep rfl cm_nil)) ?_
  refine walk_c hy2 [2, 5] (nodes x0) J F (fun d o o' hj hf => ?_) (fun d x u o K hmem hj hu hT hF => ?_) x0 [] _ _ _ (fun y h => h) ⟨rfl, rfl, rfl, rfl, rfl⟩ (by simp) hu0' (fun o' hj hf => ?_) (fun o' hf => ?_)
  · obtain ⟨h5, h4, h2, h1, hd⟩ := hj
    exact ⟨hf.keep h5 (by simp) (fun _ _ _ _ e => by cases e), hf.keep h4 (by simp) (fun _ _ _ _ e => by cases e), hf.cells h2 (by simp), hf.cells h1 (by simp), hd⟩
  · obtain ⟨h5, h4, h2, h1, hd⟩ := hj
    rw [if_pos rfl]
    refine yl_in h5 rfl ?_
    have hu' := hu
    rcases x with ⟨k, n, nm, l⟩
    obtain ⟨lv, vs, rfl, e1, e2, e3⟩ := hu
    rw [isExs_all] at e3
    have hlen := e3.len
    have hone : lv.one = true := free1_one e1.free
    have hrow := fun o => e1.row o
    have h5lt := get_lt h5
    have hO5 : (o ++ [O.cells [iV k, iV n, sV nm, lv]])[5]? = some (.loop .ready none ts #[8] ra29x0 rb29x0 4) := get_app h5
    have hB5 : ((o ++ [O.cells [iV k, iV n, sV nm, lv]]).set 5 (.loop .busy none ts #[8] ra29x0 rb29x0 4))[5]? = some (.loop .busy none ts #[8] ra29x0 rb29x0 4) := get_set hO5
    have hB4 : ((o ++ [O.cells [iV k, iV n, sV nm, lv]]).set 5 (.loop .busy none ts #[8] ra29x0 rb29x0 4))[4]? = some (.dfd (.sh false)) := get_set_ne (get_app h4) (by omega)
    have hB2 : ((o ++ [O.cells [iV k, iV n, sV nm, lv]]).set 5 (.loop .busy none ts #[8] ra29x0 rb29x0 4))[2]? = some (.cells [bV false]) := get_set_ne (get_app h2) (by omega)
    have hB1 : ((o ++ [O.cells [iV k, iV n, sV nm, lv]]).set 5 (.loop .busy none ts #[8] ra29x0 rb29x0 4))[1]? = some (.cells [iV vars]) := get_set_ne (get_app h1) (by omega)
    have hBL : ((o ++ [O.cells [iV k, iV n, sV nm, lv]]).set 5 (.loop .busy none ts #[8] ra29x0 rb29x0 4))[o.length]? = some (O.cells [iV k, iV n, sV nm, lv]) := get_set_ne get_new (by omega)
    have hBf : Frm o ((o ++ [O.cells [iV k, iV n, sV nm, lv]]).set 5 (.loop .busy none ts #[8] ra29x0 rb29x0 4)) [2, 5] := (Frm.app _ _ _).trans (.set (S := [2, 5]) (by simp)) (fun i hi => .inl hi)
    have hok := okN_iff (vars := vars) (k := k) (n := n) (nm := nm) (l := l)
    have hbad : okN vars (.mk k n nm l) = false → (nodes x0).all (okN vars) = false := fun h => by
      rw [List.all_eq_false]; exact ⟨_, hmem, by simp [h]⟩
    have hB25 : (((o ++ [O.cells [iV k, iV n, sV nm, lv]]).set 5 (.loop .busy none ts #[8] ra29x0 rb29x0 4)).set 2 (.cells [bV false]))[5]? = some (.loop .busy none ts #[8] ra29x0 rb29x0 4) := get_set_ne hB5 (by omega)
    generalize hBB : (o ++ [O.cells [iV k, iV n, sV nm, lv]]).set 5 (.loop .busy none ts #[8] ra29x0 rb29x0 4) = B at hB5 hB4 hB2 hB1 hBL hBf hB25
    have hfin : okN vars (.mk k n nm l) = false → K (bV false) ((B.set 2 (.cells [bV false])).set 5 (.loop .done (some .ret) ts #[8] ra29x0 rb29x0 4)) := fun hb =>
      hF _ ⟨get_set hB25, get_set_ne (get_set_ne hB4 (by omega)) (by omega), get_set_ne (get_set hB2) (by omega), hbad hb⟩
    have hgo : okN vars (.mk k n nm l) = true → K (bV true) (B.set 5 (.loop .ready none ts #[8] ra29x0 rb29x0 4)) := fun hb =>
      hT _ ⟨get_set hB5, get_set_ne hB4 (by omega), get_set_ne hB2 (by omega), get_set_ne hB1 (by omega), by simp [List.all_append, hd, hb]⟩
        (hBf.trans (.set (S := [2, 5]) (by simp)) (fun i hi => .inl hi))
    rw [hts] at hO5 hB5 hB25 hBB hfin hgo ⊢
    clear hF hT hbad hB4 hBf hy2 h5
    simp only [c29, c29x1, c29x2, c29x3, c29x4, c29x5, c29x6, c29x7, c29x8, RUA, RUB, RUC, RUD, RUE, if_true, if_false, ite_true, ite_false, Int.reduceEq, Int.reduceLT, Int.reduceLE, putCells, bslOf, bsaOf, bslS, isUpto, Nat.reduceEqDiff, Pe.step, E.at, List.replicate, Nat.reduceAdd, Nat.reduceSub, Nat.reduceLeDiff, Nat.reduceMul, Pe.intOf, Pe.iop, Pe.sop, List.zip_cons_cons, List.zip_nil_left, setTs, hO5, hBB, hB5, hB1, hB2, hBL, hone]
    repeat' ((first | (refine cond_split _ rfl (fun h => ?_) (fun h => ?_)) | (refine gsplit_t _ rfl (fun h => ?_) (fun h => ?_)) | (refine gsplit_f _ rfl (fun h => ?_) (fun h => ?_)) | (refine (kids_p _).callE rfl rfl rfl ?_)) <;> (try simp only [c29, c29x1, c29x2, c29x3, c29x4, c29x5, c29x6, c29x7, c29x8, RUA, RUB, RUC, RUD, RUE, if_true, if_false, ite_true, ite_false, Int.reduceEq, Int.reduceLT, Int.reduceLE, putCells, bslOf, bsaOf, bslS, isUpto, Nat.reduceEqDiff, Pe.step, E.at, List.replicate, Nat.reduceAdd, Nat.reduceSub, Nat.reduceLeDiff, Nat.reduceMul, Pe.intOf, Pe.iop, Pe.sop, hone, hrow, hB5, hB1, hB2, hBL, hB25, jumpOf, Option.isNone_none, Option.isNone_some, emp0, h, hlen]))
    all_goals clear hO5 hB5 hB1 hB2 hBL hB25 hBB
    all_goals simp only [decide_eq_true_eq, decide_eq_false_iff_not, Bool.not_eq_true', Bool.not_eq_false', beq_iff_eq, beq_eq_false_iff_ne, ne_eq] at *
    all_goals first
      | (refine hgo (hok.2 ⟨⟨by omega, by omega⟩, by assumption, by omega, by omega, by omega, by omega⟩))
      | (refine hfin (Bool.eq_false_iff.2 fun hc => ?_)
         obtain ⟨⟨a1, a2⟩, a3, a4, a5, a6, a7⟩ := hok.1 hc
         first | omega | contradiction)
  · obtain ⟨h5, h4, h2, h1, hd⟩ := hj
    have hr : rightS vars x0 = true := hd
    rw [hr]
    refine rEnd_in h5 (by simp) rfl ?_
    have k4 : (o'.set (4 + 1) (.loop .exhausted none ts #[8] ra29x0 rb29x0 4))[4]? = some (.dfd (.sh false)) := get_set_ne h4 (by omega)
    have k2 : (o'.set (4 + 1) (.loop .exhausted none ts #[8] ra29x0 rb29x0 4))[2]? = some (.cells [bV false]) := get_set_ne h2 (by omega)
    generalize o'.set (4 + 1) (.loop .exhausted none ts #[8] ra29x0 rb29x0 4) = B at k4 k2
    have k5 : (B.set 2 (.cells [bV true]))[4]? = some (.dfd (.sh false)) := get_set_ne k4 (by omega)
    have k6 : ((B.set 2 (.cells [bV true])).set 4 (.dfd (.sh true)))[2]? = some (.cells [bV true]) := get_set_ne (get_set k2) (by omega)
    subst hts
    simp only [c29, c29x1, c29x2, c29x3, c29x4, c29x5, c29x6, c29x7, c29x8, RUA, RUB, RUC, RUD, RUE, if_true, if_false, ite_true, ite_false, Int.reduceEq, Int.reduceLT, Int.reduceLE, putCells, bslOf, bsaOf, bslS, isUpto, Nat.reduceEqDiff, Pe.step, E.at, List.replicate, Nat.reduceAdd, Nat.reduceSub, Nat.reduceLeDiff, Nat.reduceMul, Pe.intOf, Pe.iop, Pe.sop, k2, retK_one k5, k6, rets]
    exact ⟨_, _, rfl, rfl⟩
  · obtain ⟨h5, h4, h2, hd⟩ := hf
    have hr : rightS vars x0 = false := hd
    rw [hr]
    refine rEnd_in h5 (by simp) rfl ?_
    have k4 : (o'.set (4 + 1) (.loop .exhausted (some .ret) ts #[8] ra29x0 rb29x0 4))[4]? = some (.dfd (.sh false)) := get_set_ne h4 (by omega)
    have k2 : (o'.set (4 + 1) (.loop .exhausted (some .ret) ts #[8] ra29x0 rb29x0 4))[2]? = some (.cells [bV false]) := get_set_ne h2 (by omega)
    generalize o'.set (4 + 1) (.loop .exhausted (some .ret) ts #[8] ra29x0 rb29x0 4) = B at k4 k2
    have k6 : (B.set 4 (.dfd (.sh true)))[2]? = some (.cells [bV false]) := get_set_ne k2 (by omega)
    subst hts
    simp only [c29, c29x1, c29x2, c29x3, c29x4, c29x5, c29x6, c29x7, c29x8, RUA, RUB, RUC, RUD, RUE, if_true, if_false, ite_true, ite_false, Int.reduceEq, Int.reduceLT, Int.reduceLE, putCells, bslOf, bsaOf, bslS, isUpto, Nat.reduceEqDiff, Pe.step, E.at, List.replicate, Nat.reduceAdd, Nat.reduceSub, Nat.reduceLeDiff, Nat.reduceMul, Pe.intOf, Pe.iop, Pe.sop, k2, retK_one k4, k6, rets]
    exact ⟨_, _, rfl, rfl⟩
end Go.Proofs.YtjfnhpnfkknmoaaDoor

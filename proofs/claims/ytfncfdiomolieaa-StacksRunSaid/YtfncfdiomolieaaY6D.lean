/- A part of the texts that the claim's proof needs: functions of the program as the evaluator reads them, and what they come to. Conditions: those that its theorems state. -/
import Derived.Test.YtfncfdiomolieaaY6C
set_option linter.unusedVariables false
set_option linter.unusedSimpArgs false
set_option maxHeartbeats 1000000
namespace Go.Proofs.Ytfncfdiomolieaa
open Go.Proofs.Pe

/-! ### What is told is written no more -/
def IsStk (S : List (List Tm)) (v : V) : Prop := ∃ rows, IsSl 1 v rows ∧ rows.length ≤ cap ∧ All2 IsRow S rows
theorem IsStk.freeV {S : List (List Tm)} {v : V} (h : IsStk S v) : v.free = true := by obtain ⟨_, h, _⟩ := h; exact h.freeV
theorem nest_fz : ∀ {ws : List V} {S : List (List Tm)} {o : List O} {lo : Nat}, Nest o ws S lo → ∃ rows o1, step.freezes' o ws = some (rows, o1) ∧ All2 IsRow S rows ∧ ∀ (i : Nat), (∀ (j v : Nat), ws[j]? ≠ some (V.ar i v)) → o1[i]? = o[i]?
  | [], S, o, lo, h => by
    have : S = [] := List.length_eq_zero_iff.1 (by simpa using h.len.symm)
    subst this
    exact ⟨[], o, rfl, rfl, fun _ _ => rfl⟩
  | w :: ws, S, o, lo, h => by
    obtain ⟨ts, S', rfl⟩ : ∃ ts S', S = ts :: S' := by
      cases S with
      | nil => have := h.len; simp at this
      | cons a b => exact ⟨a, b, rfl⟩
    obtain ⟨vs, h1, hc, h2⟩ := h.row 0 w ts rfl rfl
    obtain ⟨r, o1, f1, f2, f3⟩ := h1.fz (h2.free fun x v h => h.ok.1)
    have hN : Nest o1 ws S' lo := by
      refine ⟨by have := h.len; simpa using this, fun i u ts' hu hs => ?_, fun i j l v v' hi hj => ?_, fun i l v hi => h.lo (i + 1) l v (by simpa using hi)⟩
      · obtain ⟨vs', g1, g2⟩ := h.row (i + 1) u ts' (by simpa using hu) (by simpa using hs)
        refine ⟨vs', g1.same fun l v e => f3 l fun v' e' => ?_, g2⟩
        subst e e'
        have := h.inj 0 (i + 1) l v' v rfl (by simpa using hu)
        omega
      · have := h.inj (i + 1) (j + 1) l v v' (by simpa using hi) (by simpa using hj); omega
    obtain ⟨rows, o2, g1, g2, g3⟩ := nest_fz hN
    refine ⟨r :: rows, o2, by simp [step.freezes', f1, g1], ⟨r, rows, rfl, ⟨vs, f2, hc, h2⟩, g2⟩, fun i hi => ?_⟩
    rw [g3 i fun j v e => hi (j + 1) v (by simpa using e), f3 i fun v e => hi 0 v (by rw [e]; rfl)]
theorem nest_frz {o : List O} {L v lo : Nat} {ws : List V} {S : List (List Tm)} (hL : o[L]? = some (.arr v true 1 ws)) (h : Nest o ws S lo) (hs : S.length ≤ cap) : ∃ z o2, freezeT o (.ar L v) = some (z, o2) ∧ IsStk S z := by
  by_cases hf : ws.all V.free = true
  · refine ⟨.sl 1 false ws, o.set L (.arr v false 1 ws), by simp [freezeT, freezeD, hL, hf], ws, .inr ⟨_, rfl⟩, by rw [h.len]; exact hs, .of h.len fun i w ts hw ht => ?_⟩
    obtain ⟨vs, h1, hc, h2⟩ := h.row i w ts hw ht
    simp only [List.all_eq_true] at hf
    have := hf w (List.mem_of_getElem? hw)
    rcases h1 with ⟨rfl, rfl⟩ | ⟨rfl, rfl⟩ | ⟨l, v, rfl, _⟩
    · exact ⟨[], .inl ⟨rfl, rfl⟩, by simp, h2⟩
    · exact ⟨[], .inr ⟨true, rfl⟩, by simp, h2⟩
    · cases this
  · obtain ⟨rows, o1, h1, h2, h3⟩ := nest_fz h
    have hL1 : o1[L]? = some (.arr v true 1 ws) := by
      rw [h3 L fun j v' e => ?_]; exact hL
      obtain ⟨vs, g1, _⟩ := h.row j _ _ e (List.getElem?_eq_getElem (by rw [← h.len]; exact (List.getElem?_eq_some_iff.1 e).1))
      rcases g1 with ⟨e, _⟩ | ⟨e, _⟩ | ⟨l, v2, e, g⟩
      · cases e
      · cases e
      · cases e; rw [hL] at g; cases g
    have hc : (rows.all fun y => decide (y.cells.length = 1)) = true := by
      simp only [List.all_eq_true, decide_eq_true_eq]
      intro y hy
      obtain ⟨ts, _, hr⟩ := h2.mem hy
      exact hr.ok.2
    refine ⟨.sl 1 false rows, (o1.set L (.arr v true 1 rows)).set L (.arr v false 1 rows), ?_, rows, .inr ⟨_, rfl⟩, by rw [h2.len]; exact hs, h2⟩
    simp only [freezeT, freezeD, hL, if_true, if_neg hf, h1, hL1, hc, and_self]

/-! ### One row is turned -/
theorem Nest.turn {o o' : List O} {ws : List V} {S : List (List Tm)} {lo : Nat} (h : Nest o ws S lo) {at' : Nat} {w' : V} {ts : List Tm} {vs : List V} (ha : at' < S.length) (hw : Fresh w' o' 9 vs) (hc : vs.length ≤ cap) (ht : All2 IsTm ts vs)
    (hsame : ∀ (i l v : Nat), i ≠ at' → ws[i]? = some (V.ar l v) → o'[l]? = o[l]?)
    (hdis : ∀ (i l v v' : Nat), i ≠ at' → ws[i]? = some (V.ar l v) → w' ≠ .ar l v') (hlo : ∀ (l v : Nat), w' = V.ar l v → lo ≤ l) : Nest o' (ws.set at' w') (S.set at' ts) lo := by
  have hl := h.len
  have hwl : at' < ws.length := by omega
  have sp : ∀ (i : Nat) (u : V), (ws.set at' w')[i]? = some u → (i = at' ∧ u = w') ∨ (i ≠ at' ∧ ws[i]? = some u) := fun i u hu => by
    rw [List.getElem?_set] at hu
    split at hu
    · rename_i e; subst e; simp [hwl] at hu; exact .inl ⟨rfl, hu.symm⟩
    · rename_i e; exact .inr ⟨fun h => e h.symm, hu⟩
  refine ⟨by simp [hl], fun i u ts' hu hs => ?_, fun i j l v v' hi hj => ?_, fun i l v hi => ?_⟩
  · rcases sp i u hu with ⟨rfl, rfl⟩ | ⟨hne, hu⟩
    · simp [ha] at hs; subst hs; exact ⟨vs, hw, hc, ht⟩
    · rw [List.getElem?_set_ne (fun e => hne e.symm)] at hs
      obtain ⟨vs', g1, g2⟩ := h.row i u ts' hu hs
      exact ⟨vs', g1.same fun l v e => hsame i l v hne (by rw [hu, e]), g2⟩
  · rcases sp i _ hi with ⟨rfl, e1⟩ | ⟨hi1, hi2⟩ <;> rcases sp j _ hj with ⟨rfl, e2⟩ | ⟨hj1, hj2⟩
    · rfl
    · exact absurd e1.symm (hdis j l v' v hj1 hj2)
    · exact absurd e2.symm (hdis i l v v' hi1 hi2)
    · exact h.inj i j l v v' hi2 hj2
  · rcases sp i _ hi with ⟨rfl, e1⟩ | ⟨hi1, hi2⟩
    · exact hlo l v e1.symm
    · exact h.lo i l v hi2
theorem zeroTm : IsTm (.mk 0 0 0 (ByteArray.mk #[]) (.mk 0 0 (ByteArray.mk #[]) []) []) (.agg [iV 0, iV 0, iV 0, sV (ByteArray.mk #[]), iV 0, iV 0, sV (ByteArray.mk #[]), nilV, nilV]) :=
  ⟨nilV, [], nilV, [], rfl, .inl ⟨rfl, rfl⟩, by simp, rfl, .inl ⟨rfl, rfl⟩, by simp, rfl⟩
theorem set_get_self {o : List O} {L : Nat} {a b : O} (h : o[L]? = some a) : (o.set L b)[L]? = some b := get_set h
theorem IsSl.atV {v : V} {rows : List V} (h : IsSl 1 v rows) {i : Nat} {w : V} (hw : rows[i]? = some w) (o : List O) : ixOf 1 o v (iV i) = some (.ep w.cells, o) := h.ix o hw

theorem push_ok {v t : V} {S : List (List Tm)} {x : Tm} {at' : Nat} (hv : IsStk S v) (ht : IsTm x t) (ha : at' < S.length) (hb : ∀ r, r ∈ S → r.length < cap) :
    PFn Try.prog T 15 [v, iV at', t] (IsStk (S.set at' (S.getD at' [] ++ [x]))) := by
  obtain ⟨rows, v1, v2, v3⟩ := hv
  have hlen := v3.len
  have hSc : S.length ≤ cap := by rw [← hlen]; exact v2
  have htt := ht
  rcases x with ⟨k, a, b, nm, ⟨ek, en, em, el⟩, tl⟩
  obtain ⟨ev, evs, lv, vs, rfl, e1, e2, e3, e4, e5, e6⟩ := ht
  intro yi hy
  refine Call.step hy ?_
  rw [body_eq t15]
  have hone : lv.one = true := free1_one e4.free
  have hone0 : ev.one = true := free1_one e1.free
  simp only [c15, c15x1, c15x2, List.take_succ_cons, putCells, get_new, set_new, s_skip, s_regs, s_regd, s_seq, s_ct, s_cf, s_gt, s_gf, condV_b, guardV_t, guardV_f, guardV_u, s_block, s_loop, s_kill, s_exit, s_scope, s_label, s_goto, s_ret, s_nil, s_cons, s_rnil, s_rop, s_rrd, s_ralt, s_rsnil, s_rscons, optEv_some, optEv_none, s_gn, bslOf, bsaOf, bslS, isUpto, elems_zero, elems_cons, Nat.reduceEqDiff, decide_true, decide_false, q_alloc, q_box, q_mv, q_pick, q_bld, q_bsl, q_bsa, q_mks, q_load, q_store, q_nilck, q_cmpnil, q_fad, q_fld, q_iad, q_slc, q_len, q_app, q_msl, q_s2b, q_b2s, q_mkf, q_ext, q_bin, q_not, q_neg, q_cvi, q_slen, q_sidx, q_mm, q_call, Pe.step, ev_tmp, ev_lit, E.at, oK_none, oK_some, putT_some, putT_none, killTs_cons, killTs_nil, List.set_cons_succ, List.set_cons_zero, List.getD_cons_succ, List.getD_cons_zero, List.map_cons, List.map_nil, List.length_cons, List.length_nil, List.replicate, List.cons_append, List.nil_append, List.append_nil, Nat.reduceAdd, Nat.reduceSub, Nat.reduceLeDiff, Nat.reduceMul, Pe.intOf, row_sl, row_nil, Pe.iop, Pe.sop, beq_self_eq_true, bb1, bb2, bb3, bb4, q_beq, d_beq, cells_sc, solid_sc, one_sc, cells_sl, solid_sl, one_sl, cells_ar, solid_ar, one_ar, cells_pt, solid_pt, one_pt, cells_pa, solid_pa, one_pa, cells_ep, solid_ep, one_ep, cells_fn, solid_fn, one_fn, free_sc, free1_sc, free_sl, free1_sl, free_ar, free1_ar, free_pt, free1_pt, free_pa, free1_pa, free_ep, free1_ep, cells_agg, solid_agg, free_agg, part_at, part_agg, List.all_cons, List.all_nil, Bool.and_true, Bool.true_and, Bool.and_false, Bool.false_and, List.drop_zero, List.take_zero, List.getElem?_cons_zero, List.getElem?_cons_succ, List.getElem?_nil, Bool.not_true, Bool.not_false, Bool.false_eq_true, if_true, if_false, Option.map_some, Option.map_none, Option.bind_eq_bind, Option.pure_def, Option.bind_some, Option.bind_none, Option.getD_some, Option.getD_none, shut_nil, rets_nil, rets_tmp, endK_normal, endK_ret, retK_nil, outK_one, outK_nil, outK_two, cast_lit, d_load, d_nilck, d_fad, d_iad, d_len, d_b2s, d_bsl, d_apz, d_mv, d_pick, d_bld, d_cmpnil, d_fld, d_mkf, d_ext, d_bin, d_not, d_neg, d_cvi, d_slen, d_sidx, d_idxb, d_mm, d_sca, depL_pt, depL_ep, depL_pa, depP_pt, depP_ep, depP_fn, depP_pa, depA_sl, depA_sc, depA_ar, depL_le, depP_le, depA_le, depB_le, depP_l3, depA_l3, okR_z, okR_11, okR_12, okR_21, okR_41, okR_43, depB_sl, depB_sc, depB_ar, depB_vw, depA_vw, q_aia, d_aia, Pe.zero_le, Nat.zero_add, Nat.add_zero, true_and, and_true, ite_true, ite_false, hone, hone0]
  refine call3 rfl (cm_free v1.freeV cm_nil) (own_c v1 v3 v2 noY_le fun z o1 hf hN => ⟨hf.sim, ?_⟩)
  rcases hN with ⟨_, h0⟩ | ⟨L, v, ws, rfl, hL, hn, hLo, hne⟩
  · rw [h0] at ha; simp at ha
  have hwl := hn.len
  have hrow : rowOf o1 (.ar L v) = some ws := by simp only [rowOf, hL, if_true]
  refine call4 rfl (is_c hrow (by omega) hy ?_)
  have haw : at' < ws.length := by omega
  have hx : ws[at']? = some ws[at'] := List.getElem?_eq_getElem haw
  have hSx : S[at']? = some S[at'] := List.getElem?_eq_getElem ha
  obtain ⟨us, r1, r2, r3⟩ := hn.row at' _ _ hx hSx
  generalize hgw : ws[at'] = w at hx r1
  have hI : ixOf 1 o1 (.ar L v) (iV at') = some (.pa L v at' 0, o1) := by simp [ixOf, intOf, hL, haw]
  have hcells := hf.cells (l := 0) rfl (by simp)
  have hro := r1.row
  obtain ⟨hw1, hw2, hw3⟩ := r1.solid
  simp only [c15, c15x1, c15x2, c15x3, c15x3, List.take_succ_cons, putCells, get_new, set_new, s_skip, s_regs, s_regd, s_seq, s_ct, s_cf, s_gt, s_gf, condV_b, guardV_t, guardV_f, guardV_u, s_block, s_loop, s_kill, s_exit, s_scope, s_label, s_goto, s_ret, s_nil, s_cons, s_rnil, s_rop, s_rrd, s_ralt, s_rsnil, s_rscons, optEv_some, optEv_none, s_gn, bslOf, bsaOf, bslS, isUpto, elems_zero, elems_cons, Nat.reduceEqDiff, decide_true, decide_false, q_alloc, q_box, q_mv, q_pick, q_bld, q_bsl, q_bsa, q_mks, q_load, q_store, q_nilck, q_cmpnil, q_fad, q_fld, q_iad, q_slc, q_len, q_app, q_msl, q_s2b, q_b2s, q_mkf, q_ext, q_bin, q_not, q_neg, q_cvi, q_slen, q_sidx, q_mm, q_call, Pe.step, ev_tmp, ev_lit, E.at, oK_none, oK_some, putT_some, putT_none, killTs_cons, killTs_nil, List.set_cons_succ, List.set_cons_zero, List.getD_cons_succ, List.getD_cons_zero, List.map_cons, List.map_nil, List.length_cons, List.length_nil, List.replicate, List.cons_append, List.nil_append, List.append_nil, Nat.reduceAdd, Nat.reduceSub, Nat.reduceLeDiff, Nat.reduceMul, Pe.intOf, row_sl, row_nil, Pe.iop, Pe.sop, beq_self_eq_true, bb1, bb2, bb3, bb4, q_beq, d_beq, cells_sc, solid_sc, one_sc, cells_sl, solid_sl, one_sl, cells_ar, solid_ar, one_ar, cells_pt, solid_pt, one_pt, cells_pa, solid_pa, one_pa, cells_ep, solid_ep, one_ep, cells_fn, solid_fn, one_fn, free_sc, free1_sc, free_sl, free1_sl, free_ar, free1_ar, free_pt, free1_pt, free_pa, free1_pa, free_ep, free1_ep, cells_agg, solid_agg, free_agg, part_at, part_agg, List.all_cons, List.all_nil, Bool.and_true, Bool.true_and, Bool.and_false, Bool.false_and, List.drop_zero, List.take_zero, List.getElem?_cons_zero, List.getElem?_cons_succ, List.getElem?_nil, Bool.not_true, Bool.not_false, Bool.false_eq_true, if_true, if_false, Option.map_some, Option.map_none, Option.bind_eq_bind, Option.pure_def, Option.bind_some, Option.bind_none, Option.getD_some, Option.getD_none, shut_nil, rets_nil, rets_tmp, endK_normal, endK_ret, retK_nil, outK_one, outK_nil, outK_two, cast_lit, d_load, d_nilck, d_fad, d_iad, d_len, d_b2s, d_bsl, d_apz, d_mv, d_pick, d_bld, d_cmpnil, d_fld, d_mkf, d_ext, d_bin, d_not, d_neg, d_cvi, d_slen, d_sidx, d_idxb, d_mm, d_sca, depL_pt, depL_ep, depL_pa, depP_pt, depP_ep, depP_fn, depP_pa, depA_sl, depA_sc, depA_ar, depL_le, depP_le, depA_le, depB_le, depP_l3, depA_l3, okR_z, okR_11, okR_12, okR_21, okR_41, okR_43, depB_sl, depB_sc, depB_ar, depB_vw, depA_vw, q_aia, d_aia, Pe.zero_le, Nat.zero_add, Nat.add_zero, true_and, and_true, ite_true, ite_false, hI, hL, hx, hw2, hcells, hro, depL_pa]
  have hgd : S.getD at' [] = S[at'] := by rw [List.getD_eq_getElem?_getD, hSx]; rfl
  have hul : us.length < cap := by rw [r3.len]; exact hb _ (List.getElem_mem ha)
  unfold cap at hul hSc
  generalize hzv : (V.agg [iV 0, iV 0, iV 0, sV (ByteArray.mk #[]), iV 0, iV 0, sV (ByteArray.mk #[]), nilV, nilV]) = zv
  have hzt := zeroTm
  rw [hzv] at hzt
  obtain ⟨l2, v2', o2, hap, hl2, hlen2, hsame, hor⟩ := r1.push (b := 120) (f := true) (y := zv) (okRow1 hzt.ok).s (by unfold room; omega)
  have hLl : L ≠ l2 := fun e => by
    rcases hor with ⟨v0, rfl⟩ | h
    · rcases r1 with ⟨e', _⟩ | ⟨e', _⟩ | ⟨l, v9, e', h⟩
      · cases e'
      · cases e'
      · cases e'; rw [← e, hL] at h; cases h
    · have := get_lt hL; omega
  have hL2 : o2[L]? = some (.arr v true 1 ws) := by rw [hsame L hLl (get_lt hL)]; exact hL
  have hI2 : ixOf 9 o2 (.ar l2 v2') (iV us.length) = some (.pa l2 v2' us.length 0, o2) := by simp [ixOf, intOf, hl2]; omega
  have hI3 : ixOf 1 o2 (.ar L v) (iV at') = some (.pa L v at' 0, o2) := by simp [ixOf, intOf, hL2, haw]
  have hel : (us ++ [zv])[us.length]? = some zv := by simp
  have hA : ∀ b, (o2.set l2 b)[L]? = some (.arr v true 1 ws) := fun b => get_set_ne hL2 (fun e => hLl e.symm)
  have hB : ∀ b, (o2.set L b)[l2]? = some (.arr v2' true 9 (us ++ [zv])) := fun b => get_set_ne hl2 hLl
  have hzl := hzt.ok.2
  have hwc : w.cells.length = 1 := by rw [hw2]; rfl
  have fin : ∀ z' o3, IsTm (.mk k a b nm (.mk ek en em el) tl) z' → o3[L]? = some (.arr v true 1 (ws.set at' (.ar l2 v2'))) → o3[l2]? = some (.arr v2' true 9 ((us ++ [zv]).set us.length z')) → (∀ i, i ≠ l2 → i ≠ L → i < o1.length → o3[i]? = o1[i]?) →
      ∃ z o2, freezeT o3 (.ar L v) = some (z, o2) ∧ IsStk (S.set at' (S[at'] ++ [.mk k a b nm (.mk ek en em el) tl])) z := fun z' o3 hz h1 h2 h3 => by
    have e9 : (us ++ [zv]).set us.length z' = us ++ [z'] := by simp
    rw [e9] at h2
    refine nest_frz (lo := 0) h1 (Nest.turn (o := o1) (lo := 0) ⟨hn.len, hn.row, hn.inj, fun _ _ _ _ => Nat.zero_le _⟩ ha (.inr (.inr ⟨l2, v2', rfl, h2⟩)) (by simp [cap]; omega) (r3.snoc hz) (fun i l v0 hne' hi => ?_) (fun i l v0 v1 hne' hi e => ?_) (fun _ _ _ => Nat.zero_le _)) (by simp [cap]; omega)
    · refine h3 l (fun e => ?_) (fun e => ?_) (hn.bound hi)
      · subst e
        rcases hor with ⟨v9, rfl⟩ | h
        · exact hne' (hn.inj i at' _ _ _ hi hx)
        · have := hn.bound hi; omega
      · subst e
        obtain ⟨vs', g1, _⟩ := hn.row i _ _ hi (List.getElem?_eq_getElem (by rw [← hn.len]; exact (List.getElem?_eq_some_iff.1 hi).1))
        rcases g1 with ⟨e', _⟩ | ⟨e', _⟩ | ⟨l', v9, e', h⟩
        · cases e'
        · cases e'
        · cases e'; rw [hL] at h; cases h
    · cases e
      rcases hor with ⟨v9, rfl⟩ | h
      · exact hne' (hn.inj i at' _ _ _ hi hx)
      · have := hn.bound hi; omega
  rw [hgd]
  refine ⟨(ownTm _ htt).callF rfl (by simpa using htt.ok.1) fun z' hz' => ?_, (ownTm _ htt).callF rfl (by simpa using htt.ok.1) fun z' hz' => ?_⟩
  all_goals
    have hz9 := hz'.ok
    have hz10 := free_solid hz9.1
    simp only [hap, hI2, hI3, hl2, hL2, hA, hB, hel, hx, hz9.2, hz10, hzl, hwc, List.take_succ_cons, putCells, get_new, set_new, s_skip, s_regs, s_regd, s_seq, s_ct, s_cf, s_gt, s_gf, condV_b, guardV_t, guardV_f, guardV_u, s_block, s_loop, s_kill, s_exit, s_scope, s_label, s_goto, s_ret, s_nil, s_cons, s_rnil, s_rop, s_rrd, s_ralt, s_rsnil, s_rscons, optEv_some, optEv_none, s_gn, bslOf, bsaOf, bslS, isUpto, elems_zero, elems_cons, Nat.reduceEqDiff, decide_true, decide_false, q_alloc, q_box, q_mv, q_pick, q_bld, q_bsl, q_bsa, q_mks, q_load, q_store, q_nilck, q_cmpnil, q_fad, q_fld, q_iad, q_slc, q_len, q_app, q_msl, q_s2b, q_b2s, q_mkf, q_ext, q_bin, q_not, q_neg, q_cvi, q_slen, q_sidx, q_mm, q_call, Pe.step, ev_tmp, ev_lit, E.at, oK_none, oK_some, putT_some, putT_none, killTs_cons, killTs_nil, List.set_cons_succ, List.set_cons_zero, List.getD_cons_succ, List.getD_cons_zero, List.map_cons, List.map_nil, List.length_cons, List.length_nil, List.replicate, List.cons_append, List.nil_append, List.append_nil, Nat.reduceAdd, Nat.reduceSub, Nat.reduceLeDiff, Nat.reduceMul, Pe.intOf, row_sl, row_nil, Pe.iop, Pe.sop, beq_self_eq_true, bb1, bb2, bb3, bb4, q_beq, d_beq, cells_sc, solid_sc, one_sc, cells_sl, solid_sl, one_sl, cells_ar, solid_ar, one_ar, cells_pt, solid_pt, one_pt, cells_pa, solid_pa, one_pa, cells_ep, solid_ep, one_ep, cells_fn, solid_fn, one_fn, free_sc, free1_sc, free_sl, free1_sl, free_ar, free1_ar, free_pt, free1_pt, free_pa, free1_pa, free_ep, free1_ep, cells_agg, solid_agg, free_agg, part_at, part_agg, List.all_cons, List.all_nil, Bool.and_true, Bool.true_and, Bool.and_false, Bool.false_and, List.drop_zero, List.take_zero, List.getElem?_cons_zero, List.getElem?_cons_succ, List.getElem?_nil, Bool.not_true, Bool.not_false, Bool.false_eq_true, if_true, if_false, Option.map_some, Option.map_none, Option.bind_eq_bind, Option.pure_def, Option.bind_some, Option.bind_none, Option.getD_some, Option.getD_none, shut_nil, rets_nil, rets_tmp, endK_normal, endK_ret, retK_nil, outK_one, outK_nil, outK_two, cast_lit, d_load, d_nilck, d_fad, d_iad, d_len, d_b2s, d_bsl, d_apz, d_mv, d_pick, d_bld, d_cmpnil, d_fld, d_mkf, d_ext, d_bin, d_not, d_neg, d_cvi, d_slen, d_sidx, d_idxb, d_mm, d_sca, depL_pt, depL_ep, depL_pa, depP_pt, depP_ep, depP_fn, depP_pa, depA_sl, depA_sc, depA_ar, depL_le, depP_le, depA_le, depB_le, depP_l3, depA_l3, okR_z, okR_11, okR_12, okR_21, okR_41, okR_43, depB_sl, depB_sc, depB_ar, depB_vw, depA_vw, q_aia, d_aia, Pe.zero_le, Nat.zero_add, Nat.add_zero, true_and, and_true, ite_true, ite_false, c15, c15x1, c15x2, c15x3, c15x4]
    refine ⟨fin z' _ hz' ?_ ?_ fun i h1 h2 h3 => ?_, fin z' _ hz' ?_ ?_ fun i h1 h2 h3 => ?_⟩
    · exact get_set (hA _)
    · rw [List.getElem?_set_ne hLl]; exact get_set hl2
    · rw [List.getElem?_set_ne (fun e => h2 e.symm), List.getElem?_set_ne (fun e => h1 e.symm)]; exact hsame i h1 h3
    · rw [List.getElem?_set_ne hLl.symm]; exact get_set hL2
    · exact get_set (hB _)
    · rw [List.getElem?_set_ne (fun e => h1 e.symm), List.getElem?_set_ne (fun e => h2 e.symm)]; exact hsame i h1 h3
end Go.Proofs.Ytfncfdiomolieaa

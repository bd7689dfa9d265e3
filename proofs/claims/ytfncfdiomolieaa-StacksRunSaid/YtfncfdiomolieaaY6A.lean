/- A part of the texts that the claim's proof needs: functions of the program as the evaluator reads them, and what they come to. Conditions: those that its theorems state. -/
import Derived.Test.YtfncfdiomolieaaY6Code
import Derived.Test.YtfncfdiomolieaaPeC
set_option linter.unusedVariables false
set_option linter.unusedSimpArgs false
namespace Go.Proofs.Ytfncfdiomolieaa
open Go.Proofs.Pe

/-! ### Expressions and processes -/
inductive Ex where
  | mk (k n : Int) (nm : ByteArray) (l : List Ex)
inductive Tm where
  | mk (k a b : Int) (nm : ByteArray) (e : Ex) (l : List Tm)
def cap : Nat := 1000000000
abbrev sV (s : ByteArray) : V := .sc (.string s)
mutual
def IsEx : Ex → V → Prop
  | .mk k n nm l, v => ∃ lv vs, v = .agg [iV k, iV n, sV nm, lv] ∧ IsSl 4 lv vs ∧ vs.length ≤ cap ∧ IsExs l vs
def IsExs : List Ex → List V → Prop
  | [], vs => vs = []
  | x :: l, vs => ∃ v ws, vs = v :: ws ∧ IsEx x v ∧ IsExs l ws
end
mutual
def IsTm : Tm → V → Prop
  | .mk k a b nm (.mk ek en em el) l, v => ∃ ev evs lv vs, v = .agg [iV k, iV a, iV b, sV nm, iV ek, iV en, sV em, ev, lv] ∧ IsSl 4 ev evs ∧ evs.length ≤ cap ∧ IsExs el evs ∧ IsSl 9 lv vs ∧ vs.length ≤ cap ∧ IsTms l vs
def IsTms : List Tm → List V → Prop
  | [], vs => vs = []
  | x :: l, vs => ∃ v ws, vs = v :: ws ∧ IsTm x v ∧ IsTms l ws
end
/-- One by one. -/
def All2 {α : Type} (R : α → V → Prop) : List α → List V → Prop
  | [], vs => vs = []
  | x :: l, vs => ∃ v ws, vs = v :: ws ∧ R x v ∧ All2 R l ws
theorem isExs_all : ∀ {l : List Ex} {vs : List V}, IsExs l vs ↔ All2 IsEx l vs
  | [], vs => by simp only [IsExs, All2]
  | x :: l, vs => by simp only [IsExs, All2, isExs_all]
theorem isTms_all : ∀ {l : List Tm} {vs : List V}, IsTms l vs ↔ All2 IsTm l vs
  | [], vs => by simp only [IsTms, All2]
  | x :: l, vs => by simp only [IsTms, All2, isTms_all]
section
variable {α : Type} {R : α → V → Prop}
theorem All2.len : ∀ {l : List α} {vs : List V}, All2 R l vs → vs.length = l.length
  | [], vs, h => by rw [show vs = [] from h]; rfl
  | x :: l, vs, h => by obtain ⟨v, ws, rfl, _, h2⟩ := h; simp [h2.len]
theorem All2.get : ∀ {l : List α} {vs : List V}, All2 R l vs → ∀ {i : Nat} {v : V} {x : α}, vs[i]? = some v → l[i]? = some x → R x v
  | [], vs, h, i, v, x, hv, hx => by simp at hx
  | y :: l, vs, h, i, v, x, hv, hx => by
    obtain ⟨w, ws, rfl, h1, h2⟩ := h
    cases i with
    | zero => simp at hv hx; subst hv hx; exact h1
    | succ i => simp at hv hx; exact h2.get hv hx
theorem All2.of : ∀ {l : List α} {vs : List V}, vs.length = l.length → (∀ (i : Nat) (v : V) (x : α), vs[i]? = some v → l[i]? = some x → R x v) → All2 R l vs
  | [], vs, hl, _ => List.length_eq_zero_iff.1 (by simpa using hl)
  | x :: l, [], hl, _ => by simp at hl
  | x :: l, v :: vs, hl, h => ⟨v, vs, rfl, h 0 v x rfl rfl, All2.of (by simpa using hl) fun i v' x' hv hx => h (i + 1) v' x' (by simpa using hv) (by simpa using hx)⟩
theorem All2.snoc : ∀ {l : List α} {vs : List V}, All2 R l vs → ∀ {x : α} {v : V}, R x v → All2 R (l ++ [x]) (vs ++ [v])
  | [], vs, h, x, v, hr => by rw [show vs = [] from h]; exact ⟨v, [], rfl, hr, rfl⟩
  | y :: l, vs, h, x, v, hr => by
    obtain ⟨w, ws, rfl, h1, h2⟩ := h
    exact ⟨w, ws ++ [v], rfl, h1, h2.snoc hr⟩
theorem All2.append : ∀ {l : List α} {vs : List V}, All2 R l vs → ∀ {l' : List α} {vs' : List V}, All2 R l' vs' → All2 R (l ++ l') (vs ++ vs')
  | [], vs, h, l', vs', hr => by rw [show vs = [] from h]; exact hr
  | y :: l, vs, h, l', vs', hr => by
    obtain ⟨w, ws, rfl, h1, h2⟩ := h
    exact ⟨w, ws ++ vs', rfl, h1, h2.append hr⟩
theorem All2.take {l : List α} {vs : List V} (h : All2 R l vs) (n : Nat) : All2 R (l.take n) (vs.take n) :=
  .of (by simp [h.len]) fun i v x hv hx => by
    have hi : i < n := by have := (List.getElem?_eq_some_iff.1 hv).1; simp at this; omega
    rw [List.getElem?_take_of_lt hi] at hv hx
    exact h.get hv hx
theorem All2.set {l : List α} {vs : List V} (h : All2 R l vs) (n : Nat) {x : α} {v : V} (hr : R x v) : All2 R (l.set n x) (vs.set n v) :=
  .of (by simp [h.len]) fun i v' x' hv hx => by
    have hi : i < vs.length := by have := (List.getElem?_eq_some_iff.1 hv).1; simpa using this
    have hl := h.len
    rw [List.getElem?_set] at hv hx
    by_cases e : n = i
    · subst e; simp [hi] at hv; simp [show n < l.length by omega] at hx; subst hv hx; exact hr
    · rw [if_neg e] at hv hx; exact h.get hv hx
theorem All2.mem {l : List α} {vs : List V} (h : All2 R l vs) {v : V} (hv : v ∈ vs) : ∃ x, x ∈ l ∧ R x v := by
  obtain ⟨i, hi⟩ := List.getElem?_of_mem hv
  have hlt := (List.getElem?_eq_some_iff.1 hi).1
  have hlt2 : i < l.length := by rw [← h.len]; exact hlt
  exact ⟨l[i], List.getElem_mem hlt2, h.get hi (List.getElem?_eq_getElem hlt2)⟩
theorem All2.okRow {l : List α} {vs : List V} {k : Nat} (h : All2 R l vs) (hr : ∀ x v, R x v → v.free = true ∧ v.cells.length = k) : okRow k vs := by
  unfold Pe.okRow
  simp only [List.all_eq_true, Bool.and_eq_true, decide_eq_true_eq]
  intro v hv
  obtain ⟨x, _, hx⟩ := h.mem hv
  exact hr x v hx
theorem All2.free {l : List α} {vs : List V} (h : All2 R l vs) (hr : ∀ x v, R x v → v.free = true) : vs.all V.free = true := by
  simp only [List.all_eq_true]
  intro v hv
  obtain ⟨x, _, hx⟩ := h.mem hv
  exact hr x v hx
end
theorem IsEx.ok {x : Ex} {v : V} (h : IsEx x v) : v.free = true ∧ v.cells.length = 4 := by
  cases x; obtain ⟨lv, vs, rfl, h1, _⟩ := h
  exact ⟨by simp only [free_agg, List.all_cons, List.all_nil, free1_sc, h1.free, Bool.and_self], rfl⟩
theorem IsTm.ok {x : Tm} {v : V} (h : IsTm x v) : v.free = true ∧ v.cells.length = 9 := by
  rcases x with ⟨_, _, _, _, ⟨_, _, _, _⟩, _⟩; obtain ⟨ev, evs, lv, vs, rfl, h1, _, _, h2, _⟩ := h
  exact ⟨by simp only [free_agg, List.all_cons, List.all_nil, free1_sc, h1.free, h2.free, Bool.and_self], rfl⟩
theorem okRow1 {k : Nat} {v : V} (h : v.free = true ∧ v.cells.length = k) : okRow k [v] := by
  simp [Pe.okRow, h.1, h.2]

/-! ### Copies of expressions -/
theorem clone4 {v : V} {vs : List V} (hv : IsSl 4 v vs) (hk : okRow 4 vs) (hf : vs.all V.free = true) (hs : vs.length ≤ cap) : PAr Try.prog T 65 [v] 4 fun ws => ws = vs := by
  unfold cap at hs
  intro yi hy
  refine Call.step hy ?_
  rw [body_eq t65]
  rcases hv with ⟨rfl, hn⟩ | ⟨f, rfl⟩
  · simp only [c65, c65x1, c65x2, c65x3, List.take_succ_cons, putCells, get_new, set_new, s_skip, s_regs, s_regd, s_seq, s_ct, s_cf, s_gt, s_gf, condV_b, guardV_t, guardV_f, guardV_u, s_block, s_loop, s_kill, s_exit, s_scope, s_label, s_goto, s_ret, s_nil, s_cons, s_rnil, s_rop, s_rrd, s_ralt, s_rsnil, s_rscons, optEv_some, optEv_none, s_gn, bslOf, bsaOf, bslS, isUpto, elems_zero, elems_cons, Nat.reduceEqDiff, decide_true, decide_false, q_alloc, q_box, q_mv, q_pick, q_bld, q_bsl, q_bsa, q_mks, q_load, q_store, q_nilck, q_cmpnil, q_fad, q_fld, q_iad, q_slc, q_len, q_app, q_msl, q_s2b, q_b2s, q_mkf, q_ext, q_bin, q_not, q_neg, q_cvi, q_slen, q_sidx, q_mm, q_call, Pe.step, ev_tmp, ev_lit, E.at, oK_none, oK_some, putT_some, putT_none, killTs_cons, killTs_nil, List.set_cons_succ, List.set_cons_zero, List.getD_cons_succ, List.getD_cons_zero, List.map_cons, List.map_nil, List.length_cons, List.length_nil, List.replicate, List.cons_append, List.nil_append, List.append_nil, Nat.reduceAdd, Nat.reduceSub, Nat.reduceLeDiff, Nat.reduceMul, Pe.intOf, row_sl, row_nil, Pe.iop, Pe.sop, beq_self_eq_true, bb1, bb2, bb3, bb4, q_beq, d_beq, cells_sc, solid_sc, one_sc, cells_sl, solid_sl, one_sl, cells_ar, solid_ar, one_ar, cells_pt, solid_pt, one_pt, cells_pa, solid_pa, one_pa, cells_ep, solid_ep, one_ep, cells_fn, solid_fn, one_fn, free_sc, free1_sc, free_sl, free1_sl, free_ar, free1_ar, free_pt, free1_pt, free_pa, free1_pa, free_ep, free1_ep, cells_agg, solid_agg, free_agg, part_at, part_agg, List.all_cons, List.all_nil, Bool.and_true, Bool.true_and, Bool.and_false, Bool.false_and, List.drop_zero, List.take_zero, List.getElem?_cons_zero, List.getElem?_cons_succ, List.getElem?_nil, Bool.not_true, Bool.not_false, Bool.false_eq_true, if_true, if_false, Option.map_some, Option.map_none, Option.bind_eq_bind, Option.pure_def, Option.bind_some, Option.bind_none, Option.getD_some, Option.getD_none, shut_nil, rets_nil, rets_tmp, endK_normal, endK_ret, retK_nil, outK_one, outK_nil, outK_two, cast_lit, d_load, d_nilck, d_fad, d_iad, d_len, d_b2s, d_bsl, d_apz, d_mv, d_pick, d_bld, d_cmpnil, d_fld, d_mkf, d_ext, d_bin, d_not, d_neg, d_cvi, d_slen, d_sidx, d_idxb, d_mm, d_sca, depL_pt, depL_ep, depL_pa, depP_pt, depP_ep, depP_fn, depP_pa, depA_sl, depA_sc, depA_ar, depL_le, depP_le, depA_le, depB_le, depP_l3, depA_l3, okR_z, okR_11, okR_12, okR_21, okR_41, okR_43, depB_sl, depB_sc, depB_ar, depB_vw, depA_vw, q_aia, d_aia, Pe.zero_le, Nat.zero_add, Nat.add_zero, true_and, and_true, ite_true, ite_false]
    exact ⟨[], .inl ⟨rfl, rfl⟩, rfl, hn.symm⟩
  · by_cases h0 : vs = []
    · have ha : appOf 4 56 [] (.sl 4 true []) (.sl 4 f vs) = some (.sl 4 true [], []) := ap_none (by rw [h0]; rfl) (.inl ⟨[], .inr ⟨_, rfl⟩⟩)
      simp only [c65, c65x1, c65x2, c65x3, List.take_succ_cons, putCells, get_new, set_new, s_skip, s_regs, s_regd, s_seq, s_ct, s_cf, s_gt, s_gf, condV_b, guardV_t, guardV_f, guardV_u, s_block, s_loop, s_kill, s_exit, s_scope, s_label, s_goto, s_ret, s_nil, s_cons, s_rnil, s_rop, s_rrd, s_ralt, s_rsnil, s_rscons, optEv_some, optEv_none, s_gn, bslOf, bsaOf, bslS, isUpto, elems_zero, elems_cons, Nat.reduceEqDiff, decide_true, decide_false, q_alloc, q_box, q_mv, q_pick, q_bld, q_bsl, q_bsa, q_mks, q_load, q_store, q_nilck, q_cmpnil, q_fad, q_fld, q_iad, q_slc, q_len, q_app, q_msl, q_s2b, q_b2s, q_mkf, q_ext, q_bin, q_not, q_neg, q_cvi, q_slen, q_sidx, q_mm, q_call, Pe.step, ev_tmp, ev_lit, E.at, oK_none, oK_some, putT_some, putT_none, killTs_cons, killTs_nil, List.set_cons_succ, List.set_cons_zero, List.getD_cons_succ, List.getD_cons_zero, List.map_cons, List.map_nil, List.length_cons, List.length_nil, List.replicate, List.cons_append, List.nil_append, List.append_nil, Nat.reduceAdd, Nat.reduceSub, Nat.reduceLeDiff, Nat.reduceMul, Pe.intOf, row_sl, row_nil, Pe.iop, Pe.sop, beq_self_eq_true, bb1, bb2, bb3, bb4, q_beq, d_beq, cells_sc, solid_sc, one_sc, cells_sl, solid_sl, one_sl, cells_ar, solid_ar, one_ar, cells_pt, solid_pt, one_pt, cells_pa, solid_pa, one_pa, cells_ep, solid_ep, one_ep, cells_fn, solid_fn, one_fn, free_sc, free1_sc, free_sl, free1_sl, free_ar, free1_ar, free_pt, free1_pt, free_pa, free1_pa, free_ep, free1_ep, cells_agg, solid_agg, free_agg, part_at, part_agg, List.all_cons, List.all_nil, Bool.and_true, Bool.true_and, Bool.and_false, Bool.false_and, List.drop_zero, List.take_zero, List.getElem?_cons_zero, List.getElem?_cons_succ, List.getElem?_nil, Bool.not_true, Bool.not_false, Bool.false_eq_true, if_true, if_false, Option.map_some, Option.map_none, Option.bind_eq_bind, Option.pure_def, Option.bind_some, Option.bind_none, Option.getD_some, Option.getD_none, shut_nil, rets_nil, rets_tmp, endK_normal, endK_ret, retK_nil, outK_one, outK_nil, outK_two, cast_lit, d_load, d_nilck, d_fad, d_iad, d_len, d_b2s, d_bsl, d_apz, d_mv, d_pick, d_bld, d_cmpnil, d_fld, d_mkf, d_ext, d_bin, d_not, d_neg, d_cvi, d_slen, d_sidx, d_idxb, d_mm, d_sca, depL_pt, depL_ep, depL_pa, depP_pt, depP_ep, depP_fn, depP_pa, depA_sl, depA_sc, depA_ar, depL_le, depP_le, depA_le, depB_le, depP_l3, depA_l3, okR_z, okR_11, okR_12, okR_21, okR_41, okR_43, depB_sl, depB_sc, depB_ar, depB_vw, depA_vw, q_aia, d_aia, Pe.zero_le, Nat.zero_add, Nat.add_zero, true_and, and_true, ite_true, ite_false, ha]
      exact ⟨[], .inr (.inl ⟨rfl, rfl⟩), rfl, h0.symm⟩
    · have ha : appOf 4 56 [] (.sl 4 true []) (.sl 4 f vs) = some (.ar 0 0, [] ++ [O.arr 0 true 4 ([] ++ vs)]) := ap_full rfl hk h0 (by simp [room]; omega)
      simp only [c65, c65x1, c65x2, c65x3, List.take_succ_cons, putCells, get_new, set_new, s_skip, s_regs, s_regd, s_seq, s_ct, s_cf, s_gt, s_gf, condV_b, guardV_t, guardV_f, guardV_u, s_block, s_loop, s_kill, s_exit, s_scope, s_label, s_goto, s_ret, s_nil, s_cons, s_rnil, s_rop, s_rrd, s_ralt, s_rsnil, s_rscons, optEv_some, optEv_none, s_gn, bslOf, bsaOf, bslS, isUpto, elems_zero, elems_cons, Nat.reduceEqDiff, decide_true, decide_false, q_alloc, q_box, q_mv, q_pick, q_bld, q_bsl, q_bsa, q_mks, q_load, q_store, q_nilck, q_cmpnil, q_fad, q_fld, q_iad, q_slc, q_len, q_app, q_msl, q_s2b, q_b2s, q_mkf, q_ext, q_bin, q_not, q_neg, q_cvi, q_slen, q_sidx, q_mm, q_call, Pe.step, ev_tmp, ev_lit, E.at, oK_none, oK_some, putT_some, putT_none, killTs_cons, killTs_nil, List.set_cons_succ, List.set_cons_zero, List.getD_cons_succ, List.getD_cons_zero, List.map_cons, List.map_nil, List.length_cons, List.length_nil, List.replicate, List.cons_append, List.nil_append, List.append_nil, Nat.reduceAdd, Nat.reduceSub, Nat.reduceLeDiff, Nat.reduceMul, Pe.intOf, row_sl, row_nil, Pe.iop, Pe.sop, beq_self_eq_true, bb1, bb2, bb3, bb4, q_beq, d_beq, cells_sc, solid_sc, one_sc, cells_sl, solid_sl, one_sl, cells_ar, solid_ar, one_ar, cells_pt, solid_pt, one_pt, cells_pa, solid_pa, one_pa, cells_ep, solid_ep, one_ep, cells_fn, solid_fn, one_fn, free_sc, free1_sc, free_sl, free1_sl, free_ar, free1_ar, free_pt, free1_pt, free_pa, free1_pa, free_ep, free1_ep, cells_agg, solid_agg, free_agg, part_at, part_agg, List.all_cons, List.all_nil, Bool.and_true, Bool.true_and, Bool.and_false, Bool.false_and, List.drop_zero, List.take_zero, List.getElem?_cons_zero, List.getElem?_cons_succ, List.getElem?_nil, Bool.not_true, Bool.not_false, Bool.false_eq_true, if_true, if_false, Option.map_some, Option.map_none, Option.bind_eq_bind, Option.pure_def, Option.bind_some, Option.bind_none, Option.getD_some, Option.getD_none, shut_nil, rets_nil, rets_tmp, endK_normal, endK_ret, retK_nil, outK_one, outK_nil, outK_two, cast_lit, d_load, d_nilck, d_fad, d_iad, d_len, d_b2s, d_bsl, d_apz, d_mv, d_pick, d_bld, d_cmpnil, d_fld, d_mkf, d_ext, d_bin, d_not, d_neg, d_cvi, d_slen, d_sidx, d_idxb, d_mm, d_sca, depL_pt, depL_ep, depL_pa, depP_pt, depP_ep, depP_fn, depP_pa, depA_sl, depA_sc, depA_ar, depL_le, depP_le, depA_le, depB_le, depP_l3, depA_l3, okR_z, okR_11, okR_12, okR_21, okR_41, okR_43, depB_sl, depB_sc, depB_ar, depB_vw, depA_vw, q_aia, d_aia, Pe.zero_le, Nat.zero_add, Nat.add_zero, true_and, and_true, ite_true, ite_false, ha]
      exact ⟨vs, .inr (.inr ⟨0, 0, rfl, rfl⟩), hf, rfl⟩
theorem mapped4 {v : V} {vs : List V} {l : List Ex} (hv : IsSl 4 v vs) (hl : All2 IsEx l vs) (hs : vs.length ≤ cap)
    (hd : ∀ x, x ∈ l → ∀ u, IsEx x u → PFn Try.prog T 45 [u] (IsEx x)) : PAr Try.prog T 56 [v, .fn (.func 45) [] []] 4 fun ws => All2 IsEx l ws := by
  have hs' := hs
  unfold cap at hs
  have hlen := hl.len
  intro yi hy
  refine Call.step hy ?_
  rw [body_eq t56]
  simp only [c56, c56x1, c56x2, c56x3, List.take_succ_cons, putCells, get_new, set_new, s_skip, s_regs, s_regd, s_seq, s_ct, s_cf, s_gt, s_gf, condV_b, guardV_t, guardV_f, guardV_u, s_block, s_loop, s_kill, s_exit, s_scope, s_label, s_goto, s_ret, s_nil, s_cons, s_rnil, s_rop, s_rrd, s_ralt, s_rsnil, s_rscons, optEv_some, optEv_none, s_gn, bslOf, bsaOf, bslS, isUpto, elems_zero, elems_cons, Nat.reduceEqDiff, decide_true, decide_false, q_alloc, q_box, q_mv, q_pick, q_bld, q_bsl, q_bsa, q_mks, q_load, q_store, q_nilck, q_cmpnil, q_fad, q_fld, q_iad, q_slc, q_len, q_app, q_msl, q_s2b, q_b2s, q_mkf, q_ext, q_bin, q_not, q_neg, q_cvi, q_slen, q_sidx, q_mm, q_call, Pe.step, ev_tmp, ev_lit, E.at, oK_none, oK_some, putT_some, putT_none, killTs_cons, killTs_nil, List.set_cons_succ, List.set_cons_zero, List.getD_cons_succ, List.getD_cons_zero, List.map_cons, List.map_nil, List.length_cons, List.length_nil, List.replicate, List.cons_append, List.nil_append, List.append_nil, Nat.reduceAdd, Nat.reduceSub, Nat.reduceLeDiff, Nat.reduceMul, Pe.intOf, row_sl, row_nil, Pe.iop, Pe.sop, beq_self_eq_true, bb1, bb2, bb3, bb4, q_beq, d_beq, cells_sc, solid_sc, one_sc, cells_sl, solid_sl, one_sl, cells_ar, solid_ar, one_ar, cells_pt, solid_pt, one_pt, cells_pa, solid_pa, one_pa, cells_ep, solid_ep, one_ep, cells_fn, solid_fn, one_fn, free_sc, free1_sc, free_sl, free1_sl, free_ar, free1_ar, free_pt, free1_pt, free_pa, free1_pa, free_ep, free1_ep, cells_agg, solid_agg, free_agg, part_at, part_agg, List.all_cons, List.all_nil, Bool.and_true, Bool.true_and, Bool.and_false, Bool.false_and, List.drop_zero, List.take_zero, List.getElem?_cons_zero, List.getElem?_cons_succ, List.getElem?_nil, Bool.not_true, Bool.not_false, Bool.false_eq_true, if_true, if_false, Option.map_some, Option.map_none, Option.bind_eq_bind, Option.pure_def, Option.bind_some, Option.bind_none, Option.getD_some, Option.getD_none, shut_nil, rets_nil, rets_tmp, endK_normal, endK_ret, retK_nil, outK_one, outK_nil, outK_two, cast_lit, d_load, d_nilck, d_fad, d_iad, d_len, d_b2s, d_bsl, d_apz, d_mv, d_pick, d_bld, d_cmpnil, d_fld, d_mkf, d_ext, d_bin, d_not, d_neg, d_cvi, d_slen, d_sidx, d_idxb, d_mm, d_sca, depL_pt, depL_ep, depL_pa, depP_pt, depP_ep, depP_fn, depP_pa, depA_sl, depA_sc, depA_ar, depL_le, depP_le, depA_le, depB_le, depP_l3, depA_l3, okR_z, okR_11, okR_12, okR_21, okR_41, okR_43, depB_sl, depB_sc, depB_ar, depB_vw, depA_vw, q_aia, d_aia, Pe.zero_le, Nat.zero_add, Nat.add_zero, true_and, and_true, ite_true, ite_false, hv.row]
  refine Lfp.inv call_le hy (fun a : Nat × List O × V => ⟨⟨[.dead, .fn (.func 45) [] [], .dead, .dead, .dead, a.2.2, .dead, .dead, .dead, v, iV vs.length, iV a.1, .dead, .dead, .dead, .dead, .dead, .dead, .dead, .dead, .dead, .dead, .dead, .dead, .dead, .dead, .dead, .dead, .dead], a.2.1⟩, []⟩) (fun a => vs.length - a.1)
    (fun a => a.1 ≤ vs.length ∧ ∃ ws A, RowAt a.2.1 4 a.2.2 ws A ∧ All2 IsEx (l.take a.1) ws) (0, [], nilV) ⟨Nat.zero_le _, [], [], .inl ⟨rfl, rfl, rfl⟩, rfl⟩ (by simp only [killTs_cons, killTs_nil, List.set_cons_succ, List.set_cons_zero]; rfl) ?_
  rintro ⟨i, o', out⟩ ⟨hi, ws, A, hr, hws⟩
  dsimp only at hi hr hws
  have hwl := hws.len
  by_cases hlt : i < vs.length
  · have hd1 : decide ((i : Int) < (vs.length : Int)) = true := by simpa using hlt
    have hx : vs[i]? = some vs[i] := List.getElem?_eq_getElem hlt
    have hlx : i < l.length := by omega
    have hxl : l[i]? = some l[i] := List.getElem?_eq_getElem hlx
    have hE := hl.get hx hxl
    have hE' := hE
    generalize hgv : vs[i] = u at hx hE hE'
    generalize hgx : l[i] = x at hxl hE hE'
    have hmem : x ∈ l := List.mem_of_getElem? hxl
    have hok := hE.ok
    rcases x with ⟨k, n, s, xl⟩
    obtain ⟨lv, us, rfl, he1, he2, he3⟩ := hE
    have hI := fun o => hv.ix o hx
    have hw1 : IntKind.i64.wrap ((i : Int) + 1) = ((i + 1 : Nat) : Int) := wrap_succ (by omega)
    have hone : lv.one = true := free1_one he1.free
    simp only [c56, c56x1, c56x2, c56x3, c56x4, c56x5, c56x6, c56x7, c56x8, c56x9, c56x10, List.take_succ_cons, putCells, get_new, set_new, s_skip, s_regs, s_regd, s_seq, s_ct, s_cf, s_gt, s_gf, condV_b, guardV_t, guardV_f, guardV_u, s_block, s_loop, s_kill, s_exit, s_scope, s_label, s_goto, s_ret, s_nil, s_cons, s_rnil, s_rop, s_rrd, s_ralt, s_rsnil, s_rscons, optEv_some, optEv_none, s_gn, bslOf, bsaOf, bslS, isUpto, elems_zero, elems_cons, Nat.reduceEqDiff, decide_true, decide_false, q_alloc, q_box, q_mv, q_pick, q_bld, q_bsl, q_bsa, q_mks, q_load, q_store, q_nilck, q_cmpnil, q_fad, q_fld, q_iad, q_slc, q_len, q_app, q_msl, q_s2b, q_b2s, q_mkf, q_ext, q_bin, q_not, q_neg, q_cvi, q_slen, q_sidx, q_mm, q_call, Pe.step, ev_tmp, ev_lit, E.at, oK_none, oK_some, putT_some, putT_none, killTs_cons, killTs_nil, List.set_cons_succ, List.set_cons_zero, List.getD_cons_succ, List.getD_cons_zero, List.map_cons, List.map_nil, List.length_cons, List.length_nil, List.replicate, List.cons_append, List.nil_append, List.append_nil, Nat.reduceAdd, Nat.reduceSub, Nat.reduceLeDiff, Nat.reduceMul, Pe.intOf, row_sl, row_nil, Pe.iop, Pe.sop, beq_self_eq_true, bb1, bb2, bb3, bb4, q_beq, d_beq, cells_sc, solid_sc, one_sc, cells_sl, solid_sl, one_sl, cells_ar, solid_ar, one_ar, cells_pt, solid_pt, one_pt, cells_pa, solid_pa, one_pa, cells_ep, solid_ep, one_ep, cells_fn, solid_fn, one_fn, free_sc, free1_sc, free_sl, free1_sl, free_ar, free1_ar, free_pt, free1_pt, free_pa, free1_pa, free_ep, free1_ep, cells_agg, solid_agg, free_agg, part_at, part_agg, List.all_cons, List.all_nil, Bool.and_true, Bool.true_and, Bool.and_false, Bool.false_and, List.drop_zero, List.take_zero, List.getElem?_cons_zero, List.getElem?_cons_succ, List.getElem?_nil, Bool.not_true, Bool.not_false, Bool.false_eq_true, if_true, if_false, Option.map_some, Option.map_none, Option.bind_eq_bind, Option.pure_def, Option.bind_some, Option.bind_none, Option.getD_some, Option.getD_none, shut_nil, rets_nil, rets_tmp, endK_normal, endK_ret, retK_nil, outK_one, outK_nil, outK_two, cast_lit, d_load, d_nilck, d_fad, d_iad, d_len, d_b2s, d_bsl, d_apz, d_mv, d_pick, d_bld, d_cmpnil, d_fld, d_mkf, d_ext, d_bin, d_not, d_neg, d_cvi, d_slen, d_sidx, d_idxb, d_mm, d_sca, depL_pt, depL_ep, depL_pa, depP_pt, depP_ep, depP_fn, depP_pa, depA_sl, depA_sc, depA_ar, depL_le, depP_le, depA_le, depB_le, depP_l3, depA_l3, okR_z, okR_11, okR_12, okR_21, okR_41, okR_43, depB_sl, depB_sc, depB_ar, depB_vw, depA_vw, q_aia, d_aia, Pe.zero_le, Nat.zero_add, Nat.add_zero, true_and, and_true, ite_true, ite_false, hd1, hI, hone]
    refine (hd _ hmem _ hE').callF rfl (by simpa using hok.1) fun z hz => ?_
    have hzk := hz.ok
    have hr' : RowAt (o' ++ [.cells [iV k, iV n, sV s, lv]]) 4 out ws A := hr.frm (.app _ _ []) (fun _ _ => by simp)
    obtain ⟨rv', o1, A2, ha, hr2, hfr, hA⟩ := hr'.push (b := 56) (f := true) (y := z) (okRow1 hzk) (by
      have : (l.take i).length ≤ l.length := by simp; omega
      unfold room; omega)
    simp only [c56, c56x1, c56x2, c56x3, c56x4, c56x5, c56x6, c56x7, c56x8, c56x9, c56x10, List.take_succ_cons, putCells, get_new, set_new, s_skip, s_regs, s_regd, s_seq, s_ct, s_cf, s_gt, s_gf, condV_b, guardV_t, guardV_f, guardV_u, s_block, s_loop, s_kill, s_exit, s_scope, s_label, s_goto, s_ret, s_nil, s_cons, s_rnil, s_rop, s_rrd, s_ralt, s_rsnil, s_rscons, optEv_some, optEv_none, s_gn, bslOf, bsaOf, bslS, isUpto, elems_zero, elems_cons, Nat.reduceEqDiff, decide_true, decide_false, q_alloc, q_box, q_mv, q_pick, q_bld, q_bsl, q_bsa, q_mks, q_load, q_store, q_nilck, q_cmpnil, q_fad, q_fld, q_iad, q_slc, q_len, q_app, q_msl, q_s2b, q_b2s, q_mkf, q_ext, q_bin, q_not, q_neg, q_cvi, q_slen, q_sidx, q_mm, q_call, Pe.step, ev_tmp, ev_lit, E.at, oK_none, oK_some, putT_some, putT_none, killTs_cons, killTs_nil, List.set_cons_succ, List.set_cons_zero, List.getD_cons_succ, List.getD_cons_zero, List.map_cons, List.map_nil, List.length_cons, List.length_nil, List.replicate, List.cons_append, List.nil_append, List.append_nil, Nat.reduceAdd, Nat.reduceSub, Nat.reduceLeDiff, Nat.reduceMul, Pe.intOf, row_sl, row_nil, Pe.iop, Pe.sop, beq_self_eq_true, bb1, bb2, bb3, bb4, q_beq, d_beq, cells_sc, solid_sc, one_sc, cells_sl, solid_sl, one_sl, cells_ar, solid_ar, one_ar, cells_pt, solid_pt, one_pt, cells_pa, solid_pa, one_pa, cells_ep, solid_ep, one_ep, cells_fn, solid_fn, one_fn, free_sc, free1_sc, free_sl, free1_sl, free_ar, free1_ar, free_pt, free1_pt, free_pa, free1_pa, free_ep, free1_ep, cells_agg, solid_agg, free_agg, part_at, part_agg, List.all_cons, List.all_nil, Bool.and_true, Bool.true_and, Bool.and_false, Bool.false_and, List.drop_zero, List.take_zero, List.getElem?_cons_zero, List.getElem?_cons_succ, List.getElem?_nil, Bool.not_true, Bool.not_false, Bool.false_eq_true, if_true, if_false, Option.map_some, Option.map_none, Option.bind_eq_bind, Option.pure_def, Option.bind_some, Option.bind_none, Option.getD_some, Option.getD_none, shut_nil, rets_nil, rets_tmp, endK_normal, endK_ret, retK_nil, outK_one, outK_nil, outK_two, cast_lit, d_load, d_nilck, d_fad, d_iad, d_len, d_b2s, d_bsl, d_apz, d_mv, d_pick, d_bld, d_cmpnil, d_fld, d_mkf, d_ext, d_bin, d_not, d_neg, d_cvi, d_slen, d_sidx, d_idxb, d_mm, d_sca, depL_pt, depL_ep, depL_pa, depP_pt, depP_ep, depP_fn, depP_pa, depA_sl, depA_sc, depA_ar, depL_le, depP_le, depA_le, depB_le, depP_l3, depA_l3, okR_z, okR_11, okR_12, okR_21, okR_41, okR_43, depB_sl, depB_sc, depB_ar, depB_vw, depA_vw, q_aia, d_aia, Pe.zero_le, Nat.zero_add, Nat.add_zero, true_and, and_true, ite_true, ite_false, hzk.1, hzk.2, get_set (get_new (l := [])), ha, hw1]
    refine ⟨(i + 1, o1, rv'), ⟨by simp only; omega, _, A2, hr2, ?_⟩, by simp only; omega, rfl⟩
    simp only; rw [List.take_add_one, hxl]; exact hws.snoc hz
  · have hd1 : decide ((i : Int) < (vs.length : Int)) = false := by simpa using hlt
    have hi' : l.take i = l := List.take_of_length_le (by omega)
    rw [hi'] at hws
    have hwf := hws.free fun x v h => h.ok.1
    have hrow := hr.row
    obtain ⟨w, o1, hc, hw, hf⟩ : ∃ w o1, slcOf 4 o' out none (some (iV ws.length)) (some (iV ws.length)) = some (w, o1) ∧ IsSl 4 w ws ∧ True := by
      rcases hr with ⟨rfl, rfl, rfl⟩ | ⟨la, v, wr, rfl, h, rfl⟩
      · exact ⟨nilV, o', by simp [slcOf, freeze1, V.free1, boundV, intOf], .inl ⟨rfl, rfl⟩, trivial⟩
      · exact ⟨.sl 4 true ws, o'.set la (O.arr v false 4 ws), by simp [slcOf, freeze1, h, hwf, boundV, intOf], .inr ⟨_, rfl⟩, trivial⟩
    simp only [c56, c56x1, c56x2, c56x3, c56x4, c56x5, c56x6, c56x7, c56x8, c56x9, c56x10, List.take_succ_cons, putCells, get_new, set_new, s_skip, s_regs, s_regd, s_seq, s_ct, s_cf, s_gt, s_gf, condV_b, guardV_t, guardV_f, guardV_u, s_block, s_loop, s_kill, s_exit, s_scope, s_label, s_goto, s_ret, s_nil, s_cons, s_rnil, s_rop, s_rrd, s_ralt, s_rsnil, s_rscons, optEv_some, optEv_none, s_gn, bslOf, bsaOf, bslS, isUpto, elems_zero, elems_cons, Nat.reduceEqDiff, decide_true, decide_false, q_alloc, q_box, q_mv, q_pick, q_bld, q_bsl, q_bsa, q_mks, q_load, q_store, q_nilck, q_cmpnil, q_fad, q_fld, q_iad, q_slc, q_len, q_app, q_msl, q_s2b, q_b2s, q_mkf, q_ext, q_bin, q_not, q_neg, q_cvi, q_slen, q_sidx, q_mm, q_call, Pe.step, ev_tmp, ev_lit, E.at, oK_none, oK_some, putT_some, putT_none, killTs_cons, killTs_nil, List.set_cons_succ, List.set_cons_zero, List.getD_cons_succ, List.getD_cons_zero, List.map_cons, List.map_nil, List.length_cons, List.length_nil, List.replicate, List.cons_append, List.nil_append, List.append_nil, Nat.reduceAdd, Nat.reduceSub, Nat.reduceLeDiff, Nat.reduceMul, Pe.intOf, row_sl, row_nil, Pe.iop, Pe.sop, beq_self_eq_true, bb1, bb2, bb3, bb4, q_beq, d_beq, cells_sc, solid_sc, one_sc, cells_sl, solid_sl, one_sl, cells_ar, solid_ar, one_ar, cells_pt, solid_pt, one_pt, cells_pa, solid_pa, one_pa, cells_ep, solid_ep, one_ep, cells_fn, solid_fn, one_fn, free_sc, free1_sc, free_sl, free1_sl, free_ar, free1_ar, free_pt, free1_pt, free_pa, free1_pa, free_ep, free1_ep, cells_agg, solid_agg, free_agg, part_at, part_agg, List.all_cons, List.all_nil, Bool.and_true, Bool.true_and, Bool.and_false, Bool.false_and, List.drop_zero, List.take_zero, List.getElem?_cons_zero, List.getElem?_cons_succ, List.getElem?_nil, Bool.not_true, Bool.not_false, Bool.false_eq_true, if_true, if_false, Option.map_some, Option.map_none, Option.bind_eq_bind, Option.pure_def, Option.bind_some, Option.bind_none, Option.getD_some, Option.getD_none, shut_nil, rets_nil, rets_tmp, endK_normal, endK_ret, retK_nil, outK_one, outK_nil, outK_two, cast_lit, d_load, d_nilck, d_fad, d_iad, d_len, d_b2s, d_bsl, d_apz, d_mv, d_pick, d_bld, d_cmpnil, d_fld, d_mkf, d_ext, d_bin, d_not, d_neg, d_cvi, d_slen, d_sidx, d_idxb, d_mm, d_sca, depL_pt, depL_ep, depL_pa, depP_pt, depP_ep, depP_fn, depP_pa, depA_sl, depA_sc, depA_ar, depL_le, depP_le, depA_le, depB_le, depP_l3, depA_l3, okR_z, okR_11, okR_12, okR_21, okR_41, okR_43, depB_sl, depB_sc, depB_ar, depB_vw, depA_vw, q_aia, d_aia, Pe.zero_le, Nat.zero_add, Nat.add_zero, true_and, and_true, ite_true, ite_false, hd1, hrow, hc]
    refine (clone4 hw (hws.okRow fun x v h => h.ok) hwf (by rw [hwl, hi']; unfold cap; omega)).callF rfl (by simpa using hw.freeV) fun z ext ws' hq hfz hz hl => ?_
    subst hq
    exact ⟨ws', hz, hwf, hws⟩
theorem ownEx : ∀ (x : Ex) {u : V}, IsEx x u → PFn Try.prog T 45 [u] (IsEx x)
  | .mk k n nm l, u, h => by
    obtain ⟨lv, vs, rfl, h1, h2, h3⟩ := h
    rw [isExs_all] at h3
    have ih : ∀ x, x ∈ l → ∀ u, IsEx x u → PFn Try.prog T 45 [u] (IsEx x) := fun y hx u hu => ownEx y hu
    intro yi hy
    refine Call.step hy ?_
    rw [body_eq t45]
    have hone : lv.one = true := free1_one h1.free
    simp only [c45, c45x1, c45x2, List.take_succ_cons, putCells, get_new, set_new, s_skip, s_regs, s_regd, s_seq, s_ct, s_cf, s_gt, s_gf, condV_b, guardV_t, guardV_f, guardV_u, s_block, s_loop, s_kill, s_exit, s_scope, s_label, s_goto, s_ret, s_nil, s_cons, s_rnil, s_rop, s_rrd, s_ralt, s_rsnil, s_rscons, optEv_some, optEv_none, s_gn, bslOf, bsaOf, bslS, isUpto, elems_zero, elems_cons, Nat.reduceEqDiff, decide_true, decide_false, q_alloc, q_box, q_mv, q_pick, q_bld, q_bsl, q_bsa, q_mks, q_load, q_store, q_nilck, q_cmpnil, q_fad, q_fld, q_iad, q_slc, q_len, q_app, q_msl, q_s2b, q_b2s, q_mkf, q_ext, q_bin, q_not, q_neg, q_cvi, q_slen, q_sidx, q_mm, q_call, Pe.step, ev_tmp, ev_lit, E.at, oK_none, oK_some, putT_some, putT_none, killTs_cons, killTs_nil, List.set_cons_succ, List.set_cons_zero, List.getD_cons_succ, List.getD_cons_zero, List.map_cons, List.map_nil, List.length_cons, List.length_nil, List.replicate, List.cons_append, List.nil_append, List.append_nil, Nat.reduceAdd, Nat.reduceSub, Nat.reduceLeDiff, Nat.reduceMul, Pe.intOf, row_sl, row_nil, Pe.iop, Pe.sop, beq_self_eq_true, bb1, bb2, bb3, bb4, q_beq, d_beq, cells_sc, solid_sc, one_sc, cells_sl, solid_sl, one_sl, cells_ar, solid_ar, one_ar, cells_pt, solid_pt, one_pt, cells_pa, solid_pa, one_pa, cells_ep, solid_ep, one_ep, cells_fn, solid_fn, one_fn, free_sc, free1_sc, free_sl, free1_sl, free_ar, free1_ar, free_pt, free1_pt, free_pa, free1_pa, free_ep, free1_ep, cells_agg, solid_agg, free_agg, part_at, part_agg, List.all_cons, List.all_nil, Bool.and_true, Bool.true_and, Bool.and_false, Bool.false_and, List.drop_zero, List.take_zero, List.getElem?_cons_zero, List.getElem?_cons_succ, List.getElem?_nil, Bool.not_true, Bool.not_false, Bool.false_eq_true, if_true, if_false, Option.map_some, Option.map_none, Option.bind_eq_bind, Option.pure_def, Option.bind_some, Option.bind_none, Option.getD_some, Option.getD_none, shut_nil, rets_nil, rets_tmp, endK_normal, endK_ret, retK_nil, outK_one, outK_nil, outK_two, cast_lit, d_load, d_nilck, d_fad, d_iad, d_len, d_b2s, d_bsl, d_apz, d_mv, d_pick, d_bld, d_cmpnil, d_fld, d_mkf, d_ext, d_bin, d_not, d_neg, d_cvi, d_slen, d_sidx, d_idxb, d_mm, d_sca, depL_pt, depL_ep, depL_pa, depP_pt, depP_ep, depP_fn, depP_pa, depA_sl, depA_sc, depA_ar, depL_le, depP_le, depA_le, depB_le, depP_l3, depA_l3, okR_z, okR_11, okR_12, okR_21, okR_41, okR_43, depB_sl, depB_sc, depB_ar, depB_vw, depA_vw, q_aia, d_aia, Pe.zero_le, Nat.zero_add, Nat.add_zero, true_and, and_true, ite_true, ite_false, hone]
    refine (mapped4 h1 h3 h2 ih).callF rfl (fun x hx => by simp only [List.mem_cons, List.not_mem_nil, or_false] at hx; rcases hx with rfl | rfl <;> first | exact h1.freeV | rfl) fun z ext ws hq hfz hz hl => ?_
    obtain ⟨hz1, hz2, hz3⟩ := hz.solid
    simp only [c45, c45x1, c45x2, List.take_succ_cons, putCells, get_new, set_new, s_skip, s_regs, s_regd, s_seq, s_ct, s_cf, s_gt, s_gf, condV_b, guardV_t, guardV_f, guardV_u, s_block, s_loop, s_kill, s_exit, s_scope, s_label, s_goto, s_ret, s_nil, s_cons, s_rnil, s_rop, s_rrd, s_ralt, s_rsnil, s_rscons, optEv_some, optEv_none, s_gn, bslOf, bsaOf, bslS, isUpto, elems_zero, elems_cons, Nat.reduceEqDiff, decide_true, decide_false, q_alloc, q_box, q_mv, q_pick, q_bld, q_bsl, q_bsa, q_mks, q_load, q_store, q_nilck, q_cmpnil, q_fad, q_fld, q_iad, q_slc, q_len, q_app, q_msl, q_s2b, q_b2s, q_mkf, q_ext, q_bin, q_not, q_neg, q_cvi, q_slen, q_sidx, q_mm, q_call, Pe.step, ev_tmp, ev_lit, E.at, oK_none, oK_some, putT_some, putT_none, killTs_cons, killTs_nil, List.set_cons_succ, List.set_cons_zero, List.getD_cons_succ, List.getD_cons_zero, List.map_cons, List.map_nil, List.length_cons, List.length_nil, List.replicate, List.cons_append, List.nil_append, List.append_nil, Nat.reduceAdd, Nat.reduceSub, Nat.reduceLeDiff, Nat.reduceMul, Pe.intOf, row_sl, row_nil, Pe.iop, Pe.sop, beq_self_eq_true, bb1, bb2, bb3, bb4, q_beq, d_beq, cells_sc, solid_sc, one_sc, cells_sl, solid_sl, one_sl, cells_ar, solid_ar, one_ar, cells_pt, solid_pt, one_pt, cells_pa, solid_pa, one_pa, cells_ep, solid_ep, one_ep, cells_fn, solid_fn, one_fn, free_sc, free1_sc, free_sl, free1_sl, free_ar, free1_ar, free_pt, free1_pt, free_pa, free1_pa, free_ep, free1_ep, cells_agg, solid_agg, free_agg, part_at, part_agg, List.all_cons, List.all_nil, Bool.and_true, Bool.true_and, Bool.and_false, Bool.false_and, List.drop_zero, List.take_zero, List.getElem?_cons_zero, List.getElem?_cons_succ, List.getElem?_nil, Bool.not_true, Bool.not_false, Bool.false_eq_true, if_true, if_false, Option.map_some, Option.map_none, Option.bind_eq_bind, Option.pure_def, Option.bind_some, Option.bind_none, Option.getD_some, Option.getD_none, shut_nil, rets_nil, rets_tmp, endK_normal, endK_ret, retK_nil, outK_one, outK_nil, outK_two, cast_lit, d_load, d_nilck, d_fad, d_iad, d_len, d_b2s, d_bsl, d_apz, d_mv, d_pick, d_bld, d_cmpnil, d_fld, d_mkf, d_ext, d_bin, d_not, d_neg, d_cvi, d_slen, d_sidx, d_idxb, d_mm, d_sca, depL_pt, depL_ep, depL_pa, depP_pt, depP_ep, depP_fn, depP_pa, depA_sl, depA_sc, depA_ar, depL_le, depP_le, depA_le, depB_le, depP_l3, depA_l3, okR_z, okR_11, okR_12, okR_21, okR_41, okR_43, depB_sl, depB_sc, depB_ar, depB_vw, depA_vw, q_aia, d_aia, Pe.zero_le, Nat.zero_add, Nat.add_zero, true_and, and_true, ite_true, ite_false, hz1, hz2, hz3, putCells]
    have hz' : Fresh z (O.cells [iV k, iV n, sV nm, z] :: O.cells [iV k, iV n, sV nm, z] :: ext) 4 ws := by
      rcases hz with h | h | ⟨l', v', rfl, h⟩
      · exact .inl h
      · exact .inr (.inl h)
      · have : l' = 2 := hl _ _ rfl
        subst this
        exact .inr (.inr ⟨2, v', rfl, by simpa using h⟩)
    obtain ⟨w, o1, hf1, hw, _⟩ := hz'.frz hfz
    refine ⟨.agg [iV k, iV n, sV nm, w], o1, ?_, w, ws, rfl, hw, by rw [hq.len]; rw [← h3.len]; exact h2, isExs_all.2 hq⟩
    show (freezes _ [iV k, iV n, sV nm, z]).map _ = _
    rw [frzs_cons frz1_sc, frzs_cons frz1_sc, frzs_cons frz1_sc, frzs_cons hf1, frzs_nil]; rfl
termination_by y => SizeOf.sizeOf y
decreasing_by have := List.sizeOf_lt_of_mem hx; simp; omega
end Go.Proofs.Ytfncfdiomolieaa

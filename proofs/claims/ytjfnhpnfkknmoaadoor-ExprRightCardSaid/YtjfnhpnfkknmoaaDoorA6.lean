/- A part of the texts that the claim's proof needs: functions of the program as the evaluator reads them, and what they come to. Conditions: those that its theorems state. -/
import Derived.Test.YtjfnhpnfkknmoaaDoorA5
set_option linter.unusedVariables false
namespace Go.Proofs.Pe
variable {P : Program}
/-! ### Expressions that came in -/
mutual
def IsExM : Ex → V → Prop
  | .mk k n nm l, v => ∃ lv vs, v = .agg [iV k, iV n, sV nm, lv] ∧ IsSl 4 lv vs ∧ vs.length ≤ maxLen ∧ IsExMs l vs
def IsExMs : List Ex → List V → Prop
  | [], vs => vs = []
  | x :: l, vs => ∃ v ws, vs = v :: ws ∧ IsExM x v ∧ IsExMs l ws
end
theorem isExMs_all : ∀ {l : List Ex} {vs : List V}, IsExMs l vs ↔ All2 IsExM l vs
  | [], vs => by simp only [IsExMs, All2]
  | x :: l, vs => by simp only [IsExMs, All2, isExMs_all]
theorem IsExM.ok {x : Ex} {v : V} (h : IsExM x v) : v.free = true ∧ v.cells.length = 4 := by
  cases x; obtain ⟨lv, vs, rfl, h1, _⟩ := h
  exact ⟨by simp only [free_agg, List.all_cons, List.all_nil, free1_sc, h1.free, Bool.and_self], rfl⟩
def fewS : Nat → Ex → Bool
  | 0, _ => false
  | r + 1, .mk _ _ _ l => decide (l.length ≤ 10) && l.all (fewS r)
theorem All2.imp {α : Type} {R S : α → V → Prop} : ∀ {l : List α} {vs : List V}, All2 R l vs → (∀ x ∈ l, ∀ v, R x v → S x v) → All2 S l vs
  | [], vs, h, _ => h
  | x :: l, vs, ⟨v, ws, e, h1, h2⟩, hi => ⟨v, ws, e, hi x (by simp) v h1, h2.imp fun y hy => hi y (List.mem_cons_of_mem _ hy)⟩
theorem few_ex : ∀ {r : Nat} {x : Ex} {u : V}, fewS r x = true → IsExM x u → IsEx x u
  | 0, x, u, h, _ => by cases x; cases h
  | r + 1, .mk k n nm l, u, h, hu => by
    obtain ⟨lv, vs, rfl, h1, h2, h3⟩ := hu
    rw [isExMs_all] at h3
    simp only [fewS, Bool.and_eq_true, decide_eq_true_eq, List.all_eq_true] at h
    refine ⟨lv, vs, rfl, h1, by have := h3.len; unfold cap; omega, isExs_all.2 (h3.imp fun x hx v hv => few_ex (h.2 x hx) hv)⟩
structure ExTypes (P : Program) (te tl ts : TypeId) : Prop where
  ti : P.underlying 3 = some (.int .i64)
  st : P.underlying ts = some .string
  sl : P.underlying tl = some (.slice te)
  ce : P.cellsOf te = 4
  fs : ∃ fs, P.underlying te = some (.struct fs) ∧ fs.toList.map (·.type) = [3, 3, ts, tl]
theorem exm_of {te tl ts : TypeId} (H : ExTypes P te tl ts) : ∀ (n : Nat), (∀ xs, VT P n te xs → ∃ x, IsExM x (.agg xs) ∧ xs.length = 4) ∧ (∀ x, VT P n tl [x] → ∃ l vs, IsSl 4 x vs ∧ All2 IsExM l vs ∧ vs.length ≤ maxLen)
  | n => by
    constructor
    · intro xs h
      obtain ⟨fs, hu, ht⟩ := H.fs
      obtain ⟨m, hm, segs, rfl, hs⟩ := VT_st hu h
      rw [ht] at hs
      match segs, hs with
      | [s0, s1, s2, s3], ⟨h0, h1, h2, h3, _⟩ =>
        obtain ⟨k, hk, rfl⟩ := VT_int H.ti h0
        obtain ⟨z, hz, rfl⟩ := VT_int H.ti h1
        obtain ⟨nm, hn, rfl⟩ := VT_str H.st h2
        have h3' := h3
        obtain ⟨_, _, e | ⟨ys, e, _⟩⟩ := VT_sl H.sl h3
        · subst e
          obtain ⟨l, vs, g1, g2, g3⟩ := (exm_of H m).2 _ h3'
          exact ⟨.mk k z nm l, ⟨_, vs, rfl, g1, g3, isExMs_all.2 g2⟩, rfl⟩
        · subst e
          obtain ⟨l, vs, g1, g2, g3⟩ := (exm_of H m).2 _ h3'
          exact ⟨.mk k z nm l, ⟨_, vs, rfl, g1, g3, isExMs_all.2 g2⟩, rfl⟩
    · intro x h
      obtain ⟨m, hm, e | ⟨ys, e, hl, hy⟩⟩ := VT_sl H.sl h
      · cases e
        exact ⟨[], [], .inl ⟨rfl, rfl⟩, rfl, by simp⟩
      · cases e
        rw [H.ce]
        obtain ⟨l, hl2⟩ := all2_of (R := IsExM) (vs := ys) fun y hy' => by
          obtain ⟨zs, rfl, hc, hv⟩ := hy y hy'
          obtain ⟨x, hx, h4⟩ := (exm_of H m).1 zs hv
          refine ⟨x, ?_⟩
          match zs, h4 with
          | [a, b, c, d], _ => exact hx
        exact ⟨l, ys, .inr ⟨_, rfl⟩, hl2, hl⟩
end Go.Proofs.Pe

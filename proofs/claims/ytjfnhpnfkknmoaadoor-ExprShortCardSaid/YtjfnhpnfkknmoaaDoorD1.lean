/- A part of the texts that the claim's proof needs: functions of the program as the evaluator reads them, and what they come to. Conditions: those that its theorems state. -/
import Derived.Test.YtjfnhpnfkknmoaaDoorPeD
set_option linter.unusedVariables false
set_option linter.unusedSimpArgs false
namespace Go.Proofs.Pe

/-! ### Expressions and processes -/
inductive Ex where
  | mk (k n : Int) (nm : ByteArray) (l : List Ex)
inductive Tm where
  | mk (k a b : Int) (nm : ByteArray) (e : Ex) (l : List Tm)
def cap : Nat := 1000000000
abbrev sV (s : ByteArray) : V := .sc (.string s)
mutual
def IsEx : Ex → V → Prop
  | .mk k n nm l, v => ∃ lv vs, v = .agg [iV k, iV n, sV nm, lv] ∧ IsSl 4 lv vs ∧ vs.length ≤ cap ∧ IsExs l vs
def IsExs : List Ex → List V → Prop
  | [], vs => vs = []
  | x :: l, vs => ∃ v ws, vs = v :: ws ∧ IsEx x v ∧ IsExs l ws
end
mutual
def IsTm : Tm → V → Prop
  | .mk k a b nm (.mk ek en em el) l, v => ∃ ev evs lv vs, v = .agg [iV k, iV a, iV b, sV nm, iV ek, iV en, sV em, ev, lv] ∧ IsSl 4 ev evs ∧ evs.length ≤ cap ∧ IsExs el evs ∧ IsSl 9 lv vs ∧ vs.length ≤ cap ∧ IsTms l vs
def IsTms : List Tm → List V → Prop
  | [], vs => vs = []
  | x :: l, vs => ∃ v ws, vs = v :: ws ∧ IsTm x v ∧ IsTms l ws
end
/-- One by one. -/
def All2 {α : Type} (R : α → V → Prop) : List α → List V → Prop
  | [], vs => vs = []
  | x :: l, vs => ∃ v ws, vs = v :: ws ∧ R x v ∧ All2 R l ws
theorem isExs_all : ∀ {l : List Ex} {vs : List V}, IsExs l vs ↔ All2 IsEx l vs
  | [], vs => by simp only [IsExs, All2]
  | x :: l, vs => by simp only [IsExs, All2, isExs_all]
theorem isTms_all : ∀ {l : List Tm} {vs : List V}, IsTms l vs ↔ All2 IsTm l vs
  | [], vs => by simp only [IsTms, All2]
  | x :: l, vs => by simp only [IsTms, All2, isTms_all]
section
variable {α : Type} {R : α → V → Prop}
theorem All2.len : ∀ {l : List α} {vs : List V}, All2 R l vs → vs.length = l.length
  | [], vs, h => by rw [show vs = [] from h]; rfl
  | x :: l, vs, h => by obtain ⟨v, ws, rfl, _, h2⟩ := h; simp [h2.len]
theorem All2.get : ∀ {l : List α} {vs : List V}, All2 R l vs → ∀ {i : Nat} {v : V} {x : α}, vs[i]? = some v → l[i]? = some x → R x v
  | [], vs, h, i, v, x, hv, hx => by simp at hx
  | y :: l, vs, h, i, v, x, hv, hx => by
    obtain ⟨w, ws, rfl, h1, h2⟩ := h
    cases i with
    | zero => simp at hv hx; subst hv hx; exact h1
    | succ i => simp at hv hx; exact h2.get hv hx
theorem All2.of : ∀ {l : List α} {vs : List V}, vs.length = l.length → (∀ (i : Nat) (v : V) (x : α), vs[i]? = some v → l[i]? = some x → R x v) → All2 R l vs
  | [], vs, hl, _ => List.length_eq_zero_iff.1 (by simpa using hl)
  | x :: l, [], hl, _ => by simp at hl
  | x :: l, v :: vs, hl, h => ⟨v, vs, rfl, h 0 v x rfl rfl, All2.of (by simpa using hl) fun i v' x' hv hx => h (i + 1) v' x' (by simpa using hv) (by simpa using hx)⟩
theorem All2.snoc : ∀ {l : List α} {vs : List V}, All2 R l vs → ∀ {x : α} {v : V}, R x v → All2 R (l ++ [x]) (vs ++ [v])
  | [], vs, h, x, v, hr => by rw [show vs = [] from h]; exact ⟨v, [], rfl, hr, rfl⟩
  | y :: l, vs, h, x, v, hr => by
    obtain ⟨w, ws, rfl, h1, h2⟩ := h
    exact ⟨w, ws ++ [v], rfl, h1, h2.snoc hr⟩
theorem All2.append : ∀ {l : List α} {vs : List V}, All2 R l vs → ∀ {l' : List α} {vs' : List V}, All2 R l' vs' → All2 R (l ++ l') (vs ++ vs')
  | [], vs, h, l', vs', hr => by rw [show vs = [] from h]; exact hr
  | y :: l, vs, h, l', vs', hr => by
    obtain ⟨w, ws, rfl, h1, h2⟩ := h
    exact ⟨w, ws ++ vs', rfl, h1, h2.append hr⟩
theorem All2.take {l : List α} {vs : List V} (h : All2 R l vs) (n : Nat) : All2 R (l.take n) (vs.take n) :=
  .of (by simp [h.len]) fun i v x hv hx => by
    have hi : i < n := by have := (List.getElem?_eq_some_iff.1 hv).1; simp at this; omega
    rw [List.getElem?_take_of_lt hi] at hv hx
    exact h.get hv hx
theorem All2.set {l : List α} {vs : List V} (h : All2 R l vs) (n : Nat) {x : α} {v : V} (hr : R x v) : All2 R (l.set n x) (vs.set n v) :=
  .of (by simp [h.len]) fun i v' x' hv hx => by
    have hi : i < vs.length := by have := (List.getElem?_eq_some_iff.1 hv).1; simpa using this
    have hl := h.len
    rw [List.getElem?_set] at hv hx
    by_cases e : n = i
    · subst e; simp [hi] at hv; simp [show n < l.length by omega] at hx; subst hv hx; exact hr
    · rw [if_neg e] at hv hx; exact h.get hv hx
theorem All2.mem {l : List α} {vs : List V} (h : All2 R l vs) {v : V} (hv : v ∈ vs) : ∃ x, x ∈ l ∧ R x v := by
  obtain ⟨i, hi⟩ := List.getElem?_of_mem hv
  have hlt := (List.getElem?_eq_some_iff.1 hi).1
  have hlt2 : i < l.length := by rw [← h.len]; exact hlt
  exact ⟨l[i], List.getElem_mem hlt2, h.get hi (List.getElem?_eq_getElem hlt2)⟩
theorem All2.okRow {l : List α} {vs : List V} {k : Nat} (h : All2 R l vs) (hr : ∀ x v, R x v → v.free = true ∧ v.cells.length = k) : okRow k vs := by
  unfold Pe.okRow
  simp only [List.all_eq_true, Bool.and_eq_true, decide_eq_true_eq]
  intro v hv
  obtain ⟨x, _, hx⟩ := h.mem hv
  exact hr x v hx
theorem All2.free {l : List α} {vs : List V} (h : All2 R l vs) (hr : ∀ x v, R x v → v.free = true) : vs.all V.free = true := by
  simp only [List.all_eq_true]
  intro v hv
  obtain ⟨x, _, hx⟩ := h.mem hv
  exact hr x v hx
end
theorem IsEx.ok {x : Ex} {v : V} (h : IsEx x v) : v.free = true ∧ v.cells.length = 4 := by
  cases x; obtain ⟨lv, vs, rfl, h1, _⟩ := h
  exact ⟨by simp only [free_agg, List.all_cons, List.all_nil, free1_sc, h1.free, Bool.and_self], rfl⟩
theorem IsEx.solid {x : Ex} {v : V} (h : IsEx x v) : v.solid = true := by
  cases x; obtain ⟨lv, vs, rfl, h1, _⟩ := h
  simp only [solid_agg, List.all_cons, List.all_nil, one_sc, free1_one h1.free, Bool.and_true]
theorem IsTm.ok {x : Tm} {v : V} (h : IsTm x v) : v.free = true ∧ v.cells.length = 9 := by
  rcases x with ⟨_, _, _, _, ⟨_, _, _, _⟩, _⟩; obtain ⟨ev, evs, lv, vs, rfl, h1, _, _, h2, _⟩ := h
  exact ⟨by simp only [free_agg, List.all_cons, List.all_nil, free1_sc, h1.free, h2.free, Bool.and_self], rfl⟩
theorem okRow1 {k : Nat} {v : V} (h : v.free = true ∧ v.cells.length = k) : okRow k [v] := by
  simp [Pe.okRow, h.1, h.2]

end Go.Proofs.Pe

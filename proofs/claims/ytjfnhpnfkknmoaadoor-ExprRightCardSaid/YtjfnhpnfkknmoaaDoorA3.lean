/- A part of the texts that the claim's proof needs: functions of the program as the evaluator reads them, and what they come to. Conditions: those that its theorems state. -/
import Derived.Test.YtjfnhpnfkknmoaaDoorA2
set_option linter.unusedVariables false
namespace Go.Proofs.Pe
variable {P : Program}
/-! ### Data that came in, type by type -/
theorem VT_int {n : Nat} {t : TypeId} {k : IntKind} {xs : List V} (hu : P.underlying t = some (.int k)) (h : VT P n t xs) : ∃ z, (Lit.int k z).wf = true ∧ xs = [.sc (.int k z)] := by
  cases n with
  | zero => cases h
  | succ n => simpa only [VT, hu] using h
theorem VT_bool {n : Nat} {t : TypeId} {xs : List V} (hu : P.underlying t = some .bool) (h : VT P n t xs) : ∃ b, xs = [.sc (.bool b)] := by
  cases n with
  | zero => cases h
  | succ n => simpa only [VT, hu] using h
theorem VT_str {n : Nat} {t : TypeId} {xs : List V} (hu : P.underlying t = some .string) (h : VT P n t xs) : ∃ s : ByteArray, s.size ≤ maxLen ∧ xs = [.sc (.string s)] := by
  cases n with
  | zero => cases h
  | succ n => simpa only [VT, hu] using h
theorem VT_sl {n : Nat} {t e : TypeId} {xs : List V} (hu : P.underlying t = some (.slice e)) (h : VT P n t xs) : ∃ m, m < n ∧ (xs = [nilV] ∨ ∃ ys : List V, xs = [.sl (P.cellsOf e) false ys] ∧ ys.length ≤ maxLen ∧ ∀ y ∈ ys, ∃ zs, y = elV zs ∧ zs.length = P.cellsOf e ∧ VT P m e zs) := by
  cases n with
  | zero => cases h
  | succ n =>
    simp only [VT, hu] at h
    exact ⟨n, Nat.lt_succ_self n, h⟩
def SegsVT (P : Program) (n : Nat) : List TypeId → List (List V) → Prop
  | [], [] => True
  | t :: ts, s :: ss => VT P n t s ∧ SegsVT P n ts ss
  | _, _ => False
theorem segsVT {n : Nat} : ∀ {fs : List Field} {segs : List (List V)}, segs.length = fs.length → (∀ (i : Nat) f seg, fs[i]? = some f → segs[i]? = some seg → VT P n f.type seg) → SegsVT P n (fs.map (·.type)) segs
  | [], [], _, _ => trivial
  | f :: fs, s :: ss, hl, h => ⟨h 0 f s rfl rfl, segsVT (by simpa using hl) fun i f seg hf hs => h (i + 1) f seg (by simpa using hf) (by simpa using hs)⟩
  | [], _ :: _, hl, _ => by simp at hl
  | _ :: _, [], hl, _ => by simp at hl
theorem VT_st {n : Nat} {t : TypeId} {fs : Array Field} {xs : List V} (hu : P.underlying t = some (.struct fs)) (h : VT P n t xs) : ∃ m, m < n ∧ ∃ segs, xs = segs.flatten ∧ SegsVT P m (fs.toList.map (·.type)) segs := by
  cases n with
  | zero => cases h
  | succ n =>
    simp only [VT, hu] at h
    obtain ⟨segs, h1, h2, h3⟩ := h
    exact ⟨n, Nat.lt_succ_self n, segs, h1, segsVT h2 h3⟩

/-! ### Raw expressions -/
inductive Rw where
  | mk (k n : Int) (l : List Rw)
def Rw.k : Rw → Int | .mk k _ _ => k
def Rw.n : Rw → Int | .mk _ n _ => n
def Rw.l : Rw → List Rw | .mk _ _ l => l
mutual
def IsRw : Rw → V → Prop
  | .mk k n l, v => ∃ lv vs, v = .agg [iV k, iV n, lv] ∧ I64 k ∧ I64 n ∧ IsSl 3 lv vs ∧ vs.length ≤ maxLen ∧ IsRws l vs
def IsRws : List Rw → List V → Prop
  | [], vs => vs = []
  | x :: l, vs => ∃ v ws, vs = v :: ws ∧ IsRw x v ∧ IsRws l ws
end
theorem isRws_all : ∀ {l : List Rw} {vs : List V}, IsRws l vs ↔ All2 IsRw l vs
  | [], vs => by simp only [IsRws, All2]
  | x :: l, vs => by simp only [IsRws, All2, isRws_all]
theorem IsRw.ok {x : Rw} {v : V} (h : IsRw x v) : v.free = true ∧ v.cells.length = 3 := by
  cases x; obtain ⟨lv, vs, rfl, _, _, h1, _⟩ := h
  exact ⟨by simp only [free_agg, List.all_cons, List.all_nil, free1_sc, h1.free, Bool.and_self], rfl⟩
/-- A list of what stands for something. -/
theorem all2_of {α : Type} {R : α → V → Prop} : ∀ {vs : List V}, (∀ v ∈ vs, ∃ x, R x v) → ∃ l, All2 R l vs
  | [], _ => ⟨[], rfl⟩
  | v :: vs, h => by
    obtain ⟨x, hx⟩ := h v (by simp)
    obtain ⟨l, hl⟩ := all2_of (vs := vs) fun w hw => h w (List.mem_cons_of_mem _ hw)
    exact ⟨x :: l, v, vs, rfl, hx, hl⟩
/-- Rows of them. -/
structure RwTypes (P : Program) (tr tl : TypeId) : Prop where
  ti : P.underlying 3 = some (.int .i64)
  sl : P.underlying tl = some (.slice tr)
  ce : P.cellsOf tr = 3
  st : ∃ fs, P.underlying tr = some (.struct fs) ∧ fs.toList.map (·.type) = [3, 3, tl]
theorem rw_of {tr tl : TypeId} (H : RwTypes P tr tl) : ∀ (n : Nat), (∀ xs, VT P n tr xs → ∃ r, IsRw r (elV xs)) ∧ (∀ x, VT P n tl [x] → ∃ l vs, IsSl 3 x vs ∧ All2 IsRw l vs ∧ vs.length ≤ maxLen)
  | n => by
    constructor
    · intro xs h
      obtain ⟨fs, hu, ht⟩ := H.st
      obtain ⟨m, hm, segs, rfl, hs⟩ := VT_st hu h
      rw [ht] at hs
      match segs, hs with
      | [s0, s1, s2], ⟨h0, h1, h2, _⟩ =>
        obtain ⟨k, hk, rfl⟩ := VT_int H.ti h0
        obtain ⟨z, hz, rfl⟩ := VT_int H.ti h1
        have h2' := h2
        obtain ⟨_, _, e | ⟨ys, e, _⟩⟩ := VT_sl H.sl h2
        · subst e
          obtain ⟨l, vs, g1, g2, g3⟩ := (rw_of H m).2 _ h2'
          exact ⟨.mk k z l, _, vs, rfl, I64.of hk, I64.of hz, g1, g3, isRws_all.2 g2⟩
        · subst e
          obtain ⟨l, vs, g1, g2, g3⟩ := (rw_of H m).2 _ h2'
          exact ⟨.mk k z l, _, vs, rfl, I64.of hk, I64.of hz, g1, g3, isRws_all.2 g2⟩
    · intro x h
      obtain ⟨m, hm, e | ⟨ys, e, hl, hy⟩⟩ := VT_sl H.sl h
      · cases e
        exact ⟨[], [], .inl ⟨rfl, rfl⟩, rfl, by simp⟩
      · cases e
        rw [H.ce]
        obtain ⟨l, hl2⟩ := all2_of (R := IsRw) (vs := ys) fun y hy' => by
          obtain ⟨zs, rfl, _, hv⟩ := hy y hy'
          exact (rw_of H m).1 zs hv
        exact ⟨l, ys, .inr ⟨_, rfl⟩, hl2, hl⟩
/-- Rows of numbers. -/
theorem ints_of {tl : TypeId} (ti : P.underlying 3 = some (.int .i64)) (sl : P.underlying tl = some (.slice 3)) (ce : P.cellsOf 3 = 1) {n : Nat} {x : V} (h : VT P n tl [x]) :
    ∃ zs : List Int, IsSl 1 x (zs.map iV) ∧ (∀ z ∈ zs, I64 z) ∧ zs.length ≤ maxLen := by
  obtain ⟨m, hm, e | ⟨ys, e, hl, hy⟩⟩ := VT_sl sl h
  · cases e
    exact ⟨[], .inl ⟨rfl, rfl⟩, by simp, by simp⟩
  · cases e
    rw [ce]
    have key : ∀ {ys : List V}, (∀ y ∈ ys, ∃ zs, y = elV zs ∧ zs.length = P.cellsOf 3 ∧ VT P m 3 zs) → ∃ zs : List Int, ys = zs.map iV ∧ ∀ z ∈ zs, I64 z := fun {ys} => by
      induction ys with
      | nil => exact fun _ => ⟨[], rfl, by simp⟩
      | cons y ys ih =>
        intro h
        obtain ⟨zs, rfl, _, hv⟩ := h y (by simp)
        obtain ⟨z, hz, rfl⟩ := VT_int ti hv
        obtain ⟨l, rfl, hl⟩ := ih fun w hw => h w (List.mem_cons_of_mem _ hw)
        exact ⟨z :: l, rfl, fun w hw => by rcases List.mem_cons.1 hw with rfl | hw; exact I64.of hz; exact hl w hw⟩
    obtain ⟨zs, rfl, hz⟩ := key hy
    exact ⟨zs, .inr ⟨_, rfl⟩, hz, by simpa using hl⟩
theorem cf_ar2 {x : V} {o : List O} {l v k : Nat} {w : Bool} {xs : List V} (hx : x.free = true) (h : o[l]? = some (.arr v w k xs)) (hf : xs.all V.free = true) :
    commits o [x, .ar l v] = some ([x, .sl k false xs], o.set l (.arr v false k xs)) := by
  have h2 : freeze o (.ar l v) = some (.sl k false xs, o.set l (.arr v false k xs)) := by
    show freeze1 o (.ar l v) = _
    simp [freeze1, h, hf]
  simp [commits, step.freezes', freeze_free hx, h2]
theorem ints_free (zs : List Int) : (zs.map iV).all V.free = true := by simp [V.free, V.free1]
end Go.Proofs.Pe

/- A part of the texts that the claim's proof needs: functions of the program as the evaluator reads them, and what they come to. Conditions: those that its theorems state. -/
import Derived.Test.YtlmfkkbbakaaaaaY1M
set_option linter.unusedVariables false
set_option linter.unusedSimpArgs false
set_option maxRecDepth 100000
set_option maxHeartbeats 4000000
namespace Go.Proofs.Ytlmfkkbbakaaaaa
open Go.Proofs.Pe

/-- A gap: it parts, and is gone past whole. -/
def IsGap (g : List UInt8) : Prop := (∃ b g', g = b :: g' ∧ Gap b) ∧ g.length ≤ 6 ∧ ∀ u, goneN false (g ++ u) = g.length + goneN false u
def gapL : List (List UInt8) := [[32], [10], [32, 32], [9, 13], [32, 35, 32, 100, 111, 10], [35, 10, 10]]
theorem gap35 : Gap 35 := by
  refine ⟨by decide, by decide, fun c => ?_⟩
  simp [dbls]
theorem gapL_get {m : Nat} (h : m < 6) : ∃ g, (gapL.map fun l => tV l)[m]? = some (tV g) ∧ IsGap g := by
  have b32 : isBl 32 = true := by decide
  have b9 : isBl 9 = true := by decide
  have b10 : isBl 10 = true := by decide
  have b13 : isBl 13 = true := by decide
  have b35 : isBl 35 = false := by decide
  have hm : m = 0 ∨ m = 1 ∨ m = 2 ∨ m = 3 ∨ m = 4 ∨ m = 5 := by omega
  rcases hm with rfl | rfl | rfl | rfl | rfl | rfl
  · exact ⟨[32], rfl, ⟨32, [], rfl, gap_of (.inr (.inl rfl))⟩, by decide, fun u => by simp [goneN, b32]; omega⟩
  · exact ⟨[10], rfl, ⟨10, [], rfl, gap_of (.inl rfl)⟩, by decide, fun u => by simp [goneN, b10]; omega⟩
  · exact ⟨[32, 32], rfl, ⟨32, _, rfl, gap_of (.inr (.inl rfl))⟩, by decide, fun u => by simp [goneN, b32]; omega⟩
  · exact ⟨[9, 13], rfl, ⟨9, _, rfl, gap_of (.inr (.inr rfl))⟩, by decide, fun u => by simp [goneN, b9, b13]; omega⟩
  · exact ⟨[32, 35, 32, 100, 111, 10], rfl, ⟨32, _, rfl, gap_of (.inr (.inl rfl))⟩, by decide, fun u => by simp [goneN, b32, b35]; omega⟩
  · exact ⟨[35, 10, 10], rfl, ⟨35, _, rfl, gap35⟩, by decide, fun u => by simp [goneN, b35, b10]; omega⟩
/-- A sign by itself. -/
def OkSg (x : Sg) : Prop := oneS x.t = .ok x.k x.t.length
theorem SR.oks {r : List UInt8} {i : Nat} {acc : List Sg} {res : Res} (h : SR r i acc res) : ∀ L, res = .ok L → (∀ x ∈ acc, OkSg x) → ∀ x ∈ L, OkSg x := by
  induction h with
  | done h => intro L e ha; cases e; exact ha
  | err h h2 => intro L e; cases e
  | @one r r' c i q m acc res h h2 h3 ih =>
    intro L e ha
    obtain ⟨m1, m2⟩ := oneS_pos h2
    refine ih L e fun x hx => ?_
    simp only [List.mem_append, List.mem_singleton] at hx
    rcases hx with hx | hx
    · exact ha x hx
    · subst hx
      show oneS ((c :: r').take m) = .ok q ((c :: r').take m).length
      rw [oneS_take h2 (Nat.le_refl _), List.length_take, Nat.min_eq_left m2]
def wgt (L : List Sg) : Nat := (L.map fun x => x.t.length + 6).sum
theorem wgt_app (a b : List Sg) : wgt (a ++ b) = wgt a + wgt b := by simp [wgt]
theorem SR.wgtLe {r : List UInt8} {i : Nat} {acc : List Sg} {res : Res} (h : SR r i acc res) : ∀ L, res = .ok L → wgt L ≤ wgt acc + 7 * r.length := by
  induction h with
  | done h => intro L e; cases e; omega
  | err h h2 => intro L e; cases e
  | @one r r' c i q m acc res h h2 h3 ih =>
    intro L e
    have h5 := ih L e
    obtain ⟨m1, m2⟩ := oneS_pos h2
    have hl := congrArg List.length h
    have hg := goneN_le false r
    simp only [List.length_drop] at hl h5
    have h6 : wgt [Sg.mk q ((c :: r').take m) (i + goneN false r)] = m + 6 := by
      show ((c :: r').take m).length + 6 + 0 = m + 6
      rw [List.length_take, Nat.min_eq_left m2]
    rw [wgt_app, h6] at h5
    omega
theorem gone_one {c : UInt8} {r u : List UInt8} {k m : Nat} (h : oneS (c :: r) = .ok k m) : goneN false (c :: u) = 0 := by
  have key : isBl c = true ∨ c.toNat = 35 → False := by
    intro hc
    have hc' : c = 32 ∨ c = 9 ∨ c = 10 ∨ c = 13 ∨ c = 35 := by
      rcases hc with hc | hc
      · simp only [isBl, Bool.or_eq_true, decide_eq_true_eq] at hc
        rcases hc with ((h | h) | h) | h
        · exact .inl (UInt8.toNat_inj.1 h)
        · exact .inr (.inl (UInt8.toNat_inj.1 h))
        · exact .inr (.inr (.inl (UInt8.toNat_inj.1 h)))
        · exact .inr (.inr (.inr (.inl (UInt8.toNat_inj.1 h))))
      · exact .inr (.inr (.inr (.inr (UInt8.toNat_inj.1 hc))))
    have hm : markN (c :: r) = 0 := by
      rcases hc' with rfl | rfl | rfl | rfl | rfl <;> cases r <;> simp [markN, dbls, sngs]
    have hs : isSm c = false := by rcases hc' with rfl | rfl | rfl | rfl | rfl <;> decide
    have hd : isDg c = false := by rcases hc' with rfl | rfl | rfl | rfl | rfl <;> decide
    simp [oneS, hs, hd, hm] at h
  refine gone_no ?_ fun h => key (.inr h)
  cases hb : isBl c with
  | true => exact (key (.inl hb)).elim
  | false => rfl
/-- Signs, a gap behind each. -/
def weave : List (Sg × List UInt8) → List UInt8
  | [] => []
  | (x, g) :: r => x.t ++ (g ++ weave r)
theorem weave_app : ∀ (a b : List (Sg × List UInt8)), weave (a ++ b) = weave a ++ weave b
  | [], b => rfl
  | (x, g) :: a, b => by simp [weave, weave_app a b]
theorem weave_len : ∀ (a : List (Sg × List UInt8)), (∀ p ∈ a, IsGap p.2) → (weave a).length ≤ wgt (a.map Prod.fst)
  | [], _ => Nat.zero_le _
  | (x, g) :: a, h => by
    have h1 := weave_len a fun p hp => h p (List.mem_cons_of_mem _ hp)
    have h2 := (h (x, g) (List.mem_cons_self ..)).2.1
    dsimp only at h2
    simp only [weave, List.map_cons, List.length_append]
    have : wgt (x :: a.map Prod.fst) = x.t.length + 6 + wgt (a.map Prod.fst) := by simp [wgt]
    omega
def SameKT (a b : List Sg) : Prop := a.map (fun x => (x.k, x.t)) = b.map fun x => (x.k, x.t)
theorem SR.woven : ∀ (ps : List (Sg × List UInt8)) (i : Nat) (acc : List Sg), (∀ p ∈ ps, OkSg p.1 ∧ IsGap p.2) → ∃ M, SR (weave ps) i acc (.ok (acc ++ M)) ∧ SameKT M (ps.map Prod.fst)
  | [], i, acc, _ => ⟨[], by rw [List.append_nil]; exact .done rfl, rfl⟩
  | (x, g) :: ps, i, acc, h => by
    obtain ⟨h1, ⟨b, g', hg, hb⟩, _, h3⟩ := h (x, g) (List.mem_cons_self ..)
    dsimp only at h1 hg h3
    obtain ⟨M, hM, hk⟩ := SR.woven ps (i + x.t.length + g.length) (acc ++ [⟨x.k, x.t, i⟩]) fun p hp => h p (List.mem_cons_of_mem _ hp)
    have hp := (oneS_pos h1).1
    have hS : SR (g ++ weave ps) (i + x.t.length) (acc ++ [⟨x.k, x.t, i⟩]) (.ok (acc ++ [⟨x.k, x.t, i⟩] ++ M)) := hM.pre (n := g.length) (by rw [List.drop_left]) (h3 _)
    refine ⟨⟨x.k, x.t, i⟩ :: M, ?_, ?_⟩
    · unfold OkSg at h1
      cases hx : x.t with
      | nil => rw [hx] at hp; simp at hp
      | cons c r =>
        rw [hx] at h1 hS
        have g0 : goneN false (c :: r ++ (g ++ weave ps)) = 0 := gone_one (r := r) h1
        have ho : oneS (c :: (r ++ (g ++ weave ps))) = .ok x.k (c :: r).length := by
          rw [hg]
          exact (oneS_app hb (g' ++ weave ps) c r).trans h1
        have hw : weave ((x, g) :: ps) = c :: r ++ (g ++ weave ps) := by simp only [weave, hx]
        rw [hw]
        refine .one (c := c) (r' := r ++ (g ++ weave ps)) (k := x.k) (m := (c :: r).length) (by rw [g0]; rfl) ho ?_
        have e1 : (c :: (r ++ (g ++ weave ps))).drop (c :: r).length = g ++ weave ps := by rw [← List.cons_append, List.drop_left]
        have e2 : (c :: (r ++ (g ++ weave ps))).take (c :: r).length = c :: r := by rw [← List.cons_append, List.take_left]
        rw [e1, e2, g0]
        have e3 : acc ++ (Sg.mk x.k (c :: r) i :: M) = acc ++ [Sg.mk x.k (c :: r) i] ++ M := by simp
        rw [e3]
        exact hS
    · simp only [SameKT, List.map_cons] at hk ⊢
      rw [hk]
theorem SameKT.get {a b : List Sg} (h : SameKT a b) {i : Nat} {x : Sg} (hx : b[i]? = some x) : ∃ y, a[i]? = some y ∧ y.k = x.k ∧ y.t = x.t := by
  have h1 : (a.map fun x => (x.k, x.t))[i]? = some (x.k, x.t) := by rw [h]; simp [hx]
  rw [List.getElem?_map] at h1
  cases hy : a[i]? with
  | none => rw [hy] at h1; cases h1
  | some y =>
    rw [hy] at h1
    have := Option.some.inj h1
    exact ⟨y, rfl, (Prod.mk.inj this).1, (Prod.mk.inj this).2⟩
end Go.Proofs.Ytlmfkkbbakaaaaa

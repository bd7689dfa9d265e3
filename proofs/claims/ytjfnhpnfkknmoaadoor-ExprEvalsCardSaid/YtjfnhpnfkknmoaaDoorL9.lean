/- A part of the texts that the claim's proof needs: functions of the program as the evaluator reads them, and what they come to. Conditions: those that its theorems state. -/
import Derived.Test.YtjfnhpnfkknmoaaDoorPeD
set_option linter.unusedVariables false
namespace Go.Proofs.Pe
variable {P : Program} {T : Tab} {ca : Ca} {yi : Nat → Sem'} {lp : Bd → Bd} {rd : Option Nat} {t : List V} {o : List O} {m : List Nat} {Φ : X → Fr → Prop}

/-! ### Both ways of a test that is not known -/
theorem cond_split {x : E} {a b : C} (c : Bool) (h : condV (x.ev ⟨t, o⟩) = some c) (h1 : c = true → ev P T ca lp a rd yi ⟨⟨t, o⟩, m⟩ Φ) (h2 : c = false → ev P T ca lp b rd yi ⟨⟨t, o⟩, m⟩ Φ) :
    ev P T ca lp (.cond x a b) rd yi ⟨⟨t, o⟩, m⟩ Φ := by
  cases c with
  | true => rw [s_ct h]; exact h1 rfl
  | false => rw [s_cf h]; exact h2 rfl
theorem gsplit_t {d : Option Nat} {j : Nat} {k : Pe.K} {K : St → Prop} (c : Bool) (h : t.getD j .dead = .sc (.bool c))
    (h1 : c = true → evK P T ca yi k t o fun y o' => K ⟨putT d y t, o'⟩) (h2 : c = false → K ⟨putT d (.tup []) t, o⟩) : evOp P T ca yi ⟨d, some (j, true), k⟩ ⟨t, o⟩ K := by
  cases c with
  | true => rw [s_gt (by rw [h]; rfl)]; exact h1 rfl
  | false => rw [s_gf (by rw [h]; rfl)]; exact h2 rfl
theorem gsplit_f {d : Option Nat} {j : Nat} {k : Pe.K} {K : St → Prop} (c : Bool) (h : t.getD j .dead = .sc (.bool c))
    (h1 : c = false → evK P T ca yi k t o fun y o' => K ⟨putT d y t, o'⟩) (h2 : c = true → K ⟨putT d (.tup []) t, o⟩) : evOp P T ca yi ⟨d, some (j, false), k⟩ ⟨t, o⟩ K := by
  cases c with
  | false => rw [s_gt (by rw [h]; rfl)]; exact h1 rfl
  | true => rw [s_gf (by rw [h]; rfl)]; exact h2 rfl
theorem guardV_b {b c : Bool} : guardV (.sc (.bool b)) c = some (b == c) := by cases b <;> cases c <;> rfl

/-- A call whose value is known. -/
theorem PFn.callE {f : FuncId} {xs ys : List V} {v : V} {o o1 : List O} {K : V → List O → Prop} (h : PFn P T f ys (fun z => z = v)) (hm : T.mode f = 0) (hc : commits o xs = some (ys, o1)) (hb : v.bare = true) (hK : K v o) : evCallV T (Call P T) yi (.fn (.func f) [] []) xs o K :=
  h.callB hm hc (fun z hz => by rw [hz]; exact hb) (fun z hz => by rw [hz]; exact hK)

theorem cf1 {x : V} (hx : x.free = true) (o : List O) : commits o [x] = some ([x], o) := commits_free fun y hy => by
  simp only [List.mem_cons, List.not_mem_nil, or_false] at hy; subst hy; exact hx
theorem cf2 {x y : V} (hx : x.free = true) (hy : y.free = true) (o : List O) : commits o [x, y] = some ([x, y], o) := commits_free fun z hz => by
  simp only [List.mem_cons, List.not_mem_nil, or_false] at hz; rcases hz with rfl | rfl <;> assumption
theorem cf3 {x y z : V} (hx : x.free = true) (hy : y.free = true) (hz : z.free = true) (o : List O) : commits o [x, y, z] = some ([x, y, z], o) := commits_free fun a ha => by
  simp only [List.mem_cons, List.not_mem_nil, or_false] at ha; rcases ha with rfl | rfl | rfl <;> assumption
theorem nc0 : ((0 : Nat) : Int) = 0 := by omega
theorem nc1 : ((1 : Nat) : Int) = 1 := by omega
theorem nc2 : ((2 : Nat) : Int) = 2 := by omega
theorem nc3 : ((3 : Nat) : Int) = 3 := by omega
theorem IsSl.ix0 {k : Nat} {v : V} {xs : List V} {y : V} (h : IsSl k v xs) (hy : xs[0]? = some y) (o : List O) : ixOf k o v (iV 0) = some (.ep y.cells, o) := h.ix o (n := 0) hy
theorem IsSl.ix1 {k : Nat} {v : V} {xs : List V} {y : V} (h : IsSl k v xs) (hy : xs[1]? = some y) (o : List O) : ixOf k o v (iV 1) = some (.ep y.cells, o) := h.ix o (n := 1) hy

/-! ### Whole numbers of 64 bits -/
def I64 (a : Int) : Prop := -9223372036854775808 ≤ a ∧ a ≤ 9223372036854775807
theorem I64.of {a : Int} (h : (Lit.int .i64 a).wf = true) : I64 a := by
  simp [Lit.wf, IntKind.min, IntKind.max, IntKind.bits, IntKind.signed] at h
  unfold I64; omega
theorem wrap_mod (n : Int) : ∃ k : Int, IntKind.i64.wrap n = n + k * 18446744073709551616 ∧ I64 (IntKind.i64.wrap n) := by
  unfold IntKind.wrap I64
  simp only [IntKind.bits, IntKind.signed]
  refine ⟨(IntKind.i64.wrap n - n) / 18446744073709551616, ?_, ?_⟩
  · unfold IntKind.wrap
    simp only [IntKind.bits, IntKind.signed]
    simp
    omega
  · simp
    omega
theorem wrap_I64 (n : Int) : I64 (IntKind.i64.wrap n) := (wrap_mod n).choose_spec.2
theorem wrap_def (n : Int) : IntKind.i64.wrap n = if 9223372036854775808 ≤ n % 18446744073709551616 then n % 18446744073709551616 - 18446744073709551616 else n % 18446744073709551616 := by
  unfold IntKind.wrap
  simp [IntKind.bits, IntKind.signed]
theorem wrap_in {n : Int} (h : I64 n) : IntKind.i64.wrap n = n := wrap_ok h.1 h.2
end Go.Proofs.Pe

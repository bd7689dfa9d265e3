/- A part of the texts that the claim's proof needs: functions of the program as the evaluator reads them, and what they come to. Conditions: those that its theorems state. -/
import Derived.Test.YtjfnhpnfkknmoaaDoorPeD
set_option linter.unusedVariables false
namespace Go.Proofs.Pe
/-! ### What is reckoned with numbers of 64 bits -/
def fitI (n : Int) : Int × Int := if -9223372036854775808 ≤ n ∧ n ≤ 9223372036854775807 then (n, 0) else (0, 8)
theorem fit_in {n : Int} (h : I64 n) : fitI n = (n, 0) := if_pos h
theorem fit_out {n : Int} (h : ¬ I64 n) : fitI n = (0, 8) := if_neg h
theorem tdiv_in {c b : Int} (hc : I64 c) (hb : b ≠ 0) (h1 : ¬ (b = -1 ∧ c = -9223372036854775808)) : I64 (c.tdiv b) := by
  have h2 : (c.tdiv b).natAbs ≤ c.natAbs := by rw [Int.natAbs_tdiv]; exact Nat.div_le_self _ _
  unfold I64 at *
  by_cases e : c = -9223372036854775808
  · have e1 : b ≠ -1 := fun e1 => h1 ⟨e1, e⟩
    by_cases e2 : b = 1
    · subst e2; simp; omega
    · have h3 : (c.tdiv b).natAbs ≤ c.natAbs / 2 := by
        rw [Int.natAbs_tdiv]
        exact Nat.div_le_div_left (by omega) (by decide)
      omega
  · omega
theorem mul_chk {a b : Int} (ha : I64 a) (hb : I64 b) (h0 : b ≠ 0) (h1 : b ≠ -1) : ((IntKind.i64.wrap (a * b)).tdiv b = a) ↔ I64 (a * b) := by
  constructor
  · intro h
    obtain ⟨k, hk, hi⟩ := wrap_mod (a * b)
    have e := Int.mul_tdiv_add_tmod (IntKind.i64.wrap (a * b)) b
    rw [h] at e
    have hr : ((IntKind.i64.wrap (a * b)).tmod b).natAbs < b.natAbs := by
      rw [Int.natAbs_tmod]
      exact Nat.mod_lt _ (by omega)
    have e2 : k * 18446744073709551616 = (IntKind.i64.wrap (a * b)).tmod b := by
      have : b * a = a * b := Int.mul_comm b a
      omega
    have hk0 : k = 0 := by unfold I64 at hb; omega
    rw [hk0] at hk
    have : a * b = IntKind.i64.wrap (a * b) := by omega
    rw [this]; exact hi
  · intro h
    rw [wrap_in h]
    exact Int.mul_tdiv_cancel a h0
def b2i (b : Bool) : Int := if b then 1 else 0
def twoS (k a b : Int) : Int × Int :=
  if k = 5 then fitI (a * b) else if k = 6 then (if b = 0 then (0, 9) else fitI (a.tdiv b)) else if k = 7 then (if b = 0 then (0, 9) else (a.tmod b, 0))
  else if k = 8 then fitI (a + b) else if k = 9 then fitI (a - b) else if k = 10 then (b2i (decide (a = b)), 0) else if k = 11 then (b2i (!decide (a = b)), 0)
  else if k = 12 then (b2i (decide (a < b)), 0) else if k = 13 then (b2i (decide (a ≤ b)), 0) else if k = 14 then (b2i (decide (b < a)), 0) else (b2i (decide (b ≤ a)), 0)
theorem mul_m1 {a : Int} (h : I64 a) : I64 (a * -1) ↔ a ≠ -9223372036854775808 := by unfold I64 at *; omega
theorem m1_mul {a : Int} (h : I64 a) : I64 (-1 * a) ↔ a ≠ -9223372036854775808 := by unfold I64 at *; omega
end Go.Proofs.Pe

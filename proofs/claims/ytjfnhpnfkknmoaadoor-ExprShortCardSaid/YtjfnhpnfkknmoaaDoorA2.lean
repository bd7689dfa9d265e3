/- A part of the texts that the claim's proof needs: functions of the program as the evaluator reads them, and what they come to. Conditions: those that its theorems state. -/
import Derived.Test.YtjfnhpnfkknmoaaDoorA1
import Derived.Test.YtjfnhpnfkknmoaaDoorD1
set_option linter.unusedVariables false
namespace Go.Proofs.Pe
/-! ### What an expression comes to -/
inductive WfE (n : Nat) : Ex → Prop where
  | num {m : Int} {nm : ByteArray} : I64 m → WfE n (.mk 1 m nm [])
  | var {i : Nat} {nm : ByteArray} : i < n → WfE n (.mk 2 i nm [])
  | one {k m : Int} {nm : ByteArray} {x : Ex} : 3 ≤ k → k ≤ 4 → WfE n x → WfE n (.mk k m nm [x])
  | two {k m : Int} {nm : ByteArray} {x y : Ex} : 5 ≤ k → k ≤ 17 → WfE n x → WfE n y → WfE n (.mk k m nm [x, y])
def oneE (k : Int) (r : Int × Int) : Int × Int := if r.2 ≠ 0 then (0, r.2) else if k = 3 then (b2i (decide (r.1 = 0)), 0) else fitI (r.1 * -1)
def twoE (k : Int) (r s : Int × Int) : Int × Int := if r.2 ≠ 0 then (0, r.2) else if k = 16 ∧ r.1 = 0 then (0, 0) else if k = 17 ∧ r.1 ≠ 0 then (1, 0)
  else if s.2 ≠ 0 then (0, s.2) else if k = 16 ∨ k = 17 then (b2i (!decide (s.1 = 0)), 0) else twoS k r.1 s.1
def evalS (vs : List Int) : Ex → Int × Int
  | .mk k n _ [] => if k = 1 then (n, 0) else if k = 2 then (vs.getD n.toNat 0, 0) else (0, 0)
  | .mk k _ _ [x] => oneE k (evalS vs x)
  | .mk k _ _ (x :: y :: _) => twoE k (evalS vs x) (evalS vs y)
theorem fitI_I64 (n : Int) : I64 (fitI n).1 := by
  unfold fitI I64; split <;> simp_all
theorem b2i_I64 (b : Bool) : I64 (b2i b) := by cases b <;> (unfold I64 b2i; simp)
theorem tmod_I64 {a b : Int} (ha : I64 a) : I64 (a.tmod b) := by
  have : (a.tmod b).natAbs ≤ a.natAbs := by rw [Int.natAbs_tmod]; exact Nat.mod_le _ _
  unfold I64 at *
  have h2 : 0 ≤ a → 0 ≤ a.tmod b := fun h => Int.tmod_nonneg b h
  have h3 : a ≤ 0 → a.tmod b ≤ 0 := fun h => by
    have := Int.tmod_nonneg b (show 0 ≤ -a by omega)
    rw [Int.neg_tmod] at this; omega
  omega
theorem I64_0 : I64 0 := by unfold I64; omega
theorem I64_1 : I64 1 := by unfold I64; omega
theorem twoS_I64 {k a b : Int} (ha : I64 a) : I64 (twoS k a b).1 := by
  unfold twoS
  repeat' split
  all_goals first | exact fitI_I64 _ | exact b2i_I64 _ | exact I64_0 | exact tmod_I64 ha
theorem evalS_I64 {vs : List Int} (hv : ∀ n ∈ vs, I64 n) : ∀ {x : Ex}, WfE vs.length x → I64 (evalS vs x).1 := by
  intro x h
  induction h with
  | num h => simpa [evalS] using h
  | @var i nm h =>
    have : (vs.getD i 0) ∈ vs := by rw [List.getD_eq_getElem?_getD, List.getElem?_eq_getElem h]; exact List.getElem_mem h
    have e : evalS vs (.mk 2 i nm []) = (vs.getD i 0, 0) := by simp [evalS]
    rw [e]; exact hv _ this
  | one h1 h2 hx ih =>
    show I64 (oneE _ _).1
    unfold oneE
    repeat' split
    all_goals first | exact I64_0 | exact b2i_I64 _ | exact fitI_I64 _
  | two h1 h2 hx hy ih1 ih2 =>
    show I64 (twoE _ _ _).1
    unfold twoE
    repeat' split
    all_goals first | exact I64_0 | exact I64_1 | exact b2i_I64 _ | exact twoS_I64 ih1
end Go.Proofs.Pe

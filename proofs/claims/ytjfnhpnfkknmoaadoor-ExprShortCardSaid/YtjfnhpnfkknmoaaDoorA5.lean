/- A part of the texts that the claim's proof needs: functions of the program as the evaluator reads them, and what they come to. Conditions: those that its theorems state. -/
import Derived.Test.YtjfnhpnfkknmoaaDoorA4
set_option linter.unusedVariables false
namespace Go.Proofs.Pe
/-! ### All that an expression is made of, from left to right -/
mutual
def nodes : Ex → List Ex
  | .mk k n m l => .mk k n m l :: nodesL l
def nodesL : List Ex → List Ex
  | [] => []
  | x :: l => nodes x ++ nodesL l
end
theorem nodesL_append : ∀ (a b : List Ex), nodesL (a ++ b) = nodesL a ++ nodesL b
  | [], b => rfl
  | x :: a, b => by simp [nodesL, nodesL_append a b]
theorem nodesL_take {l : List Ex} {i : Nat} {x : Ex} (h : l[i]? = some x) : nodesL (l.take (i + 1)) = nodesL (l.take i) ++ nodes x := by
  rw [List.take_add_one, h, nodesL_append]; simp [nodesL]
theorem mem_nodesL {x y : Ex} : ∀ {l : List Ex}, x ∈ l → y ∈ nodes x → y ∈ nodesL l
  | z :: l, h, hy => by
    rcases List.mem_cons.1 h with rfl | h
    · exact List.mem_append.2 (.inl hy)
    · exact List.mem_append.2 (.inr (mem_nodesL h hy))
/-! ### Whether an expression may be -/
def kids (k : Int) : Nat := if k = 1 ∨ k = 2 then 0 else if k = 3 ∨ k = 4 then 1 else 2
def okN (vars : Int) : Ex → Bool
  | .mk k n nm l => decide (1 ≤ k) && decide (k ≤ 17) && (nm.toList == []) && decide (l.length = kids k) && !(decide (k = 1) && decide (n < 0)) && !(decide (k = 2) && (decide (n < 0) || decide (vars ≤ n))) && !(decide (2 < k) && !decide (n = 0))
def rightS (vars : Int) (x : Ex) : Bool := (nodes x).all (okN vars)
theorem nodesL_all (p : Ex → Bool) : ∀ (l : List Ex), (nodesL l).all p = l.all fun x => (nodes x).all p
  | [] => rfl
  | x :: l => by simp [nodesL, nodesL_all p l]
theorem rightS_eq (vars k n : Int) (nm : ByteArray) (l : List Ex) : rightS vars (.mk k n nm l) = (okN vars (.mk k n nm l) && l.all (rightS vars)) := by
  unfold rightS
  rw [nodes, List.all_cons, nodesL_all]
theorem r_num {v m : Int} (h : 0 ≤ m) : rightS v (.mk 1 m emp []) = true := by
  have h1 : ¬ m < 0 := by omega
  have h2 : emp.toList = [] := btl []
  rw [rightS_eq]; simp [okN, kids, h1, h2]
theorem r_var {v : Int} {i : Nat} (h : (i : Int) < v) : rightS v (.mk 2 i emp []) = true := by
  have h1 : ¬ v ≤ i := by omega
  have h2 : emp.toList = [] := btl []
  rw [rightS_eq]; simp [okN, kids, h1, h2]
theorem r_one {v k : Int} {x : Ex} (h : k = 3 ∨ k = 4) (hx : rightS v x = true) : rightS v (.mk k 0 emp [x]) = true := by
  have h2 : emp.toList = [] := btl []
  rw [rightS_eq]
  rcases h with rfl | rfl <;> simp [okN, kids, h2, hx]
theorem r_two {v k : Int} {x y : Ex} (h1 : 5 ≤ k) (h2 : k ≤ 17) (hx : rightS v x = true) (hy : rightS v y = true) : rightS v (.mk k 0 emp [x, y]) = true := by
  have h3 : emp.toList = [] := btl []
  have e1 : ¬ (k = 1 ∨ k = 2) := by omega
  have e2 : ¬ (k = 3 ∨ k = 4) := by omega
  have e3 : 1 ≤ k := by omega
  have e4 : ¬ k = 1 := by omega
  have e5 : ¬ k = 2 := by omega
  rw [rightS_eq]; simp [okN, kids, e1, e2, e3, e4, e5, h2, h3, hx, hy]
theorem nums_nn (i : Nat) : 0 ≤ nums.getD i 0 := by
  unfold nums
  rcases i with _ | _ | _ | _ | _ | _ | _ | _ | i <;> simp
theorem mkS_right : ∀ (r : Rw), rightS 3 (mkS [] r) = true
  | .mk k n l => by
    rw [mkS_eq]
    have h1 := withinI_ok k (n := 24) (by decide)
    have h2 := withinI_ok n (n := 3) (by decide)
    have ih : ∀ x ∈ l, rightS 3 (mkS [] x) = true := fun x hx => mkS_right x
    have hp : ∀ i, rightS 3 (ptS n (l.map (mkS [])) i) = true := fun i => by
      unfold ptS
      rw [List.getD_eq_getElem?_getD, List.getElem?_map]
      cases h : l[i]? with
      | none => exact r_num (withinI_ok _ (by decide)).1
      | some x => exact ih x (List.mem_of_getElem? h)
    unfold mkC
    split
    · exact r_num (nums_nn _)
    split
    · rw [if_pos rfl]
      obtain ⟨i, hi⟩ : ∃ i : Nat, withinI n 3 = i := ⟨(withinI n 3).toNat, by omega⟩
      rw [hi]; exact r_var (by omega)
    split
    · exact r_one (.inl rfl) (hp 0)
    split
    · exact r_one (.inr rfl) (hp 0)
    · exact r_two (by omega) (by omega) (hp 0) (hp 1)
theorem oneS_right : ∀ (l : List Rw), rightS 3 (oneS [] l) = true
  | [] => r_num (by omega)
  | r :: _ => mkS_right r
theorem emp0 : (ByteArray.mk #[]).toList = [] := btl []
theorem okN_iff {vars k n : Int} {nm : ByteArray} {l : List Ex} : okN vars (.mk k n nm l) = true ↔
    (1 ≤ k ∧ k ≤ 17) ∧ nm.toList = [] ∧ l.length = kids k ∧ (k = 1 → 0 ≤ n) ∧ (k = 2 → 0 ≤ n ∧ n < vars) ∧ (2 < k → n = 0) := by
  simp only [okN, Bool.and_eq_true, decide_eq_true_eq, Bool.not_eq_true', Bool.and_eq_false_iff, decide_eq_false_iff_not, Bool.or_eq_false_iff, Bool.not_eq_false', beq_iff_eq]
  constructor
  · rintro ⟨⟨⟨⟨⟨⟨h1, h2⟩, h3⟩, h4⟩, h5⟩, h6⟩, h7⟩
    exact ⟨⟨h1, h2⟩, h3, h4, by omega, by omega, by omega⟩
  · rintro ⟨⟨h1, h2⟩, h3, h4, h5, h6, h7⟩
    exact ⟨⟨⟨⟨⟨⟨h1, h2⟩, h3⟩, h4⟩, by omega⟩, by omega⟩, by omega⟩
theorem kids_le (k : Int) : kids k ≤ 2 := by unfold kids; split <;> (try split) <;> omega
theorem kids_eq (k : Int) : (k = 1 ∨ k = 2 → kids k = 0) ∧ (k = 3 ∨ k = 4 → kids k = 1) ∧ (k ≠ 1 → k ≠ 2 → k ≠ 3 → k ≠ 4 → kids k = 2) := by
  unfold kids
  refine ⟨fun h => by rw [if_pos h], fun h => by rw [if_neg (by omega), if_pos h], fun h1 h2 h3 h4 => by rw [if_neg (by omega), if_neg (by omega)]⟩
end Go.Proofs.Pe

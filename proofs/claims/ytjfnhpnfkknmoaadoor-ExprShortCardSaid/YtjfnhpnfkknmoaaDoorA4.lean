/- A part of the texts that the claim's proof needs: functions of the program as the evaluator reads them, and what they come to. Conditions: those that its theorems state. -/
import Derived.Test.YtjfnhpnfkknmoaaDoorA3
set_option linter.unusedVariables false
namespace Go.Proofs.Pe
/-! ### How much there is of raw expressions -/
def szLoop (f : List Rw → Int) : List Rw → Int → Int
  | [], n => n
  | x :: l, n => if n ≤ 20 then szLoop f l (n + 1 + f x.l) else n
def szL : Nat → List Rw → Int
  | 0, _ => 1000
  | r + 1, l => szLoop (szL r) l 0
theorem szLoop_le {f : List Rw → Int} {B : Int} (hB : 0 ≤ B) (hf : ∀ l, 0 ≤ f l ∧ f l ≤ B) : ∀ (l : List Rw) {n : Int}, 0 ≤ n → n ≤ 21 + B → 0 ≤ szLoop f l n ∧ szLoop f l n ≤ 21 + B
  | [], n, h0, h1 => ⟨h0, h1⟩
  | x :: l, n, h0, h1 => by
    unfold szLoop
    have := hf x.l
    split
    · exact szLoop_le hB hf l (by omega) (by omega)
    · exact ⟨h0, h1⟩
theorem szL_le : ∀ (r : Nat) (l : List Rw), 0 ≤ szL r l ∧ szL r l ≤ 1000 + 21 * r
  | 0, l => by simp [szL]
  | r + 1, l => by
    have := szLoop_le (f := szL r) (B := 1000 + 21 * r) (by omega) (szL_le r) l (n := 0) (by omega) (by omega)
    show 0 ≤ szLoop (szL r) l 0 ∧ szLoop (szL r) l 0 ≤ _
    omega
theorem szLoop_drop {f : List Rw → Int} {l : List Rw} {i : Nat} {x : Rw} (hx : l[i]? = some x) {n : Int} (hn : n ≤ 20) : szLoop f (l.drop i) n = szLoop f (l.drop (i + 1)) (n + 1 + f x.l) := by
  obtain ⟨hlt, e⟩ := List.getElem?_eq_some_iff.1 hx
  rw [List.drop_eq_getElem_cons hlt, e]
  show (if n ≤ 20 then _ else _) = _
  rw [if_pos hn]
theorem szLoop_stop {f : List Rw → Int} {l : List Rw} {n : Int} (hn : ¬ n ≤ 20) : szLoop f l n = n := by
  cases l with
  | nil => rfl
  | cons x l => show (if n ≤ 20 then _ else _) = _; rw [if_neg hn]

/-! ### What is made of a raw expression -/
def nums : List Int := [0, 1, 2, 7, 99, 999999999999999999, 5, 3]
def emp : ByteArray := ByteArray.mk #[]
/-- A part, or a number. -/
def ptS (n : Int) (ps : List Ex) (i : Nat) : Ex := ps.getD i (.mk 1 (withinI (IntKind.i64.wrap (n + i)) 5) emp [])
/-- With names, if there are any; else by numbers. -/
def mkC (nm : List ByteArray) (k n : Int) (ps : List Ex) : Ex :=
  if withinI k 24 < 4 then .mk 1 (nums.getD (withinI n 8).toNat 0) emp []
  else if withinI k 24 < 9 then (if nm = [] then .mk 2 (withinI n 3) emp [] else .mk 2 0 (nm.getD (withinI n nm.length).toNat emp) [])
  else if withinI k 24 = 9 then .mk 3 0 emp [ptS n ps 0] else if withinI k 24 = 10 then .mk 4 0 emp [ptS n ps 0] else .mk (5 + withinI k 24 - 11) 0 emp [ptS n ps 0, ptS n ps 1]
mutual
def mkS (nm : List ByteArray) : Rw → Ex
  | .mk k n l => mkC nm k n (mkL nm l)
def mkL (nm : List ByteArray) : List Rw → List Ex
  | [] => []
  | x :: l => mkS nm x :: mkL nm l
end
theorem mkL_map (nm : List ByteArray) : ∀ (l : List Rw), mkL nm l = l.map (mkS nm)
  | [] => by simp [mkL]
  | x :: l => by simp [mkL, mkL_map nm l]
theorem mkS_eq (nm : List ByteArray) (k n : Int) (l : List Rw) : mkS nm (.mk k n l) = mkC nm k n (l.map (mkS nm)) := by rw [mkS, mkL_map]
def oneS (nm : List ByteArray) : List Rw → Ex
  | [] => .mk 1 1 emp []
  | r :: _ => mkS nm r
theorem nums_I64 (i : Nat) : I64 (nums.getD i 0) := by
  unfold nums I64
  rcases i with _ | _ | _ | _ | _ | _ | _ | _ | i <;> simp
theorem withinI_I64 {a n : Int} (h : 0 < n) (h2 : n ≤ 1000000) : I64 (withinI a n) := by
  have := withinI_ok a h
  unfold I64; omega
theorem mkS_wf : ∀ (r : Rw), WfE 3 (mkS [] r)
  | .mk k n l => by
    rw [mkS_eq]
    have h1 := withinI_ok k (n := 24) (by decide)
    have h2 := withinI_ok n (n := 3) (by decide)
    have ih : ∀ x ∈ l, WfE 3 (mkS [] x) := fun x hx => mkS_wf x
    have hp : ∀ i, WfE 3 (ptS n (l.map (mkS [])) i) := fun i => by
      unfold ptS
      rw [List.getD_eq_getElem?_getD, List.getElem?_map]
      cases h : l[i]? with
      | none => exact .num (withinI_I64 (by decide) (by decide))
      | some x => exact ih x (List.mem_of_getElem? h)
    unfold mkC
    split
    · exact .num (nums_I64 _)
    split
    · rw [if_pos rfl]
      obtain ⟨i, hi⟩ : ∃ i : Nat, withinI n 3 = i := ⟨(withinI n 3).toNat, by omega⟩
      rw [hi]; exact .var (by omega)
    split
    · exact .one (by decide) (by decide) (hp 0)
    split
    · exact .one (by decide) (by decide) (hp 0)
    · exact .two (by omega) (by omega) (hp 0) (hp 1)
theorem oneS_wf : ∀ (l : List Rw), WfE 3 (oneS [] l)
  | [] => .num I64_1
  | r :: _ => mkS_wf r
end Go.Proofs.Pe

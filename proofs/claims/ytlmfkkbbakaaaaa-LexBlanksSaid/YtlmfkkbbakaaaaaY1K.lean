/- A part of the texts that the claim's proof needs: functions of the program as the evaluator reads them, and what they come to. Conditions: those that its theorems state. -/
import Derived.Test.YtlmfkkbbakaaaaaY1J
set_option linter.unusedVariables false
set_option linter.unusedSimpArgs false
set_option maxRecDepth 100000
set_option maxHeartbeats 4000000
namespace Go.Proofs.Ytlmfkkbbakaaaaa
open Go.Proofs.Pe

/-! ### Texts behind one another -/
theorem rnN_cons {p : UInt8 → Bool} {c : UInt8} {r : List UInt8} : rnN p (c :: r) = if p c = true then rnN p r + 1 else 0 := by
  unfold rnN; rw [List.takeWhile_cons]; split <;> simp
theorem rnN_app {p : UInt8 → Bool} {b : UInt8} (hb : p b = false) (u : List UInt8) : ∀ r : List UInt8, rnN p (r ++ b :: u) = rnN p r
  | [] => by rw [List.nil_append, rnN_cons, hb]; rfl
  | c :: r => by rw [List.cons_append, rnN_cons, rnN_cons, rnN_app hb u r]
theorem rnN_take {p : UInt8 → Bool} : ∀ (r : List UInt8) (N : Nat), rnN p r ≤ N → rnN p (r.take N) = rnN p r
  | [], N, h => by simp
  | c :: r, 0, h => by
    rw [rnN_cons] at h ⊢
    split at h
    · omega
    · rename_i hp; rw [if_neg hp]; rfl
  | c :: r, N + 1, h => by
    rw [List.take_succ_cons, rnN_cons, rnN_cons]
    rw [rnN_cons] at h
    split at h
    · rename_i hp; rw [if_pos hp, if_pos hp, rnN_take r N (by omega)]
    · rename_i hp; rw [if_neg hp, if_neg hp]
/-- A byte that parts signs. -/
def Gap (b : UInt8) : Prop := isIn b = false ∧ isDg b = false ∧ ∀ c, dbls.contains [c, b] = false
theorem gap_of {b : UInt8} (h : b.toNat = 10 ∨ b.toNat = 32 ∨ b.toNat = 9) : Gap b := by
  have hb : b = 10 ∨ b = 32 ∨ b = 9 := by
    rcases h with h | h | h
    · exact .inl (UInt8.toNat_inj.1 h)
    · exact .inr (.inl (UInt8.toNat_inj.1 h))
    · exact .inr (.inr (UInt8.toNat_inj.1 h))
  refine ⟨?_, ?_, fun c => ?_⟩
  · rcases hb with rfl | rfl | rfl <;> decide
  · rcases hb with rfl | rfl | rfl <;> decide
  · rcases hb with rfl | rfl | rfl <;> simp [dbls]
theorem markN_app {b : UInt8} (hb : Gap b) (u : List UInt8) : ∀ (c : UInt8) (r : List UInt8), markN (c :: r ++ b :: u) = markN (c :: r)
  | c, [] => by
    have h1 := hb.2.2 c
    have h2 : dbls.contains [c] = false := by simp [dbls]
    unfold markN
    rw [show ([c] ++ b :: u).take 2 = [c, b] from rfl, show ([c] : List UInt8).take 2 = [c] from rfl, h1, h2]
    rfl
  | c, d :: r => rfl
theorem oneS_app {b : UInt8} (hb : Gap b) (u : List UInt8) (c : UInt8) (r : List UInt8) : oneS (c :: r ++ b :: u) = oneS (c :: r) := by
  have h1 := rnN_app hb.1 u (c :: r)
  have h2 := rnN_app hb.2.1 u (c :: r)
  have h3 := markN_app hb u c r
  rw [List.cons_append] at h1 h2 h3 ⊢
  unfold oneS
  dsimp only
  rw [h1, h2, h3]
theorem markN_take {c : UInt8} {r : List UInt8} {N : Nat} (h : markN (c :: r) ≤ N) (hN : 0 < N) : markN ((c :: r).take N) = markN (c :: r) := by
  cases N with
  | zero => omega
  | succ N =>
    cases N with
    | succ N =>
      unfold markN
      rw [List.take_take, show min 2 (N + 1 + 1) = 2 by omega]
      rfl
    | zero =>
      have hc : dbls.contains [c] = false := by simp [dbls]
      unfold markN at h ⊢
      cases hd : dbls.contains ((c :: r).take 2) with
      | true => rw [if_pos hd] at h; omega
      | false =>
        rw [show (((c :: r).take (0 + 1)).take 2) = [c] from rfl, hc]
        rfl
theorem oneS_take {r : List UInt8} {k n N : Nat} (h : oneS r = .ok k n) (hn : n ≤ N) : oneS (r.take N) = .ok k n := by
  obtain ⟨hp, _⟩ := oneS_pos h
  cases r with
  | nil => cases h
  | cons c r =>
    have t1 : ∀ p : UInt8 → Bool, rnN p (c :: r) ≤ N → rnN p ((c :: r).take N) = rnN p (c :: r) := fun p => rnN_take (c :: r) N
    have t2 : markN (c :: r) ≤ N → markN ((c :: r).take N) = markN (c :: r) := fun h => markN_take h (by omega)
    cases N with
    | zero => omega
    | succ N =>
      rw [List.take_succ_cons] at t1 t2 ⊢
      unfold oneS at h ⊢
      dsimp only at h ⊢
      split at h
      · rename_i hs
        split at h
        · cases h
        · rename_i h20
          cases h
          rw [if_pos hs, t1 isIn hn, if_neg h20]
      · rename_i hs
        rw [if_neg hs]
        split at h
        · rename_i hd
          rw [if_pos hd]
          split at h
          · cases h
          · rename_i h18
            split at h
            · cases h
            · rename_i h0
              cases h
              rw [t1 isDg hn, if_neg h18, if_neg h0]
        · rename_i hd
          rw [if_neg hd]
          split at h
          · cases h
          · rename_i hm
            cases h
            rw [t2 hn, if_neg hm]
theorem gone_app {b : UInt8} (hb : b.toNat = 10) (u : List UInt8) : ∀ (f : Bool) (r : List UInt8), goneN f (r ++ b :: u) = if goneN f r < r.length then goneN f r else r.length + 1 + goneN false u
  | true, [] => by simp only [List.nil_append, goneN, if_pos hb]; simp; omega
  | false, [] => by simp only [List.nil_append, goneN, show isBl b = true by simp [isBl, hb], if_true]; simp; omega
  | true, c :: r => by
    simp only [List.cons_append, goneN, List.length_cons]
    split
    · rw [gone_app hb u false r]; split <;> split <;> omega
    · rw [gone_app hb u true r]; split <;> split <;> omega
  | false, c :: r => by
    simp only [List.cons_append, goneN, List.length_cons]
    split
    · rw [gone_app hb u false r]; split <;> split <;> omega
    · split
      · rw [gone_app hb u true r]; split <;> split <;> omega
      · rw [if_pos (by omega)]
theorem SR.pre {t x : List UInt8} {i n : Nat} {acc : List Sg} {res : Res} (h : SR t (i + n) acc res) (hd : x.drop n = t) (hg : goneN false x = n + goneN false t) : SR x i acc res := by
  have hdd : x.drop (goneN false x) = t.drop (goneN false t) := by rw [hg, ← hd, List.drop_drop]
  have hi : i + n + goneN false t = i + goneN false x := by omega
  cases h with
  | done h => exact .done (by rw [hdd]; exact h)
  | err h h2 => rw [hi]; exact .err (by rw [hdd]; exact h) h2
  | one h h2 h3 => rw [hi] at h3; exact .one (by rw [hdd]; exact h) h2 h3
theorem gone_cons {b : UInt8} (hb : b.toNat = 10) (t r : List UInt8) {c : UInt8} {r' : List UInt8} (h : r.drop (goneN false r) = c :: r') :
    goneN false (r ++ b :: t) = goneN false r ∧ (r ++ b :: t).drop (goneN false (r ++ b :: t)) = c :: (r' ++ b :: t) := by
  have hl := congrArg List.length h
  simp at hl
  have e : goneN false (r ++ b :: t) = goneN false r := by rw [gone_app hb, if_pos (by omega)]
  refine ⟨e, ?_⟩
  rw [e, List.drop_append_of_le_length (by omega), h]; rfl
theorem SR.joinE {b : UInt8} (hb : b.toNat = 10) (t : List UInt8) {r : List UInt8} {i : Nat} {acc : List Sg} {res : Res} (h : SR r i acc res) : ∀ p e, res = .err p e → SR (r ++ b :: t) i acc (.err p e) := by
  induction h with
  | done h => intro p e h; cases h
  | @err r r' c i e acc h h2 =>
    intro p e he
    cases he
    obtain ⟨g1, g2⟩ := gone_cons hb t r h
    rw [← g1]
    exact .err g2 (by rw [← List.cons_append, oneS_app (gap_of (.inl hb))]; exact h2)
  | @one r r' c i k m acc res h h2 h3 ih =>
    intro p e he
    obtain ⟨g1, g2⟩ := gone_cons hb t r h
    obtain ⟨m1, m2⟩ := oneS_pos h2
    refine .one g2 (k := k) (m := m) (by rw [← List.cons_append, oneS_app (gap_of (.inl hb))]; exact h2) ?_
    rw [g1, ← List.cons_append, List.drop_append_of_le_length m2, List.take_append_of_le_length m2]
    exact ih p e he
theorem SR.joinO {b : UInt8} (hb : b.toNat = 10) (t : List UInt8) {r : List UInt8} {i : Nat} {acc : List Sg} {res : Res} (h : SR r i acc res) : ∀ (L : List Sg) (res' : Res), res = .ok L → SR t (i + r.length + 1) L res' → SR (r ++ b :: t) i acc res' := by
  induction h with
  | @done r i acc h =>
    intro L res' e h'
    cases e
    have h1 := goneN_le false r
    have h2 := congrArg List.length h
    simp at h2
    refine SR.pre (n := r.length + 1) (t := t) (by rw [← Nat.add_assoc]; exact h') (by simp) ?_
    rw [gone_app hb, if_neg (by omega)]
  | err h h2 => intro L res' e; cases e
  | @one r r' c i k m acc res h h2 h3 ih =>
    intro L res' e h'
    obtain ⟨g1, g2⟩ := gone_cons hb t r h
    obtain ⟨m1, m2⟩ := oneS_pos h2
    have hl := congrArg List.length h
    simp at hl m2
    refine .one g2 (k := k) (m := m) (by rw [← List.cons_append, oneS_app (gap_of (.inl hb))]; exact h2) ?_
    rw [g1, ← List.cons_append, List.drop_append_of_le_length (by simp; omega), List.take_append_of_le_length (by simp; omega)]
    refine ih L res' e ?_
    have e2 : i + goneN false r + m + ((c :: r').drop m).length + 1 = i + r.length + 1 := by simp; omega
    rw [e2]; exact h'
def Sg.sh (d : Nat) (s : Sg) : Sg := ⟨s.k, s.t, s.i + d⟩
def Res.sh (d : Nat) (pre : List Sg) : Res → Res
  | .err p e => .err (p + d) e
  | .ok L => .ok (pre ++ L.map (Sg.sh d))
theorem SR.sh (d : Nat) (pre : List Sg) {r : List UInt8} {i : Nat} {acc : List Sg} {res : Res} (h : SR r i acc res) : SR r (i + d) (pre ++ acc.map (Sg.sh d)) (res.sh d pre) := by
  induction h with
  | done h => exact .done h
  | @err r r' c i e acc h h2 =>
    have : Res.sh d pre (.err (i + goneN false r) e) = .err (i + d + goneN false r) e := by show Res.err _ _ = _; congr 1; omega
    rw [this]; exact .err h h2
  | @one r r' c i k m acc res h h2 h3 ih =>
    refine .one h h2 ?_
    have e1 : i + d + goneN false r + m = i + goneN false r + m + d := by omega
    have e2 : pre ++ acc.map (Sg.sh d) ++ [Sg.mk k ((c :: r').take m) (i + d + goneN false r)] = pre ++ (acc ++ [Sg.mk k ((c :: r').take m) (i + goneN false r)]).map (Sg.sh d) := by
      simp only [List.map_append, List.append_assoc, List.map_cons, List.map_nil, Sg.sh]; congr 4; omega
    rw [e1, e2]; exact ih
/-- What two texts with a line between come to. -/
theorem SR.joined {b : UInt8} (hb : b.toNat = 10) {s t : List UInt8} {r1 r2 : Res} (h1 : SR s 0 [] r1) (h2 : SR t 0 [] r2) :
    (∃ p e q f, r1 = .err p e ∧ SR (s ++ b :: t) 0 [] (.err q f)) ∨ (∃ A p e q f, r1 = .ok A ∧ r2 = .err p e ∧ SR (s ++ b :: t) 0 [] (.err q f)) ∨
    ∃ A B, r1 = .ok A ∧ r2 = .ok B ∧ SR (s ++ b :: t) 0 [] (.ok (A ++ B.map (Sg.sh (s.length + 1)))) := by
  cases r1 with
  | err p e => exact .inl ⟨p, e, p, e, rfl, SR.joinE hb t h1 p e rfl⟩
  | ok A =>
    have h3 := h2.sh (s.length + 1) A
    have h4 : SR t (0 + s.length + 1) A (r2.sh (s.length + 1) A) := by simpa [Nat.add_assoc] using h3
    have h5 := SR.joinO hb t h1 A _ rfl h4
    cases r2 with
    | err p e => exact .inr (.inl ⟨A, p, e, _, _, rfl, rfl, h5⟩)
    | ok B => exact .inr (.inr ⟨A, B, rfl, rfl, h5⟩)
end Go.Proofs.Ytlmfkkbbakaaaaa

/- A part of the texts that the claim's proof needs: functions of the program as the evaluator reads them, and what they come to. Conditions: those that its theorems state. -/
import Derived.Test.YtlmfkkbbakaaaaaY1G
set_option linter.unusedVariables false
set_option linter.unusedSimpArgs false
set_option maxRecDepth 100000
set_option maxHeartbeats 4000000
namespace Go.Proofs.Ytlmfkkbbakaaaaa
open Go.Proofs.Pe

theorem tv_of (s : ByteArray) : ∃ l : List UInt8, V.sc (.string s) = tV l ∧ s.size = l.length := by
  rcases s with ⟨⟨l⟩⟩
  exact ⟨l, rfl, rfl⟩
theorem ints_sl {v : V} {zs : List Int} (h : IsInts .i64 v zs) : IsSl 1 v (zs.map fun n => iV n) := by
  rcases h with ⟨rfl, rfl⟩ | ⟨f, rfl⟩
  · exact .inl ⟨rfl, rfl⟩
  · exact .inr ⟨f, rfl⟩
theorem row_c {v : V} {zs : List Int} {o : List O} {yi : Nat → Sem'} {K : V → List O → Prop} (h : IsInts .i64 v zs) (hl : zs.length ≤ maxLen) (hK : ∀ t : List UInt8, t.length ≤ 480 → K (tV t) o) :
    evCallV T (Pe.Call Try.prog T) yi (.fn (.func 14) [] []) [v] o K :=
  (row_p (ints_sl h) hl).callF rfl (by simpa using (ints_sl h).freeV) fun z hz => by obtain ⟨t, rfl, ht⟩ := hz; exact hK t ht
theorem bytesOf_one (c : UInt8) : bytesOf [cV c] = some [c] := bytesOf_byteV [c]


theorem bytesV_t (l : List UInt8) : bytesV (ByteArray.mk l.toArray) = byteV l := rfl
theorem u8_wrap (n : Int) : ∃ d : UInt8, IntKind.u8.wrap n = (d.toNat : Int) := by
  have h : 0 ≤ IntKind.u8.wrap n ∧ IntKind.u8.wrap n < 256 := by
    simp only [IntKind.wrap, IntKind.bits, IntKind.signed]
    simp
    omega
  refine ⟨UInt8.ofNat (IntKind.u8.wrap n).toNat, ?_⟩
  rw [UInt8.toNat_ofNat']
  omega

/-- What is gone past is gone past whole. -/
theorem gone_take : ∀ (b : Bool) (r : List UInt8), goneN b (r.take (goneN b r)) = goneN b r
  | true, [] => rfl
  | false, [] => rfl
  | false, c :: r => by
    by_cases h1 : isBl c = true
    · rw [gone_bl h1, List.take_succ_cons, gone_bl h1, gone_take false r]
    · by_cases h2 : c.toNat = 35
      · have e : goneN false (c :: r) = goneN true r + 1 := by simp only [goneN, h1, Bool.false_eq_true, if_false, if_pos h2]
        rw [e, List.take_succ_cons]
        simp only [goneN, h1, Bool.false_eq_true, if_false, if_pos h2, gone_take true r]
      · rw [gone_no (by simpa using h1) h2]; rfl
  | true, c :: r => by
    by_cases h : c.toNat = 10
    · have e : goneN true (c :: r) = goneN false r + 1 := by simp only [goneN, if_pos h]
      rw [e, List.take_succ_cons]
      simp only [goneN, if_pos h, gone_take false r]
    · rw [gone_in h, List.take_succ_cons, gone_in h, gone_take true r]
/-- Signs where they stand. -/
inductive Pl (l : List UInt8) : Nat → List Sg → Prop
  | done {i : Nat} (h : goneN false (l.drop i) = l.length - i) : Pl l i []
  | one {i k m : Nat} {xs : List Sg} (hi : i + goneN false (l.drop i) < l.length) (ho : oneS (l.drop (i + goneN false (l.drop i))) = .ok k m) (h : Pl l (i + goneN false (l.drop i) + m) xs) :
      Pl l i (⟨k, (l.drop (i + goneN false (l.drop i))).take m, i + goneN false (l.drop i)⟩ :: xs)
theorem SR.pl {l : List UInt8} : ∀ {r : List UInt8} {i : Nat} {acc : List Sg} {res : Res}, SR r i acc res → ∀ L, res = .ok L → r = l.drop i → i ≤ l.length → ∃ L', L = acc ++ L' ∧ Pl l i L' := by
  intro r i acc res h
  induction h with
  | @done r i acc h =>
    intro L e er hi
    cases e; subst er
    refine ⟨[], by simp, .done ?_⟩
    have h1 := goneN_le false (l.drop i)
    have h2 := congrArg List.length h
    simp at h1 h2
    omega
  | err h h2 => intro L e; cases e
  | @one r r' c i k m acc res h h2 h3 ih =>
    intro L e er hi
    subst er
    have hdd : (l.drop i).drop (goneN false (l.drop i)) = l.drop (i + goneN false (l.drop i)) := by rw [List.drop_drop]
    rw [hdd] at h
    have hlt : i + goneN false (l.drop i) < l.length := by
      have := congrArg List.length h
      simp at this; omega
    obtain ⟨hm1, hm2⟩ := oneS_pos h2
    rw [← h] at h2 h3 ih hm2
    simp only [List.length_drop] at hm2
    obtain ⟨L', e1, e2⟩ := ih L e (by rw [List.drop_drop]) (by omega)
    exact ⟨_ :: L', by rw [e1]; simp, .one hlt h2 e2⟩
theorem oneS_err {r : List UInt8} {e : Nat} (h : oneS r = .err e) : e ≠ 0 := by
  unfold oneS at h
  repeat' split at h
  all_goals (cases h; try omega)
theorem SR.errNe {r : List UInt8} {i : Nat} {acc : List Sg} {res : Res} (h : SR r i acc res) : ∀ p e, res = .err p e → e ≠ 0 := by
  induction h with
  | done h => intro p e h; cases h
  | err h h2 => intro p e h; cases h; exact oneS_err h2
  | one h h2 h3 ih => exact ih


/-! ### Texts behind one another -/
theorem rnN_cons {p : UInt8 → Bool} {c : UInt8} {r : List UInt8} : rnN p (c :: r) = if p c = true then rnN p r + 1 else 0 := by
  unfold rnN; rw [List.takeWhile_cons]; split <;> simp
theorem rnN_app {p : UInt8 → Bool} {b : UInt8} (hb : p b = false) (u : List UInt8) : ∀ r : List UInt8, rnN p (r ++ b :: u) = rnN p r
  | [] => by rw [List.nil_append, rnN_cons, hb]; rfl
  | c :: r => by rw [List.cons_append, rnN_cons, rnN_cons, rnN_app hb u r]
theorem rnN_take {p : UInt8 → Bool} : ∀ (r : List UInt8) (N : Nat), rnN p r ≤ N → rnN p (r.take N) = rnN p r
  | [], N, h => by simp
  | c :: r, 0, h => by
    rw [rnN_cons] at h ⊢
    split at h
    · omega
    · rename_i hp; rw [if_neg hp]; rfl
  | c :: r, N + 1, h => by
    rw [List.take_succ_cons, rnN_cons, rnN_cons]
    rw [rnN_cons] at h
    split at h
    · rename_i hp; rw [if_pos hp, if_pos hp, rnN_take r N (by omega)]
    · rename_i hp; rw [if_neg hp, if_neg hp]
/-- A byte that parts signs. -/
def Gap (b : UInt8) : Prop := isIn b = false ∧ isDg b = false ∧ ∀ c, dbls.contains [c, b] = false
theorem gap_of {b : UInt8} (h : b.toNat = 10 ∨ b.toNat = 32 ∨ b.toNat = 9) : Gap b := by
  have hb : b = 10 ∨ b = 32 ∨ b = 9 := by
    rcases h with h | h | h
    · exact .inl (UInt8.toNat_inj.1 h)
    · exact .inr (.inl (UInt8.toNat_inj.1 h))
    · exact .inr (.inr (UInt8.toNat_inj.1 h))
  refine ⟨?_, ?_, fun c => ?_⟩
  · rcases hb with rfl | rfl | rfl <;> decide
  · rcases hb with rfl | rfl | rfl <;> decide
  · rcases hb with rfl | rfl | rfl <;> simp [dbls]
theorem markN_app {b : UInt8} (hb : Gap b) (u : List UInt8) : ∀ (c : UInt8) (r : List UInt8), markN (c :: r ++ b :: u) = markN (c :: r)
  | c, [] => by
    have h1 := hb.2.2 c
    have h2 : dbls.contains [c] = false := by simp [dbls]
    unfold markN
    rw [show ([c] ++ b :: u).take 2 = [c, b] from rfl, show ([c] : List UInt8).take 2 = [c] from rfl, h1, h2]
    rfl
  | c, d :: r => rfl
theorem oneS_app {b : UInt8} (hb : Gap b) (u : List UInt8) (c : UInt8) (r : List UInt8) : oneS (c :: r ++ b :: u) = oneS (c :: r) := by
  have h1 := rnN_app hb.1 u (c :: r)
  have h2 := rnN_app hb.2.1 u (c :: r)
  have h3 := markN_app hb u c r
  rw [List.cons_append] at h1 h2 h3 ⊢
  unfold oneS
  dsimp only
  rw [h1, h2, h3]
theorem markN_take {c : UInt8} {r : List UInt8} {N : Nat} (h : markN (c :: r) ≤ N) (hN : 0 < N) : markN ((c :: r).take N) = markN (c :: r) := by
  cases N with
  | zero => omega
  | succ N =>
    cases N with
    | succ N =>
      unfold markN
      rw [List.take_take, show min 2 (N + 1 + 1) = 2 by omega]
      rfl
    | zero =>
      have hc : dbls.contains [c] = false := by simp [dbls]
      unfold markN at h ⊢
      cases hd : dbls.contains ((c :: r).take 2) with
      | true => rw [if_pos hd] at h; omega
      | false =>
        rw [show (((c :: r).take (0 + 1)).take 2) = [c] from rfl, hc]
        rfl
theorem oneS_take {r : List UInt8} {k n N : Nat} (h : oneS r = .ok k n) (hn : n ≤ N) : oneS (r.take N) = .ok k n := by
  obtain ⟨hp, _⟩ := oneS_pos h
  cases r with
  | nil => cases h
  | cons c r =>
    have t1 : ∀ p : UInt8 → Bool, rnN p (c :: r) ≤ N → rnN p ((c :: r).take N) = rnN p (c :: r) := fun p => rnN_take (c :: r) N
    have t2 : markN (c :: r) ≤ N → markN ((c :: r).take N) = markN (c :: r) := fun h => markN_take h (by omega)
    cases N with
    | zero => omega
    | succ N =>
      rw [List.take_succ_cons] at t1 t2 ⊢
      unfold oneS at h ⊢
      dsimp only at h ⊢
      split at h
      · rename_i hs
        split at h
        · cases h
        · rename_i h20
          cases h
          rw [if_pos hs, t1 isIn hn, if_neg h20]
      · rename_i hs
        rw [if_neg hs]
        split at h
        · rename_i hd
          rw [if_pos hd]
          split at h
          · cases h
          · rename_i h18
            split at h
            · cases h
            · rename_i h0
              cases h
              rw [t1 isDg hn, if_neg h18, if_neg h0]
        · rename_i hd
          rw [if_neg hd]
          split at h
          · cases h
          · rename_i hm
            cases h
            rw [t2 hn, if_neg hm]
theorem gone_app {b : UInt8} (hb : b.toNat = 10) (u : List UInt8) : ∀ (f : Bool) (r : List UInt8), goneN f (r ++ b :: u) = if goneN f r < r.length then goneN f r else r.length + 1 + goneN false u
  | true, [] => by simp only [List.nil_append, goneN, if_pos hb]; simp; omega
  | false, [] => by simp only [List.nil_append, goneN, show isBl b = true by simp [isBl, hb], if_true]; simp; omega
  | true, c :: r => by
    simp only [List.cons_append, goneN, List.length_cons]
    split
    · rw [gone_app hb u false r]; split <;> split <;> omega
    · rw [gone_app hb u true r]; split <;> split <;> omega
  | false, c :: r => by
    simp only [List.cons_append, goneN, List.length_cons]
    split
    · rw [gone_app hb u false r]; split <;> split <;> omega
    · split
      · rw [gone_app hb u true r]; split <;> split <;> omega
      · rw [if_pos (by omega)]
theorem SR.pre {t x : List UInt8} {i n : Nat} {acc : List Sg} {res : Res} (h : SR t (i + n) acc res) (hd : x.drop n = t) (hg : goneN false x = n + goneN false t) : SR x i acc res := by
  have hdd : x.drop (goneN false x) = t.drop (goneN false t) := by rw [hg, ← hd, List.drop_drop]
  have hi : i + n + goneN false t = i + goneN false x := by omega
  cases h with
  | done h => exact .done (by rw [hdd]; exact h)
  | err h h2 => rw [hi]; exact .err (by rw [hdd]; exact h) h2
  | one h h2 h3 => rw [hi] at h3; exact .one (by rw [hdd]; exact h) h2 h3
theorem gone_cons {b : UInt8} (hb : b.toNat = 10) (t r : List UInt8) {c : UInt8} {r' : List UInt8} (h : r.drop (goneN false r) = c :: r') :
    goneN false (r ++ b :: t) = goneN false r ∧ (r ++ b :: t).drop (goneN false (r ++ b :: t)) = c :: (r' ++ b :: t) := by
  have hl := congrArg List.length h
  simp at hl
  have e : goneN false (r ++ b :: t) = goneN false r := by rw [gone_app hb, if_pos (by omega)]
  refine ⟨e, ?_⟩
  rw [e, List.drop_append_of_le_length (by omega), h]; rfl
theorem SR.joinE {b : UInt8} (hb : b.toNat = 10) (t : List UInt8) {r : List UInt8} {i : Nat} {acc : List Sg} {res : Res} (h : SR r i acc res) : ∀ p e, res = .err p e → SR (r ++ b :: t) i acc (.err p e) := by
  induction h with
  | done h => intro p e h; cases h
  | @err r r' c i e acc h h2 =>
    intro p e he
    cases he
    obtain ⟨g1, g2⟩ := gone_cons hb t r h
    rw [← g1]
    exact .err g2 (by rw [← List.cons_append, oneS_app (gap_of (.inl hb))]; exact h2)
  | @one r r' c i k m acc res h h2 h3 ih =>
    intro p e he
    obtain ⟨g1, g2⟩ := gone_cons hb t r h
    obtain ⟨m1, m2⟩ := oneS_pos h2
    refine .one g2 (k := k) (m := m) (by rw [← List.cons_append, oneS_app (gap_of (.inl hb))]; exact h2) ?_
    rw [g1, ← List.cons_append, List.drop_append_of_le_length m2, List.take_append_of_le_length m2]
    exact ih p e he
theorem SR.joinO {b : UInt8} (hb : b.toNat = 10) (t : List UInt8) {r : List UInt8} {i : Nat} {acc : List Sg} {res : Res} (h : SR r i acc res) : ∀ (L : List Sg) (res' : Res), res = .ok L → SR t (i + r.length + 1) L res' → SR (r ++ b :: t) i acc res' := by
  induction h with
  | @done r i acc h =>
    intro L res' e h'
    cases e
    have h1 := goneN_le false r
    have h2 := congrArg List.length h
    simp at h2
    refine SR.pre (n := r.length + 1) (t := t) (by rw [← Nat.add_assoc]; exact h') (by simp) ?_
    rw [gone_app hb, if_neg (by omega)]
  | err h h2 => intro L res' e; cases e
  | @one r r' c i k m acc res h h2 h3 ih =>
    intro L res' e h'
    obtain ⟨g1, g2⟩ := gone_cons hb t r h
    obtain ⟨m1, m2⟩ := oneS_pos h2
    have hl := congrArg List.length h
    simp at hl m2
    refine .one g2 (k := k) (m := m) (by rw [← List.cons_append, oneS_app (gap_of (.inl hb))]; exact h2) ?_
    rw [g1, ← List.cons_append, List.drop_append_of_le_length (by simp; omega), List.take_append_of_le_length (by simp; omega)]
    refine ih L res' e ?_
    have e2 : i + goneN false r + m + ((c :: r').drop m).length + 1 = i + r.length + 1 := by simp; omega
    rw [e2]; exact h'
def Sg.sh (d : Nat) (s : Sg) : Sg := ⟨s.k, s.t, s.i + d⟩
def Res.sh (d : Nat) (pre : List Sg) : Res → Res
  | .err p e => .err (p + d) e
  | .ok L => .ok (pre ++ L.map (Sg.sh d))
theorem SR.sh (d : Nat) (pre : List Sg) {r : List UInt8} {i : Nat} {acc : List Sg} {res : Res} (h : SR r i acc res) : SR r (i + d) (pre ++ acc.map (Sg.sh d)) (res.sh d pre) := by
  induction h with
  | done h => exact .done h
  | @err r r' c i e acc h h2 =>
    have : Res.sh d pre (.err (i + goneN false r) e) = .err (i + d + goneN false r) e := by show Res.err _ _ = _; congr 1; omega
    rw [this]; exact .err h h2
  | @one r r' c i k m acc res h h2 h3 ih =>
    refine .one h h2 ?_
    have e1 : i + d + goneN false r + m = i + goneN false r + m + d := by omega
    have e2 : pre ++ acc.map (Sg.sh d) ++ [Sg.mk k ((c :: r').take m) (i + d + goneN false r)] = pre ++ (acc ++ [Sg.mk k ((c :: r').take m) (i + goneN false r)]).map (Sg.sh d) := by
      simp only [List.map_append, List.append_assoc, List.map_cons, List.map_nil, Sg.sh]; congr 4; omega
    rw [e1, e2]; exact ih
/-- What two texts with a line between come to. -/
theorem SR.joined {b : UInt8} (hb : b.toNat = 10) {s t : List UInt8} {r1 r2 : Res} (h1 : SR s 0 [] r1) (h2 : SR t 0 [] r2) :
    (∃ p e q f, r1 = .err p e ∧ SR (s ++ b :: t) 0 [] (.err q f)) ∨ (∃ A p e q f, r1 = .ok A ∧ r2 = .err p e ∧ SR (s ++ b :: t) 0 [] (.err q f)) ∨
    ∃ A B, r1 = .ok A ∧ r2 = .ok B ∧ SR (s ++ b :: t) 0 [] (.ok (A ++ B.map (Sg.sh (s.length + 1)))) := by
  cases r1 with
  | err p e => exact .inl ⟨p, e, p, e, rfl, SR.joinE hb t h1 p e rfl⟩
  | ok A =>
    have h3 := h2.sh (s.length + 1) A
    have h4 : SR t (0 + s.length + 1) A (r2.sh (s.length + 1) A) := by simpa [Nat.add_assoc] using h3
    have h5 := SR.joinO hb t h1 A _ rfl h4
    cases r2 with
    | err p e => exact .inr (.inl ⟨A, p, e, _, _, rfl, rfl, h5⟩)
    | ok B => exact .inr (.inr ⟨A, B, rfl, rfl, h5⟩)

/-- What lex tells of a text whose signs are known. -/
theorem lex_c {l : List UInt8} {res : Res} {o : List O} {yi : Nat → Sem'} {K : V → List O → Prop} (h : SR l 0 [] res) (hl : l.length ≤ 4000)
    (hE : ∀ p e : Nat, res = .err p e → e ≠ 0 → K (.tup [nilV, iV p, iV e]) o)
    (hO : ∀ L, res = .ok L → L.length ≤ 4000 → ∀ w, IsSl 3 w (L.map Sg.v) → K (.tup [w, iV 0, iV 0]) o) : evCallV T (Pe.Call Try.prog T) yi (.fn (.func 16) [] []) [tV l] o K :=
  (signs_p hl h).callF rfl (by simp [V.free, V.free1]) fun z hz => by
    cases res with
    | err p e => have hz' : z = .tup [nilV, iV p, iV e] := hz; rw [hz']; exact hE p e rfl (h.errNe p e rfl)
    | ok L => obtain ⟨w, rfl, hw⟩ := hz; exact hO L rfl (by have := h.len L rfl; simp at this; omega) w hw
theorem neI {e : Nat} (h : e ≠ 0) : decide ((e : Int) = 0) = false := by simp; omega
/-- Joined texts' signs: the first one's, then the other's, moved. -/
theorem join_get {A B : List Sg} {d i : Nat} {x : Sg} (h : (A ++ B.map (Sg.sh d))[i]? = some x) : (i < A.length ∧ A[i]? = some x) ∨ (A.length ≤ i ∧ ∃ y, B[i - A.length]? = some y ∧ x = y.sh d) := by
  by_cases hi : i < A.length
  · rw [List.getElem?_append_left hi] at h; exact .inl ⟨hi, h⟩
  · rw [List.getElem?_append_right (by omega), List.getElem?_map] at h
    cases hy : B[i - A.length]? with
    | none => rw [hy] at h; cases h
    | some y => rw [hy] at h; cases h; exact .inr ⟨by omega, y, rfl, rfl⟩

theorem SR.le {r : List UInt8} {i : Nat} {acc : List Sg} {res : Res} (h : SR r i acc res) : ∀ L, res = .ok L → ∀ x, x ∈ L → x ∈ acc ∨ x.i ≤ i + r.length := by
  induction h with
  | done h => intro L e x hx; cases e; exact .inl hx
  | err h h2 => intro L e; cases e
  | @one r r' c i k m acc res h h2 h3 ih =>
    intro L e x hx
    have hl := congrArg List.length h
    have := goneN_le false r
    obtain ⟨m1, m2⟩ := oneS_pos h2
    simp only [List.length_drop] at hl
    rcases ih L e x hx with h5 | h5
    · simp only [List.mem_append, List.mem_singleton] at h5
      rcases h5 with h5 | h5
      · exact .inl h5
      · right; rw [h5]; show i + goneN false r ≤ _; omega
    · right
      simp only [List.length_drop] at h5
      omega
theorem get_new2 {o : List O} {a b : O} : (o ++ [a] ++ [b])[o.length]? = some a := by
  rw [List.append_assoc, List.getElem?_append_right (Nat.le_refl _)]; simp

theorem gone_cut : ∀ (f : Bool) (r : List UInt8) (N : Nat), goneN f r ≤ N → goneN f (r.take N) = goneN f r
  | true, [], N, h => by simp
  | false, [], N, h => by simp
  | true, c :: r, 0, h => by
    simp only [goneN] at h
    split at h <;> omega
  | false, c :: r, 0, h => by
    have h' := h
    simp only [goneN] at h'
    split at h'
    · omega
    · split at h'
      · omega
      · rename_i h1 h2
        simp only [List.take_zero, goneN, h1, h2]
        simp
  | true, c :: r, N + 1, h => by
    simp only [goneN] at h
    simp only [List.take_succ_cons, goneN]
    split at h
    · rename_i h1; rw [if_pos h1, gone_cut false r N (by omega)]; rw [if_pos h1]
    · rename_i h1; rw [if_neg h1, gone_cut true r N (by omega)]; rw [if_neg h1]
  | false, c :: r, N + 1, h => by
    simp only [goneN] at h
    simp only [List.take_succ_cons, goneN]
    split at h
    · rename_i h1; rw [if_pos h1, if_pos h1, gone_cut false r N (by omega)]
    · rename_i h1
      rw [if_neg h1, if_neg h1]
      split at h
      · rename_i h2; rw [if_pos h2, if_pos h2, gone_cut true r N (by omega)]
      · rename_i h2; rw [if_neg h2, if_neg h2]
theorem SR.pfx {r : List UInt8} {i : Nat} {acc : List Sg} {res : Res} (h : SR r i acc res) : ∀ L, res = .ok L → ∃ L', L = acc ++ L' := by
  induction h with
  | done h => intro L e; cases e; exact ⟨[], by simp⟩
  | err h h2 => intro L e; cases e
  | one h h2 h3 ih => intro L e; obtain ⟨L', h⟩ := ih L e; exact ⟨_ :: L', by rw [h, List.append_assoc]; rfl⟩
theorem SR.cut {r : List UInt8} {i : Nat} {acc : List Sg} {res : Res} (h : SR r i acc res) : ∀ L, res = .ok L → ∀ k x, L[acc.length + k]? = some x →
    ∃ N, x.i + x.t.length = i + N ∧ N ≤ r.length ∧ SR (r.take N) i acc (.ok (L.take (acc.length + k + 1))) := by
  induction h with
  | done h => intro L e k x hx; cases e; rw [List.getElem?_eq_none (by omega)] at hx; cases hx
  | err h h2 => intro L e; cases e
  | @one r r' c i q m acc res h h2 h3 ih =>
    intro L e k x hx
    obtain ⟨m1, m2⟩ := oneS_pos h2
    have hl := congrArg List.length h
    have hg := goneN_le false r
    simp only [List.length_drop] at hl
    generalize hgg : goneN false r = g at h h3 ih hl hg
    have key : ∀ n, m ≤ n → n ≤ (c :: r').length → ∀ L2, SR (((c :: r').drop m).take (n - m)) (i + g + m) (acc ++ [⟨q, (c :: r').take m, i + g⟩]) (.ok L2) → SR (r.take (g + n)) i acc (.ok L2) := by
      intro n hn hn2 L2 hS
      have e1 : goneN false (r.take (g + n)) = g := by rw [gone_cut false r _ (by omega), hgg]
      have e2 : (r.take (g + n)).drop g = (c :: r').take n := by rw [← h, List.drop_take]; congr 1; omega
      have e3 : (c :: r').take n = c :: r'.take (n - 1) := by cases n with
        | zero => omega
        | succ n => rfl
      have e4 : ((c :: r').take n).drop m = ((c :: r').drop m).take (n - m) := by rw [List.drop_take]
      have e5 : ((c :: r').take n).take m = (c :: r').take m := by rw [List.take_take, Nat.min_eq_left hn]
      refine .one (c := c) (r' := r'.take (n - 1)) (k := q) (m := m) (by rw [e1, e2, e3]) (by rw [← e3]; exact oneS_take h2 hn) ?_
      rw [← e3, e4, e5, e1]
      exact hS
    obtain ⟨L', hL'⟩ := SR.pfx h3 L e
    cases k with
    | zero =>
      have hx2 : x = ⟨q, (c :: r').take m, i + g⟩ := by
        rw [hL', List.append_assoc, List.getElem?_append_right (by omega)] at hx
        simpa using hx.symm
      refine ⟨g + m, ?_, by omega, ?_⟩
      · rw [hx2]; simp only [List.length_take]; omega
      · refine key m (Nat.le_refl _) m2 _ ?_
        have : L.take (acc.length + 0 + 1) = acc ++ [⟨q, (c :: r').take m, i + g⟩] := by
          rw [hL', List.take_append_of_le_length (by simp), List.take_of_length_le (by simp)]
        rw [this, Nat.sub_self, List.take_zero]
        exact .done (by simp)
    | succ k =>
      obtain ⟨N, h5, h6, h7⟩ := ih L e k x (by rw [← hx]; congr 1; simp; omega)
      simp only [List.length_drop] at h6
      refine ⟨g + (m + N), by omega, by omega, key (m + N) (by omega) (by omega) _ ?_⟩
      rw [Nat.add_sub_cancel_left]
      have : acc.length + (k + 1) + 1 = (acc ++ [Sg.mk q ((c :: r').take m) (i + g)]).length + k + 1 := by simp; omega
      rw [this]
      exact h7
theorem ref_c {l : List UInt8} {res : Res} {o : List O} {yi : Nat → Sem'} {K : V → List O → Prop} (h : SR l 0 [] res) (hl : l.length ≤ 4000)
    (hE : ∀ p e : Nat, res = .err p e → e ≠ 0 → K (.tup [nilV, iV p, iV e]) o)
    (hO : ∀ L, res = .ok L → L.length ≤ 4000 → ∀ w, IsSl 3 w (L.map Sg.v) → K (.tup [w, iV 0, iV 0]) o) : evCallV T (Pe.Call Try.prog T) yi (.fn (.func 17) [] []) [tV l] o K :=
  (rsigns_p hl h).callF rfl (by simp [V.free, V.free1]) fun z hz => by
    cases res with
    | err p e => have hz' : z = .tup [nilV, iV p, iV e] := hz; rw [hz']; exact hE p e rfl (h.errNe p e rfl)
    | ok L => obtain ⟨w, rfl, hw⟩ := hz; exact hO L rfl (by have := h.len L rfl; simp at this; omega) w hw


/-- A gap: it parts, and is gone past whole. -/
def IsGap (g : List UInt8) : Prop := (∃ b g', g = b :: g' ∧ Gap b) ∧ g.length ≤ 6 ∧ ∀ u, goneN false (g ++ u) = g.length + goneN false u
def gapL : List (List UInt8) := [[32], [10], [32, 32], [9, 13], [32, 35, 32, 100, 111, 10], [35, 10, 10]]
theorem gap35 : Gap 35 := by
  refine ⟨by decide, by decide, fun c => ?_⟩
  simp [dbls]
theorem gapL_get {m : Nat} (h : m < 6) : ∃ g, (gapL.map fun l => tV l)[m]? = some (tV g) ∧ IsGap g := by
  have b32 : isBl 32 = true := by decide
  have b9 : isBl 9 = true := by decide
  have b10 : isBl 10 = true := by decide
  have b13 : isBl 13 = true := by decide
  have b35 : isBl 35 = false := by decide
  have hm : m = 0 ∨ m = 1 ∨ m = 2 ∨ m = 3 ∨ m = 4 ∨ m = 5 := by omega
  rcases hm with rfl | rfl | rfl | rfl | rfl | rfl
  · exact ⟨[32], rfl, ⟨32, [], rfl, gap_of (.inr (.inl rfl))⟩, by decide, fun u => by simp [goneN, b32]; omega⟩
  · exact ⟨[10], rfl, ⟨10, [], rfl, gap_of (.inl rfl)⟩, by decide, fun u => by simp [goneN, b10]; omega⟩
  · exact ⟨[32, 32], rfl, ⟨32, _, rfl, gap_of (.inr (.inl rfl))⟩, by decide, fun u => by simp [goneN, b32]; omega⟩
  · exact ⟨[9, 13], rfl, ⟨9, _, rfl, gap_of (.inr (.inr rfl))⟩, by decide, fun u => by simp [goneN, b9, b13]; omega⟩
  · exact ⟨[32, 35, 32, 100, 111, 10], rfl, ⟨32, _, rfl, gap_of (.inr (.inl rfl))⟩, by decide, fun u => by simp [goneN, b32, b35]; omega⟩
  · exact ⟨[35, 10, 10], rfl, ⟨35, _, rfl, gap35⟩, by decide, fun u => by simp [goneN, b35, b10]; omega⟩
/-- A sign by itself. -/
def OkSg (x : Sg) : Prop := oneS x.t = .ok x.k x.t.length
theorem SR.oks {r : List UInt8} {i : Nat} {acc : List Sg} {res : Res} (h : SR r i acc res) : ∀ L, res = .ok L → (∀ x ∈ acc, OkSg x) → ∀ x ∈ L, OkSg x := by
  induction h with
  | done h => intro L e ha; cases e; exact ha
  | err h h2 => intro L e; cases e
  | @one r r' c i q m acc res h h2 h3 ih =>
    intro L e ha
    obtain ⟨m1, m2⟩ := oneS_pos h2
    refine ih L e fun x hx => ?_
    simp only [List.mem_append, List.mem_singleton] at hx
    rcases hx with hx | hx
    · exact ha x hx
    · subst hx
      show oneS ((c :: r').take m) = .ok q ((c :: r').take m).length
      rw [oneS_take h2 (Nat.le_refl _), List.length_take, Nat.min_eq_left m2]
def wgt (L : List Sg) : Nat := (L.map fun x => x.t.length + 6).sum
theorem wgt_app (a b : List Sg) : wgt (a ++ b) = wgt a + wgt b := by simp [wgt]
theorem SR.wgtLe {r : List UInt8} {i : Nat} {acc : List Sg} {res : Res} (h : SR r i acc res) : ∀ L, res = .ok L → wgt L ≤ wgt acc + 7 * r.length := by
  induction h with
  | done h => intro L e; cases e; omega
  | err h h2 => intro L e; cases e
  | @one r r' c i q m acc res h h2 h3 ih =>
    intro L e
    have h5 := ih L e
    obtain ⟨m1, m2⟩ := oneS_pos h2
    have hl := congrArg List.length h
    have hg := goneN_le false r
    simp only [List.length_drop] at hl h5
    have h6 : wgt [Sg.mk q ((c :: r').take m) (i + goneN false r)] = m + 6 := by
      show ((c :: r').take m).length + 6 + 0 = m + 6
      rw [List.length_take, Nat.min_eq_left m2]
    rw [wgt_app, h6] at h5
    omega
theorem gone_one {c : UInt8} {r u : List UInt8} {k m : Nat} (h : oneS (c :: r) = .ok k m) : goneN false (c :: u) = 0 := by
  have key : isBl c = true ∨ c.toNat = 35 → False := by
    intro hc
    have hc' : c = 32 ∨ c = 9 ∨ c = 10 ∨ c = 13 ∨ c = 35 := by
      rcases hc with hc | hc
      · simp only [isBl, Bool.or_eq_true, decide_eq_true_eq] at hc
        rcases hc with ((h | h) | h) | h
        · exact .inl (UInt8.toNat_inj.1 h)
        · exact .inr (.inl (UInt8.toNat_inj.1 h))
        · exact .inr (.inr (.inl (UInt8.toNat_inj.1 h)))
        · exact .inr (.inr (.inr (.inl (UInt8.toNat_inj.1 h))))
      · exact .inr (.inr (.inr (.inr (UInt8.toNat_inj.1 hc))))
    have hm : markN (c :: r) = 0 := by
      rcases hc' with rfl | rfl | rfl | rfl | rfl <;> cases r <;> simp [markN, dbls, sngs]
    have hs : isSm c = false := by rcases hc' with rfl | rfl | rfl | rfl | rfl <;> decide
    have hd : isDg c = false := by rcases hc' with rfl | rfl | rfl | rfl | rfl <;> decide
    simp [oneS, hs, hd, hm] at h
  refine gone_no ?_ fun h => key (.inr h)
  cases hb : isBl c with
  | true => exact (key (.inl hb)).elim
  | false => rfl
/-- Signs, a gap behind each. -/
def weave : List (Sg × List UInt8) → List UInt8
  | [] => []
  | (x, g) :: r => x.t ++ (g ++ weave r)
theorem weave_app : ∀ (a b : List (Sg × List UInt8)), weave (a ++ b) = weave a ++ weave b
  | [], b => rfl
  | (x, g) :: a, b => by simp [weave, weave_app a b]
theorem weave_len : ∀ (a : List (Sg × List UInt8)), (∀ p ∈ a, IsGap p.2) → (weave a).length ≤ wgt (a.map Prod.fst)
  | [], _ => Nat.zero_le _
  | (x, g) :: a, h => by
    have h1 := weave_len a fun p hp => h p (List.mem_cons_of_mem _ hp)
    have h2 := (h (x, g) (List.mem_cons_self ..)).2.1
    dsimp only at h2
    simp only [weave, List.map_cons, List.length_append]
    have : wgt (x :: a.map Prod.fst) = x.t.length + 6 + wgt (a.map Prod.fst) := by simp [wgt]
    omega
def SameKT (a b : List Sg) : Prop := a.map (fun x => (x.k, x.t)) = b.map fun x => (x.k, x.t)
theorem SR.woven : ∀ (ps : List (Sg × List UInt8)) (i : Nat) (acc : List Sg), (∀ p ∈ ps, OkSg p.1 ∧ IsGap p.2) → ∃ M, SR (weave ps) i acc (.ok (acc ++ M)) ∧ SameKT M (ps.map Prod.fst)
  | [], i, acc, _ => ⟨[], by rw [List.append_nil]; exact .done rfl, rfl⟩
  | (x, g) :: ps, i, acc, h => by
    obtain ⟨h1, ⟨b, g', hg, hb⟩, _, h3⟩ := h (x, g) (List.mem_cons_self ..)
    dsimp only at h1 hg h3
    obtain ⟨M, hM, hk⟩ := SR.woven ps (i + x.t.length + g.length) (acc ++ [⟨x.k, x.t, i⟩]) fun p hp => h p (List.mem_cons_of_mem _ hp)
    have hp := (oneS_pos h1).1
    have hS : SR (g ++ weave ps) (i + x.t.length) (acc ++ [⟨x.k, x.t, i⟩]) (.ok (acc ++ [⟨x.k, x.t, i⟩] ++ M)) := hM.pre (n := g.length) (by rw [List.drop_left]) (h3 _)
    refine ⟨⟨x.k, x.t, i⟩ :: M, ?_, ?_⟩
    · unfold OkSg at h1
      cases hx : x.t with
      | nil => rw [hx] at hp; simp at hp
      | cons c r =>
        rw [hx] at h1 hS
        have g0 : goneN false (c :: r ++ (g ++ weave ps)) = 0 := gone_one (r := r) h1
        have ho : oneS (c :: (r ++ (g ++ weave ps))) = .ok x.k (c :: r).length := by
          rw [hg]
          exact (oneS_app hb (g' ++ weave ps) c r).trans h1
        have hw : weave ((x, g) :: ps) = c :: r ++ (g ++ weave ps) := by simp only [weave, hx]
        rw [hw]
        refine .one (c := c) (r' := r ++ (g ++ weave ps)) (k := x.k) (m := (c :: r).length) (by rw [g0]; rfl) ho ?_
        have e1 : (c :: (r ++ (g ++ weave ps))).drop (c :: r).length = g ++ weave ps := by rw [← List.cons_append, List.drop_left]
        have e2 : (c :: (r ++ (g ++ weave ps))).take (c :: r).length = c :: r := by rw [← List.cons_append, List.take_left]
        rw [e1, e2, g0]
        have e3 : acc ++ (Sg.mk x.k (c :: r) i :: M) = acc ++ [Sg.mk x.k (c :: r) i] ++ M := by simp
        rw [e3]
        exact hS
    · simp only [SameKT, List.map_cons] at hk ⊢
      rw [hk]
theorem SameKT.get {a b : List Sg} (h : SameKT a b) {i : Nat} {x : Sg} (hx : b[i]? = some x) : ∃ y, a[i]? = some y ∧ y.k = x.k ∧ y.t = x.t := by
  have h1 : (a.map fun x => (x.k, x.t))[i]? = some (x.k, x.t) := by rw [h]; simp [hx]
  rw [List.getElem?_map] at h1
  cases hy : a[i]? with
  | none => rw [hy] at h1; cases h1
  | some y =>
    rw [hy] at h1
    have := Option.some.inj h1
    exact ⟨y, rfl, (Prod.mk.inj this).1, (Prod.mk.inj this).2⟩
end Go.Proofs.Ytlmfkkbbakaaaaa

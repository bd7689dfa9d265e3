/- Parts of the texts that the claim's proof needs: functions of the program as the evaluator reads them, and what they come to. Conditions: those that its theorems state. -/
import Derived.Test.YtjfnhpnfkknmoaaDoorPeD
import Derived.Laws.RangeAny

section
set_option linter.unusedVariables false
namespace Go.Proofs.Pe
variable {P : Program} {T : Tab} {ca : Ca} {yi : Nat → Sem'}

/-! ### Calls to which objects are handed over (mode 5) -/
def outI (n : Nat) (N : List Nat) (i : Nat) : Option Nat := if i < n then some i else if i ∈ N then some (n + N.idxOf i) else none
def outT (S : List Nat) (n m i : Nat) : Option Nat := if i < n then S[i]? else some (m + (i - n))
def Fin5 (n : Nat) (y : V) (o' : List O) (z : V) (os' : List O) : Prop :=
  ∃ z0 o2 N,(freezeT o' y = some (z0,o2) ∨ (y = z0 ∧ o' = o2)) ∧ N.Nodup ∧ (∀ i ∈ N,n ≤ i) ∧ z0.mv (outI n N) = some z ∧
    mapO (fun i => (o2[i]?).bind (mvO (outI n N))) (List.range n ++ N) = some os'
def SFn (P : Program) (T : Tab) (f : FuncId) (xs : List V) (os : List O) (Q : V → List O → Prop) : Prop :=
  ∀ yi,YLe yi yi → Call P T yi f xs os fun y o' => ∃ z os',Fin5 os.length y o' z os' ∧ Q z os'

theorem mapO_comp {α β γ : Type} {f : α → Option β} {g : β → Option γ} {h : α → Option γ} (hh : ∀ x y z,f x = some y → g y = some z → h x = some z) : ∀ {xs : List α} {ys : List β} {zs : List γ},mapO f xs = some ys → mapO g ys = some zs → mapO h xs = some zs
  | [],ys,zs,h1,h2 => by simp [mapO] at h1; subst h1; exact h2
  | x :: xs,ys,zs,h1,h2 => by
    simp only [mapO] at h1
    split at h1
    · cases h1
    · rename_i y e1
      split at h1
      · cases h1
      · rename_i ys' e2
        cases h1
        simp only [mapO] at h2
        split at h2
        · cases h2
        · rename_i z e3
          split at h2
          · cases h2
          · rename_i zs' e4
            cases h2
            simp only [mapO,hh _ _ _ e1 e3,mapO_comp hh e2 e4]
theorem mv0_comp {ρ σ τ : Nat → Option Nat} (hh : ∀ i j k,ρ i = some j → σ j = some k → τ i = some k) (x y z : V) (h1 : x.mv0 ρ = some y) (h2 : y.mv0 σ = some z) : x.mv0 τ = some z := by
  cases x <;> simp only [V.mv0,Option.map_eq_some_iff] at h1
  case pt =>
    obtain ⟨l',e,rfl⟩ := h1
    simp only [V.mv0,Option.map_eq_some_iff] at h2 ⊢
    obtain ⟨l2,e2,rfl⟩ := h2
    exact ⟨_,hh _ _ _ e e2,rfl⟩
  case ar =>
    obtain ⟨l',e,rfl⟩ := h1
    simp only [V.mv0,Option.map_eq_some_iff] at h2 ⊢
    obtain ⟨l2,e2,rfl⟩ := h2
    exact ⟨_,hh _ _ _ e e2,rfl⟩
  all_goals
    split at h1
    · rename_i hf
      cases h1
      simp only [V.mv0,hf,if_true] at h2 ⊢
      exact h2
    · cases h1
theorem mv1_comp {ρ σ τ : Nat → Option Nat} (hh : ∀ i j k,ρ i = some j → σ j = some k → τ i = some k) (x y z : V) (h1 : x.mv1 ρ = some y) (h2 : y.mv1 σ = some z) : x.mv1 τ = some z := by
  unfold V.mv1 at h1
  split at h1
  · split at h1
    · rename_i as' bs' e1 e2
      cases h1
      unfold V.mv1 at h2
      simp only at h2
      split at h2
      · rename_i e3 e4
        cases h2
        simp only [V.mv1,mapO_comp (mv0_comp hh) e1 e3,mapO_comp (mv0_comp hh) e2 e4]
      · cases h2
    · cases h1
  · rename_i hne
    have hy : y.mv1 σ = y.mv0 σ := by
      cases x <;> simp only [V.mv0,Option.map_eq_some_iff] at h1
      case pt => obtain ⟨l',e,rfl⟩ := h1; rfl
      case ar => obtain ⟨l',e,rfl⟩ := h1; rfl
      case fn f as bs =>
        split at h1
        · cases h1
          unfold V.mv1
          split
          · rename_i e; exact absurd e (hne _ _ _)
          · rfl
        · cases h1
      all_goals (split at h1 <;> cases h1; rfl)
    rw [hy] at h2
    have := mv0_comp hh x y z h1 h2
    unfold V.mv1
    split
    · exact absurd rfl (hne _ _ _)
    · exact this
theorem mv2_comp {ρ σ τ : Nat → Option Nat} (hh : ∀ i j k,ρ i = some j → σ j = some k → τ i = some k) (x y z : V) (h1 : x.mv2 ρ = some y) (h2 : y.mv2 σ = some z) : x.mv2 τ = some z := by
  by_cases hx : ∃ cs,x = .agg cs
  · obtain ⟨cs,rfl⟩ := hx
    simp only [V.mv2,Option.map_eq_some_iff] at h1
    obtain ⟨ds,e1,rfl⟩ := h1
    simp only [V.mv2,Option.map_eq_some_iff] at h2 ⊢
    obtain ⟨es,e2,rfl⟩ := h2
    exact ⟨_,mapO_comp (mv1_comp hh) e1 e2,rfl⟩
  · have e : ∀ ρ,x.mv2 ρ = x.mv1 ρ := fun ρ => by
      unfold V.mv2; split
      · exact absurd ⟨_,rfl⟩ hx
      · rfl
    rw [e] at h1 ⊢
    have ho := (mv1_one h1).2
    have e2 : y.mv2 σ = y.mv1 σ := by
      unfold V.mv2; split
      · cases ho
      · rfl
    rw [e2] at h2
    exact mv1_comp hh x y z h1 h2
theorem mv_comp {ρ σ τ : Nat → Option Nat} (hh : ∀ i j k,ρ i = some j → σ j = some k → τ i = some k) (x y z : V) (h1 : x.mv ρ = some y) (h2 : y.mv σ = some z) : x.mv τ = some z := by
  by_cases hx : ∃ cs,x = .tup cs
  · obtain ⟨cs,rfl⟩ := hx
    simp only [V.mv,Option.map_eq_some_iff] at h1
    obtain ⟨ds,e1,rfl⟩ := h1
    simp only [V.mv,Option.map_eq_some_iff] at h2 ⊢
    obtain ⟨es,e2,rfl⟩ := h2
    exact ⟨_,mapO_comp (mv2_comp hh) e1 e2,rfl⟩
  · have e : ∀ ρ,x.mv ρ = x.mv2 ρ := fun ρ => by
      unfold V.mv; split
      · exact absurd ⟨_,rfl⟩ hx
      · rfl
    rw [e] at h1 ⊢
    have e2 : y.mv σ = y.mv2 σ := by
      unfold V.mv; split
      · exfalso
        by_cases ha : ∃ cs,x = .agg cs
        · obtain ⟨cs,rfl⟩ := ha
          simp only [V.mv2,Option.map_eq_some_iff] at h1
          obtain ⟨ds,_,h1⟩ := h1; cases h1
        · have e3 : x.mv2 ρ = x.mv1 ρ := by
            unfold V.mv2; split
            · exact absurd ⟨_,rfl⟩ ha
            · rfl
          rw [e3] at h1
          have := (mv1_one h1).2
          cases this
      · rfl
    rw [e2] at h2
    exact mv2_comp hh x y z h1 h2
theorem mvO_comp {ρ σ τ : Nat → Option Nat} (hh : ∀ i j k,ρ i = some j → σ j = some k → τ i = some k) (x y z : O) (h1 : mvO ρ x = some y) (h2 : mvO σ y = some z) : mvO τ x = some z := by
  cases x <;> simp only [mvO,Option.map_eq_some_iff] at h1
  case cells =>
    obtain ⟨ds,e1,rfl⟩ := h1
    simp only [mvO,Option.map_eq_some_iff] at h2 ⊢
    obtain ⟨es,e2,rfl⟩ := h2
    exact ⟨_,mapO_comp (mv1_comp hh) e1 e2,rfl⟩
  case arr =>
    obtain ⟨ds,e1,rfl⟩ := h1
    simp only [mvO,Option.map_eq_some_iff] at h2 ⊢
    obtain ⟨es,e2,rfl⟩ := h2
    exact ⟨_,mapO_comp (mv2_comp hh) e1 e2,rfl⟩
  all_goals cases h1
theorem out_comp {S N : List Nat} {m : Nat} (i j k : Nat) (h1 : outI S.length N i = some j) (h2 : outT S S.length m j = some k) : outS S N m i = some k := by
  unfold outI at h1
  unfold outT at h2
  unfold outS
  split at h1
  · rename_i h; cases h1; rw [if_pos h] at h2 ⊢; exact h2
  · rename_i h
    rw [if_neg h]
    split at h1
    · rename_i hm; cases h1
      rw [if_neg (by omega)] at h2
      rw [if_pos hm]; cases h2; congr 1; omega
    · cases h1

theorem SFn.call {f : FuncId} {as bs xs ys zs : List V} {o o1 os : List O} {S : List Nat} {Q : V → List O → Prop} {K : V → List O → Prop} (h : SFn P T f zs os Q) (hm : T.mode f = 5 ∨ T.mode f = 6)
    (hc : evCallV.hand (T.mode f) o (as ++ xs ++ bs) = some (ys,o1)) (hn : S.Nodup) (hz : mapO (V.mv2 (inS S)) ys = some zs) (hos : mapO (fun l => (o1[l]?).bind (mvO (inS S))) S = some os)
    (hK : ∀ z os',Q z os' → ∃ z' os'',z.mv (outT S S.length o1.length) = some z' ∧ mapO (mvO (outT S S.length o1.length)) os' = some os'' ∧ K z' (putS o1 S os'' ++ os''.drop S.length)) :
    evCallV T (Call P T) yi (.fn (.func f) as bs) xs o K := by
  have h1 : ¬ T.mode f < 2 := by omega
  have h2 : ¬ T.mode f = 3 := by omega
  have h3 : ¬ T.mode f = 2 := by omega
  simp only [evCallV]
  rw [if_neg h1,if_neg h2,if_neg h3,if_pos hm,hc]
  refine ⟨S,zs,os,hn,hz,hos, ?_⟩
  refine call_le _ _ f (fun _ _ _ _ _ _ h => h) _ _ _ _ (fun y o' hy => ?_) (h _ (fun _ _ _ _ _ _ h => h))
  obtain ⟨z,os',⟨z0,o2,N,a1,a2,a3,a4,a5⟩,hq⟩ := hy
  obtain ⟨z',os'',b1,b2,b3⟩ := hK z os' hq
  have hl := mapO_len hos
  rw [hl] at a3 a4 a5
  exact ⟨z0,o2,N,z',os'',a1,a2,a3,mv_comp out_comp _ _ _ a4 b1,mapO_comp (f := fun i => (o2[i]?).bind (mvO (outI S.length N))) (g := mvO (outT S S.length o1.length)) (fun i y z e1 e2 => by
    simp only [Option.bind_eq_some_iff] at e1 ⊢
    obtain ⟨ob,e3,e4⟩ := e1
    exact ⟨ob,e3,mvO_comp out_comp _ _ _ e4 e2⟩) a5 b2,b3⟩

theorem mv0_free {ρ : Nat → Option Nat} {x : V} (h : x.free1 = true) : x.mv0 ρ = some x := by
  cases x <;> simp_all [V.mv0,V.free1]
theorem mapO_id {α : Type} {f : α → Option α} : ∀ {xs : List α},(∀ x ∈ xs,f x = some x) → mapO f xs = some xs
  | [],h => rfl
  | x :: xs,h => by
    have ih : mapO f xs = some xs := mapO_id fun y hy => h y (List.mem_cons_of_mem _ hy)
    simp only [mapO,h x (by simp),ih]
theorem mv1_free {ρ : Nat → Option Nat} {x : V} (h : x.free1 = true) : x.mv1 ρ = some x := by
  unfold V.mv1
  split
  · rename_i f as bs
    have e : as = [] ∧ bs = [] := by cases as <;> cases bs <;> simp_all [V.free1]
    obtain ⟨rfl,rfl⟩ := e
    rfl
  · exact mv0_free h
theorem mv2_free {ρ : Nat → Option Nat} {x : V} (h : x.free = true) : x.mv2 ρ = some x := by
  unfold V.mv2
  split
  · rename_i cs
    simp only [V.free,List.all_eq_true] at h
    rw [mapO_id (fun y hy => mv1_free (h y hy))]; rfl
  · exact mv1_free (by cases x <;> first | exact h | (rename_i hne; exact absurd rfl (hne _)))
theorem mv_free {ρ : Nat → Option Nat} {x : V} (h : x.freeT = true) : x.mv ρ = some x := by
  unfold V.mv
  split
  · rename_i cs
    simp only [V.freeT,List.all_eq_true] at h
    rw [mapO_id (fun y hy => mv2_free (h y hy))]; rfl
  · exact mv2_free (by cases x <;> first | exact h | (rename_i hne; exact absurd rfl (hne _)))
theorem mvC_free {ρ : Nat → Option Nat} {cs : List V} (h : cs.all V.free1 = true) : mvO ρ (.cells cs) = some (.cells cs) := by
  simp only [List.all_eq_true] at h
  simp only [mvO]; rw [mapO_id (fun y hy => mv1_free (h y hy))]; rfl

theorem SFn.call1 {f : FuncId} {xs : List V} {o : List O} {l : Nat} {cs : List V} {Q : V → List O → Prop} {K : V → List O → Prop} (h : SFn P T f (.pt 0 0 :: xs) [.cells cs] Q) (hm : T.mode f = 5)
    (hx : ∀ x ∈ xs,x.free = true) (hl : o[l]? = some (.cells cs)) (hcs : cs.all V.free1 = true)
    (hK : ∀ z os',Q z os' → ∃ cs',os' = [.cells cs'] ∧ cs'.all V.free1 = true ∧ z.freeT = true ∧ K z (o.set l (.cells cs'))) :
    evCallV T (Call P T) yi (.fn (.func f) [] []) (.pt l 0 :: xs) o K := by
  have hc : evCallV.commits' o xs = some (xs,o) := by
    clear h hK
    induction xs with
    | nil => rfl
    | cons x xs ih => exact cm_free (hx x (by simp)) (ih fun y hy => hx y (by simp [hy]))
  refine h.call (S := [l]) (ys := .pt l 0 :: xs) (o1 := o) (.inl hm) (by rw [hm]; simpa [evCallV.hand] using cm_pt hc) (by simp) ?_ ?_ fun z os' hq => ?_
  · simp only [mapO,V.mv2,V.mv1,V.mv0,inS,List.mem_singleton,if_true,List.idxOf_cons_self,Option.map_some]
    rw [mapO_id (fun y hy => mv2_free (hx y hy))]
  · simp only [mapO,hl,Option.bind_some,mvC_free hcs]
  · obtain ⟨cs',rfl,h1,h2,h3⟩ := hK z os' hq
    exact ⟨z,[.cells cs'],mv_free h2,by simp only [mapO,mvC_free h1],by simpa [putS] using h3⟩
theorem fin1 {z : V} {cs : List V} {r : List O} (h1 : cs.all V.free1 = true) (h2 : z.freeT = true) : Fin5 1 z (.cells cs :: r) z [.cells cs] :=
  ⟨z,.cells cs :: r,[],.inr ⟨rfl,rfl⟩,by simp,by simp,mv_free h2,by simp [mapO,mvC_free h1]⟩
end Go.Proofs.Pe
end

section
set_option linter.unusedVariables false
namespace Go.Proofs.Pe
variable {P : Program} {T : Tab} {ca : Ca} {yi : Nat → Sem'}

/-! ### A row behind all that stands in the store: nil, or an array at the end -/
def Tail (n k : Nat) (rv : V) (vs : List V) (tl : List O) : Prop := (rv = nilV ∧ vs = [] ∧ tl = []) ∨ ∃ v wr,rv = .ar n v ∧ tl = [.arr v wr k vs]
theorem Tail.row {n k : Nat} {rv : V} {vs : List V} {tl : List O} (h : Tail n k rv vs tl) {o : List O} (hn : o.length = n) : rowOf (o ++ tl) rv = some vs := by
  rcases h with ⟨rfl,rfl,rfl⟩ | ⟨v,wr,rfl,rfl⟩
  · rfl
  · simp [rowOf,← hn]
theorem Tail.push {n k b : Nat} {rv : V} {vs : List V} {tl : List O} (h : Tail n k rv vs tl) {f : Bool} {y : V} (hk : okRow k [y]) (hr : (vs.length + 1) * b ≤ room) {o : List O} (hn : o.length = n) :
    ∃ rv' tl',appOf k b (o ++ tl) rv (.sl k f [y]) = some (rv',o ++ tl') ∧ Tail n k rv' (vs ++ [y]) tl' := by
  rcases h with ⟨rfl,rfl,rfl⟩ | ⟨v,wr,rfl,rfl⟩
  · refine ⟨_,_, ?_,.inr ⟨0,true,rfl,rfl⟩⟩
    rw [List.append_nil,ap_nil rfl hk (by simp) (by simpa using hr),hn]; rfl
  · refine ⟨_,_, ?_,.inr ⟨v + 1,wr,rfl,rfl⟩⟩
    have hg : (o ++ [O.arr v wr k vs])[n]? = some (.arr v wr k vs) := by simp [← hn]
    rw [ap_ar hg (y := .sl k f [y]) rfl hk (by simp) hr]
    simp [← hn]
theorem Tail.frzD {n k : Nat} {rv : V} {vs : List V} {tl : List O} (h : Tail n k rv vs tl) (hf : vs.all V.free = true) {o : List O} (hn : o.length = n) : ∃ w tl',freezeD (o ++ tl) rv = some (w,o ++ tl') ∧ IsSl k w vs := by
  rcases h with ⟨rfl,rfl,rfl⟩ | ⟨v,wr,rfl,rfl⟩
  · exact ⟨nilV,[],rfl,.inl ⟨rfl,rfl⟩⟩
  · exact ⟨.sl k false vs,[.arr v false k vs],by simp [freezeD,← hn,hf],.inr ⟨_,rfl⟩⟩
theorem Tail.nil (n k : Nat) : Tail n k nilV [] [] := .inl ⟨rfl,rfl,rfl⟩
theorem freeT_of {z : V} (h : z.free = true) : z.freeT = true := by cases z <;> first | exact h | cases h
end Go.Proofs.Pe
end

section
set_option linter.unusedVariables false
namespace Go.Proofs.Pe
variable {P : Program} {T : Tab} {ca : Ca} {yi : Nat → Sem'}

/-! ### Objects that go along: words for simp -/
section
variable {ρ : Nat → Option Nat}
end
end Go.Proofs.Pe
end

section
set_option linter.unusedVariables false
namespace Go.Proofs.Pe
variable {P : Program} {T : Tab} {ca : Ca} {yi : Nat → Sem'}
theorem ix_ar {k : Nat} {o : List O} {l v n : Nat} {wr : Bool} {xs : List V} (h : o[l]? = some (.arr v wr k xs)) (hn : n < xs.length) : ixOf k o (.ar l v) (iV n) = some (.pa l v n 0,o) := by
  simp [ixOf,intOf,h,hn]
end Go.Proofs.Pe
end

section
set_option linter.unusedVariables false
namespace Go.Proofs.Pe
variable {P : Program} {T : Tab} {ca : Ca} {yi : Nat → Sem'}
/-! ### A shift -/
theorem SFn.callP {f : FuncId} {xs zs : List V} {o : List O} {l : Nat} {cs : List V} {Q : V → List O → Prop} {K : V → List O → Prop} (h : SFn P T f zs [.cells cs] Q) (hm : T.mode f = 5)
    (hc : evCallV.commits' o xs = some (xs,o)) (hz : mapO (V.mv2 (inS [l])) xs = some zs) (hl : o[l]? = some (.cells cs)) (hcs : cs.all V.free1 = true)
    (hK : ∀ z os',Q z os' → ∃ cs',os' = [.cells cs'] ∧ cs'.all V.free1 = true ∧ z.freeT = true ∧ K z (o.set l (.cells cs'))) :
    evCallV T (Call P T) yi (.fn (.func f) [] []) xs o K := by
  refine h.call (S := [l]) (ys := xs) (o1 := o) (.inl hm) (by rw [hm]; simpa [evCallV.hand] using hc) (by simp) hz ?_ fun z os' hq => ?_
  · simp only [mapO,hl,Option.bind_some,mvC_free hcs]
  · obtain ⟨cs',rfl,h1,h2,h3⟩ := hK z os' hq
    exact ⟨z,[.cells cs'],mv_free h2,by simp only [mapO,mvC_free h1],by simpa [putS] using h3⟩
/-! ### Appends of one, in a run -/
end Go.Proofs.Pe
end

section
set_option linter.unusedVariables false
namespace Go.Proofs.Pe
variable {P : Program} {T : Tab} {ca : Ca} {yi : Nat → Sem'}
/-! ### A reader, and the box in which it stands -/
abbrev bxO : O := .cells [.pt 0 0]
theorem SFn.call01 {f : FuncId} {a1 b1 xs : List V} {cs : List V} {r : List O} {Q : V → List O → Prop} {K : V → List O → Prop} (h : SFn P T f (a1 ++ xs ++ b1) [.cells cs,bxO] Q) (hm : T.mode f = 5)
    (hc : evCallV.commits' (.cells cs :: bxO :: r) (a1 ++ xs ++ b1) = some (a1 ++ xs ++ b1,.cells cs :: bxO :: r)) (hz : mapO (V.mv2 (inS [0,1])) (a1 ++ xs ++ b1) = some (a1 ++ xs ++ b1)) (hcs : cs.all V.free1 = true)
    (hK : ∀ z os',Q z os' → ∃ cs',os' = [.cells cs',bxO] ∧ cs'.all V.free1 = true ∧ z.freeT = true ∧ K z (.cells cs' :: bxO :: r)) :
    evCallV T (Call P T) yi (.fn (.func f) a1 b1) xs (.cells cs :: bxO :: r) K := by
  refine h.call (S := [0,1]) (ys := a1 ++ xs ++ b1) (o1 := .cells cs :: bxO :: r) (.inl hm) (by rw [hm]; simpa [evCallV.hand] using hc) (by simp) hz ?_ fun z os' hq => ?_
  · have b : mvO (inS [0,1]) bxO = some bxO := by simp [mvO,mapO,V.mv1,V.mv0,inS,List.idxOf,List.findIdx,List.findIdx.go]
    show mapO (fun l => ((O.cells cs :: bxO :: r)[l]?).bind (mvO (inS [0,1]))) [0,1] = _
    simp only [mapO,List.getElem?_cons_zero,List.getElem?_cons_succ,Option.bind_some,mvC_free hcs,b]
  · obtain ⟨cs',rfl,h1,h2,h3⟩ := hK z os' hq
    have b : ∀ m,mvO (outT [0,1] [0,1].length m) bxO = some bxO := fun m => by simp [mvO,mapO,V.mv1,V.mv0,outT]
    refine ⟨z,[.cells cs',bxO],mv_free h2, ?_,by simpa [putS] using h3⟩
    simp only [mapO,mvC_free h1,b]
theorem fin2 {z : V} {cs : List V} {r : List O} (h1 : cs.all V.free1 = true) (h2 : z.freeT = true) : Fin5 2 z (.cells cs :: bxO :: r) z [.cells cs,bxO] :=
  ⟨z,.cells cs :: bxO :: r,[],.inr ⟨rfl,rfl⟩,by simp,by simp,mv_free h2,by
    have b : mvO (outI 2 []) bxO = some bxO := by simp [mvO,mapO,V.mv1,V.mv0,outI]
    show mapO (fun i => ((O.cells cs :: bxO :: r)[i]?).bind (mvO (outI 2 []))) [0,1] = _
    simp only [mapO,List.getElem?_cons_zero,List.getElem?_cons_succ,Option.bind_some,mvC_free h1,b]⟩
end Go.Proofs.Pe
end

section
set_option linter.unusedVariables false
namespace Go.Proofs.Pe
/-! ### What is reckoned with numbers of 64 bits -/
end Go.Proofs.Pe
end

section
set_option linter.unusedVariables false
set_option linter.unusedSimpArgs false
namespace Go.Proofs.Pe

/-! ### Expressions and processes -/
inductive Ex where
  | mk (k n : Int) (nm : ByteArray) (l : List Ex)
inductive Tm where
  | mk (k a b : Int) (nm : ByteArray) (e : Ex) (l : List Tm)
def cap : Nat := 1000000000
abbrev sV (s : ByteArray) : V := .sc (.string s)
mutual
def IsEx : Ex → V → Prop
  | .mk k n nm l,v => ∃ lv vs,v = .agg [iV k,iV n,sV nm,lv] ∧ IsSl 4 lv vs ∧ vs.length ≤ cap ∧ IsExs l vs
def IsExs : List Ex → List V → Prop
  | [],vs => vs = []
  | x :: l,vs => ∃ v ws,vs = v :: ws ∧ IsEx x v ∧ IsExs l ws
end
mutual
def IsTm : Tm → V → Prop
  | .mk k a b nm (.mk ek en em el) l,v => ∃ ev evs lv vs,v = .agg [iV k,iV a,iV b,sV nm,iV ek,iV en,sV em,ev,lv] ∧ IsSl 4 ev evs ∧ evs.length ≤ cap ∧ IsExs el evs ∧ IsSl 9 lv vs ∧ vs.length ≤ cap ∧ IsTms l vs
def IsTms : List Tm → List V → Prop
  | [],vs => vs = []
  | x :: l,vs => ∃ v ws,vs = v :: ws ∧ IsTm x v ∧ IsTms l ws
end
def All2 {α : Type} (R : α → V → Prop) : List α → List V → Prop
  | [],vs => vs = []
  | x :: l,vs => ∃ v ws,vs = v :: ws ∧ R x v ∧ All2 R l ws
section
variable {α : Type} {R : α → V → Prop}
theorem All2.len : ∀ {l : List α} {vs : List V},All2 R l vs → vs.length = l.length
  | [],vs,h => by rw [show vs = [] from h]; rfl
  | x :: l,vs,h => by obtain ⟨v,ws,rfl,_,h2⟩ := h; simp [h2.len]
theorem All2.get : ∀ {l : List α} {vs : List V},All2 R l vs → ∀ {i : Nat} {v : V} {x : α},vs[i]? = some v → l[i]? = some x → R x v
  | [],vs,h,i,v,x,hv,hx => by simp at hx
  | y :: l,vs,h,i,v,x,hv,hx => by
    obtain ⟨w,ws,rfl,h1,h2⟩ := h
    cases i with
    | zero => simp at hv hx; subst hv hx; exact h1
    | succ i => simp at hv hx; exact h2.get hv hx
theorem All2.of : ∀ {l : List α} {vs : List V},vs.length = l.length → (∀ (i : Nat) (v : V) (x : α),vs[i]? = some v → l[i]? = some x → R x v) → All2 R l vs
  | [],vs,hl,_ => List.length_eq_zero_iff.1 (by simpa using hl)
  | x :: l,[],hl,_ => by simp at hl
  | x :: l,v :: vs,hl,h => ⟨v,vs,rfl,h 0 v x rfl rfl,All2.of (by simpa using hl) fun i v' x' hv hx => h (i + 1) v' x' (by simpa using hv) (by simpa using hx)⟩
theorem All2.append : ∀ {l : List α} {vs : List V},All2 R l vs → ∀ {l' : List α} {vs' : List V},All2 R l' vs' → All2 R (l ++ l') (vs ++ vs')
  | [],vs,h,l',vs',hr => by rw [show vs = [] from h]; exact hr
  | y :: l,vs,h,l',vs',hr => by
    obtain ⟨w,ws,rfl,h1,h2⟩ := h
    exact ⟨w,ws ++ vs',rfl,h1,h2.append hr⟩
theorem All2.take {l : List α} {vs : List V} (h : All2 R l vs) (n : Nat) : All2 R (l.take n) (vs.take n) :=
  .of (by simp [h.len]) fun i v x hv hx => by
    have hi : i < n := by have := (List.getElem?_eq_some_iff.1 hv).1; simp at this; omega
    rw [List.getElem?_take_of_lt hi] at hv hx
    exact h.get hv hx
theorem All2.set {l : List α} {vs : List V} (h : All2 R l vs) (n : Nat) {x : α} {v : V} (hr : R x v) : All2 R (l.set n x) (vs.set n v) :=
  .of (by simp [h.len]) fun i v' x' hv hx => by
    have hi : i < vs.length := by have := (List.getElem?_eq_some_iff.1 hv).1; simpa using this
    have hl := h.len
    rw [List.getElem?_set] at hv hx
    by_cases e : n = i
    · subst e; simp [hi] at hv; simp [show n < l.length by omega] at hx; subst hv hx; exact hr
    · rw [if_neg e] at hv hx; exact h.get hv hx
theorem All2.mem {l : List α} {vs : List V} (h : All2 R l vs) {v : V} (hv : v ∈ vs) : ∃ x,x ∈ l ∧ R x v := by
  obtain ⟨i,hi⟩ := List.getElem?_of_mem hv
  have hlt := (List.getElem?_eq_some_iff.1 hi).1
  have hlt2 : i < l.length := by rw [← h.len]; exact hlt
  exact ⟨l[i],List.getElem_mem hlt2,h.get hi (List.getElem?_eq_getElem hlt2)⟩
theorem All2.okRow {l : List α} {vs : List V} {k : Nat} (h : All2 R l vs) (hr : ∀ x v,R x v → v.free = true ∧ v.cells.length = k) : okRow k vs := by
  unfold Pe.okRow
  simp only [List.all_eq_true,Bool.and_eq_true,decide_eq_true_eq]
  intro v hv
  obtain ⟨x,_,hx⟩ := h.mem hv
  exact hr x v hx
theorem All2.free {l : List α} {vs : List V} (h : All2 R l vs) (hr : ∀ x v,R x v → v.free = true) : vs.all V.free = true := by
  simp only [List.all_eq_true]
  intro v hv
  obtain ⟨x,_,hx⟩ := h.mem hv
  exact hr x v hx
end
theorem IsEx.ok {x : Ex} {v : V} (h : IsEx x v) : v.free = true ∧ v.cells.length = 4 := by
  cases x; obtain ⟨lv,vs,rfl,h1,_⟩ := h
  exact ⟨by simp only [free_agg,List.all_cons,List.all_nil,free1_sc,h1.free,Bool.and_self],rfl⟩
theorem IsEx.solid {x : Ex} {v : V} (h : IsEx x v) : v.solid = true := by
  cases x; obtain ⟨lv,vs,rfl,h1,_⟩ := h
  simp only [solid_agg,List.all_cons,List.all_nil,one_sc,free1_one h1.free,Bool.and_true]
theorem IsTm.ok {x : Tm} {v : V} (h : IsTm x v) : v.free = true ∧ v.cells.length = 9 := by
  rcases x with ⟨_,_,_,_,⟨_,_,_,_⟩,_⟩; obtain ⟨ev,evs,lv,vs,rfl,h1,_,_,h2,_⟩ := h
  exact ⟨by simp only [free_agg,List.all_cons,List.all_nil,free1_sc,h1.free,h2.free,Bool.and_self],rfl⟩
end Go.Proofs.Pe
end

section
set_option linter.unusedVariables false
namespace Go.Proofs.Pe
/-! ### What an expression comes to -/
inductive WfE (n : Nat) : Ex → Prop where
  | num {m : Int} {nm : ByteArray} : I64 m → WfE n (.mk 1 m nm [])
  | var {i : Nat} {nm : ByteArray} : i < n → WfE n (.mk 2 i nm [])
  | one {k m : Int} {nm : ByteArray} {x : Ex} : 3 ≤ k → k ≤ 4 → WfE n x → WfE n (.mk k m nm [x])
  | two {k m : Int} {nm : ByteArray} {x y : Ex} : 5 ≤ k → k ≤ 17 → WfE n x → WfE n y → WfE n (.mk k m nm [x,y])
end Go.Proofs.Pe
end

section
set_option linter.unusedVariables false
namespace Go.Proofs.Pe
variable {P : Program}
/-! ### Data that came in, type by type -/
theorem VT_int {n : Nat} {t : TypeId} {k : IntKind} {xs : List V} (hu : P.underlying t = some (.int k)) (h : VT P n t xs) : ∃ z,(Lit.int k z).wf = true ∧ xs = [.sc (.int k z)] := by
  cases n with
  | zero => cases h
  | succ n => simpa only [VT,hu] using h
theorem VT_sl {n : Nat} {t e : TypeId} {xs : List V} (hu : P.underlying t = some (.slice e)) (h : VT P n t xs) : ∃ m,m < n ∧ (xs = [nilV] ∨ ∃ ys : List V,xs = [.sl (P.cellsOf e) false ys] ∧ ys.length ≤ maxLen ∧ ∀ y ∈ ys,∃ zs,y = elV zs ∧ zs.length = P.cellsOf e ∧ VT P m e zs) := by
  cases n with
  | zero => cases h
  | succ n =>
    simp only [VT,hu] at h
    exact ⟨n,Nat.lt_succ_self n,h⟩
/-! ### Raw expressions -/
inductive Rw where
  | mk (k n : Int) (l : List Rw)
def Rw.k : Rw → Int | .mk k _ _ => k
def Rw.n : Rw → Int | .mk _ n _ => n
def Rw.l : Rw → List Rw | .mk _ _ l => l
mutual
def IsRw : Rw → V → Prop
  | .mk k n l,v => ∃ lv vs,v = .agg [iV k,iV n,lv] ∧ I64 k ∧ I64 n ∧ IsSl 3 lv vs ∧ vs.length ≤ maxLen ∧ IsRws l vs
def IsRws : List Rw → List V → Prop
  | [],vs => vs = []
  | x :: l,vs => ∃ v ws,vs = v :: ws ∧ IsRw x v ∧ IsRws l ws
end
theorem IsRw.ok {x : Rw} {v : V} (h : IsRw x v) : v.free = true ∧ v.cells.length = 3 := by
  cases x; obtain ⟨lv,vs,rfl,_,_,h1,_⟩ := h
  exact ⟨by simp only [free_agg,List.all_cons,List.all_nil,free1_sc,h1.free,Bool.and_self],rfl⟩
structure RwTypes (P : Program) (tr tl : TypeId) : Prop where
  ti : P.underlying 3 = some (.int .i64)
  sl : P.underlying tl = some (.slice tr)
  ce : P.cellsOf tr = 3
  st : ∃ fs,P.underlying tr = some (.struct fs) ∧ fs.toList.map (·.type) = [3,3,tl]
theorem ints_of {tl : TypeId} (ti : P.underlying 3 = some (.int .i64)) (sl : P.underlying tl = some (.slice 3)) (ce : P.cellsOf 3 = 1) {n : Nat} {x : V} (h : VT P n tl [x]) :
    ∃ zs : List Int,IsSl 1 x (zs.map iV) ∧ (∀ z ∈ zs,I64 z) ∧ zs.length ≤ maxLen := by
  obtain ⟨m,hm,e | ⟨ys,e,hl,hy⟩⟩ := VT_sl sl h
  · cases e
    exact ⟨[],.inl ⟨rfl,rfl⟩,by simp,by simp⟩
  · cases e
    rw [ce]
    have key : ∀ {ys : List V},(∀ y ∈ ys,∃ zs,y = elV zs ∧ zs.length = P.cellsOf 3 ∧ VT P m 3 zs) → ∃ zs : List Int,ys = zs.map iV ∧ ∀ z ∈ zs,I64 z := fun {ys} => by
      induction ys with
      | nil => exact fun _ => ⟨[],rfl,by simp⟩
      | cons y ys ih =>
        intro h
        obtain ⟨zs,rfl,_,hv⟩ := h y (by simp)
        obtain ⟨z,hz,rfl⟩ := VT_int ti hv
        obtain ⟨l,rfl,hl⟩ := ih fun w hw => h w (List.mem_cons_of_mem _ hw)
        exact ⟨z :: l,rfl,fun w hw => by rcases List.mem_cons.1 hw with rfl | hw; exact I64.of hz; exact hl w hw⟩
    obtain ⟨zs,rfl,hz⟩ := key hy
    exact ⟨zs,.inr ⟨_,rfl⟩,hz,by simpa using hl⟩
end Go.Proofs.Pe
end

section
set_option linter.unusedVariables false
namespace Go.Proofs.Pe
/-! ### How much there is of raw expressions -/
/-! ### What is made of a raw expression -/
def nums : List Int := [0,1,2,7,99,999999999999999999,5,3]
def emp : ByteArray := ByteArray.mk #[]
def ptS (n : Int) (ps : List Ex) (i : Nat) : Ex := ps.getD i (.mk 1 (withinI (IntKind.i64.wrap (n + i)) 5) emp [])
def mkC (nm : List ByteArray) (k n : Int) (ps : List Ex) : Ex :=
  if withinI k 24 < 4 then .mk 1 (nums.getD (withinI n 8).toNat 0) emp []
  else if withinI k 24 < 9 then (if nm = [] then .mk 2 (withinI n 3) emp [] else .mk 2 0 (nm.getD (withinI n nm.length).toNat emp) [])
  else if withinI k 24 = 9 then .mk 3 0 emp [ptS n ps 0] else if withinI k 24 = 10 then .mk 4 0 emp [ptS n ps 0] else .mk (5 + withinI k 24 - 11) 0 emp [ptS n ps 0,ptS n ps 1]
mutual
def mkS (nm : List ByteArray) : Rw → Ex
  | .mk k n l => mkC nm k n (mkL nm l)
def mkL (nm : List ByteArray) : List Rw → List Ex
  | [] => []
  | x :: l => mkS nm x :: mkL nm l
end
end Go.Proofs.Pe
end

section
set_option linter.unusedVariables false
set_option linter.unusedSimpArgs false
set_option maxRecDepth 100000
set_option maxHeartbeats 1000000
namespace Go.Proofs.Pe

/-! ### Bytes, signs (plain) -/
def isSm (c : UInt8) : Bool := decide (97 ≤ c.toNat) && decide (c.toNat ≤ 122)
def isDg (c : UInt8) : Bool := decide (48 ≤ c.toNat) && decide (c.toNat ≤ 57)
def isIn (c : UInt8) : Bool := isSm c || isDg c || decide (c.toNat = 95)
def isBl (c : UInt8) : Bool := decide (c.toNat = 32) || decide (c.toNat = 9) || decide (c.toNat = 10) || decide (c.toNat = 13)
def all256 (f : Nat → Bool) : Bool := (List.range 256).all f
theorem all256_get {f : Nat → Bool} (h : all256 f = true) (c : UInt8) : f c.toNat = true := by
  unfold all256 at h
  rw [List.all_eq_true] at h
  exact h _ (List.mem_range.2 c.toNat_lt)
def isBo (b : Bool) (y : V) : Bool := match y with
  | .sc (.bool c) => c == b
  | _ => false
theorem isBo_eq {b : Bool} {y : V} (h : isBo b y = true) : y = bV b := by
  unfold isBo at h
  split at h
  · simp at h; subst h; rfl
  · cases h
theorem ofNat_toNat (c : UInt8) : UInt8.ofNat c.toNat = c := by simp
def lim : Nat := 1000000
def dbls : List (List UInt8) := [[58,61],[45,62],[61,61],[33,61],[60,61],[62,61],[38,38],[124,124]]
def sngs : List UInt8 := [123,125,40,41,59,43,45,42,47,37,60,62,33]
def markN (r : List UInt8) : Nat := if dbls.contains (r.take 2) = true then 2 else match r with
  | [] => 0
  | c :: _ => if sngs.contains c = true then 1 else 0
theorem dbls_two {d : List UInt8} (h : d ∈ dbls) : d.length = 2 := by
  simp [dbls] at h; rcases h with rfl | rfl | rfl | rfl | rfl | rfl | rfl | rfl <;> rfl
def flat : List UInt8 := [58,61,45,62,61,61,33,61,60,61,62,61,38,38,124,124]
theorem flat_get : ∀ k,k < 8 → some ((flat.take (2 * k + 2)).drop (2 * k)) = dbls[k]? := by decide
def goneN : Bool → List UInt8 → Nat
  | _,[] => 0
  | false,c :: r => if isBl c = true then goneN false r + 1 else if c.toNat = 35 then goneN true r + 1 else 0
  | true,c :: r => if c.toNat = 10 then goneN false r + 1 else goneN true r + 1
theorem goneN_le : ∀ (b : Bool) (r : List UInt8),goneN b r ≤ r.length
  | true,[] => by simp [goneN]
  | false,[] => by simp [goneN]
  | false,c :: r => by
    have h1 := goneN_le false r
    have h2 := goneN_le true r
    simp only [goneN,List.length_cons]
    split
    · omega
    · split <;> omega
  | true,c :: r => by
    have h1 := goneN_le false r
    have h2 := goneN_le true r
    simp only [goneN,List.length_cons]
    split <;> omega
theorem gone_bl {c : UInt8} {r : List UInt8} (h : isBl c = true) : goneN false (c :: r) = goneN false r + 1 := by simp only [goneN,h,if_true]
theorem gone_no {c : UInt8} {r : List UInt8} (h : isBl c = false) (h2 : c.toNat ≠ 35) : goneN false (c :: r) = 0 := by simp only [goneN,h,if_neg h2]; rfl
theorem gone_rem {c : UInt8} {r : List UInt8} (h : isBl c = false) (h2 : c.toNat = 35) : goneN false (c :: r) = goneN true (c :: r) := by
  simp only [goneN,h,if_pos h2,if_neg (show ¬ c.toNat = 10 by omega)]; rfl
theorem gone_nl {c : UInt8} {r : List UInt8} (h : c.toNat = 10) : goneN true (c :: r) = goneN false (c :: r) := by
  have : isBl c = true := by simp [isBl,h]
  simp only [goneN,this,h,if_true]
theorem gone_in {c : UInt8} {r : List UInt8} (h : c.toNat ≠ 10) : goneN true (c :: r) = goneN true r + 1 := by simp only [goneN,if_neg h]
theorem dc {l : List UInt8} {i : Nat} {c : UInt8} (h : l[i]? = some c) : l.drop i = c :: l.drop (i + 1) := by
  have hi := (List.getElem?_eq_some_iff.1 h).1
  rw [List.drop_eq_getElem_cons hi]
  rw [List.getElem?_eq_getElem hi] at h
  rw [Option.some.inj h]

inductive Sgn where
  | err (e : Nat)
  | ok (k n : Nat)
def sgnS (r : List UInt8) : Sgn := match r with
  | [] => .err 1
  | c :: _ => if isSm c = true then (if rnN isIn r > 20 then .err 3 else .ok 1 (rnN isIn r))
    else if isDg c = true then (if rnN isDg r > 18 then .err 3 else if rnN isDg r > 1 ∧ c.toNat = 48 then .err 1 else .ok 2 (rnN isDg r))
    else if markN r = 0 then .err 1 else .ok 3 (markN r)
def sgV (k : Nat) (t : List UInt8) (i : Nat) : V := .agg [iV k,tV t,iV i]
def sgnV (r : List UInt8) (i : Nat) : V := match sgnS r with
  | .err e => .tup [.agg [iV 0,.sc (.string (ByteArray.mk #[])),iV 0],iV e]
  | .ok k n => .tup [sgV k (r.take n) i,iV 0]
structure Sg where
  k : Nat
  t : List UInt8
  i : Nat
inductive Res where
  | err (i e : Nat)
  | ok (l : List Sg)
def Sg.v (s : Sg) : V := sgV s.k s.t s.i
inductive SR : List UInt8 → Nat → List Sg → Res → Prop
  | done {r : List UInt8} {i : Nat} {acc : List Sg} (h : r.drop (goneN false r) = []) : SR r i acc (.ok acc)
  | err {r r' : List UInt8} {c : UInt8} {i e : Nat} {acc : List Sg} (h : r.drop (goneN false r) = c :: r') (h2 : sgnS (c :: r') = .err e) : SR r i acc (.err (i + goneN false r) e)
  | one {r r' : List UInt8} {c : UInt8} {i k m : Nat} {acc : List Sg} {res : Res} (h : r.drop (goneN false r) = c :: r') (h2 : sgnS (c :: r') = .ok k m)
      (h3 : SR ((c :: r').drop m) (i + goneN false r + m) (acc ++ [⟨k,(c :: r').take m,i + goneN false r⟩]) res) : SR r i acc res
theorem sgnS_pos {r : List UInt8} {k m : Nat} (h : sgnS r = .ok k m) : 0 < m ∧ m ≤ r.length := by
  cases r with
  | nil => simp [sgnS] at h
  | cons c r =>
    have pos : ∀ p : UInt8 → Bool,p c = true → 0 < rnN p (c :: r) := fun p hp => by unfold rnN; rw [List.takeWhile_cons,if_pos hp]; simp
    simp only [sgnS] at h
    split at h
    · rename_i hs
      split at h
      · cases h
      · cases h; exact ⟨pos _ (by simp [isIn,hs]),rnN_le _ _⟩
    · split at h
      · rename_i hd
        split at h
        · cases h
        · split at h
          · cases h
          · cases h; exact ⟨pos _ hd,rnN_le _ _⟩
      · split at h
        · cases h
        · cases h
          refine ⟨by omega, ?_⟩
          unfold markN
          split
          · rename_i h2
            have := dbls_two (by simpa using h2)
            simp at this ⊢; omega
          · dsimp only; split <;> simp
theorem SR.shift {r : List UInt8} {i n : Nat} {acc : List Sg} {res : Res} (h : SR r i acc res) (hg : goneN false r = n + goneN false (r.drop n)) : SR (r.drop n) (i + n) acc res := by
  have hd : (r.drop n).drop (goneN false (r.drop n)) = r.drop (goneN false r) := by rw [List.drop_drop,hg]
  have hi : i + n + goneN false (r.drop n) = i + goneN false r := by omega
  cases h with
  | done h => exact .done (by rw [hd]; exact h)
  | err h h2 => rw [← hi]; exact .err (by rw [hd]; exact h) h2
  | one h h2 h3 => exact .one (by rw [hd]; exact h) h2 (by rw [hi]; exact h3)
theorem SR.nilI {i : Nat} {acc : List Sg} {res : Res} (h : SR [] i acc res) : res = .ok acc := by
  cases h with
  | done h => rfl
  | err h h2 => simp at h
  | one h h2 h3 => simp at h
theorem SR.at {c : UInt8} {r : List UInt8} {i : Nat} {acc : List Sg} {res : Res} (h : SR (c :: r) i acc res) (hg : goneN false (c :: r) = 0) :
    (∃ e,sgnS (c :: r) = .err e ∧ res = .err i e) ∨ ∃ k m,sgnS (c :: r) = .ok k m ∧ SR ((c :: r).drop m) (i + m) (acc ++ [⟨k,(c :: r).take m,i⟩]) res := by
  cases h with
  | done h => rw [hg] at h; simp at h
  | err h h2 => rw [hg] at h; cases h; exact .inl ⟨_,h2,by rw [hg]; rfl⟩
  | one h h2 h3 => rw [hg] at h h3; cases h; exact .inr ⟨_,_,h2,h3⟩

def RV : Res → V → Prop
  | .err i e,z => z = .tup [nilV,iV i,iV e]
  | .ok l,z => ∃ w,z = .tup [w,iV 0,iV 0] ∧ IsSl 3 w (l.map Sg.v)
theorem frzT_3 {o : List O} {x y z w : V} {o1 : List O} (hx : freezeD o x = some (w,o1)) (hy : y.free = true) (hz : z.free = true) : freezeT o (.tup [x,y,z]) = some (.tup [w,y,z],o1) := by
  simp only [freezeT,freezeDs,hx,frzD_free hy,frzD_free hz,Option.map_some]
theorem Sg.okv (s : Sg) : s.v.free = true ∧ s.v.cells.length = 3 := ⟨rfl,rfl⟩
theorem sgs_ok (l : List Sg) : okRow 3 (l.map Sg.v) ∧ (l.map Sg.v).all V.free = true := by
  constructor
  · unfold okRow
    simp only [List.all_eq_true,Bool.and_eq_true,decide_eq_true_eq]
    intro v hv
    obtain ⟨s,_,rfl⟩ := List.mem_map.1 hv
    exact s.okv
  · simp only [List.all_eq_true]
    intro v hv
    obtain ⟨s,_,rfl⟩ := List.mem_map.1 hv
    exact s.okv.1
theorem RowAt.frzD {o : List O} {k : Nat} {rv : V} {vs : List V} {A : List Nat} (h : RowAt o k rv vs A) (hf : vs.all V.free = true) : ∃ w o1,freezeD o rv = some (w,o1) ∧ IsSl k w vs := by
  rcases h with ⟨rfl,rfl,rfl⟩ | ⟨la,v,wr,rfl,h,rfl⟩
  · exact ⟨nilV,o,rfl,.inl ⟨rfl,rfl⟩⟩
  · exact ⟨.sl k false vs,o.set la (.arr v false k vs),by simp [freezeD,h,hf],.inr ⟨_,rfl⟩⟩

theorem gone_idem : ∀ (b : Bool) (r : List UInt8),goneN false (r.drop (goneN b r)) = 0
  | true,[] => rfl
  | false,[] => rfl
  | false,c :: r => by
    simp only [goneN]
    split
    · simpa using gone_idem false r
    · split
      · simpa using gone_idem true r
      · rename_i h1 h2
        simp only [List.drop_zero]
        exact gone_no (by simpa using h1) h2
  | true,c :: r => by
    simp only [goneN]
    split
    · simpa using gone_idem false r
    · simpa using gone_idem true r
def kW : List (List UInt8) := [[118,97,114],[115,116,97,99,107],[112,114,111,99],[115,107,105,112],[100,111],[112,117,115,104],[114,101,118,101,114,115,101],[97,99,99,101,112,116],[109,101,114,103,101],[98,108,111,99,107],[101,120,105,116],[105,102],[101,108,115,101],[99,104,111,111,115,101],[112,97,114],[99,97,108,108]]
def ks : List UInt8 := [32,118,97,114,32,115,116,97,99,107,32,112,114,111,99,32,115,107,105,112,32,100,111,32,112,117,115,104,32,114,101,118,101,114,115,101,32,97,99,99,101,112,116,32,109,101,114,103,101,32,98,108,111,99,107,32,101,120,105,116,32,105,102,32,101,108,115,101,32,99,104,111,111,115,101,32,112,97,114,32,99,97,108,108,32]
def isKey (s : List UInt8) : Bool := kW.contains s
def kV : List V := kW.map fun w => tV w
def okB (f : Bool) (c : UInt8) : Bool := if f then isSm c else isIn c
def wordy (s : List UInt8) : Bool := (List.range s.length).all fun j => match s[j]? with
  | some c => okB (j == 0) c
  | none => true
def isName (s : List UInt8) : Bool := decide (1 ≤ s.length) && decide (s.length ≤ 20) && !isKey s && wordy s
theorem wordy_t {s : List UInt8} (h : ∀ j c,s[j]? = some c → okB (j == 0) c = true) : wordy s = true := by
  unfold wordy
  rw [List.all_eq_true]
  intro j hj
  split
  · rename_i c hc; exact h j c hc
  · rfl
theorem wordy_f {s : List UInt8} {j : Nat} {c : UInt8} (hc : s[j]? = some c) (h : okB (j == 0) c = false) : wordy s = false := by
  cases hw : wordy s with
  | false => rfl
  | true =>
    have := List.all_eq_true.1 hw j (by simpa using (List.getElem?_eq_some_iff.1 hc).1)
    rw [hc] at this
    rw [show okB (j == 0) c = true from this] at h
    cases h
theorem name_short {s : List UInt8} (h : s.length < 1) : isName s = false := by
  unfold isName; rw [decide_eq_false (by omega)]; rfl
theorem name_long {s : List UInt8} (h : 20 < s.length) : isName s = false := by
  unfold isName; rw [decide_eq_false (p := s.length ≤ 20) (by omega)]; simp
theorem name_key {s : List UInt8} (h : isKey s = true) : isName s = false := by
  unfold isName; rw [h]; simp
theorem name_w {s : List UInt8} (h1 : ¬ s.length < 1) (h2 : ¬ 20 < s.length) (h : isKey s = false) : isName s = wordy s := by
  unfold isName; rw [h,decide_eq_true (p := 1 ≤ s.length) (by omega),decide_eq_true (p := s.length ≤ 20) (by omega)]; rfl
theorem dec_lo {s : List UInt8} {p : Nat} {c : UInt8} (h : s[p]? = some c) (hc : c.toNat < 128) : Utf8.decode ⟨s.toArray⟩ p = (c.toNat,1) := by
  obtain ⟨hp,e⟩ := List.getElem?_eq_some_iff.1 h
  have hb : (ByteArray.mk s.toArray)[p]'(by simpa [bsz] using hp) = c := by rw [← e]; rfl
  rw [decode_ascii _ p (by simpa [bsz] using hp) (by rw [hb]; exact hc),hb]
theorem dec_hi {s : List UInt8} {p : Nat} {c : UInt8} (h : s[p]? = some c) (hc : 128 ≤ c.toNat) : ∃ r w,Utf8.decode ⟨s.toArray⟩ p = (r,w) ∧ 128 ≤ r := by
  obtain ⟨hp,e⟩ := List.getElem?_eq_some_iff.1 h
  have hb : (ByteArray.mk s.toArray)[p]'(by simpa [bsz] using hp) = c := by rw [← e]; rfl
  exact ⟨_,_,rfl,(decode_high _ p (by simpa [bsz] using hp) (by rw [hb]; exact hc)).1⟩
end Go.Proofs.Pe
end

section
set_option linter.unusedVariables false
set_option linter.unusedSimpArgs false
set_option maxRecDepth 100000
set_option maxHeartbeats 1000000
namespace Go.Proofs.Pe

/-! ### How signs are read as an expression -/
def kTxt : Nat → List UInt8
  | 3 => [33] | 4 => [45] | 5 => [42] | 6 => [47] | 7 => [37] | 8 => [43] | 9 => [45] | 10 => [61,61] | 11 => [33,61] | 12 => [60] | 13 => [60,61] | 14 => [62] | 15 => [62,61] | 16 => [38,38] | 17 => [124,124]
  | _ => []
def lvLo : Nat → Nat
  | 0 => 17 | 1 => 16 | 2 => 10 | 3 => 8 | _ => 5
def lvHi : Nat → Nat
  | 0 => 17 | 1 => 16 | 2 => 15 | 3 => 9 | _ => 7
def markAt (l : List Sg) (i : Nat) : List UInt8 := match l[i]? with
  | some s => if s.k = 3 then s.t else []
  | none => []
def kindG : Nat → Nat → List UInt8 → Nat
  | 0,_,_ => 0
  | f + 1,k,m => if (kTxt k == m) = true then k else kindG f (k + 1) m
def kindM (lv : Nat) (m : List UInt8) : Nat := kindG (lvHi lv + 1 - lvLo lv) (lvLo lv) m
def numI (t : List UInt8) : Nat := t.foldl (fun n c => 10 * n + (c.toNat - 48)) 0
inductive PR where
  | ok (x : Ex) (i : Nat)
  | bad (e i : Nat)
inductive W where
  | un
  | bin (lv : Nat)
  | lp (lv : Nat) (x : Ex)
inductive PS (l : List Sg) : Nat → W → Nat → Nat → PR → Prop
  | unE {n d i : Nat} (h : l[i]? = none) : PS l (n + 1) .un d i (.bad 2 i)
  | unN {n d i : Nat} {s : Sg} (h : l[i]? = some s) (hk : s.k = 2) : PS l (n + 1) .un d i (.ok (.mk 1 (numI s.t) (emp) []) (i + 1))
  | unV {n d i : Nat} {s : Sg} (h : l[i]? = some s) (hk : s.k = 1) (hn : isName s.t = true) : PS l (n + 1) .un d i (.ok (.mk 2 0 (ByteArray.mk s.t.toArray) []) (i + 1))
  | unW {n d i : Nat} {s : Sg} (h : l[i]? = some s) (hk : s.k = 1) (hn : isName s.t = false) : PS l (n + 1) .un d i (.bad 2 i)
  | unX {n d i : Nat} {s : Sg} (h : l[i]? = some s) (hk : s.k ≠ 1) (hk2 : s.k ≠ 2) (hk3 : s.k ≠ 3) : PS l (n + 1) .un d i (.bad 2 i)
  | unM {n d i : Nat} {s : Sg} (h : l[i]? = some s) (hk : s.k = 3) (h1 : s.t ≠ [33]) (h2 : s.t ≠ [45]) (h3 : s.t ≠ [40]) : PS l (n + 1) .un d i (.bad 2 i)
  | unD {n d i : Nat} {s : Sg} (h : l[i]? = some s) (hk : s.k = 3) (ht : s.t = [33] ∨ s.t = [45] ∨ s.t = [40]) (hd : 20 ≤ d) : PS l (n + 1) .un d i (.bad 3 i)
  | unS {n d i j k : Nat} {s : Sg} {x : Ex} (h : l[i]? = some s) (hk : s.k = 3) (ht : (s.t = [33] ∧ k = 3) ∨ (s.t = [45] ∧ k = 4)) (hd : d < 20) (h1 : PS l n .un (d + 1) (i + 1) (.ok x j)) :
      PS l (n + 1) .un d i (.ok (.mk k 0 (emp) [x]) j)
  | unSB {n d i j e : Nat} {s : Sg} (h : l[i]? = some s) (hk : s.k = 3) (ht : s.t = [33] ∨ s.t = [45]) (hd : d < 20) (h1 : PS l n .un (d + 1) (i + 1) (.bad e j)) : PS l (n + 1) .un d i (.bad e j)
  | unP {n d i j : Nat} {s : Sg} {x : Ex} (h : l[i]? = some s) (hk : s.k = 3) (ht : s.t = [40]) (hd : d < 20) (h1 : PS l n (.bin 0) (d + 1) (i + 1) (.ok x j)) (hm : markAt l j = [41]) : PS l (n + 1) .un d i (.ok x (j + 1))
  | unPM {n d i j : Nat} {s : Sg} {x : Ex} (h : l[i]? = some s) (hk : s.k = 3) (ht : s.t = [40]) (hd : d < 20) (h1 : PS l n (.bin 0) (d + 1) (i + 1) (.ok x j)) (hm : markAt l j ≠ [41]) : PS l (n + 1) .un d i (.bad 2 j)
  | unPB {n d i j e : Nat} {s : Sg} (h : l[i]? = some s) (hk : s.k = 3) (ht : s.t = [40]) (hd : d < 20) (h1 : PS l n (.bin 0) (d + 1) (i + 1) (.bad e j)) : PS l (n + 1) .un d i (.bad e j)
  | bin5 {n d i : Nat} {r : PR} (h1 : PS l n .un d i r) : PS l (n + 1) (.bin 5) d i r
  | binB {n d i j e lv : Nat} (hl : lv < 5) (h1 : PS l n (.bin (lv + 1)) d i (.bad e j)) : PS l (n + 1) (.bin lv) d i (.bad e j)
  | bin {n d i j lv : Nat} {x : Ex} {r : PR} (hl : lv < 5) (h1 : PS l n (.bin (lv + 1)) d i (.ok x j)) (h2 : PS l n (.lp lv x) d j r) : PS l (n + 1) (.bin lv) d i r
  | lpE {n d j lv : Nat} {x : Ex} (h : kindM lv (markAt l j) = 0) : PS l (n + 1) (.lp lv x) d j (.ok x j)
  | lpB {n d j j2 e lv : Nat} {x : Ex} (h : kindM lv (markAt l j) ≠ 0) (h1 : PS l n (.bin (lv + 1)) d (j + 1) (.bad e j2)) : PS l (n + 1) (.lp lv x) d j (.bad e j2)
  | lp2 {n d j j2 : Nat} {x y : Ex} (h : kindM 2 (markAt l j) ≠ 0) (h1 : PS l n (.bin 3) d (j + 1) (.ok y j2)) : PS l (n + 1) (.lp 2 x) d j (.ok (.mk (kindM 2 (markAt l j)) 0 (emp) [x,y]) j2)
  | lp {n d j j2 lv : Nat} {x y : Ex} {r : PR} (h : kindM lv (markAt l j) ≠ 0) (hl : lv ≠ 2) (h1 : PS l n (.bin (lv + 1)) d (j + 1) (.ok y j2)) (h2 : PS l n (.lp lv (.mk (kindM lv (markAt l j)) 0 (emp) [x,y])) d j2 r) : PS l (n + 1) (.lp lv x) d j r
theorem PS.succ {l : List Sg} {n : Nat} {w : W} {d i : Nat} {r : PR} (h : PS l n w d i r) : PS l (n + 1) w d i r := by
  induction h with
  | unE h => exact .unE h
  | unN h hk => exact .unN h hk
  | unV h hk hn => exact .unV h hk hn
  | unW h hk hn => exact .unW h hk hn
  | unX h hk hk2 hk3 => exact .unX h hk hk2 hk3
  | unM h hk h1 h2 h3 => exact .unM h hk h1 h2 h3
  | unD h hk ht hd => exact .unD h hk ht hd
  | unS h hk ht hd _ ih => exact .unS h hk ht hd ih
  | unSB h hk ht hd _ ih => exact .unSB h hk ht hd ih
  | unP h hk ht hd _ hm ih => exact .unP h hk ht hd ih hm
  | unPM h hk ht hd _ hm ih => exact .unPM h hk ht hd ih hm
  | unPB h hk ht hd _ ih => exact .unPB h hk ht hd ih
  | bin5 _ ih => exact .bin5 ih
  | binB hl _ ih => exact .binB hl ih
  | bin hl _ _ ih1 ih2 => exact .bin hl ih1 ih2
  | lpE h => exact .lpE h
  | lpB h _ ih => exact .lpB h ih
  | lp2 h _ ih => exact .lp2 h ih
  | lp h hl _ _ ih1 ih2 => exact .lp h hl ih1 ih2
theorem PS.le {l : List Sg} {n m : Nat} {w : W} {d i : Nat} {r : PR} (h : PS l n w d i r) (hm : n ≤ m) : PS l m w d i r := by
  induction hm with
  | refl => exact h
  | step _ ih => exact ih.succ
def SgOk (s : Sg) : Prop := s.t.length ≤ 20 ∧ (s.k = 2 → s.t ≠ [] ∧ s.t.length ≤ 18 ∧ ∀ c ∈ s.t,isDg c = true)
theorem markN_2 (r : List UInt8) : markN r ≤ 2 := by
  unfold markN
  split
  · omega
  · split
    · omega
    · split <;> omega
theorem take_rn (p : UInt8 → Bool) : ∀ (r : List UInt8) (c : UInt8),c ∈ r.take (rnN p r) → p c = true
  | [],c,h => by simp at h
  | a :: r,c,h => by
    unfold rnN at h
    rw [List.takeWhile_cons] at h
    split at h
    · rename_i ha
      simp only [List.length_cons,List.take_succ_cons,List.mem_cons] at h
      rcases h with rfl | h
      · exact ha
      · exact take_rn p r c h
    · simp at h
theorem sgnS_ok {r : List UInt8} {k m i : Nat} (h : sgnS r = .ok k m) : SgOk ⟨k,r.take m,i⟩ := by
  obtain ⟨p1,p2⟩ := sgnS_pos h
  cases r with
  | nil => simp [sgnS] at h
  | cons c r =>
    simp only [sgnS] at h
    have hl : ∀ n,n ≤ (c :: r).length → ((c :: r).take n).length = n := fun n hn => by rw [List.length_take]; omega
    split at h
    · split at h
      · cases h
      · cases h; exact ⟨by show ((c :: r).take _).length ≤ 20; rw [hl _ p2]; omega,fun e => by cases e⟩
    · split at h
      · split at h
        · cases h
        · split at h
          · cases h
          · cases h
            refine ⟨by show ((c :: r).take _).length ≤ 20; rw [hl _ p2]; omega,fun _ => ⟨fun e => ?_,by show ((c :: r).take _).length ≤ 18; rw [hl _ p2]; omega,fun d hd => take_rn isDg _ d hd⟩⟩
            have := hl _ p2
            have e' : (c :: r).take (rnN isDg (c :: r)) = [] := e
            rw [e'] at this; simp at this; omega
      · split at h
        · cases h
        · cases h
          have := markN_2 (c :: r)
          exact ⟨by show ((c :: r).take _).length ≤ 20; rw [hl _ p2]; omega,fun e => by cases e⟩
theorem SR.sgOk {r : List UInt8} {i : Nat} {acc : List Sg} {res : Res} (h : SR r i acc res) : ∀ l,res = .ok l → (∀ s ∈ acc,SgOk s) → ∀ s ∈ l,SgOk s := by
  induction h with
  | done h => intro l e ha; cases e; exact ha
  | err h h2 => intro l e; cases e
  | one h h2 h3 ih =>
    intro l e ha
    refine ih l e fun s hs => ?_
    rcases List.mem_append.1 hs with hs | hs
    · exact ha s hs
    · simp only [List.mem_singleton] at hs; subst hs; exact sgnS_ok h2
end Go.Proofs.Pe
end

section
set_option linter.unusedVariables false
set_option linter.unusedSimpArgs false
set_option maxRecDepth 100000
set_option maxHeartbeats 1000000
namespace Go.Proofs.Pe

/-! ### Signs one by one -/
theorem SR.tok {gap t rest : List UInt8} {i k : Nat} {acc : List Sg} {res : Res} (hg : goneN false (gap ++ (t ++ rest)) = gap.length) (ht : sgnS (t ++ rest) = .ok k t.length) (hn : t ≠ [])
    (h : SR rest (i + gap.length + t.length) (acc ++ [⟨k,t,i + gap.length⟩]) res) : SR (gap ++ (t ++ rest)) i acc res := by
  obtain ⟨c,t',rfl⟩ := List.exists_cons_of_ne_nil hn
  refine .one (c := c) (r' := t' ++ rest) (k := k) (m := (c :: t').length) ?_ ht ?_
  · rw [hg,List.drop_left]; rfl
  · rw [hg]
    have e1 : (c :: (t' ++ rest)).drop (c :: t').length = rest := by
      rw [← List.cons_append,List.drop_left]
    have e2 : (c :: (t' ++ rest)).take (c :: t').length = c :: t' := by
      rw [← List.cons_append,List.take_left]
    rw [e1,e2]
    exact h
theorem SR.blank {r : List UInt8} {i : Nat} {acc : List Sg} {res : Res} (h : SR r (i + 1) acc res) : SR (32 :: r) i acc res := by
  have hg : goneN false (32 :: r) = goneN false r + 1 := gone_bl (by decide)
  have hd : (32 :: r).drop (goneN false (32 :: r)) = r.drop (goneN false r) := by rw [hg,List.drop_succ_cons]
  have hi : i + goneN false (32 :: r) = i + 1 + goneN false r := by omega
  cases h with
  | done h => exact .done (by rw [hd]; exact h)
  | err h h2 => rw [← hi]; exact .err (by rw [hd]; exact h) h2
  | one h h2 h3 => exact .one (by rw [hd]; exact h) h2 (by rw [hi]; exact h3)
def kt (s : Sg) : Nat × List UInt8 := (s.k,s.t)
theorem kt_get {l : List Sg} {i : Nat} {p : Nat × List UInt8} (h : (l.map kt)[i]? = some p) : ∃ s,l[i]? = some s ∧ s.k = p.1 ∧ s.t = p.2 := by
  rw [List.getElem?_map,Option.map_eq_some_iff] at h
  obtain ⟨s,h1,h2⟩ := h
  exact ⟨s,h1,by rw [← h2]; rfl,by rw [← h2]; rfl⟩
theorem kt_none {l : List Sg} {i : Nat} (h : (l.map kt)[i]? = none) : l[i]? = none := by
  rw [List.getElem?_map,Option.map_eq_none_iff] at h
  exact h
theorem mark_get {l : List Sg} {i : Nat} {t : List UInt8} (h : (l.map kt)[i]? = some (3,t)) : markAt l i = t := by
  obtain ⟨s,h1,h2,h3⟩ := kt_get h
  simp only [markAt,h1,h2,h3,if_true]
theorem mark_none {l : List Sg} {i : Nat} (h : (l.map kt)[i]? = none) : markAt l i = [] := by
  simp only [markAt,kt_none h]
theorem kind_nil : ∀ lv,lv < 5 → kindM lv [] = 0 := by decide
theorem kind_close : ∀ lv,lv < 5 → kindM lv [41] = 0 := by decide
theorem bin_ok {l : List Sg} {d i j : Nat} {x : Ex} {n : Nat} (h : PS l n .un d i (.ok x j)) : ∀ m lv,lv + m = 5 → (∀ v,lv ≤ v → v < 5 → kindM v (markAt l j) = 0) → ∃ n,PS l n (.bin lv) d i (.ok x j)
  | 0,lv,hm,hk => ⟨n + 1,by rw [show lv = 5 by omega]; exact .bin5 h⟩
  | m + 1,lv,hm,hk => by
    obtain ⟨n',h'⟩ := bin_ok h m (lv + 1) (by omega) fun v h1 h2 => hk v (by omega) h2
    exact ⟨n' + 2,.bin (by omega) h'.succ (.lpE (hk lv (Nat.le_refl _) (by omega)))⟩
theorem bin_bad {l : List Sg} {d i j e : Nat} {n : Nat} (h : PS l n .un d i (.bad e j)) : ∀ m lv,lv + m = 5 → ∃ n,PS l n (.bin lv) d i (.bad e j)
  | 0,lv,hm => ⟨n + 1,by rw [show lv = 5 by omega]; exact .bin5 h⟩
  | m + 1,lv,hm => by
    obtain ⟨n',h'⟩ := bin_bad h m (lv + 1) (by omega)
    exact ⟨n' + 1,.binB (by omega) h'⟩

/-! ### Brackets in one another -/
def pb : Nat → UInt8
  | 0 => 40 | 1 => 45 | _ => 33
def preT (cs : List Nat) : List UInt8 := cs.flatMap fun c => [pb c,32]
def cloT : Nat → List UInt8
  | 0 => []
  | m + 1 => 32 :: 41 :: cloT m
theorem cloT_snoc : ∀ m,cloT (m + 1) = cloT m ++ [32,41]
  | 0 => rfl
  | m + 1 => by
    show 32 :: 41 :: cloT (m + 1) = 32 :: 41 :: (cloT m ++ [32,41])
    rw [cloT_snoc m]
theorem cloT_len : ∀ m,(cloT m).length = 2 * m
  | 0 => rfl
  | m + 1 => by simp [cloT,cloT_len m]; omega
theorem preT_len (cs : List Nat) : (preT cs).length = 2 * cs.length := by
  induction cs with
  | nil => rfl
  | cons c cs ih => simp [preT] at ih ⊢; omega
def deepKt (cs : List Nat) (m : Nat) : List (Nat × List UInt8) := cs.map (fun c => (3,[pb c])) ++ (2,[49]) :: List.replicate m (3,[41])
theorem clo_SR : ∀ (m i : Nat) (acc : List Sg),∃ l,SR (cloT m) i acc (.ok (acc ++ l)) ∧ l.map kt = List.replicate m (3,[41])
  | 0,i,acc => ⟨[],by rw [List.append_nil]; exact .done rfl,rfl⟩
  | m + 1,i,acc => by
    obtain ⟨l,h1,h2⟩ := clo_SR m (i + 1 + 1) (acc ++ [⟨3,[41],i + 1⟩])
    refine ⟨⟨3,[41],i + 1⟩ :: l, ?_,by rw [List.map_cons,h2]; rfl⟩
    rw [show acc ++ (⟨3,[41],i + 1⟩ :: l : List Sg) = (acc ++ [⟨3,[41],i + 1⟩]) ++ l by simp]
    exact SR.tok (gap := [32]) (t := [41]) (k := 3) (by
      show goneN false (32 :: 41 :: cloT m) = 1
      rw [gone_bl (by decide),gone_no (by decide) (by decide)]) (by
      show sgnS (41 :: cloT m) = .ok 3 1
      cases m with
      | zero => simp [sgnS,cloT,isSm,isDg,markN,dbls,sngs]
      | succ m => simp [sgnS,cloT,isSm,isDg,markN,dbls,sngs]) (by simp) h1
theorem pb_cases (c : Nat) : pb c = 40 ∨ pb c = 45 ∨ pb c = 33 := by
  unfold pb; split <;> simp
theorem deep_SR (m : Nat) : ∀ (cs : List Nat) (i : Nat) (acc : List Sg),∃ l,SR (preT cs ++ (49 :: cloT m)) i acc (.ok (acc ++ l)) ∧ l.map kt = deepKt cs m ∧ goneN false (preT cs ++ (49 :: cloT m)) = 0
  | [],i,acc => by
    obtain ⟨l,h1,h2⟩ := clo_SR m (i + 0 + 1) (acc ++ [⟨2,[49],i + 0⟩])
    refine ⟨⟨2,[49],i + 0⟩ :: l, ?_,by rw [List.map_cons,h2]; rfl,gone_no (by decide) (by decide)⟩
    rw [show acc ++ (⟨2,[49],i + 0⟩ :: l : List Sg) = (acc ++ [⟨2,[49],i + 0⟩]) ++ l by simp]
    exact SR.tok (gap := []) (t := [49]) (k := 2) (gone_no (by decide) (by decide)) (by
      show sgnS (49 :: cloT m) = .ok 2 1
      cases m with
      | zero => simp [sgnS,cloT,isSm,isDg,rnN]
      | succ m => simp [sgnS,cloT,isSm,isDg,rnN]) (by simp) h1
  | c :: cs,i,acc => by
    have hg : goneN false (pb c :: 32 :: (preT cs ++ (49 :: cloT m))) = 0 := by
      rcases pb_cases c with h | h | h <;> (rw [h]; exact gone_no (by decide) (by decide))
    obtain ⟨l,h1,h2,h3⟩ := deep_SR m cs (i + 0 + 1 + 1) (acc ++ [⟨3,[pb c],i + 0⟩])
    refine ⟨⟨3,[pb c],i + 0⟩ :: l, ?_,by rw [List.map_cons,h2]; rfl,hg⟩
    rw [show acc ++ (⟨3,[pb c],i + 0⟩ :: l : List Sg) = (acc ++ [⟨3,[pb c],i + 0⟩]) ++ l by simp]
    refine SR.tok (gap := []) (t := [pb c]) (k := 3) hg ?_ (by simp) (?_ : SR (32 :: (preT cs ++ (49 :: cloT m))) _ _ _)
    · show sgnS (pb c :: 32 :: (preT cs ++ (49 :: cloT m))) = .ok 3 1
      rcases pb_cases c with h | h | h <;> (rw [h]; simp [sgnS,isSm,isDg,markN,dbls,sngs])
    · exact SR.blank h1
theorem kd_pre {cs : List Nat} {m i : Nat} {c : Nat} (h : cs[i]? = some c) : (deepKt cs m)[i]? = some (3,[pb c]) := by
  unfold deepKt
  have hi := (List.getElem?_eq_some_iff.1 h).1
  rw [List.getElem?_append_left (by simpa using hi),List.getElem?_map,h]; rfl
theorem kd_one {cs : List Nat} {m : Nat} : (deepKt cs m)[cs.length]? = some (2,[49]) := by
  unfold deepKt
  rw [List.getElem?_append_right (by simp)]; simp
theorem kd_clo {cs : List Nat} {m q : Nat} (h : q < m) : (deepKt cs m)[cs.length + 1 + q]? = some (3,[41]) := by
  unfold deepKt
  rw [List.getElem?_append_right (by simp; omega)]
  simp only [List.length_map]
  rw [show cs.length + 1 + q - cs.length = q + 1 by omega,List.getElem?_cons_succ,List.getElem?_replicate,if_pos h]
theorem kd_end {cs : List Nat} {m : Nat} : (deepKt cs m)[cs.length + 1 + m]? = none := by
  unfold deepKt
  rw [List.getElem?_eq_none_iff]; simp; omega
theorem deep_un {l : List Sg} {cs : List Nat} (hl : l.map kt = deepKt cs (cs.count 0)) (h20 : cs.length ≤ 20) : ∀ (u pre : List Nat),cs = pre ++ u → ∃ n x,PS l n .un pre.length pre.length (.ok x (cs.length + 1 + u.count 0))
  | [],pre,e => by
    rw [List.append_nil] at e
    subst e
    obtain ⟨s,h1,h2,h3⟩ := kt_get (l := l) (i := cs.length) (by rw [hl]; exact kd_one)
    exact ⟨1,_,.unN h1 h2⟩
  | c :: u,pre,e => by
    obtain ⟨n,x,ih⟩ := deep_un hl h20 u (pre ++ [c]) (by simp [e])
    rw [List.length_append,List.length_singleton] at ih
    have hx : cs[pre.length]? = some c := by rw [e]; simp
    have hlen : pre.length + 1 + u.length = cs.length := by rw [e]; simp; omega
    obtain ⟨s,h1,h2,h3⟩ := kt_get (l := l) (i := pre.length) (by rw [hl]; exact kd_pre hx)
    rcases c with _ | _ | c
    · have hcnt : u.count 0 < cs.count 0 := by rw [e]; simp [List.count_append]; omega
      have hm : markAt l (cs.length + 1 + u.count 0) = [41] := mark_get (by rw [hl]; exact kd_clo hcnt)
      obtain ⟨n',hb⟩ := bin_ok ih 5 0 rfl fun v _ hv => by rw [hm]; exact kind_close v hv
      refine ⟨n' + 1,x, ?_⟩
      rw [show cs.length + 1 + List.count 0 (0 :: u) = cs.length + 1 + u.count 0 + 1 by simp; omega]
      exact .unP h1 h2 h3 (by omega) hb hm
    · refine ⟨n + 1,.mk (4 : Nat) 0 emp [x], ?_⟩
      rw [show List.count 0 ((0 + 1) :: u) = u.count 0 by simp]
      exact .unS h1 h2 (.inr ⟨h3,rfl⟩) (by omega) ih
    · refine ⟨n + 1,.mk (3 : Nat) 0 emp [x], ?_⟩
      rw [show List.count 0 ((c + 1 + 1) :: u) = u.count 0 by simp]
      exact .unS h1 h2 (.inl ⟨h3,rfl⟩) (by omega) ih
theorem deep_bad {l : List Sg} {cs : List Nat} {m : Nat} (hl : l.map kt = deepKt cs m) (h20 : 20 < cs.length) : ∀ (q : Nat) (u pre : List Nat),pre.length + q = 20 → cs = pre ++ u → ∃ n,PS l n .un pre.length pre.length (.bad 3 20)
  | 0,u,pre,hq,e => by
    have hp : pre.length = 20 := by omega
    cases u with
    | nil => rw [e] at h20; simp at h20; omega
    | cons c u =>
      have hx : cs[pre.length]? = some c := by rw [e]; simp
      obtain ⟨s,h1,h2,h3⟩ := kt_get (l := l) (i := pre.length) (by rw [hl]; exact kd_pre hx)
      refine ⟨1, ?_⟩
      have : PS l 1 .un pre.length pre.length (.bad 3 pre.length) := .unD h1 h2 (by rcases pb_cases c with h | h | h <;> simp [h3,h]) (by omega)
      rw [hp] at this ⊢
      exact this
  | q + 1,u,pre,hq,e => by
    cases u with
    | nil => rw [e] at h20; simp at h20; omega
    | cons c u =>
      obtain ⟨n,ih⟩ := deep_bad hl h20 q u (pre ++ [c]) (by simp; omega) (by simp [e])
      rw [List.length_append,List.length_singleton] at ih
      have hx : cs[pre.length]? = some c := by rw [e]; simp
      obtain ⟨s,h1,h2,h3⟩ := kt_get (l := l) (i := pre.length) (by rw [hl]; exact kd_pre hx)
      rcases pb_cases c with h | h | h <;> (rw [h] at h3)
      · obtain ⟨n',hb⟩ := bin_bad ih 5 0 rfl
        exact ⟨n' + 1,.unPB h1 h2 h3 (by omega) hb⟩
      · exact ⟨n + 1,.unSB h1 h2 (.inr h3) (by omega) ih⟩
      · exact ⟨n + 1,.unSB h1 h2 (.inl h3) (by omega) ih⟩
theorem deep_PS {l : List Sg} {cs : List Nat} (hl : l.map kt = deepKt cs (cs.count 0)) : (cs.length ≤ 20 → ∃ n x,PS l n (.bin 0) 0 0 (.ok x l.length)) ∧ (20 < cs.length → ∃ n,PS l n (.bin 0) 0 0 (.bad 3 20)) := by
  have hll : l.length = cs.length + 1 + cs.count 0 := by
    have := congrArg List.length hl
    simp [deepKt] at this; omega
  constructor
  · intro h
    obtain ⟨n,x,hu⟩ := deep_un hl h cs [] rfl
    have hm : markAt l (cs.length + 1 + cs.count 0) = [] := mark_none (by rw [hl]; exact kd_end)
    obtain ⟨n',hb⟩ := bin_ok hu 5 0 rfl fun v _ hv => by rw [hm]; exact kind_nil v hv
    exact ⟨n',x,by rw [hll]; exact hb⟩
  · intro h
    obtain ⟨n,hu⟩ := deep_bad hl h 20 cs [] rfl rfl
    exact bin_bad hu 5 0 rfl
end Go.Proofs.Pe
end

section
set_option linter.unusedVariables false
set_option linter.unusedSimpArgs false
set_option maxRecDepth 100000
set_option maxHeartbeats 1000000
namespace Go.Proofs.Pe

/-! ### Numbers as digits -/
theorem numI_snoc (t : List UInt8) (c : UInt8) : numI (t ++ [c]) = 10 * numI t + (c.toNat - 48) := by
  simp [numI,List.foldl_append]
def e18 : Nat := 1000000000000000000
def Stop (r : List UInt8) : Prop := ∀ c,r.head? = some c → c = 32 ∨ c = 41 ∨ c = 59
/-! ### Expressions as texts -/
inductive WfT : Nat → Ex → Prop where
  | num {n m : Nat} : m < e18 → WfT n (.mk 1 m emp [])
  | var {n : Nat} {t : List UInt8} : isName t = true → WfT n (.mk 2 0 ⟨t.toArray⟩ [])
  | one {n k : Nat} {x : Ex} : k = 3 ∨ k = 4 → WfT n x → WfT (n + 1) (.mk k 0 emp [x])
  | two {n k : Nat} {x y : Ex} : 5 ≤ k → k ≤ 17 → WfT n x → WfT n y → WfT (n + 1) (.mk k 0 emp [x,y])
def Hd (t : List UInt8) : Prop := ∃ c r,t = c :: r ∧ isBl c = false ∧ c.toNat ≠ 35 ∧ c.toNat ≠ 61 ∧ c.toNat ≠ 62
theorem Hd.app {t r : List UInt8} (h : Hd t) : Hd (t ++ r) := by
  obtain ⟨c,s,rfl,h⟩ := h
  exact ⟨c,s ++ r,rfl,h⟩
/-! ### They are read as they were -/
def AtK (l : List Sg) (i : Nat) (ks : List (Nat × List UInt8)) : Prop := ∀ q p,ks[q]? = some p → (l.map kt)[i + q]? = some p
theorem AtK.app {l : List Sg} {i : Nat} {a b : List (Nat × List UInt8)} (h : AtK l i (a ++ b)) : AtK l i a ∧ AtK l (i + a.length) b := by
  constructor
  · intro q p hq
    exact h q p (by rw [List.getElem?_append_left (List.getElem?_eq_some_iff.1 hq).1]; exact hq)
  · intro q p hq
    rw [Nat.add_assoc]
    exact h (a.length + q) p (by rw [List.getElem?_append_right (by omega)]; rw [show a.length + q - a.length = q by omega]; exact hq)
theorem AtK.cons {l : List Sg} {i : Nat} {a : Nat × List UInt8} {b : List (Nat × List UInt8)} (h : AtK l i (a :: b)) : (l.map kt)[i]? = some a ∧ AtK l (i + 1) b := by
  refine ⟨h 0 a rfl,fun q p hq => ?_⟩
  rw [Nat.add_assoc,Nat.add_comm 1]
  exact h (q + 1) p (by simpa using hq)
end Go.Proofs.Pe
end

/- Parts of the texts that the claim's proof needs: functions of the program as the evaluator reads them, and what they come to. Conditions: those that its theorems state. -/
import Derived.Test.YtjfnhpnfkknmoaaDoorPeD
import Derived.Laws.RangeAny
import Derived.Shelf.Strconv.Itoa3
import Derived.Test.YtjfnhpnfkknmoaaDoorProg

section
set_option linter.unusedVariables false
namespace Go.Proofs.Pe
variable {P : Program} {T : Tab} {ca : Ca} {yi : Nat → Sem'}

/-! ### Calls to which objects are handed over (mode 5) -/
def outI (n : Nat) (N : List Nat) (i : Nat) : Option Nat := if i < n then some i else if i ∈ N then some (n + N.idxOf i) else none
def outT (S : List Nat) (n m i : Nat) : Option Nat := if i < n then S[i]? else some (m + (i - n))
def Fin5 (n : Nat) (y : V) (o' : List O) (z : V) (os' : List O) : Prop :=
  ∃ z0 o2 N,(freezeT o' y = some (z0,o2) ∨ (y = z0 ∧ o' = o2)) ∧ N.Nodup ∧ (∀ i ∈ N,n ≤ i) ∧ z0.mv (outI n N) = some z ∧
    mapO (fun i => (o2[i]?).bind (mvO (outI n N))) (List.range n ++ N) = some os'
def SFn (P : Program) (T : Tab) (f : FuncId) (xs : List V) (os : List O) (Q : V → List O → Prop) : Prop :=
  ∀ yi,YLe yi yi → Call P T yi f xs os fun y o' => ∃ z os',Fin5 os.length y o' z os' ∧ Q z os'

theorem mapO_comp {α β γ : Type} {f : α → Option β} {g : β → Option γ} {h : α → Option γ} (hh : ∀ x y z,f x = some y → g y = some z → h x = some z) : ∀ {xs : List α} {ys : List β} {zs : List γ},mapO f xs = some ys → mapO g ys = some zs → mapO h xs = some zs
  | [],ys,zs,h1,h2 => by simp [mapO] at h1; subst h1; exact h2
  | x :: xs,ys,zs,h1,h2 => by
    simp only [mapO] at h1
    split at h1
    · cases h1
    · rename_i y e1
      split at h1
      · cases h1
      · rename_i ys' e2
        cases h1
        simp only [mapO] at h2
        split at h2
        · cases h2
        · rename_i z e3
          split at h2
          · cases h2
          · rename_i zs' e4
            cases h2
            simp only [mapO,hh _ _ _ e1 e3,mapO_comp hh e2 e4]
theorem mv0_comp {ρ σ τ : Nat → Option Nat} (hh : ∀ i j k,ρ i = some j → σ j = some k → τ i = some k) (x y z : V) (h1 : x.mv0 ρ = some y) (h2 : y.mv0 σ = some z) : x.mv0 τ = some z := by
  cases x <;> simp only [V.mv0,Option.map_eq_some_iff] at h1
  case pt =>
    obtain ⟨l',e,rfl⟩ := h1
    simp only [V.mv0,Option.map_eq_some_iff] at h2 ⊢
    obtain ⟨l2,e2,rfl⟩ := h2
    exact ⟨_,hh _ _ _ e e2,rfl⟩
  case ar =>
    obtain ⟨l',e,rfl⟩ := h1
    simp only [V.mv0,Option.map_eq_some_iff] at h2 ⊢
    obtain ⟨l2,e2,rfl⟩ := h2
    exact ⟨_,hh _ _ _ e e2,rfl⟩
  all_goals
    split at h1
    · rename_i hf
      cases h1
      simp only [V.mv0,hf,if_true] at h2 ⊢
      exact h2
    · cases h1
theorem mv1_comp {ρ σ τ : Nat → Option Nat} (hh : ∀ i j k,ρ i = some j → σ j = some k → τ i = some k) (x y z : V) (h1 : x.mv1 ρ = some y) (h2 : y.mv1 σ = some z) : x.mv1 τ = some z := by
  unfold V.mv1 at h1
  split at h1
  · split at h1
    · rename_i az' bs' e1 e2
      cases h1
      unfold V.mv1 at h2
      simp only at h2
      split at h2
      · rename_i e3 e4
        cases h2
        simp only [V.mv1,mapO_comp (mv0_comp hh) e1 e3,mapO_comp (mv0_comp hh) e2 e4]
      · cases h2
    · cases h1
  · rename_i hne
    have hy : y.mv1 σ = y.mv0 σ := by
      cases x <;> simp only [V.mv0,Option.map_eq_some_iff] at h1
      case pt => obtain ⟨l',e,rfl⟩ := h1; rfl
      case ar => obtain ⟨l',e,rfl⟩ := h1; rfl
      case fn f az bs =>
        split at h1
        · cases h1
          unfold V.mv1
          split
          · rename_i e; exact absurd e (hne _ _ _)
          · rfl
        · cases h1
      all_goals (split at h1 <;> cases h1; rfl)
    rw [hy] at h2
    have := mv0_comp hh x y z h1 h2
    unfold V.mv1
    split
    · exact absurd rfl (hne _ _ _)
    · exact this
theorem mv2_comp {ρ σ τ : Nat → Option Nat} (hh : ∀ i j k,ρ i = some j → σ j = some k → τ i = some k) (x y z : V) (h1 : x.mv2 ρ = some y) (h2 : y.mv2 σ = some z) : x.mv2 τ = some z := by
  by_cases hx : ∃ cs,x = .agg cs
  · obtain ⟨cs,rfl⟩ := hx
    simp only [V.mv2,Option.map_eq_some_iff] at h1
    obtain ⟨ds,e1,rfl⟩ := h1
    simp only [V.mv2,Option.map_eq_some_iff] at h2 ⊢
    obtain ⟨es,e2,rfl⟩ := h2
    exact ⟨_,mapO_comp (mv1_comp hh) e1 e2,rfl⟩
  · have e : ∀ ρ,x.mv2 ρ = x.mv1 ρ := fun ρ => by
      unfold V.mv2; split
      · exact absurd ⟨_,rfl⟩ hx
      · rfl
    rw [e] at h1 ⊢
    have ho := (mv1_one h1).2
    have e2 : y.mv2 σ = y.mv1 σ := by
      unfold V.mv2; split
      · cases ho
      · rfl
    rw [e2] at h2
    exact mv1_comp hh x y z h1 h2
theorem mv_comp {ρ σ τ : Nat → Option Nat} (hh : ∀ i j k,ρ i = some j → σ j = some k → τ i = some k) (x y z : V) (h1 : x.mv ρ = some y) (h2 : y.mv σ = some z) : x.mv τ = some z := by
  by_cases hx : ∃ cs,x = .tup cs
  · obtain ⟨cs,rfl⟩ := hx
    simp only [V.mv,Option.map_eq_some_iff] at h1
    obtain ⟨ds,e1,rfl⟩ := h1
    simp only [V.mv,Option.map_eq_some_iff] at h2 ⊢
    obtain ⟨es,e2,rfl⟩ := h2
    exact ⟨_,mapO_comp (mv2_comp hh) e1 e2,rfl⟩
  · have e : ∀ ρ,x.mv ρ = x.mv2 ρ := fun ρ => by
      unfold V.mv; split
      · exact absurd ⟨_,rfl⟩ hx
      · rfl
    rw [e] at h1 ⊢
    have e2 : y.mv σ = y.mv2 σ := by
      unfold V.mv; split
      · exfalso
        by_cases ha : ∃ cs,x = .agg cs
        · obtain ⟨cs,rfl⟩ := ha
          simp only [V.mv2,Option.map_eq_some_iff] at h1
          obtain ⟨ds,_,h1⟩ := h1; cases h1
        · have e3 : x.mv2 ρ = x.mv1 ρ := by
            unfold V.mv2; split
            · exact absurd ⟨_,rfl⟩ ha
            · rfl
          rw [e3] at h1
          have := (mv1_one h1).2
          cases this
      · rfl
    rw [e2] at h2
    exact mv2_comp hh x y z h1 h2
theorem mvO_comp {ρ σ τ : Nat → Option Nat} (hh : ∀ i j k,ρ i = some j → σ j = some k → τ i = some k) (x y z : O) (h1 : mvO ρ x = some y) (h2 : mvO σ y = some z) : mvO τ x = some z := by
  cases x <;> simp only [mvO,Option.map_eq_some_iff] at h1
  case cells =>
    obtain ⟨ds,e1,rfl⟩ := h1
    simp only [mvO,Option.map_eq_some_iff] at h2 ⊢
    obtain ⟨es,e2,rfl⟩ := h2
    exact ⟨_,mapO_comp (mv1_comp hh) e1 e2,rfl⟩
  case arr =>
    obtain ⟨ds,e1,rfl⟩ := h1
    simp only [mvO,Option.map_eq_some_iff] at h2 ⊢
    obtain ⟨es,e2,rfl⟩ := h2
    exact ⟨_,mapO_comp (mv2_comp hh) e1 e2,rfl⟩
  all_goals cases h1
theorem out_comp {S N : List Nat} {m : Nat} (i j k : Nat) (h1 : outI S.length N i = some j) (h2 : outT S S.length m j = some k) : outS S N m i = some k := by
  unfold outI at h1
  unfold outT at h2
  unfold outS
  split at h1
  · rename_i h; cases h1; rw [if_pos h] at h2 ⊢; exact h2
  · rename_i h
    rw [if_neg h]
    split at h1
    · rename_i hm; cases h1
      rw [if_neg (by omega)] at h2
      rw [if_pos hm]; cases h2; congr 1; omega
    · cases h1

theorem SFn.call {f : FuncId} {az bs xs ys zs : List V} {o o1 os : List O} {S : List Nat} {Q : V → List O → Prop} {K : V → List O → Prop} (h : SFn P T f zs os Q) (hm : T.mode f = 5 ∨ T.mode f = 6)
    (hc : evCallV.hand (T.mode f) o (az ++ xs ++ bs) = some (ys,o1)) (hn : S.Nodup) (hz : mapO (V.mv2 (inS S)) ys = some zs) (hos : mapO (fun l => (o1[l]?).bind (mvO (inS S))) S = some os)
    (hK : ∀ z os',Q z os' → ∃ z' os'',z.mv (outT S S.length o1.length) = some z' ∧ mapO (mvO (outT S S.length o1.length)) os' = some os'' ∧ K z' (putS o1 S os'' ++ os''.drop S.length)) :
    evCallV T (Call P T) yi (.fn (.func f) az bs) xs o K := by
  have h1 : ¬ T.mode f < 2 := by omega
  have h2 : ¬ T.mode f = 3 := by omega
  have h3 : ¬ T.mode f = 2 := by omega
  simp only [evCallV]
  rw [if_neg h1,if_neg h2,if_neg h3,if_pos hm,hc]
  refine ⟨S,zs,os,hn,hz,hos, ?_⟩
  refine call_le _ _ f (fun _ _ _ _ _ _ h => h) _ _ _ _ (fun y o' hy => ?_) (h _ (fun _ _ _ _ _ _ h => h))
  obtain ⟨z,os',⟨z0,o2,N,a1,a2,a3,a4,a5⟩,hq⟩ := hy
  obtain ⟨z',os'',b1,b2,b3⟩ := hK z os' hq
  have hl := mapO_len hos
  rw [hl] at a3 a4 a5
  exact ⟨z0,o2,N,z',os'',a1,a2,a3,mv_comp out_comp _ _ _ a4 b1,mapO_comp (f := fun i => (o2[i]?).bind (mvO (outI S.length N))) (g := mvO (outT S S.length o1.length)) (fun i y z e1 e2 => by
    simp only [Option.bind_eq_some_iff] at e1 ⊢
    obtain ⟨ob,e3,e4⟩ := e1
    exact ⟨ob,e3,mvO_comp out_comp _ _ _ e4 e2⟩) a5 b2,b3⟩

theorem mv0_free {ρ : Nat → Option Nat} {x : V} (h : x.free1 = true) : x.mv0 ρ = some x := by
  cases x <;> simp_all [V.mv0,V.free1]
theorem mapO_id {α : Type} {f : α → Option α} : ∀ {xs : List α},(∀ x ∈ xs,f x = some x) → mapO f xs = some xs
  | [],h => rfl
  | x :: xs,h => by
    have ih : mapO f xs = some xs := mapO_id fun y hy => h y (List.mem_cons_of_mem _ hy)
    simp only [mapO,h x (by simp),ih]
theorem mv1_free {ρ : Nat → Option Nat} {x : V} (h : x.free1 = true) : x.mv1 ρ = some x := by
  unfold V.mv1
  split
  · rename_i f az bs
    have e : az = [] ∧ bs = [] := by cases az <;> cases bs <;> simp_all [V.free1]
    obtain ⟨rfl,rfl⟩ := e
    rfl
  · exact mv0_free h
theorem mv2_free {ρ : Nat → Option Nat} {x : V} (h : x.free = true) : x.mv2 ρ = some x := by
  unfold V.mv2
  split
  · rename_i cs
    simp only [V.free,List.all_eq_true] at h
    rw [mapO_id (fun y hy => mv1_free (h y hy))]; rfl
  · exact mv1_free (by cases x <;> first | exact h | (rename_i hne; exact absurd rfl (hne _)))
theorem mv_free {ρ : Nat → Option Nat} {x : V} (h : x.freeT = true) : x.mv ρ = some x := by
  unfold V.mv
  split
  · rename_i cs
    simp only [V.freeT,List.all_eq_true] at h
    rw [mapO_id (fun y hy => mv2_free (h y hy))]; rfl
  · exact mv2_free (by cases x <;> first | exact h | (rename_i hne; exact absurd rfl (hne _)))
theorem mvC_free {ρ : Nat → Option Nat} {cs : List V} (h : cs.all V.free1 = true) : mvO ρ (.cells cs) = some (.cells cs) := by
  simp only [List.all_eq_true] at h
  simp only [mvO]; rw [mapO_id (fun y hy => mv1_free (h y hy))]; rfl

theorem SFn.call1 {f : FuncId} {xs : List V} {o : List O} {l : Nat} {cs : List V} {Q : V → List O → Prop} {K : V → List O → Prop} (h : SFn P T f (.pt 0 0 :: xs) [.cells cs] Q) (hm : T.mode f = 5)
    (hx : ∀ x ∈ xs,x.free = true) (hl : o[l]? = some (.cells cs)) (hcs : cs.all V.free1 = true)
    (hK : ∀ z os',Q z os' → ∃ cs',os' = [.cells cs'] ∧ cs'.all V.free1 = true ∧ z.freeT = true ∧ K z (o.set l (.cells cs'))) :
    evCallV T (Call P T) yi (.fn (.func f) [] []) (.pt l 0 :: xs) o K := by
  have hc : evCallV.commits' o xs = some (xs,o) := by
    clear h hK
    induction xs with
    | nil => rfl
    | cons x xs ih => exact cm_free (hx x (by simp)) (ih fun y hy => hx y (by simp [hy]))
  refine h.call (S := [l]) (ys := .pt l 0 :: xs) (o1 := o) (.inl hm) (by rw [hm]; simpa [evCallV.hand] using cm_pt hc) (by simp) ?_ ?_ fun z os' hq => ?_
  · simp only [mapO,V.mv2,V.mv1,V.mv0,inS,List.mem_singleton,if_true,List.idxOf_cons_self,Option.map_some]
    rw [mapO_id (fun y hy => mv2_free (hx y hy))]
  · simp only [mapO,hl,Option.bind_some,mvC_free hcs]
  · obtain ⟨cs',rfl,h1,h2,h3⟩ := hK z os' hq
    exact ⟨z,[.cells cs'],mv_free h2,by simp only [mapO,mvC_free h1],by simpa [putS] using h3⟩
theorem fin1 {z : V} {cs : List V} {r : List O} (h1 : cs.all V.free1 = true) (h2 : z.freeT = true) : Fin5 1 z (.cells cs :: r) z [.cells cs] :=
  ⟨z,.cells cs :: r,[],.inr ⟨rfl,rfl⟩,by simp,by simp,mv_free h2,by simp [mapO,mvC_free h1]⟩
end Go.Proofs.Pe
end

section
set_option linter.unusedVariables false
namespace Go.Proofs.Pe
variable {P : Program} {T : Tab} {ca : Ca} {yi : Nat → Sem'}

/-! ### A row behind all that stands in the store: nil, or an array at the end -/
def Tail (n k : Nat) (rv : V) (vs : List V) (tl : List O) : Prop := (rv = nilV ∧ vs = [] ∧ tl = []) ∨ ∃ v wr,rv = .ar n v ∧ tl = [.arr v wr k vs]
theorem Tail.row {n k : Nat} {rv : V} {vs : List V} {tl : List O} (h : Tail n k rv vs tl) {o : List O} (hn : o.length = n) : rowOf (o ++ tl) rv = some vs := by
  rcases h with ⟨rfl,rfl,rfl⟩ | ⟨v,wr,rfl,rfl⟩
  · rfl
  · simp [rowOf,← hn]
theorem Tail.push {n k b : Nat} {rv : V} {vs : List V} {tl : List O} (h : Tail n k rv vs tl) {f : Bool} {y : V} (hk : okRow k [y]) (hr : (vs.length + 1) * b ≤ room) {o : List O} (hn : o.length = n) :
    ∃ rv' tl',appOf k b (o ++ tl) rv (.sl k f [y]) = some (rv',o ++ tl') ∧ Tail n k rv' (vs ++ [y]) tl' := by
  rcases h with ⟨rfl,rfl,rfl⟩ | ⟨v,wr,rfl,rfl⟩
  · refine ⟨_,_, ?_,.inr ⟨0,true,rfl,rfl⟩⟩
    rw [List.append_nil,ap_nil rfl hk (by simp) (by simpa using hr),hn]; rfl
  · refine ⟨_,_, ?_,.inr ⟨v + 1,wr,rfl,rfl⟩⟩
    have hg : (o ++ [O.arr v wr k vs])[n]? = some (.arr v wr k vs) := by simp [← hn]
    rw [ap_ar hg (y := .sl k f [y]) rfl hk (by simp) hr]
    simp [← hn]
theorem Tail.frzD {n k : Nat} {rv : V} {vs : List V} {tl : List O} (h : Tail n k rv vs tl) (hf : vs.all V.free = true) {o : List O} (hn : o.length = n) : ∃ w tl',freezeD (o ++ tl) rv = some (w,o ++ tl') ∧ IsSl k w vs := by
  rcases h with ⟨rfl,rfl,rfl⟩ | ⟨v,wr,rfl,rfl⟩
  · exact ⟨nilV,[],rfl,.inl ⟨rfl,rfl⟩⟩
  · exact ⟨.sl k false vs,[.arr v false k vs],by simp [freezeD,← hn,hf],.inr ⟨_,rfl⟩⟩
theorem Tail.frz {n k : Nat} {rv : V} {vs : List V} {tl : List O} (h : Tail n k rv vs tl) (hf : vs.all V.free = true) {o : List O} (hn : o.length = n) : ∃ w tl',freeze (o ++ tl) rv = some (w,o ++ tl') ∧ IsSl k w vs := by
  rcases h with ⟨rfl,rfl,rfl⟩ | ⟨v,wr,rfl,rfl⟩
  · exact ⟨nilV,[],rfl,.inl ⟨rfl,rfl⟩⟩
  · exact ⟨.sl k false vs,[.arr v false k vs],by simp [freeze,freeze1,← hn,hf],.inr ⟨_,rfl⟩⟩
theorem Tail.nil (n k : Nat) : Tail n k nilV [] [] := .inl ⟨rfl,rfl,rfl⟩
theorem freeT_of {z : V} (h : z.free = true) : z.freeT = true := by cases z <;> first | exact h | cases h
end Go.Proofs.Pe
end

section
set_option linter.unusedVariables false
namespace Go.Proofs.Pe
variable {P : Program} {T : Tab} {ca : Ca} {yi : Nat → Sem'}

/-! ### Objects that go along: words for simp -/
section
variable {ρ : Nat → Option Nat}
end
end Go.Proofs.Pe
end

section
set_option linter.unusedVariables false
namespace Go.Proofs.Pe
variable {P : Program} {T : Tab} {ca : Ca} {yi : Nat → Sem'}
theorem ix_ar {k : Nat} {o : List O} {l v n : Nat} {wr : Bool} {xs : List V} (h : o[l]? = some (.arr v wr k xs)) (hn : n < xs.length) : ixOf k o (.ar l v) (iV n) = some (.pa l v n 0,o) := by
  simp [ixOf,intOf,h,hn]
end Go.Proofs.Pe
end

section
set_option linter.unusedVariables false
namespace Go.Proofs.Pe
variable {P : Program} {T : Tab} {ca : Ca} {yi : Nat → Sem'}
/-! ### A shift -/
theorem SFn.callP {f : FuncId} {xs zs : List V} {o : List O} {l : Nat} {cs : List V} {Q : V → List O → Prop} {K : V → List O → Prop} (h : SFn P T f zs [.cells cs] Q) (hm : T.mode f = 5)
    (hc : evCallV.commits' o xs = some (xs,o)) (hz : mapO (V.mv2 (inS [l])) xs = some zs) (hl : o[l]? = some (.cells cs)) (hcs : cs.all V.free1 = true)
    (hK : ∀ z os',Q z os' → ∃ cs',os' = [.cells cs'] ∧ cs'.all V.free1 = true ∧ z.freeT = true ∧ K z (o.set l (.cells cs'))) :
    evCallV T (Call P T) yi (.fn (.func f) [] []) xs o K := by
  refine h.call (S := [l]) (ys := xs) (o1 := o) (.inl hm) (by rw [hm]; simpa [evCallV.hand] using hc) (by simp) hz ?_ fun z os' hq => ?_
  · simp only [mapO,hl,Option.bind_some,mvC_free hcs]
  · obtain ⟨cs',rfl,h1,h2,h3⟩ := hK z os' hq
    exact ⟨z,[.cells cs'],mv_free h2,by simp only [mapO,mvC_free h1],by simpa [putS] using h3⟩
/-! ### Appends of one, in a run -/
end Go.Proofs.Pe
end

section
set_option linter.unusedVariables false
namespace Go.Proofs.Pe
variable {P : Program} {T : Tab} {ca : Ca} {yi : Nat → Sem'}
/-! ### A reader, and the box in which it stands -/
abbrev bxO : O := .cells [.pt 0 0]
theorem SFn.call01 {f : FuncId} {a1 b1 xs : List V} {cs : List V} {r : List O} {Q : V → List O → Prop} {K : V → List O → Prop} (h : SFn P T f (a1 ++ xs ++ b1) [.cells cs,bxO] Q) (hm : T.mode f = 5)
    (hc : evCallV.commits' (.cells cs :: bxO :: r) (a1 ++ xs ++ b1) = some (a1 ++ xs ++ b1,.cells cs :: bxO :: r)) (hz : mapO (V.mv2 (inS [0,1])) (a1 ++ xs ++ b1) = some (a1 ++ xs ++ b1)) (hcs : cs.all V.free1 = true)
    (hK : ∀ z os',Q z os' → ∃ cs',os' = [.cells cs',bxO] ∧ cs'.all V.free1 = true ∧ z.freeT = true ∧ K z (.cells cs' :: bxO :: r)) :
    evCallV T (Call P T) yi (.fn (.func f) a1 b1) xs (.cells cs :: bxO :: r) K := by
  refine h.call (S := [0,1]) (ys := a1 ++ xs ++ b1) (o1 := .cells cs :: bxO :: r) (.inl hm) (by rw [hm]; simpa [evCallV.hand] using hc) (by simp) hz ?_ fun z os' hq => ?_
  · have b : mvO (inS [0,1]) bxO = some bxO := by simp [mvO,mapO,V.mv1,V.mv0,inS,List.idxOf,List.findIdx,List.findIdx.go]
    show mapO (fun l => ((O.cells cs :: bxO :: r)[l]?).bind (mvO (inS [0,1]))) [0,1] = _
    simp only [mapO,List.getElem?_cons_zero,List.getElem?_cons_succ,Option.bind_some,mvC_free hcs,b]
  · obtain ⟨cs',rfl,h1,h2,h3⟩ := hK z os' hq
    have b : ∀ m,mvO (outT [0,1] [0,1].length m) bxO = some bxO := fun m => by simp [mvO,mapO,V.mv1,V.mv0,outT]
    refine ⟨z,[.cells cs',bxO],mv_free h2, ?_,by simpa [putS] using h3⟩
    simp only [mapO,mvC_free h1,b]
theorem fin2 {z : V} {cs : List V} {r : List O} (h1 : cs.all V.free1 = true) (h2 : z.freeT = true) : Fin5 2 z (.cells cs :: bxO :: r) z [.cells cs,bxO] :=
  ⟨z,.cells cs :: bxO :: r,[],.inr ⟨rfl,rfl⟩,by simp,by simp,mv_free h2,by
    have b : mvO (outI 2 []) bxO = some bxO := by simp [mvO,mapO,V.mv1,V.mv0,outI]
    show mapO (fun i => ((O.cells cs :: bxO :: r)[i]?).bind (mvO (outI 2 []))) [0,1] = _
    simp only [mapO,List.getElem?_cons_zero,List.getElem?_cons_succ,Option.bind_some,mvC_free h1,b]⟩
end Go.Proofs.Pe
end

section
set_option linter.unusedVariables false
set_option linter.unusedSimpArgs false
set_option maxRecDepth 100000
set_option maxHeartbeats 1000000
namespace Go.Proofs.Pe

/-! ### Bytes, signs (plain) -/
def isSm (c : UInt8) : Bool := decide (97 ≤ c.toNat) && decide (c.toNat ≤ 122)
def isDg (c : UInt8) : Bool := decide (48 ≤ c.toNat) && decide (c.toNat ≤ 57)
def isIn (c : UInt8) : Bool := isSm c || isDg c || decide (c.toNat = 95)
def isBl (c : UInt8) : Bool := decide (c.toNat = 32) || decide (c.toNat = 9) || decide (c.toNat = 10) || decide (c.toNat = 13)
def all256 (f : Nat → Bool) : Bool := (List.range 256).all f
theorem all256_get {f : Nat → Bool} (h : all256 f = true) (c : UInt8) : f c.toNat = true := by
  unfold all256 at h
  rw [List.all_eq_true] at h
  exact h _ (List.mem_range.2 c.toNat_lt)
def isBo (b : Bool) (y : V) : Bool := match y with
  | .sc (.bool c) => c == b
  | _ => false
theorem isBo_eq {b : Bool} {y : V} (h : isBo b y = true) : y = bV b := by
  unfold isBo at h
  split at h
  · simp at h; subst h; rfl
  · cases h
theorem ofNat_toNat (c : UInt8) : UInt8.ofNat c.toNat = c := by simp
def lim : Nat := 1000000
def dbls : List (List UInt8) := [[58,61],[45,62],[61,61],[33,61],[60,61],[62,61],[38,38],[124,124]]
def sngs : List UInt8 := [123,125,40,41,59,43,45,42,47,37,60,62,33]
def markN (r : List UInt8) : Nat := if dbls.contains (r.take 2) = true then 2 else match r with
  | [] => 0
  | c :: _ => if sngs.contains c = true then 1 else 0
theorem dbls_two {d : List UInt8} (h : d ∈ dbls) : d.length = 2 := by
  simp [dbls] at h; rcases h with rfl | rfl | rfl | rfl | rfl | rfl | rfl | rfl <;> rfl
def flat : List UInt8 := [58,61,45,62,61,61,33,61,60,61,62,61,38,38,124,124]
theorem flat_get : ∀ k,k < 8 → some ((flat.take (2 * k + 2)).drop (2 * k)) = dbls[k]? := by decide
def goneN : Bool → List UInt8 → Nat
  | _,[] => 0
  | false,c :: r => if isBl c = true then goneN false r + 1 else if c.toNat = 35 then goneN true r + 1 else 0
  | true,c :: r => if c.toNat = 10 then goneN false r + 1 else goneN true r + 1
theorem goneN_le : ∀ (b : Bool) (r : List UInt8),goneN b r ≤ r.length
  | true,[] => by simp [goneN]
  | false,[] => by simp [goneN]
  | false,c :: r => by
    have h1 := goneN_le false r
    have h2 := goneN_le true r
    simp only [goneN,List.length_cons]
    split
    · omega
    · split <;> omega
  | true,c :: r => by
    have h1 := goneN_le false r
    have h2 := goneN_le true r
    simp only [goneN,List.length_cons]
    split <;> omega
theorem gone_bl {c : UInt8} {r : List UInt8} (h : isBl c = true) : goneN false (c :: r) = goneN false r + 1 := by simp only [goneN,h,if_true]
theorem gone_no {c : UInt8} {r : List UInt8} (h : isBl c = false) (h2 : c.toNat ≠ 35) : goneN false (c :: r) = 0 := by simp only [goneN,h,if_neg h2]; rfl
theorem gone_rem {c : UInt8} {r : List UInt8} (h : isBl c = false) (h2 : c.toNat = 35) : goneN false (c :: r) = goneN true (c :: r) := by
  simp only [goneN,h,if_pos h2,if_neg (show ¬ c.toNat = 10 by omega)]; rfl
theorem gone_nl {c : UInt8} {r : List UInt8} (h : c.toNat = 10) : goneN true (c :: r) = goneN false (c :: r) := by
  have : isBl c = true := by simp [isBl,h]
  simp only [goneN,this,h,if_true]
theorem gone_in {c : UInt8} {r : List UInt8} (h : c.toNat ≠ 10) : goneN true (c :: r) = goneN true r + 1 := by simp only [goneN,if_neg h]
theorem dc {l : List UInt8} {i : Nat} {c : UInt8} (h : l[i]? = some c) : l.drop i = c :: l.drop (i + 1) := by
  have hi := (List.getElem?_eq_some_iff.1 h).1
  rw [List.drop_eq_getElem_cons hi]
  rw [List.getElem?_eq_getElem hi] at h
  rw [Option.some.inj h]

inductive Sgn where
  | err (e : Nat)
  | ok (k n : Nat)
def sgnS (r : List UInt8) : Sgn := match r with
  | [] => .err 1
  | c :: _ => if isSm c = true then (if rnN isIn r > 20 then .err 3 else .ok 1 (rnN isIn r))
    else if isDg c = true then (if rnN isDg r > 18 then .err 3 else if rnN isDg r > 1 ∧ c.toNat = 48 then .err 1 else .ok 2 (rnN isDg r))
    else if markN r = 0 then .err 1 else .ok 3 (markN r)
def sgV (k : Nat) (t : List UInt8) (i : Nat) : V := .agg [iV k,tV t,iV i]
def sgnV (r : List UInt8) (i : Nat) : V := match sgnS r with
  | .err e => .tup [.agg [iV 0,.sc (.string (ByteArray.mk #[])),iV 0],iV e]
  | .ok k n => .tup [sgV k (r.take n) i,iV 0]
structure Sg where
  k : Nat
  t : List UInt8
  i : Nat
inductive Res where
  | err (i e : Nat)
  | ok (l : List Sg)
def Sg.v (s : Sg) : V := sgV s.k s.t s.i
inductive SR : List UInt8 → Nat → List Sg → Res → Prop
  | done {r : List UInt8} {i : Nat} {acc : List Sg} (h : r.drop (goneN false r) = []) : SR r i acc (.ok acc)
  | err {r r' : List UInt8} {c : UInt8} {i e : Nat} {acc : List Sg} (h : r.drop (goneN false r) = c :: r') (h2 : sgnS (c :: r') = .err e) : SR r i acc (.err (i + goneN false r) e)
  | one {r r' : List UInt8} {c : UInt8} {i k m : Nat} {acc : List Sg} {res : Res} (h : r.drop (goneN false r) = c :: r') (h2 : sgnS (c :: r') = .ok k m)
      (h3 : SR ((c :: r').drop m) (i + goneN false r + m) (acc ++ [⟨k,(c :: r').take m,i + goneN false r⟩]) res) : SR r i acc res
theorem sgnS_pos {r : List UInt8} {k m : Nat} (h : sgnS r = .ok k m) : 0 < m ∧ m ≤ r.length := by
  cases r with
  | nil => simp [sgnS] at h
  | cons c r =>
    have pos : ∀ p : UInt8 → Bool,p c = true → 0 < rnN p (c :: r) := fun p hp => by unfold rnN; rw [List.takeWhile_cons,if_pos hp]; simp
    simp only [sgnS] at h
    split at h
    · rename_i hs
      split at h
      · cases h
      · cases h; exact ⟨pos _ (by simp [isIn,hs]),rnN_le _ _⟩
    · split at h
      · rename_i hd
        split at h
        · cases h
        · split at h
          · cases h
          · cases h; exact ⟨pos _ hd,rnN_le _ _⟩
      · split at h
        · cases h
        · cases h
          refine ⟨by omega, ?_⟩
          unfold markN
          split
          · rename_i h2
            have := dbls_two (by simpa using h2)
            simp at this ⊢; omega
          · dsimp only; split <;> simp
theorem SR.shift {r : List UInt8} {i n : Nat} {acc : List Sg} {res : Res} (h : SR r i acc res) (hg : goneN false r = n + goneN false (r.drop n)) : SR (r.drop n) (i + n) acc res := by
  have hd : (r.drop n).drop (goneN false (r.drop n)) = r.drop (goneN false r) := by rw [List.drop_drop,hg]
  have hi : i + n + goneN false (r.drop n) = i + goneN false r := by omega
  cases h with
  | done h => exact .done (by rw [hd]; exact h)
  | err h h2 => rw [← hi]; exact .err (by rw [hd]; exact h) h2
  | one h h2 h3 => exact .one (by rw [hd]; exact h) h2 (by rw [hi]; exact h3)
theorem SR.nilI {i : Nat} {acc : List Sg} {res : Res} (h : SR [] i acc res) : res = .ok acc := by
  cases h with
  | done h => rfl
  | err h h2 => simp at h
  | one h h2 h3 => simp at h
theorem SR.at {c : UInt8} {r : List UInt8} {i : Nat} {acc : List Sg} {res : Res} (h : SR (c :: r) i acc res) (hg : goneN false (c :: r) = 0) :
    (∃ e,sgnS (c :: r) = .err e ∧ res = .err i e) ∨ ∃ k m,sgnS (c :: r) = .ok k m ∧ SR ((c :: r).drop m) (i + m) (acc ++ [⟨k,(c :: r).take m,i⟩]) res := by
  cases h with
  | done h => rw [hg] at h; simp at h
  | err h h2 => rw [hg] at h; cases h; exact .inl ⟨_,h2,by rw [hg]; rfl⟩
  | one h h2 h3 => rw [hg] at h h3; cases h; exact .inr ⟨_,_,h2,h3⟩

def RV : Res → V → Prop
  | .err i e,z => z = .tup [nilV,iV i,iV e]
  | .ok l,z => ∃ w,z = .tup [w,iV 0,iV 0] ∧ IsSl 3 w (l.map Sg.v)
theorem frzT_3 {o : List O} {x y z w : V} {o1 : List O} (hx : freezeD o x = some (w,o1)) (hy : y.free = true) (hz : z.free = true) : freezeT o (.tup [x,y,z]) = some (.tup [w,y,z],o1) := by
  simp only [freezeT,freezeDs,hx,frzD_free hy,frzD_free hz,Option.map_some]
theorem Sg.okv (s : Sg) : s.v.free = true ∧ s.v.cells.length = 3 := ⟨rfl,rfl⟩
theorem sgs_ok (l : List Sg) : okRow 3 (l.map Sg.v) ∧ (l.map Sg.v).all V.free = true := by
  constructor
  · unfold okRow
    simp only [List.all_eq_true,Bool.and_eq_true,decide_eq_true_eq]
    intro v hv
    obtain ⟨s,_,rfl⟩ := List.mem_map.1 hv
    exact s.okv
  · simp only [List.all_eq_true]
    intro v hv
    obtain ⟨s,_,rfl⟩ := List.mem_map.1 hv
    exact s.okv.1
theorem RowAt.frzD {o : List O} {k : Nat} {rv : V} {vs : List V} {A : List Nat} (h : RowAt o k rv vs A) (hf : vs.all V.free = true) : ∃ w o1,freezeD o rv = some (w,o1) ∧ IsSl k w vs := by
  rcases h with ⟨rfl,rfl,rfl⟩ | ⟨la,v,wr,rfl,h,rfl⟩
  · exact ⟨nilV,o,rfl,.inl ⟨rfl,rfl⟩⟩
  · exact ⟨.sl k false vs,o.set la (.arr v false k vs),by simp [freezeD,h,hf],.inr ⟨_,rfl⟩⟩

theorem gone_idem : ∀ (b : Bool) (r : List UInt8),goneN false (r.drop (goneN b r)) = 0
  | true,[] => rfl
  | false,[] => rfl
  | false,c :: r => by
    simp only [goneN]
    split
    · simpa using gone_idem false r
    · split
      · simpa using gone_idem true r
      · rename_i h1 h2
        simp only [List.drop_zero]
        exact gone_no (by simpa using h1) h2
  | true,c :: r => by
    simp only [goneN]
    split
    · simpa using gone_idem false r
    · simpa using gone_idem true r
def kW : List (List UInt8) := [[118,97,114],[115,116,97,99,107],[112,114,111,99],[115,107,105,112],[100,111],[112,117,115,104],[114,101,118,101,114,115,101],[97,99,99,101,112,116],[109,101,114,103,101],[98,108,111,99,107],[101,120,105,116],[105,102],[101,108,115,101],[99,104,111,111,115,101],[112,97,114],[99,97,108,108]]
def ks : List UInt8 := [32,118,97,114,32,115,116,97,99,107,32,112,114,111,99,32,115,107,105,112,32,100,111,32,112,117,115,104,32,114,101,118,101,114,115,101,32,97,99,99,101,112,116,32,109,101,114,103,101,32,98,108,111,99,107,32,101,120,105,116,32,105,102,32,101,108,115,101,32,99,104,111,111,115,101,32,112,97,114,32,99,97,108,108,32]
def isKey (s : List UInt8) : Bool := kW.contains s
def kV : List V := kW.map fun w => tV w
def okB (f : Bool) (c : UInt8) : Bool := if f then isSm c else isIn c
def wordy (s : List UInt8) : Bool := (List.range s.length).all fun j => match s[j]? with
  | some c => okB (j == 0) c
  | none => true
def isName (s : List UInt8) : Bool := decide (1 ≤ s.length) && decide (s.length ≤ 20) && !isKey s && wordy s
theorem wordy_t {s : List UInt8} (h : ∀ j c,s[j]? = some c → okB (j == 0) c = true) : wordy s = true := by
  unfold wordy
  rw [List.all_eq_true]
  intro j hj
  split
  · rename_i c hc; exact h j c hc
  · rfl
theorem wordy_f {s : List UInt8} {j : Nat} {c : UInt8} (hc : s[j]? = some c) (h : okB (j == 0) c = false) : wordy s = false := by
  cases hw : wordy s with
  | false => rfl
  | true =>
    have := List.all_eq_true.1 hw j (by simpa using (List.getElem?_eq_some_iff.1 hc).1)
    rw [hc] at this
    rw [show okB (j == 0) c = true from this] at h
    cases h
theorem name_short {s : List UInt8} (h : s.length < 1) : isName s = false := by
  unfold isName; rw [decide_eq_false (by omega)]; rfl
theorem name_long {s : List UInt8} (h : 20 < s.length) : isName s = false := by
  unfold isName; rw [decide_eq_false (p := s.length ≤ 20) (by omega)]; simp
theorem name_key {s : List UInt8} (h : isKey s = true) : isName s = false := by
  unfold isName; rw [h]; simp
theorem name_w {s : List UInt8} (h1 : ¬ s.length < 1) (h2 : ¬ 20 < s.length) (h : isKey s = false) : isName s = wordy s := by
  unfold isName; rw [h,decide_eq_true (p := 1 ≤ s.length) (by omega),decide_eq_true (p := s.length ≤ 20) (by omega)]; rfl
theorem dec_lo {s : List UInt8} {p : Nat} {c : UInt8} (h : s[p]? = some c) (hc : c.toNat < 128) : Utf8.decode ⟨s.toArray⟩ p = (c.toNat,1) := by
  obtain ⟨hp,e⟩ := List.getElem?_eq_some_iff.1 h
  have hb : (ByteArray.mk s.toArray)[p]'(by simpa [bsz] using hp) = c := by rw [← e]; rfl
  rw [decode_ascii _ p (by simpa [bsz] using hp) (by rw [hb]; exact hc),hb]
theorem dec_hi {s : List UInt8} {p : Nat} {c : UInt8} (h : s[p]? = some c) (hc : 128 ≤ c.toNat) : ∃ r w,Utf8.decode ⟨s.toArray⟩ p = (r,w) ∧ 128 ≤ r := by
  obtain ⟨hp,e⟩ := List.getElem?_eq_some_iff.1 h
  have hb : (ByteArray.mk s.toArray)[p]'(by simpa [bsz] using hp) = c := by rw [← e]; rfl
  exact ⟨_,_,rfl,(decode_high _ p (by simpa [bsz] using hp) (by rw [hb]; exact hc)).1⟩
end Go.Proofs.Pe
end

section
set_option linter.unusedVariables false
namespace Go.Proofs.Pe
/-! ### What is reckoned with numbers of 64 bits -/
end Go.Proofs.Pe
end

section
set_option linter.unusedVariables false
set_option linter.unusedSimpArgs false
namespace Go.Proofs.Pe

/-! ### Expressions and processes -/
inductive Ex where
  | mk (k n : Int) (nm : ByteArray) (l : List Ex)
inductive Tm where
  | mk (k a b : Int) (nm : ByteArray) (e : Ex) (l : List Tm)
def cap : Nat := 1000000000
abbrev sV (s : ByteArray) : V := .sc (.string s)
mutual
def IsEx : Ex → V → Prop
  | .mk k n nm l,v => ∃ lv vs,v = .agg [iV k,iV n,sV nm,lv] ∧ IsSl 4 lv vs ∧ vs.length ≤ cap ∧ IsExs l vs
def IsExs : List Ex → List V → Prop
  | [],vs => vs = []
  | x :: l,vs => ∃ v ws,vs = v :: ws ∧ IsEx x v ∧ IsExs l ws
end
mutual
def IsTm : Tm → V → Prop
  | .mk k a b nm (.mk ek en em el) l,v => ∃ ev evs lv vs,v = .agg [iV k,iV a,iV b,sV nm,iV ek,iV en,sV em,ev,lv] ∧ IsSl 4 ev evs ∧ evs.length ≤ cap ∧ IsExs el evs ∧ IsSl 9 lv vs ∧ vs.length ≤ cap ∧ IsTms l vs
def IsTms : List Tm → List V → Prop
  | [],vs => vs = []
  | x :: l,vs => ∃ v ws,vs = v :: ws ∧ IsTm x v ∧ IsTms l ws
end
def All2 {α : Type} (R : α → V → Prop) : List α → List V → Prop
  | [],vs => vs = []
  | x :: l,vs => ∃ v ws,vs = v :: ws ∧ R x v ∧ All2 R l ws
theorem isExs_all : ∀ {l : List Ex} {vs : List V},IsExs l vs ↔ All2 IsEx l vs
  | [],vs => by simp only [IsExs,All2]
  | x :: l,vs => by simp only [IsExs,All2,isExs_all]
section
variable {α : Type} {R : α → V → Prop}
theorem All2.len : ∀ {l : List α} {vs : List V},All2 R l vs → vs.length = l.length
  | [],vs,h => by rw [show vs = [] from h]; rfl
  | x :: l,vs,h => by obtain ⟨v,ws,rfl,_,h2⟩ := h; simp [h2.len]
theorem All2.get : ∀ {l : List α} {vs : List V},All2 R l vs → ∀ {i : Nat} {v : V} {x : α},vs[i]? = some v → l[i]? = some x → R x v
  | [],vs,h,i,v,x,hv,hx => by simp at hx
  | y :: l,vs,h,i,v,x,hv,hx => by
    obtain ⟨w,ws,rfl,h1,h2⟩ := h
    cases i with
    | zero => simp at hv hx; subst hv hx; exact h1
    | succ i => simp at hv hx; exact h2.get hv hx
theorem All2.of : ∀ {l : List α} {vs : List V},vs.length = l.length → (∀ (i : Nat) (v : V) (x : α),vs[i]? = some v → l[i]? = some x → R x v) → All2 R l vs
  | [],vs,hl,_ => List.length_eq_zero_iff.1 (by simpa using hl)
  | x :: l,[],hl,_ => by simp at hl
  | x :: l,v :: vs,hl,h => ⟨v,vs,rfl,h 0 v x rfl rfl,All2.of (by simpa using hl) fun i v' x' hv hx => h (i + 1) v' x' (by simpa using hv) (by simpa using hx)⟩
theorem All2.append : ∀ {l : List α} {vs : List V},All2 R l vs → ∀ {l' : List α} {vs' : List V},All2 R l' vs' → All2 R (l ++ l') (vs ++ vs')
  | [],vs,h,l',vs',hr => by rw [show vs = [] from h]; exact hr
  | y :: l,vs,h,l',vs',hr => by
    obtain ⟨w,ws,rfl,h1,h2⟩ := h
    exact ⟨w,ws ++ vs',rfl,h1,h2.append hr⟩
theorem All2.take {l : List α} {vs : List V} (h : All2 R l vs) (n : Nat) : All2 R (l.take n) (vs.take n) :=
  .of (by simp [h.len]) fun i v x hv hx => by
    have hi : i < n := by have := (List.getElem?_eq_some_iff.1 hv).1; simp at this; omega
    rw [List.getElem?_take_of_lt hi] at hv hx
    exact h.get hv hx
theorem All2.set {l : List α} {vs : List V} (h : All2 R l vs) (n : Nat) {x : α} {v : V} (hr : R x v) : All2 R (l.set n x) (vs.set n v) :=
  .of (by simp [h.len]) fun i v' x' hv hx => by
    have hi : i < vs.length := by have := (List.getElem?_eq_some_iff.1 hv).1; simpa using this
    have hl := h.len
    rw [List.getElem?_set] at hv hx
    by_cases e : n = i
    · subst e; simp [hi] at hv; simp [show n < l.length by omega] at hx; subst hv hx; exact hr
    · rw [if_neg e] at hv hx; exact h.get hv hx
theorem All2.mem {l : List α} {vs : List V} (h : All2 R l vs) {v : V} (hv : v ∈ vs) : ∃ x,x ∈ l ∧ R x v := by
  obtain ⟨i,hi⟩ := List.getElem?_of_mem hv
  have hlt := (List.getElem?_eq_some_iff.1 hi).1
  have hlt2 : i < l.length := by rw [← h.len]; exact hlt
  exact ⟨l[i],List.getElem_mem hlt2,h.get hi (List.getElem?_eq_getElem hlt2)⟩
theorem All2.okRow {l : List α} {vs : List V} {k : Nat} (h : All2 R l vs) (hr : ∀ x v,R x v → v.free = true ∧ v.cells.length = k) : okRow k vs := by
  unfold Pe.okRow
  simp only [List.all_eq_true,Bool.and_eq_true,decide_eq_true_eq]
  intro v hv
  obtain ⟨x,_,hx⟩ := h.mem hv
  exact hr x v hx
theorem All2.free {l : List α} {vs : List V} (h : All2 R l vs) (hr : ∀ x v,R x v → v.free = true) : vs.all V.free = true := by
  simp only [List.all_eq_true]
  intro v hv
  obtain ⟨x,_,hx⟩ := h.mem hv
  exact hr x v hx
end
theorem IsEx.ok {x : Ex} {v : V} (h : IsEx x v) : v.free = true ∧ v.cells.length = 4 := by
  cases x; obtain ⟨lv,vs,rfl,h1,_⟩ := h
  exact ⟨by simp only [free_agg,List.all_cons,List.all_nil,free1_sc,h1.free,Bool.and_self],rfl⟩
theorem IsEx.solid {x : Ex} {v : V} (h : IsEx x v) : v.solid = true := by
  cases x; obtain ⟨lv,vs,rfl,h1,_⟩ := h
  simp only [solid_agg,List.all_cons,List.all_nil,one_sc,free1_one h1.free,Bool.and_true]
theorem IsTm.ok {x : Tm} {v : V} (h : IsTm x v) : v.free = true ∧ v.cells.length = 9 := by
  rcases x with ⟨_,_,_,_,⟨_,_,_,_⟩,_⟩; obtain ⟨ev,evs,lv,vs,rfl,h1,_,_,h2,_⟩ := h
  exact ⟨by simp only [free_agg,List.all_cons,List.all_nil,free1_sc,h1.free,h2.free,Bool.and_self],rfl⟩
end Go.Proofs.Pe
end

section
set_option linter.unusedVariables false
namespace Go.Proofs.Pe
/-! ### What an expression comes to -/
inductive WfE (n : Nat) : Ex → Prop where
  | num {m : Int} {nm : ByteArray} : I64 m → WfE n (.mk 1 m nm [])
  | var {i : Nat} {nm : ByteArray} : i < n → WfE n (.mk 2 i nm [])
  | one {k m : Int} {nm : ByteArray} {x : Ex} : 3 ≤ k → k ≤ 4 → WfE n x → WfE n (.mk k m nm [x])
  | two {k m : Int} {nm : ByteArray} {x y : Ex} : 5 ≤ k → k ≤ 17 → WfE n x → WfE n y → WfE n (.mk k m nm [x,y])
end Go.Proofs.Pe
end

section
set_option linter.unusedVariables false
namespace Go.Proofs.Pe
variable {P : Program}
/-! ### Data that came in, type by type -/
theorem VT_int {n : Nat} {t : TypeId} {k : IntKind} {xs : List V} (hu : P.underlying t = some (.int k)) (h : VT P n t xs) : ∃ z,(Lit.int k z).wf = true ∧ xs = [.sc (.int k z)] := by
  cases n with
  | zero => cases h
  | succ n => simpa only [VT,hu] using h
theorem VT_sl {n : Nat} {t e : TypeId} {xs : List V} (hu : P.underlying t = some (.slice e)) (h : VT P n t xs) : ∃ m,m < n ∧ (xs = [nilV] ∨ ∃ ys : List V,xs = [.sl (P.cellsOf e) false ys] ∧ ys.length ≤ maxLen ∧ ∀ y ∈ ys,∃ zs,y = elV zs ∧ zs.length = P.cellsOf e ∧ VT P m e zs) := by
  cases n with
  | zero => cases h
  | succ n =>
    simp only [VT,hu] at h
    exact ⟨n,Nat.lt_succ_self n,h⟩
def SegsVT (P : Program) (n : Nat) : List TypeId → List (List V) → Prop
  | [],[] => True
  | t :: ts,s :: ss => VT P n t s ∧ SegsVT P n ts ss
  | _,_ => False
theorem segsVT {n : Nat} : ∀ {fs : List Field} {segs : List (List V)},segs.length = fs.length → (∀ (i : Nat) f seg,fs[i]? = some f → segs[i]? = some seg → VT P n f.type seg) → SegsVT P n (fs.map (·.type)) segs
  | [],[],_,_ => trivial
  | f :: fs,s :: ss,hl,h => ⟨h 0 f s rfl rfl,segsVT (by simpa using hl) fun i f seg hf hs => h (i + 1) f seg (by simpa using hf) (by simpa using hs)⟩
  | [],_ :: _,hl,_ => by simp at hl
  | _ :: _,[],hl,_ => by simp at hl
theorem VT_st {n : Nat} {t : TypeId} {fs : Array Field} {xs : List V} (hu : P.underlying t = some (.struct fs)) (h : VT P n t xs) : ∃ m,m < n ∧ ∃ segs,xs = segs.flatten ∧ SegsVT P m (fs.toList.map (·.type)) segs := by
  cases n with
  | zero => cases h
  | succ n =>
    simp only [VT,hu] at h
    obtain ⟨segs,h1,h2,h3⟩ := h
    exact ⟨n,Nat.lt_succ_self n,segs,h1,segsVT h2 h3⟩

/-! ### Raw expressions -/
inductive Rw where
  | mk (k n : Int) (l : List Rw)
def Rw.k : Rw → Int | .mk k _ _ => k
def Rw.n : Rw → Int | .mk _ n _ => n
def Rw.l : Rw → List Rw | .mk _ _ l => l
mutual
def IsRw : Rw → V → Prop
  | .mk k n l,v => ∃ lv vs,v = .agg [iV k,iV n,lv] ∧ I64 k ∧ I64 n ∧ IsSl 3 lv vs ∧ vs.length ≤ maxLen ∧ IsRws l vs
def IsRws : List Rw → List V → Prop
  | [],vs => vs = []
  | x :: l,vs => ∃ v ws,vs = v :: ws ∧ IsRw x v ∧ IsRws l ws
end
theorem isRws_all : ∀ {l : List Rw} {vs : List V},IsRws l vs ↔ All2 IsRw l vs
  | [],vs => by simp only [IsRws,All2]
  | x :: l,vs => by simp only [IsRws,All2,isRws_all]
theorem IsRw.ok {x : Rw} {v : V} (h : IsRw x v) : v.free = true ∧ v.cells.length = 3 := by
  cases x; obtain ⟨lv,vs,rfl,_,_,h1,_⟩ := h
  exact ⟨by simp only [free_agg,List.all_cons,List.all_nil,free1_sc,h1.free,Bool.and_self],rfl⟩
theorem all2_of {α : Type} {R : α → V → Prop} : ∀ {vs : List V},(∀ v ∈ vs,∃ x,R x v) → ∃ l,All2 R l vs
  | [],_ => ⟨[],rfl⟩
  | v :: vs,h => by
    obtain ⟨x,hx⟩ := h v (by simp)
    obtain ⟨l,hl⟩ := all2_of (vs := vs) fun w hw => h w (List.mem_cons_of_mem _ hw)
    exact ⟨x :: l,v,vs,rfl,hx,hl⟩
structure RwTypes (P : Program) (tr tl : TypeId) : Prop where
  ti : P.underlying 3 = some (.int .i64)
  sl : P.underlying tl = some (.slice tr)
  ce : P.cellsOf tr = 3
  st : ∃ fs,P.underlying tr = some (.struct fs) ∧ fs.toList.map (·.type) = [3,3,tl]
theorem rw_of {tr tl : TypeId} (H : RwTypes P tr tl) : ∀ (n : Nat),(∀ xs,VT P n tr xs → ∃ r,IsRw r (elV xs)) ∧ (∀ x,VT P n tl [x] → ∃ l vs,IsSl 3 x vs ∧ All2 IsRw l vs ∧ vs.length ≤ maxLen)
  | n => by
    constructor
    · intro xs h
      obtain ⟨fs,hu,ht⟩ := H.st
      obtain ⟨m,hm,segs,rfl,hs⟩ := VT_st hu h
      rw [ht] at hs
      match segs,hs with
      | [s0,s1,s2],⟨h0,h1,h2,_⟩ =>
        obtain ⟨k,hk,rfl⟩ := VT_int H.ti h0
        obtain ⟨z,hz,rfl⟩ := VT_int H.ti h1
        have h2' := h2
        obtain ⟨_,_,e | ⟨ys,e,_⟩⟩ := VT_sl H.sl h2
        · subst e
          obtain ⟨l,vs,g1,g2,g3⟩ := (rw_of H m).2 _ h2'
          exact ⟨.mk k z l,_,vs,rfl,I64.of hk,I64.of hz,g1,g3,isRws_all.2 g2⟩
        · subst e
          obtain ⟨l,vs,g1,g2,g3⟩ := (rw_of H m).2 _ h2'
          exact ⟨.mk k z l,_,vs,rfl,I64.of hk,I64.of hz,g1,g3,isRws_all.2 g2⟩
    · intro x h
      obtain ⟨m,hm,e | ⟨ys,e,hl,hy⟩⟩ := VT_sl H.sl h
      · cases e
        exact ⟨[],[],.inl ⟨rfl,rfl⟩,rfl,by simp⟩
      · cases e
        rw [H.ce]
        obtain ⟨l,hl2⟩ := all2_of (R := IsRw) (vs := ys) fun y hy' => by
          obtain ⟨zs,rfl,_,hv⟩ := hy y hy'
          exact (rw_of H m).1 zs hv
        exact ⟨l,ys,.inr ⟨_,rfl⟩,hl2,hl⟩
end Go.Proofs.Pe
end

section
set_option linter.unusedVariables false
namespace Go.Proofs.Pe
/-! ### How much there is of raw expressions -/
def szLoop (f : List Rw → Int) : List Rw → Int → Int
  | [],n => n
  | x :: l,n => if n ≤ 20 then szLoop f l (n + 1 + f x.l) else n
def szL : Nat → List Rw → Int
  | 0,_ => 1000
  | r + 1,l => szLoop (szL r) l 0
theorem szLoop_le {f : List Rw → Int} {B : Int} (hB : 0 ≤ B) (hf : ∀ l,0 ≤ f l ∧ f l ≤ B) : ∀ (l : List Rw) {n : Int},0 ≤ n → n ≤ 21 + B → 0 ≤ szLoop f l n ∧ szLoop f l n ≤ 21 + B
  | [],n,h0,h1 => ⟨h0,h1⟩
  | x :: l,n,h0,h1 => by
    unfold szLoop
    have := hf x.l
    split
    · exact szLoop_le hB hf l (by omega) (by omega)
    · exact ⟨h0,h1⟩
theorem szL_le : ∀ (r : Nat) (l : List Rw),0 ≤ szL r l ∧ szL r l ≤ 1000 + 21 * r
  | 0,l => by simp [szL]
  | r + 1,l => by
    have := szLoop_le (f := szL r) (B := 1000 + 21 * r) (by omega) (szL_le r) l (n := 0) (by omega) (by omega)
    show 0 ≤ szLoop (szL r) l 0 ∧ szLoop (szL r) l 0 ≤ _
    omega
theorem szLoop_drop {f : List Rw → Int} {l : List Rw} {i : Nat} {x : Rw} (hx : l[i]? = some x) {n : Int} (hn : n ≤ 20) : szLoop f (l.drop i) n = szLoop f (l.drop (i + 1)) (n + 1 + f x.l) := by
  obtain ⟨hlt,e⟩ := List.getElem?_eq_some_iff.1 hx
  rw [List.drop_eq_getElem_cons hlt,e]
  show (if n ≤ 20 then _ else _) = _
  rw [if_pos hn]
theorem szLoop_stop {f : List Rw → Int} {l : List Rw} {n : Int} (hn : ¬ n ≤ 20) : szLoop f l n = n := by
  cases l with
  | nil => rfl
  | cons x l => show (if n ≤ 20 then _ else _) = _; rw [if_neg hn]

/-! ### What is made of a raw expression -/
def nums : List Int := [0,1,2,7,99,999999999999999999,5,3]
def emp : ByteArray := ByteArray.mk #[]
def ptS (n : Int) (ps : List Ex) (i : Nat) : Ex := ps.getD i (.mk 1 (withinI (IntKind.i64.wrap (n + i)) 5) emp [])
def mkC (nm : List ByteArray) (k n : Int) (ps : List Ex) : Ex :=
  if withinI k 24 < 4 then .mk 1 (nums.getD (withinI n 8).toNat 0) emp []
  else if withinI k 24 < 9 then (if nm = [] then .mk 2 (withinI n 3) emp [] else .mk 2 0 (nm.getD (withinI n nm.length).toNat emp) [])
  else if withinI k 24 = 9 then .mk 3 0 emp [ptS n ps 0] else if withinI k 24 = 10 then .mk 4 0 emp [ptS n ps 0] else .mk (5 + withinI k 24 - 11) 0 emp [ptS n ps 0,ptS n ps 1]
mutual
def mkS (nm : List ByteArray) : Rw → Ex
  | .mk k n l => mkC nm k n (mkL nm l)
def mkL (nm : List ByteArray) : List Rw → List Ex
  | [] => []
  | x :: l => mkS nm x :: mkL nm l
end
theorem mkL_map (nm : List ByteArray) : ∀ (l : List Rw),mkL nm l = l.map (mkS nm)
  | [] => by simp [mkL]
  | x :: l => by simp [mkL,mkL_map nm l]
theorem mkS_eq (nm : List ByteArray) (k n : Int) (l : List Rw) : mkS nm (.mk k n l) = mkC nm k n (l.map (mkS nm)) := by rw [mkS,mkL_map]
def oneS (nm : List ByteArray) : List Rw → Ex
  | [] => .mk 1 1 emp []
  | r :: _ => mkS nm r
end Go.Proofs.Pe
end

section
set_option linter.unusedVariables false
set_option linter.unusedSimpArgs false
set_option maxRecDepth 100000
set_option maxHeartbeats 1000000
namespace Go.Proofs.Pe

/-! ### How signs are read az an expression -/
def kTxt : Nat → List UInt8
  | 3 => [33] | 4 => [45] | 5 => [42] | 6 => [47] | 7 => [37] | 8 => [43] | 9 => [45] | 10 => [61,61] | 11 => [33,61] | 12 => [60] | 13 => [60,61] | 14 => [62] | 15 => [62,61] | 16 => [38,38] | 17 => [124,124]
  | _ => []
def lvLo : Nat → Nat
  | 0 => 17 | 1 => 16 | 2 => 10 | 3 => 8 | _ => 5
def lvHi : Nat → Nat
  | 0 => 17 | 1 => 16 | 2 => 15 | 3 => 9 | _ => 7
def markAt (l : List Sg) (i : Nat) : List UInt8 := match l[i]? with
  | some s => if s.k = 3 then s.t else []
  | none => []
def kindG : Nat → Nat → List UInt8 → Nat
  | 0,_,_ => 0
  | f + 1,k,m => if (kTxt k == m) = true then k else kindG f (k + 1) m
def kindM (lv : Nat) (m : List UInt8) : Nat := kindG (lvHi lv + 1 - lvLo lv) (lvLo lv) m
def numI (t : List UInt8) : Nat := t.foldl (fun n c => 10 * n + (c.toNat - 48)) 0
inductive PR where
  | ok (x : Ex) (i : Nat)
  | bad (e i : Nat)
inductive W where
  | un
  | bin (lv : Nat)
  | lp (lv : Nat) (x : Ex)
inductive PS (l : List Sg) : Nat → W → Nat → Nat → PR → Prop
  | unE {n d i : Nat} (h : l[i]? = none) : PS l (n + 1) .un d i (.bad 2 i)
  | unN {n d i : Nat} {s : Sg} (h : l[i]? = some s) (hk : s.k = 2) : PS l (n + 1) .un d i (.ok (.mk 1 (numI s.t) (emp) []) (i + 1))
  | unV {n d i : Nat} {s : Sg} (h : l[i]? = some s) (hk : s.k = 1) (hn : isName s.t = true) : PS l (n + 1) .un d i (.ok (.mk 2 0 (ByteArray.mk s.t.toArray) []) (i + 1))
  | unW {n d i : Nat} {s : Sg} (h : l[i]? = some s) (hk : s.k = 1) (hn : isName s.t = false) : PS l (n + 1) .un d i (.bad 2 i)
  | unX {n d i : Nat} {s : Sg} (h : l[i]? = some s) (hk : s.k ≠ 1) (hk2 : s.k ≠ 2) (hk3 : s.k ≠ 3) : PS l (n + 1) .un d i (.bad 2 i)
  | unM {n d i : Nat} {s : Sg} (h : l[i]? = some s) (hk : s.k = 3) (h1 : s.t ≠ [33]) (h2 : s.t ≠ [45]) (h3 : s.t ≠ [40]) : PS l (n + 1) .un d i (.bad 2 i)
  | unD {n d i : Nat} {s : Sg} (h : l[i]? = some s) (hk : s.k = 3) (ht : s.t = [33] ∨ s.t = [45] ∨ s.t = [40]) (hd : 20 ≤ d) : PS l (n + 1) .un d i (.bad 3 i)
  | unS {n d i j k : Nat} {s : Sg} {x : Ex} (h : l[i]? = some s) (hk : s.k = 3) (ht : (s.t = [33] ∧ k = 3) ∨ (s.t = [45] ∧ k = 4)) (hd : d < 20) (h1 : PS l n .un (d + 1) (i + 1) (.ok x j)) :
      PS l (n + 1) .un d i (.ok (.mk k 0 (emp) [x]) j)
  | unSB {n d i j e : Nat} {s : Sg} (h : l[i]? = some s) (hk : s.k = 3) (ht : s.t = [33] ∨ s.t = [45]) (hd : d < 20) (h1 : PS l n .un (d + 1) (i + 1) (.bad e j)) : PS l (n + 1) .un d i (.bad e j)
  | unP {n d i j : Nat} {s : Sg} {x : Ex} (h : l[i]? = some s) (hk : s.k = 3) (ht : s.t = [40]) (hd : d < 20) (h1 : PS l n (.bin 0) (d + 1) (i + 1) (.ok x j)) (hm : markAt l j = [41]) : PS l (n + 1) .un d i (.ok x (j + 1))
  | unPM {n d i j : Nat} {s : Sg} {x : Ex} (h : l[i]? = some s) (hk : s.k = 3) (ht : s.t = [40]) (hd : d < 20) (h1 : PS l n (.bin 0) (d + 1) (i + 1) (.ok x j)) (hm : markAt l j ≠ [41]) : PS l (n + 1) .un d i (.bad 2 j)
  | unPB {n d i j e : Nat} {s : Sg} (h : l[i]? = some s) (hk : s.k = 3) (ht : s.t = [40]) (hd : d < 20) (h1 : PS l n (.bin 0) (d + 1) (i + 1) (.bad e j)) : PS l (n + 1) .un d i (.bad e j)
  | bin5 {n d i : Nat} {r : PR} (h1 : PS l n .un d i r) : PS l (n + 1) (.bin 5) d i r
  | binB {n d i j e lv : Nat} (hl : lv < 5) (h1 : PS l n (.bin (lv + 1)) d i (.bad e j)) : PS l (n + 1) (.bin lv) d i (.bad e j)
  | bin {n d i j lv : Nat} {x : Ex} {r : PR} (hl : lv < 5) (h1 : PS l n (.bin (lv + 1)) d i (.ok x j)) (h2 : PS l n (.lp lv x) d j r) : PS l (n + 1) (.bin lv) d i r
  | lpE {n d j lv : Nat} {x : Ex} (h : kindM lv (markAt l j) = 0) : PS l (n + 1) (.lp lv x) d j (.ok x j)
  | lpB {n d j j2 e lv : Nat} {x : Ex} (h : kindM lv (markAt l j) ≠ 0) (h1 : PS l n (.bin (lv + 1)) d (j + 1) (.bad e j2)) : PS l (n + 1) (.lp lv x) d j (.bad e j2)
  | lp2 {n d j j2 : Nat} {x y : Ex} (h : kindM 2 (markAt l j) ≠ 0) (h1 : PS l n (.bin 3) d (j + 1) (.ok y j2)) : PS l (n + 1) (.lp 2 x) d j (.ok (.mk (kindM 2 (markAt l j)) 0 (emp) [x,y]) j2)
  | lp {n d j j2 lv : Nat} {x y : Ex} {r : PR} (h : kindM lv (markAt l j) ≠ 0) (hl : lv ≠ 2) (h1 : PS l n (.bin (lv + 1)) d (j + 1) (.ok y j2)) (h2 : PS l n (.lp lv (.mk (kindM lv (markAt l j)) 0 (emp) [x,y])) d j2 r) : PS l (n + 1) (.lp lv x) d j r
theorem PS.succ {l : List Sg} {n : Nat} {w : W} {d i : Nat} {r : PR} (h : PS l n w d i r) : PS l (n + 1) w d i r := by
  induction h with
  | unE h => exact .unE h
  | unN h hk => exact .unN h hk
  | unV h hk hn => exact .unV h hk hn
  | unW h hk hn => exact .unW h hk hn
  | unX h hk hk2 hk3 => exact .unX h hk hk2 hk3
  | unM h hk h1 h2 h3 => exact .unM h hk h1 h2 h3
  | unD h hk ht hd => exact .unD h hk ht hd
  | unS h hk ht hd _ ih => exact .unS h hk ht hd ih
  | unSB h hk ht hd _ ih => exact .unSB h hk ht hd ih
  | unP h hk ht hd _ hm ih => exact .unP h hk ht hd ih hm
  | unPM h hk ht hd _ hm ih => exact .unPM h hk ht hd ih hm
  | unPB h hk ht hd _ ih => exact .unPB h hk ht hd ih
  | bin5 _ ih => exact .bin5 ih
  | binB hl _ ih => exact .binB hl ih
  | bin hl _ _ ih1 ih2 => exact .bin hl ih1 ih2
  | lpE h => exact .lpE h
  | lpB h _ ih => exact .lpB h ih
  | lp2 h _ ih => exact .lp2 h ih
  | lp h hl _ _ ih1 ih2 => exact .lp h hl ih1 ih2
theorem PS.le {l : List Sg} {n m : Nat} {w : W} {d i : Nat} {r : PR} (h : PS l n w d i r) (hm : n ≤ m) : PS l m w d i r := by
  induction hm with
  | refl => exact h
  | step _ ih => exact ih.succ
def SgOk (s : Sg) : Prop := s.t.length ≤ 20 ∧ (s.k = 2 → s.t ≠ [] ∧ s.t.length ≤ 18 ∧ ∀ c ∈ s.t,isDg c = true)
theorem markN_2 (r : List UInt8) : markN r ≤ 2 := by
  unfold markN
  split
  · omega
  · split
    · omega
    · split <;> omega
theorem take_rn (p : UInt8 → Bool) : ∀ (r : List UInt8) (c : UInt8),c ∈ r.take (rnN p r) → p c = true
  | [],c,h => by simp at h
  | a :: r,c,h => by
    unfold rnN at h
    rw [List.takeWhile_cons] at h
    split at h
    · rename_i ha
      simp only [List.length_cons,List.take_succ_cons,List.mem_cons] at h
      rcases h with rfl | h
      · exact ha
      · exact take_rn p r c h
    · simp at h
theorem sgnS_ok {r : List UInt8} {k m i : Nat} (h : sgnS r = .ok k m) : SgOk ⟨k,r.take m,i⟩ := by
  obtain ⟨p1,p2⟩ := sgnS_pos h
  cases r with
  | nil => simp [sgnS] at h
  | cons c r =>
    simp only [sgnS] at h
    have hl : ∀ n,n ≤ (c :: r).length → ((c :: r).take n).length = n := fun n hn => by rw [List.length_take]; omega
    split at h
    · split at h
      · cases h
      · cases h; exact ⟨by show ((c :: r).take _).length ≤ 20; rw [hl _ p2]; omega,fun e => by cases e⟩
    · split at h
      · split at h
        · cases h
        · split at h
          · cases h
          · cases h
            refine ⟨by show ((c :: r).take _).length ≤ 20; rw [hl _ p2]; omega,fun _ => ⟨fun e => ?_,by show ((c :: r).take _).length ≤ 18; rw [hl _ p2]; omega,fun d hd => take_rn isDg _ d hd⟩⟩
            have := hl _ p2
            have e' : (c :: r).take (rnN isDg (c :: r)) = [] := e
            rw [e'] at this; simp at this; omega
      · split at h
        · cases h
        · cases h
          have := markN_2 (c :: r)
          exact ⟨by show ((c :: r).take _).length ≤ 20; rw [hl _ p2]; omega,fun e => by cases e⟩
theorem SR.sgOk {r : List UInt8} {i : Nat} {acc : List Sg} {res : Res} (h : SR r i acc res) : ∀ l,res = .ok l → (∀ s ∈ acc,SgOk s) → ∀ s ∈ l,SgOk s := by
  induction h with
  | done h => intro l e ha; cases e; exact ha
  | err h h2 => intro l e; cases e
  | one h h2 h3 ih =>
    intro l e ha
    refine ih l e fun s hs => ?_
    rcases List.mem_append.1 hs with hs | hs
    · exact ha s hs
    · simp only [List.mem_singleton] at hs; subst hs; exact sgnS_ok h2
end Go.Proofs.Pe
end

section
set_option linter.unusedVariables false
set_option linter.unusedSimpArgs false
set_option maxRecDepth 100000
set_option maxHeartbeats 1000000
namespace Go.Proofs.Pe

/-! ### Signs one by one -/
theorem SR.tok {gap t rest : List UInt8} {i k : Nat} {acc : List Sg} {res : Res} (hg : goneN false (gap ++ (t ++ rest)) = gap.length) (ht : sgnS (t ++ rest) = .ok k t.length) (hn : t ≠ [])
    (h : SR rest (i + gap.length + t.length) (acc ++ [⟨k,t,i + gap.length⟩]) res) : SR (gap ++ (t ++ rest)) i acc res := by
  obtain ⟨c,t',rfl⟩ := List.exists_cons_of_ne_nil hn
  refine .one (c := c) (r' := t' ++ rest) (k := k) (m := (c :: t').length) ?_ ht ?_
  · rw [hg,List.drop_left]; rfl
  · rw [hg]
    have e1 : (c :: (t' ++ rest)).drop (c :: t').length = rest := by
      rw [← List.cons_append,List.drop_left]
    have e2 : (c :: (t' ++ rest)).take (c :: t').length = c :: t' := by
      rw [← List.cons_append,List.take_left]
    rw [e1,e2]
    exact h
theorem SR.blank {r : List UInt8} {i : Nat} {acc : List Sg} {res : Res} (h : SR r (i + 1) acc res) : SR (32 :: r) i acc res := by
  have hg : goneN false (32 :: r) = goneN false r + 1 := gone_bl (by decide)
  have hd : (32 :: r).drop (goneN false (32 :: r)) = r.drop (goneN false r) := by rw [hg,List.drop_succ_cons]
  have hi : i + goneN false (32 :: r) = i + 1 + goneN false r := by omega
  cases h with
  | done h => exact .done (by rw [hd]; exact h)
  | err h h2 => rw [← hi]; exact .err (by rw [hd]; exact h) h2
  | one h h2 h3 => exact .one (by rw [hd]; exact h) h2 (by rw [hi]; exact h3)
theorem SR.len {r : List UInt8} {i : Nat} {acc : List Sg} {res : Res} (h : SR r i acc res) : ∀ l,res = .ok l → l.length ≤ acc.length + r.length := by
  induction h with
  | done h => intro l e; cases e; omega
  | err h h2 => intro l e; cases e
  | @one r r' c i k m acc res h h2 h3 ih =>
    intro l e
    have h4 := ih l e
    have h5 := sgnS_pos h2
    have h6 := congrArg List.length h
    simp at h4 h5 h6
    omega
def kt (s : Sg) : Nat × List UInt8 := (s.k,s.t)
theorem kt_get {l : List Sg} {i : Nat} {p : Nat × List UInt8} (h : (l.map kt)[i]? = some p) : ∃ s,l[i]? = some s ∧ s.k = p.1 ∧ s.t = p.2 := by
  rw [List.getElem?_map,Option.map_eq_some_iff] at h
  obtain ⟨s,h1,h2⟩ := h
  exact ⟨s,h1,by rw [← h2]; rfl,by rw [← h2]; rfl⟩
theorem kt_none {l : List Sg} {i : Nat} (h : (l.map kt)[i]? = none) : l[i]? = none := by
  rw [List.getElem?_map,Option.map_eq_none_iff] at h
  exact h
theorem mark_get {l : List Sg} {i : Nat} {t : List UInt8} (h : (l.map kt)[i]? = some (3,t)) : markAt l i = t := by
  obtain ⟨s,h1,h2,h3⟩ := kt_get h
  simp only [markAt,h1,h2,h3,if_true]
theorem mark_none {l : List Sg} {i : Nat} (h : (l.map kt)[i]? = none) : markAt l i = [] := by
  simp only [markAt,kt_none h]
theorem kind_nil : ∀ lv,lv < 5 → kindM lv [] = 0 := by decide
theorem kind_close : ∀ lv,lv < 5 → kindM lv [41] = 0 := by decide
theorem bin_ok {l : List Sg} {d i j : Nat} {x : Ex} {n : Nat} (h : PS l n .un d i (.ok x j)) : ∀ m lv,lv + m = 5 → (∀ v,lv ≤ v → v < 5 → kindM v (markAt l j) = 0) → ∃ n,PS l n (.bin lv) d i (.ok x j)
  | 0,lv,hm,hk => ⟨n + 1,by rw [show lv = 5 by omega]; exact .bin5 h⟩
  | m + 1,lv,hm,hk => by
    obtain ⟨n',h'⟩ := bin_ok h m (lv + 1) (by omega) fun v h1 h2 => hk v (by omega) h2
    exact ⟨n' + 2,.bin (by omega) h'.succ (.lpE (hk lv (Nat.le_refl _) (by omega)))⟩
/-! ### Brackets in one another -/
end Go.Proofs.Pe
end

section
set_option linter.unusedVariables false
set_option linter.unusedSimpArgs false
set_option maxRecDepth 100000
set_option maxHeartbeats 1000000
namespace Go.Proofs.Pe

/-! ### Numbers az digits -/
def digF : Nat → Nat → List UInt8
  | 0,_ => []
  | f + 1,n => if n < 10 then [UInt8.ofNat (48 + n)] else digF f (n / 10) ++ [UInt8.ofNat (48 + n % 10)]
def digB (n : Nat) : List UInt8 := digF 20 n
theorem dg_nat {d : Nat} (h : d < 10) : (UInt8.ofNat (48 + d)).toNat = 48 + d := by
  rw [UInt8.toNat_ofNat']; omega
theorem dg_is {d : Nat} (h : d < 10) : isDg (UInt8.ofNat (48 + d)) = true := by
  simp only [isDg,dg_nat h]; simp; omega
theorem digF_len : ∀ (f n m : Nat),n < 10 ^ m → 1 ≤ m → m ≤ f → 1 ≤ (digF f n).length ∧ (digF f n).length ≤ m
  | 0,n,m,_,h1,h2 => by omega
  | f + 1,n,m,h,h1,h2 => by
    unfold digF
    split
    · simp; omega
    · rename_i h10
      have hm : 2 ≤ m := by
        rcases Nat.lt_or_ge m 2 with h3 | h3
        · have : m = 1 := by omega
          subst this; simp at h; omega
        · exact h3
      obtain ⟨m',rfl⟩ : ∃ m',m = m' + 1 := ⟨m - 1,by omega⟩
      have := digF_len f (n / 10) m' (by rw [Nat.pow_succ] at h; omega) (by omega) (by omega)
      simp; omega
theorem digF_dg : ∀ (f n : Nat) (c : UInt8),c ∈ digF f n → isDg c = true
  | 0,n,c,h => by simp [digF] at h
  | f + 1,n,c,h => by
    unfold digF at h
    split at h
    · rename_i h10; rw [List.mem_singleton.1 h]; exact dg_is h10
    · rcases List.mem_append.1 h with h | h
      · exact digF_dg f _ c h
      · rw [List.mem_singleton.1 h]; exact dg_is (Nat.mod_lt _ (by omega))
theorem numI_snoc (t : List UInt8) (c : UInt8) : numI (t ++ [c]) = 10 * numI t + (c.toNat - 48) := by
  simp [numI,List.foldl_append]
theorem digF_num : ∀ (f n : Nat),n < 10 ^ f → numI (digF f n) = n
  | 0,n,h => by simp at h; subst h; rfl
  | f + 1,n,h => by
    unfold digF
    split
    · rename_i h10
      have := numI_snoc [] (UInt8.ofNat (48 + n))
      rw [dg_nat h10,List.nil_append] at this
      rw [this]
      show 10 * 0 + (48 + n - 48) = n
      omega
    · rename_i h10
      rw [numI_snoc,digF_num f (n / 10) (by rw [Nat.pow_succ] at h; omega),dg_nat (Nat.mod_lt _ (by omega))]; omega
theorem digF_hd : ∀ (f n : Nat) (c : UInt8) (r : List UInt8),digF f n = c :: r → c.toNat = 48 → 1 ≤ n → n < 10 ^ f → False
  | 0,n,c,r,h,_,_,_ => by simp [digF] at h
  | f + 1,n,c,r,h,hc,h1,h2 => by
    unfold digF at h
    split at h
    · rename_i h10; cases h; rw [dg_nat h10] at hc; omega
    · rename_i h10
      cases hd : digF f (n / 10) with
      | nil =>
        have hf : 1 ≤ f := by
          cases f with
          | zero => simp at h2; omega
          | succ f => omega
        have := (digF_len f (n / 10) f (by rw [Nat.pow_succ] at h2; omega) hf (Nat.le_refl _)).1
        rw [hd] at this; simp at this
      | cons d r' =>
        rw [hd] at h
        cases h
        exact digF_hd f _ _ _ hd hc (by omega) (by rw [Nat.pow_succ] at h2; omega)
def e18 : Nat := 1000000000000000000
theorem digB_len {n : Nat} (h : n < e18) : 1 ≤ (digB n).length ∧ (digB n).length ≤ 18 := digF_len 20 n 18 h (by omega) (by omega)
theorem digB_dg {n : Nat} {c : UInt8} (h : c ∈ digB n) : isDg c = true := digF_dg 20 n c h
theorem digB_num {n : Nat} (h : n < e18) : numI (digB n) = n := digF_num 20 n (by unfold e18 at h; omega)
theorem rnN_app {p : UInt8 → Bool} : ∀ {a r : List UInt8},(∀ c ∈ a,p c = true) → (∀ c,r.head? = some c → p c = false) → rnN p (a ++ r) = a.length
  | [],[],_,_ => rfl
  | [],c :: r,_,h => by
    have := h c rfl
    unfold rnN; rw [List.nil_append,List.takeWhile_cons,this]; rfl
  | c :: a,r,h1,h2 => by
    have ih := rnN_app (p := p) (a := a) (r := r) (fun d hd => h1 d (by simp [hd])) h2
    unfold rnN at ih ⊢
    rw [List.cons_append,List.takeWhile_cons,if_pos (h1 c (by simp)),List.length_cons,ih]; rfl
def Stop (r : List UInt8) : Prop := ∀ c,r.head? = some c → c = 32 ∨ c = 41 ∨ c = 59
theorem Stop.dg {r : List UInt8} (h : Stop r) : ∀ c,r.head? = some c → isDg c = false := fun c hc => by
  rcases h c hc with rfl | rfl | rfl <;> decide
theorem Stop.wd {r : List UInt8} (h : Stop r) : ∀ c,r.head? = some c → isIn c = false := fun c hc => by
  rcases h c hc with rfl | rfl | rfl <;> decide
theorem dg_not {c : UInt8} (h : isDg c = true) : isSm c = false ∧ isBl c = false ∧ c.toNat ≠ 35 ∧ c.toNat ≠ 61 ∧ c.toNat ≠ 62 := by
  simp [isDg] at h
  refine ⟨?_, ?_,by omega,by omega,by omega⟩
  · simp [isSm]; omega
  · simp [isBl]; omega
theorem sm_not {c : UInt8} (h : isSm c = true) : isBl c = false ∧ c.toNat ≠ 35 ∧ c.toNat ≠ 61 ∧ c.toNat ≠ 62 := by
  simp [isSm] at h
  refine ⟨?_,by omega,by omega,by omega⟩
  simp [isBl]; omega
theorem sgn_num {n : Nat} {r : List UInt8} (h : n < e18) (hr : Stop r) : sgnS (digB n ++ r) = .ok 2 (digB n).length := by
  have hn := rnN_app (p := isDg) (a := digB n) (r := r) (fun c hc => digB_dg hc) hr.dg
  have hl := digB_len h
  cases hd : digB n with
  | nil => rw [hd] at hl; simp at hl
  | cons c t =>
    have hc : isDg c = true := digB_dg (n := n) (by rw [hd]; simp)
    rw [hd] at hn hl
    rw [List.cons_append] at hn ⊢
    simp only [sgnS,(dg_not hc).1,hc,hn,if_true,Bool.false_eq_true,if_false]
    rw [if_neg (by omega),if_neg]
    rintro ⟨h1,h2⟩
    by_cases h0 : n = 0
    · subst h0
      have e : digB 0 = [48] := by decide
      rw [e] at hd; cases hd; simp at h1
    · exact digF_hd 20 n c t hd h2 (by omega) (by unfold e18 at h; omega)
theorem wordy_cons {c : UInt8} {t : List UInt8} (h : wordy (c :: t) = true) : isSm c = true ∧ ∀ d ∈ t,isIn d = true := by
  unfold wordy at h
  rw [List.all_eq_true] at h
  constructor
  · have := h 0 (by simp)
    simpa [okB] using this
  · intro d hd
    obtain ⟨j,hj⟩ := List.getElem?_of_mem hd
    have hlt := (List.getElem?_eq_some_iff.1 hj).1
    have := h (j + 1) (by simp; exact hlt)
    simpa [hj,okB] using this
theorem isName_cons {t : List UInt8} (h : isName t = true) : ∃ c r,t = c :: r ∧ isSm c = true ∧ (∀ d ∈ r,isIn d = true) ∧ t.length ≤ 20 := by
  unfold isName at h
  simp only [Bool.and_eq_true,decide_eq_true_eq] at h
  obtain ⟨⟨⟨h1,h2⟩,h3⟩,h4⟩ := h
  cases t with
  | nil => simp at h1
  | cons c r => exact ⟨c,r,rfl,(wordy_cons h4).1,(wordy_cons h4).2,h2⟩
theorem sgn_name {t r : List UInt8} (h : isName t = true) (hr : Stop r) : sgnS (t ++ r) = .ok 1 t.length := by
  obtain ⟨c,t',rfl,hc,ht,hl⟩ := isName_cons h
  have hn := rnN_app (p := isIn) (a := c :: t') (r := r) (fun d hd => by
    rcases List.mem_cons.1 hd with rfl | hd
    · simp [isIn,hc]
    · exact ht d hd) hr.wd
  rw [List.cons_append] at hn ⊢
  simp only [sgnS,hc,hn,if_true]
  rw [if_neg (by omega)]
/-! ### Expressions az texts -/
def brE (x : Ex) (t : List UInt8) : List UInt8 := match x with
  | .mk _ _ _ [_,_] => 40 :: (t ++ [41])
  | _ => t
def textE : Ex → List UInt8
  | .mk k _ _ [x] => kTxt k.toNat ++ brE x (textE x)
  | .mk k _ _ [x,y] => brE x (textE x) ++ (32 :: (kTxt k.toNat ++ (32 :: brE y (textE y))))
  | .mk k n nm _ => if k = 1 then digB n.toNat else nm.toList
def brK (x : Ex) (t : List (Nat × List UInt8)) : List (Nat × List UInt8) := match x with
  | .mk _ _ _ [_,_] => (3,[40]) :: (t ++ [(3,[41])])
  | _ => t
def tokE : Ex → List (Nat × List UInt8)
  | .mk k _ _ [x] => (3,kTxt k.toNat) :: brK x (tokE x)
  | .mk k _ _ [x,y] => brK x (tokE x) ++ ((3,kTxt k.toNat) :: brK y (tokE y))
  | .mk k n nm _ => if k = 1 then [(2,digB n.toNat)] else [(1,nm.toList)]
inductive WfT : Nat → Ex → Prop where
  | num {n m : Nat} : m < e18 → WfT n (.mk 1 m emp [])
  | var {n : Nat} {t : List UInt8} : isName t = true → WfT n (.mk 2 0 ⟨t.toArray⟩ [])
  | one {n k : Nat} {x : Ex} : k = 3 ∨ k = 4 → WfT n x → WfT (n + 1) (.mk k 0 emp [x])
  | two {n k : Nat} {x y : Ex} : 5 ≤ k → k ≤ 17 → WfT n x → WfT n y → WfT (n + 1) (.mk k 0 emp [x,y])
theorem text_num {m : Nat} {nm : ByteArray} : textE (.mk 1 m nm []) = digB m := by simp [textE]
theorem text_var {t : List UInt8} {n : Int} : textE (.mk 2 n ⟨t.toArray⟩ []) = t := by simp [textE,btl]
theorem text_one {k : Nat} {n : Int} {nm : ByteArray} {x : Ex} : textE (.mk k n nm [x]) = kTxt k ++ brE x (textE x) := by simp [textE]
theorem text_two {k : Nat} {n : Int} {nm : ByteArray} {x y : Ex} : textE (.mk k n nm [x,y]) = brE x (textE x) ++ (32 :: (kTxt k ++ (32 :: brE y (textE y)))) := by simp [textE]
theorem tok_num {m : Nat} {nm : ByteArray} : tokE (.mk 1 m nm []) = [(2,digB m)] := by simp [tokE]
theorem tok_var {t : List UInt8} {n : Int} : tokE (.mk 2 n ⟨t.toArray⟩ []) = [(1,t)] := by simp [tokE,btl]
theorem tok_one {k : Nat} {n : Int} {nm : ByteArray} {x : Ex} : tokE (.mk k n nm [x]) = (3,kTxt k) :: brK x (tokE x) := by simp [tokE]
theorem tok_two {k : Nat} {n : Int} {nm : ByteArray} {x y : Ex} : tokE (.mk k n nm [x,y]) = brK x (tokE x) ++ ((3,kTxt k) :: brK y (tokE y)) := by simp [tokE]
def Hd (t : List UInt8) : Prop := ∃ c r,t = c :: r ∧ isBl c = false ∧ c.toNat ≠ 35 ∧ c.toNat ≠ 61 ∧ c.toNat ≠ 62
theorem Hd.app {t r : List UInt8} (h : Hd t) : Hd (t ++ r) := by
  obtain ⟨c,s,rfl,h⟩ := h
  exact ⟨c,s ++ r,rfl,h⟩
theorem Hd.gone {t : List UInt8} (h : Hd t) : goneN false t = 0 := by
  obtain ⟨c,s,rfl,h1,h2,_⟩ := h
  exact gone_no h1 h2
theorem Hd.br {x : Ex} {t : List UInt8} (h : Hd t) : Hd (brE x t) := by
  unfold brE
  split
  · exact ⟨40,_,rfl,by decide,by decide,by decide,by decide⟩
  · exact h
theorem text_hd {n : Nat} {x : Ex} (h : WfT n x) : Hd (textE x) := by
  induction h with
  | @num n m h =>
    rw [text_num]
    have hl := digB_len h
    cases hd : digB m with
    | nil => rw [hd] at hl; simp at hl
    | cons c t => exact ⟨c,t,rfl,(dg_not (digB_dg (n := m) (by rw [hd]; simp))).2⟩
  | var h =>
    rw [text_var]
    obtain ⟨c,r,rfl,hc,_⟩ := isName_cons h
    exact ⟨c,r,rfl,sm_not hc⟩
  | one hk _ ih =>
    rw [text_one]
    rcases hk with rfl | rfl
    · exact ⟨33,_,rfl,by decide,by decide,by decide,by decide⟩
    · exact ⟨45,_,rfl,by decide,by decide,by decide,by decide⟩
  | two _ _ _ _ ih1 ih2 => rw [text_two]; exact ih1.br.app
theorem sgn_br (c : UInt8) (h : c = 40 ∨ c = 41) (r : List UInt8) : sgnS (c :: r) = .ok 3 1 := by
  rcases h with rfl | rfl <;> cases r <;> simp [sgnS,isSm,isDg,markN,dbls,sngs]
theorem sgn_ahead {k : Nat} (h : k = 3 ∨ k = 4) {t : List UInt8} (ht : Hd t) : sgnS (kTxt k ++ t) = .ok 3 (kTxt k).length := by
  obtain ⟨c,r,rfl,_,_,h1,h2⟩ := ht
  have e1 : c ≠ 61 := fun e => h1 (by rw [e]; rfl)
  have e2 : c ≠ 62 := fun e => h2 (by rw [e]; rfl)
  rcases h with rfl | rfl <;> simp [kTxt,sgnS,isSm,isDg,markN,dbls,sngs,e1,e2]
theorem sgn_two {k : Nat} (h1 : 5 ≤ k) (h2 : k ≤ 17) (r : List UInt8) : sgnS (kTxt k ++ (32 :: r)) = .ok 3 (kTxt k).length := by
  have : k = 5 ∨ k = 6 ∨ k = 7 ∨ k = 8 ∨ k = 9 ∨ k = 10 ∨ k = 11 ∨ k = 12 ∨ k = 13 ∨ k = 14 ∨ k = 15 ∨ k = 16 ∨ k = 17 := by omega
  rcases this with rfl | rfl | rfl | rfl | rfl | rfl | rfl | rfl | rfl | rfl | rfl | rfl | rfl <;> simp [kTxt,sgnS,isSm,isDg,markN,dbls,sngs]
theorem kTxt_hd {k : Nat} (h1 : 3 ≤ k) (h2 : k ≤ 17) : ∃ c r,kTxt k = c :: r ∧ isBl c = false ∧ c.toNat ≠ 35 := by
  have : k = 3 ∨ k = 4 ∨ k = 5 ∨ k = 6 ∨ k = 7 ∨ k = 8 ∨ k = 9 ∨ k = 10 ∨ k = 11 ∨ k = 12 ∨ k = 13 ∨ k = 14 ∨ k = 15 ∨ k = 16 ∨ k = 17 := by omega
  rcases this with rfl | rfl | rfl | rfl | rfl | rfl | rfl | rfl | rfl | rfl | rfl | rfl | rfl | rfl | rfl <;> exact ⟨_,_,rfl,by decide,by decide⟩
def LexT (t : List UInt8) (ks : List (Nat × List UInt8)) : Prop := ∀ (rest : List UInt8),Stop rest → ∀ (i : Nat) (acc : List Sg),∃ l : List Sg,l.map kt = ks ∧ ∀ res,SR rest (i + t.length) (acc ++ l) res → SR (t ++ rest) i acc res
theorem lex_br {x : Ex} {t : List UInt8} {ks : List (Nat × List UInt8)} (h : LexT t ks) : LexT (brE x t) (brK x ks) := by
  unfold brE brK
  split
  · intro rest hr i acc
    obtain ⟨l,h1,h2⟩ := h (41 :: rest) (fun c hc => by simp at hc; subst hc; simp) (i + 0 + 1) (acc ++ [⟨3,[40],i + 0⟩])
    refine ⟨(⟨3,[40],i⟩ : Sg) :: (l ++ [⟨3,[41],i + 0 + 1 + t.length⟩]),by simp [kt,h1],fun res hres => ?_⟩
    have e : 40 :: (t ++ [41]) ++ rest = [] ++ ([40] ++ (t ++ 41 :: rest)) := by simp
    rw [e]
    refine SR.tok (k := 3) (gone_no (by decide) (by decide)) (sgn_br 40 (.inl rfl) _) (by simp) ?_
    refine h2 _ ?_
    have e2 : (41 : UInt8) :: rest = [] ++ ([41] ++ rest) := rfl
    rw [e2]
    refine SR.tok (k := 3) (gone_no (by decide) (by decide)) (sgn_br 41 (.inr rfl) _) (by simp) ?_
    have e3 : i + (40 :: (t ++ [41])).length = i + 0 + 1 + t.length + 0 + 1 := by simp; omega
    rw [e3] at hres
    simpa using hres
  · exact h
theorem lex_text {n : Nat} {x : Ex} (h : WfT n x) : LexT (textE x) (tokE x) := by
  induction h with
  | @num n m h =>
    rw [text_num,tok_num]
    intro rest hr i acc
    refine ⟨[⟨2,digB m,i + 0⟩],rfl,fun res hres => ?_⟩
    have hh := text_hd (WfT.num (n := 0) h)
    rw [text_num] at hh
    rw [show digB m ++ rest = [] ++ (digB m ++ rest) from rfl]
    refine SR.tok (k := 2) hh.app.gone (sgn_num h hr) (by obtain ⟨c,r,e,_⟩ := hh; rw [e]; simp) ?_
    simpa using hres
  | @var n t h =>
    rw [text_var,tok_var]
    intro rest hr i acc
    refine ⟨[⟨1,t,i + 0⟩],rfl,fun res hres => ?_⟩
    have hh := text_hd (WfT.var (n := 0) h)
    rw [text_var] at hh
    rw [show t ++ rest = [] ++ (t ++ rest) from rfl]
    refine SR.tok (k := 1) hh.app.gone (sgn_name h hr) (by obtain ⟨c,r,e,_⟩ := hh; rw [e]; simp) ?_
    simpa using hres
  | @one n k x hk hx ih =>
    rw [text_one,tok_one]
    intro rest hr i acc
    obtain ⟨l,h1,h2⟩ := lex_br (x := x) ih rest hr (i + 0 + (kTxt k).length) (acc ++ [⟨3,kTxt k,i + 0⟩])
    refine ⟨⟨3,kTxt k,i + 0⟩ :: l,by simp [kt,h1],fun res hres => ?_⟩
    rw [show kTxt k ++ brE x (textE x) ++ rest = [] ++ (kTxt k ++ (brE x (textE x) ++ rest)) by simp]
    obtain ⟨c,r,e,e1,e2⟩ := kTxt_hd (k := k) (by omega) (by omega)
    refine SR.tok (k := 3) (by rw [e]; exact gone_no e1 e2) (sgn_ahead hk (text_hd hx).br.app) (by rw [e]; simp) ?_
    refine h2 _ ?_
    have e3 : i + (kTxt k ++ brE x (textE x)).length = i + 0 + (kTxt k).length + (brE x (textE x)).length := by simp; omega
    rw [e3] at hres
    simpa using hres
  | @two n k x y hk1 hk2 hx hy ih1 ih2 =>
    rw [text_two,tok_two]
    intro rest hr i acc
    obtain ⟨l,h1,h2⟩ := lex_br (x := x) ih1 (32 :: (kTxt k ++ (32 :: (brE y (textE y) ++ rest)))) (fun c hc => by simp at hc; subst hc; simp) i acc
    obtain ⟨l',h1',h2'⟩ := lex_br (x := y) ih2 rest hr (i + (brE x (textE x)).length + 1 + (kTxt k).length + 1) (acc ++ l ++ [⟨3,kTxt k,i + (brE x (textE x)).length + 1⟩])
    refine ⟨l ++ ⟨3,kTxt k,i + (brE x (textE x)).length + 1⟩ :: l',by simp [kt] at h1 h1' ⊢; rw [h1,h1'],fun res hres => ?_⟩
    rw [show brE x (textE x) ++ (32 :: (kTxt k ++ (32 :: brE y (textE y)))) ++ rest = brE x (textE x) ++ (32 :: (kTxt k ++ (32 :: (brE y (textE y) ++ rest)))) by simp]
    refine h2 _ ?_
    obtain ⟨c,r,e,e1,e2⟩ := kTxt_hd (k := k) (by omega) (by omega)
    rw [show (32 : UInt8) :: (kTxt k ++ (32 :: (brE y (textE y) ++ rest))) = [32] ++ (kTxt k ++ (32 :: (brE y (textE y) ++ rest))) from rfl]
    refine SR.tok (k := 3) (by rw [e]; show goneN false (32 :: c :: _) = 1; rw [gone_bl (by decide),gone_no e1 e2]) (sgn_two hk1 hk2 _) (by rw [e]; simp) ?_
    refine SR.blank (h2' _ ?_)
    have e3 : i + (brE x (textE x) ++ (32 :: (kTxt k ++ (32 :: brE y (textE y))))).length = i + (brE x (textE x)).length + 1 + (kTxt k).length + 1 + (brE y (textE y)).length := by simp; omega
    rw [e3] at hres
    simpa using hres

/-! ### They are read az they were -/
def AtK (l : List Sg) (i : Nat) (ks : List (Nat × List UInt8)) : Prop := ∀ q p,ks[q]? = some p → (l.map kt)[i + q]? = some p
theorem AtK.app {l : List Sg} {i : Nat} {a b : List (Nat × List UInt8)} (h : AtK l i (a ++ b)) : AtK l i a ∧ AtK l (i + a.length) b := by
  constructor
  · intro q p hq
    exact h q p (by rw [List.getElem?_append_left (List.getElem?_eq_some_iff.1 hq).1]; exact hq)
  · intro q p hq
    rw [Nat.add_assoc]
    exact h (a.length + q) p (by rw [List.getElem?_append_right (by omega)]; rw [show a.length + q - a.length = q by omega]; exact hq)
theorem AtK.cons {l : List Sg} {i : Nat} {a : Nat × List UInt8} {b : List (Nat × List UInt8)} (h : AtK l i (a :: b)) : (l.map kt)[i]? = some a ∧ AtK l (i + 1) b := by
  refine ⟨h 0 a rfl,fun q p hq => ?_⟩
  rw [Nat.add_assoc,Nat.add_comm 1]
  exact h (q + 1) p (by simpa using hq)
def lvOf (k : Nat) : Nat := if k = 17 then 0 else if k = 16 then 1 else if 10 ≤ k then 2 else if 8 ≤ k then 3 else 4
theorem kind_in : ∀ k,k < 18 → 5 ≤ k → kindM (lvOf k) (kTxt k) = k ∧ lvOf k < 5 ∧ ∀ v,v < 5 → lvOf k < v → kindM v (kTxt k) = 0 := by decide
def NoOp (l : List Sg) (j : Nat) : Prop := ∀ v,v < 5 → kindM v (markAt l j) = 0
theorem bin_down {l : List Sg} {d i j lv : Nat} {x : Ex} (hno : NoOp l j) (hlv : lv ≤ 5) : ∀ {n : Nat},PS l n (.bin lv) d i (.ok x j) → ∃ n,PS l n (.bin 0) d i (.ok x j) := by
  induction lv with
  | zero => exact fun {n} h => ⟨n,h⟩
  | succ lv ih =>
    intro n h
    exact ih (by omega) (n := n + 2) (.bin (by omega) h.succ (.lpE (hno lv (by omega))))
theorem two_bin {l : List Sg} {d i j1 j2 k n1 n2 : Nat} {x y : Ex} (h1 : 5 ≤ k) (h2 : k ≤ 17) (hx : PS l n1 .un d i (.ok x j1)) (hm : markAt l j1 = kTxt k) (hy : PS l n2 .un d (j1 + 1) (.ok y j2)) (hno : NoOp l j2) :
    ∃ n,PS l n (.bin 0) d i (.ok (.mk k 0 emp [x,y]) j2) := by
  obtain ⟨hk,hlv,hup⟩ := kind_in k (by omega) h1
  obtain ⟨a,ha⟩ := bin_ok hx (5 - (lvOf k + 1)) (lvOf k + 1) (by omega) fun v h1 h2 => by rw [hm]; exact hup v h2 (by omega)
  obtain ⟨b,hb⟩ := bin_ok hy (5 - (lvOf k + 1)) (lvOf k + 1) (by omega) fun v h1 h2 => hno v h2
  have hkn : kindM (lvOf k) (markAt l j1) = k := by rw [hm]; exact hk
  have hloop : ∃ n,PS l n (.lp (lvOf k) x) d j1 (.ok (.mk k 0 emp [x,y]) j2) := by
    by_cases e : lvOf k = 2
    · rw [e] at hb hkn ⊢
      have := PS.lp2 (x := x) (by omega) hb
      rw [hkn] at this
      exact ⟨_,this⟩
    · have h3 : PS l (b + 1) (.lp (lvOf k) (.mk (kindM (lvOf k) (markAt l j1)) 0 emp [x,y])) d j2 (.ok (.mk (kindM (lvOf k) (markAt l j1)) 0 emp [x,y]) j2) := .lpE (hno _ hlv)
      have := PS.lp (x := x) (by omega) e hb.succ h3
      rw [hkn] at this
      exact ⟨_,this⟩
  obtain ⟨c,hc⟩ := hloop
  exact bin_down hno (Nat.le_of_lt hlv) (n := max a c + 1) (.bin hlv (ha.le (Nat.le_max_left _ _)) (hc.le (Nat.le_max_right _ _)))
theorem noOp_close {l : List Sg} {j : Nat} (h : (l.map kt)[j]? = some (3,[41])) : NoOp l j := fun v hv => by rw [mark_get h]; exact kind_close v hv
theorem brK_no {x : Ex} {t : List (Nat × List UInt8)} (h : ∀ k n nm a b,x ≠ .mk k n nm [a,b]) : brK x t = t := by
  unfold brK; split
  · exact absurd rfl (h _ _ _ _ _)
  · rfl
theorem un_text {l : List Sg} : ∀ {n : Nat} {x : Ex},WfT n x → ∀ {d i : Nat},d + n ≤ 20 → AtK l i (brK x (tokE x)) → ∃ m,PS l m .un d i (.ok x (i + (brK x (tokE x)).length)) := by
  intro n x h
  induction h with
  | @num n m h =>
    intro d i hd ha
    have e : brK (.mk 1 m emp []) (tokE (.mk 1 m emp [])) = [(2,digB m)] := by rw [tok_num]; rfl
    rw [e] at ha ⊢
    obtain ⟨s,h1,h2,h3⟩ := kt_get ha.cons.1
    have := PS.unN (n := 0) (d := d) h1 h2
    rw [h3,digB_num h] at this
    exact ⟨_,this⟩
  | @var n t h =>
    intro d i hd ha
    have e : brK (.mk 2 0 ⟨t.toArray⟩ []) (tokE (.mk 2 0 ⟨t.toArray⟩ [])) = [(1,t)] := by rw [tok_var]; rfl
    rw [e] at ha ⊢
    obtain ⟨s,h1,h2,h3⟩ := kt_get ha.cons.1
    have := PS.unV (n := 0) (d := d) h1 h2 (by rw [h3]; exact h)
    rw [h3] at this
    exact ⟨_,this⟩
  | @one n k x hk hx ih =>
    intro d i hd ha
    have e : brK (.mk k 0 emp [x]) (tokE (.mk k 0 emp [x])) = (3,kTxt k) :: brK x (tokE x) := by rw [tok_one]; rfl
    rw [e] at ha ⊢
    obtain ⟨ha1,ha2⟩ := ha.cons
    obtain ⟨m,hm⟩ := ih (d := d + 1) (by omega) ha2
    obtain ⟨s,h1,h2,h3⟩ := kt_get ha1
    refine ⟨m + 1, ?_⟩
    rw [show i + ((3,kTxt k) :: brK x (tokE x)).length = i + 1 + (brK x (tokE x)).length by simp; omega]
    refine .unS h1 h2 ?_ (by omega) hm
    rcases hk with rfl | rfl
    · exact .inl ⟨h3,rfl⟩
    · exact .inr ⟨h3,rfl⟩
  | @two n k x y hk1 hk2 hx hy ih1 ih2 =>
    intro d i hd ha
    have e : brK (.mk k 0 emp [x,y]) (tokE (.mk k 0 emp [x,y])) = (3,[40]) :: ((brK x (tokE x) ++ ((3,kTxt k) :: brK y (tokE y))) ++ [(3,[41])]) := by rw [tok_two]; rfl
    rw [e] at ha ⊢
    obtain ⟨ha1,ha2⟩ := ha.cons
    obtain ⟨ha3,ha4⟩ := ha2.app
    obtain ⟨ha5,ha6⟩ := ha3.app
    obtain ⟨ha7,ha8⟩ := ha6.cons
    obtain ⟨m1,hm1⟩ := ih1 (d := d + 1) (by omega) ha5
    obtain ⟨m2,hm2⟩ := ih2 (d := d + 1) (by omega) ha8
    have hc := ha4.cons.1
    have hj : i + 1 + (brK x (tokE x) ++ ((3,kTxt k) :: brK y (tokE y))).length = i + 1 + (brK x (tokE x)).length + 1 + (brK y (tokE y)).length := by simp; omega
    rw [hj] at hc
    obtain ⟨m,hm⟩ := two_bin hk1 hk2 hm1 (mark_get ha7) hm2 (noOp_close hc)
    obtain ⟨s,h1,h2,h3⟩ := kt_get ha1
    refine ⟨m + 1, ?_⟩
    rw [show i + ((3,[40]) :: ((brK x (tokE x) ++ ((3,kTxt k) :: brK y (tokE y))) ++ [(3,[41])])).length = i + 1 + (brK x (tokE x)).length + 1 + (brK y (tokE y)).length + 1 by simp; omega]
    exact .unP h1 h2 h3 (by omega) hm (mark_get hc)
theorem bin_text {l : List Sg} {n : Nat} {x : Ex} (h : WfT n x) {d i : Nat} (hd : d + n ≤ 20) (ha : AtK l i (tokE x)) (hno : NoOp l (i + (tokE x).length)) : ∃ m,PS l m (.bin 0) d i (.ok x (i + (tokE x).length)) := by
  have plain : (∀ k n nm a b,x ≠ .mk k n nm [a,b]) → ∃ m,PS l m (.bin 0) d i (.ok x (i + (tokE x).length)) := by
    intro hx
    have e := brK_no (t := tokE x) hx
    obtain ⟨m,hm⟩ := un_text h hd (by rw [e]; exact ha)
    rw [e] at hm
    exact bin_ok hm 5 0 rfl fun v _ hv => hno v hv
  cases h with
  | num h => exact plain (by simp)
  | var h => exact plain (by simp)
  | one hk hx => exact plain (by simp)
  | two hk1 hk2 hx hy =>
    rw [tok_two] at ha hno ⊢
    obtain ⟨ha5,ha6⟩ := ha.app
    obtain ⟨ha7,ha8⟩ := ha6.cons
    obtain ⟨m1,hm1⟩ := un_text hx (d := d) (by omega) ha5
    obtain ⟨m2,hm2⟩ := un_text hy (d := d) (by omega) ha8
    rename_i n k x y
    have hj : i + (brK x (tokE x) ++ ((3,kTxt k) :: brK y (tokE y))).length = i + (brK x (tokE x)).length + 1 + (brK y (tokE y)).length := by simp; omega
    rw [hj] at hno ⊢
    exact two_bin hk1 hk2 hm1 (mark_get ha7) hm2 hno
end Go.Proofs.Pe
end

section
set_option linter.unusedVariables false
namespace Go.Proofs.Pe
variable {P : Program} {T : Tab}

/-! ### strconv.Itoa by its law -/
theorem grow_tr {w : World} {g : G} {o : List O} (I : Inv w.heap g o) (k : Nat) (os : Array Obj) : Tr w g o (Go.Sort.grow (w.drewN k) os) g o ∧ Inv (Go.Sort.grow (w.drewN k) os).heap g o := by
  have hp : ∀ b,b < w.heap.size → (Go.Sort.grow (w.drewN k) os).heap[b]? = w.heap[b]? := fun b hb => by
    show (w.heap ++ os)[b]? = _
    rw [Array.getElem?_append_left hb]
  have hsz : w.heap.size ≤ (Go.Sort.grow (w.drewN k) os).heap.size := by show _ ≤ (w.heap ++ os).size; simp
  have E : Ev w.heap g o (Go.Sort.grow (w.drewN k) os).heap g o := Ev.same_o hsz (fun b => Nat.le_refl _) hp rfl rfl
  refine withTab I ?_
  refine ⟨⟨E,rfl,rfl,rfl,fun b hb _ => ⟨hp b hb,rfl⟩,fun l ob hl hv _ => ⟨l,ob,hl,hv,rfl⟩⟩,⟨fun l cs hl => ?_,fun l v wr k xs hl => ?_,fun l st pend ts ps assign body dl hl => ?_,fun l shut hl => ?_,I.inj,fun b hb => I.fresh b (by omega)⟩⟩
  · obtain ⟨us',ty,hb,hc,hr⟩ := I.cells l cs hl
    exact ⟨us',ty,(hp _ (some_lt hb)).trans hb,hc,hr.ev E⟩
  · obtain ⟨us',ty,lo,hi,hb,a1,a2,a3,a4,a5,a6,a7⟩ := I.arr l v wr k xs hl
    exact ⟨us',ty,lo,hi,(hp _ (some_lt hb)).trans hb,a1,a2,a3,a4,a5,a6,fun i x hx j y hy u hu => (a7 i x hx j y hy u hu).ev E⟩
  · obtain ⟨fn,us',hb,hr,hd⟩ := I.loop l st pend ts ps assign body dl hl
    exact ⟨fn,us',(hp _ (some_lt hb)).trans hb,hr.ev E,hd⟩
  · exact (hp _ (some_lt (I.dfd l shut hl))).trans (I.dfd l shut hl)
def itoaF (n : Int) : List UInt8 := if n < 0 then 45 :: digF 20 n.natAbs else digF 20 n.toNat
theorem dec_dig : ∀ (f u : Nat),1 ≤ f → u < 10 ^ f → Lib.decDigits u = digF f u
  | 0,u,h,_ => by omega
  | f + 1,u,_,h2 => by
    rw [Lib.decDigits,digF]
    split
    · rfl
    · rename_i h10
      rw [Nat.pow_succ] at h2
      have hf : 1 ≤ f := by
        cases f with
        | zero => simp at h2; omega
        | succ f => omega
      rw [dec_dig f (u / 10) hf (by omega)]
theorem itoa_F {n : Int} (h0 : -9223372036854775808 ≤ n) (h1 : n ≤ 9223372036854775807) : Lib.itoa n = itoaF n := by
  unfold Lib.itoa itoaF
  split
  · rw [dec_dig 20 _ (by omega) (by omega)]
  · rw [dec_dig 20 _ (by omega) (by omega)]
theorem itoaF_nat {m : Nat} : itoaF (m : Int) = digB m := by
  unfold itoaF digB
  rw [if_neg (by omega)]; simp
def extI (k : Nat) : FuncId → List V → Option V := fun f xs => if f = k then match xs with
  | [.sc (.int .i64 n)] => if -9223372036854775808 ≤ n ∧ n ≤ 9223372036854775807 then some (tV (itoaF n)) else none
  | _ => none
  else none
theorem xok {k : Nat} (hT : T.ext = extI k) (hk : Known P k) (ht : ∀ w : World, TBP (fun b => w.heap[b]?) → Lib.TabIs P w "internal/strconv.uint64pow10" .u64 Lib.pow10Tab)
    (hc : ∀ (n : Int) (w : World), -9223372036854775808 ≤ n → n ≤ 9223372036854775807 → Lib.TabIs P w "internal/strconv.uint64pow10" .u64 Lib.pow10Tab →
      Calls P k #[.int .i64 n] w fun e w' => e = .returned (.string ⟨(Lib.itoa n).toArray⟩) ∧ ∃ k os,w' = Go.Sort.grow (w.drewN k) os) : XOk P T := by
  intro f xs y h
  rw [hT] at h
  unfold extI at h
  split at h
  · rename_i hf
    subst hf
    split at h
    · rename_i n
      split at h
      · rename_i hn
        cases h
        refine ⟨hk,fun w g o us I hx => ?_⟩
        have hus : us = #[.int .i64 n] := by
          have h1 := hx.1
          obtain ⟨l⟩ := us
          match l,h1,hx with
          | [u],_,hx =>
            have := hx.2 0 (.sc (.int .i64 n)) rfl u rfl
            cases this with
            | sc hp => rfl
        subst hus
        refine (callsIn_wide (n := 0)).2 ((hc n w hn.1 hn.2 (ht w I.tab.1)).mono fun e w' he => ?_)
        obtain ⟨rfl,q,os,rfl⟩ := he
        obtain ⟨T1,I1⟩ := grow_tr I q os
        exact ⟨_,_,o,g,rfl,T1,I1,by rw [itoa_F hn.1 hn.2]; exact .sc rfl,rfl,rfl⟩
      · cases h
    · cases h
  · cases h
theorem tab_of {w : World} (hg : P.globalNamed "internal/strconv.uint64pow10" = some 0) {ty : TypeId} {fr : Nat × Nat} (h : w.heap[0]? = some (.cells (Lib.pow10Tab.map fun z => Value.int .u64 z).toArray ty fr)) :
    Lib.TabIs P w "internal/strconv.uint64pow10" .u64 Lib.pow10Tab := by
  unfold Lib.TabIs World.var?
  rw [hg,Option.bind_some,h]
theorem tab_to {w : World} (hg : P.globalNamed "internal/strconv.uint64pow10" = some 0) (h : Lib.TabIs P w "internal/strconv.uint64pow10" .u64 Lib.pow10Tab) :
    ∃ ty fr,w.heap[0]? = some (.cells (Lib.pow10Tab.map fun z => Value.int .u64 z).toArray ty fr) := by
  unfold Lib.TabIs World.var? at h
  rw [hg,Option.bind_some] at h
  split at h
  · rename_i cs ty fr e
    rw [Option.some.inj h] at e
    exact ⟨ty,fr,e⟩
  · cases h
theorem extI_p {k : Nat} (hT : T.ext = extI k) (hcf : T.cf k = none) {n : Int} (h0 : -9223372036854775808 ≤ n) (h1 : n ≤ 9223372036854775807) : PFn P T k [iV n] fun z => z = tV (itoaF n) := by
  intro yi hy
  refine Call.step hy ?_
  unfold evBody
  rw [hcf]
  dsimp only
  have : T.ext k [iV n] = some (tV (itoaF n)) := by
    rw [hT]; unfold extI
    rw [if_pos rfl]
    dsimp only
    rw [if_pos ⟨h0,h1⟩]
  rw [this]
  exact ⟨_,_,frzT_free rfl,rfl⟩
end Go.Proofs.Pe
end

section
namespace Go.Proofs
open Go.Shelf
def Tryd.laysI_ren : Go.Shelf.Ren := ⟨fun | 171 => 47 | 243 => 63 | 246 => 75 | 283 => 81 | 284 => 82 | 285 => 83 | 286 => 84 | 129 => 93 | 317 => 92 | 318 => 94 | 319 => 95 | 320 => 96 | 337 => 100 | 338 => 101 | n => n,fun | 3 => 3 | 9 => 9 | 2 => 2 | 4 => 4 | 171 => 108 | 0 => 0 | 53 => 109 | 37 => 93 | 5 => 5 | 173 => 112 | 212 => 120 | 51 => 121 | 20 => 20 | 213 => 122 | 46 => 123 | 232 => 137 | 233 => 138 | n => n,fun | 17 => 0 | 18 => 3 | 19 => 4 | n => n⟩
theorem Tryd.laysI : Go.Proofs.LaysM.n171 Tryd.prog Tryd.laysI_ren := {
  mixed := by kernel_rfl
  f129 := Tryd.func93.trans (congrArg some (by kernel_rfl))
  f171 := Tryd.func47.trans (congrArg some (by kernel_rfl))
  f243 := Tryd.func63.trans (congrArg some (by kernel_rfl))
  f246 := Tryd.func75.trans (congrArg some (by kernel_rfl))
  f283 := Tryd.func81.trans (congrArg some (by kernel_rfl))
  f284 := Tryd.func82.trans (congrArg some (by kernel_rfl))
  f285 := Tryd.func83.trans (congrArg some (by kernel_rfl))
  f286 := Tryd.func84.trans (congrArg some (by kernel_rfl))
  f317 := Tryd.func92.trans (congrArg some (by kernel_rfl))
  f318 := Tryd.func94.trans (congrArg some (by kernel_rfl))
  f319 := Tryd.func95.trans (congrArg some (by kernel_rfl))
  f320 := Tryd.func96.trans (congrArg some (by kernel_rfl))
  f337 := Tryd.func100.trans (congrArg some (by kernel_rfl))
  f338 := Tryd.func101.trans (congrArg some (by kernel_rfl))
  t0 := Tryd.underlying0
  a0 := Tryd.isAgg0
  z0 := Tryd.sizeOf0
  v0 := Tryd.zeroValue0
  t2 := Tryd.underlying2
  a2 := Tryd.isAgg2
  z2 := Tryd.sizeOf2
  v2 := Tryd.zeroValue2
  t3 := Tryd.underlying3
  a3 := Tryd.isAgg3
  z3 := Tryd.sizeOf3
  v3 := Tryd.zeroValue3
  t4 := Tryd.underlying4
  a4 := Tryd.isAgg4
  z4 := Tryd.sizeOf4
  v4 := Tryd.zeroValue4
  t5 := Tryd.underlying5
  a5 := Tryd.isAgg5
  z5 := Tryd.sizeOf5
  v5 := Tryd.zeroValue5
  t9 := Tryd.underlying9
  a9 := Tryd.isAgg9
  z9 := Tryd.sizeOf9
  v9 := Tryd.zeroValue9
  t20 := Tryd.underlying20
  a20 := Tryd.isAgg20
  z20 := Tryd.sizeOf20
  v20 := Tryd.zeroValue20
  t37 := Tryd.underlying93
  a37 := Tryd.isAgg93
  z37 := Tryd.sizeOf93
  v37 := Tryd.zeroValue93
  t46 := Tryd.underlying123
  a46 := Tryd.isAgg123
  z46 := Tryd.sizeOf123
  v46 := Tryd.zeroValue123
  t51 := Tryd.underlying121
  a51 := Tryd.isAgg121
  z51 := Tryd.sizeOf121
  v51 := Tryd.zeroValue121
  t53 := Tryd.underlying109
  a53 := Tryd.isAgg109
  z53 := Tryd.sizeOf109
  v53 := Tryd.zeroValue109
  t171 := Tryd.underlying108
  a171 := Tryd.isAgg108
  z171 := Tryd.sizeOf108
  v171 := Tryd.zeroValue108
  t173 := Tryd.underlying112
  a173 := Tryd.isAgg112
  z173 := Tryd.sizeOf112
  v173 := Tryd.zeroValue112
  t212 := Tryd.underlying120
  a212 := Tryd.isAgg120
  z212 := Tryd.sizeOf120
  v212 := Tryd.zeroValue120
  t213 := Tryd.underlying122
  a213 := Tryd.isAgg122
  z213 := Tryd.sizeOf122
  t232 := Tryd.underlying137
  a232 := Tryd.isAgg137
  z232 := Tryd.sizeOf137
  v232 := Tryd.zeroValue137
  t233 := Tryd.underlying138
  a233 := Tryd.isAgg138
  z233 := Tryd.sizeOf138
  v233 := Tryd.zeroValue138
  g17 := by kernel_rfl
  g18 := by kernel_rfl
  g19 := by kernel_rfl
  i0 := by kernel_rfl
  i2 := by kernel_rfl
  i3 := by kernel_rfl
  i4 := by kernel_rfl
  i5 := by kernel_rfl
  i9 := by kernel_rfl
  i20 := by kernel_rfl
  i37 := by kernel_rfl
  i46 := by kernel_rfl
  i51 := by kernel_rfl
  i53 := by kernel_rfl
  i171 := by kernel_rfl
  i173 := by kernel_rfl
  i212 := by kernel_rfl
  i232 := by kernel_rfl
  i233 := by kernel_rfl
  m17 := by kernel_rfl
  m18 := by kernel_rfl
  m19 := by kernel_rfl }
end Go.Proofs
end

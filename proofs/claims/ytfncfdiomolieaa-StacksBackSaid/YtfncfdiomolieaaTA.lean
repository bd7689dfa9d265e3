/- Parts of the texts that the claim's proof needs: functions of the program as the evaluator reads them, and what they come to. Conditions: those that its theorems state. -/
import Derived.Test.YtfncfdiomolieaaPeD

section
set_option linter.unusedVariables false
namespace Go.Proofs.Pe
variable {P : Program} {T : Tab} {ca : Ca} {yi : Nat → Sem'}

/-! ### Calls to which objects are handed over (mode 5) -/
def outI (n : Nat) (N : List Nat) (i : Nat) : Option Nat := if i < n then some i else if i ∈ N then some (n + N.idxOf i) else none
def outT (S : List Nat) (n m i : Nat) : Option Nat := if i < n then S[i]? else some (m + (i - n))
def Fin5 (n : Nat) (y : V) (o' : List O) (z : V) (os' : List O) : Prop :=
  ∃ z0 o2 N,(freezeT o' y = some (z0,o2) ∨ (y = z0 ∧ o' = o2)) ∧ N.Nodup ∧ (∀ i ∈ N,n ≤ i) ∧ z0.mv (outI n N) = some z ∧
    mapO (fun i => (o2[i]?).bind (mvO (outI n N))) (List.range n ++ N) = some os'
def SFn (P : Program) (T : Tab) (f : FuncId) (xs : List V) (os : List O) (Q : V → List O → Prop) : Prop :=
  ∀ yi,YLe yi yi → Call P T yi f xs os fun y o' => ∃ z os',Fin5 os.length y o' z os' ∧ Q z os'

theorem mapO_comp {α β γ : Type} {f : α → Option β} {g : β → Option γ} {h : α → Option γ} (hh : ∀ x y z,f x = some y → g y = some z → h x = some z) : ∀ {xs : List α} {ys : List β} {zs : List γ},mapO f xs = some ys → mapO g ys = some zs → mapO h xs = some zs
  | [],ys,zs,h1,h2 => by simp [mapO] at h1; subst h1; exact h2
  | x :: xs,ys,zs,h1,h2 => by
    simp only [mapO] at h1
    split at h1
    · cases h1
    · rename_i y e1
      split at h1
      · cases h1
      · rename_i ys' e2
        cases h1
        simp only [mapO] at h2
        split at h2
        · cases h2
        · rename_i z e3
          split at h2
          · cases h2
          · rename_i zs' e4
            cases h2
            simp only [mapO,hh _ _ _ e1 e3,mapO_comp hh e2 e4]
theorem mv0_comp {ρ σ τ : Nat → Option Nat} (hh : ∀ i j k,ρ i = some j → σ j = some k → τ i = some k) (x y z : V) (h1 : x.mv0 ρ = some y) (h2 : y.mv0 σ = some z) : x.mv0 τ = some z := by
  cases x <;> simp only [V.mv0,Option.map_eq_some_iff] at h1
  case pt =>
    obtain ⟨l',e,rfl⟩ := h1
    simp only [V.mv0,Option.map_eq_some_iff] at h2 ⊢
    obtain ⟨l2,e2,rfl⟩ := h2
    exact ⟨_,hh _ _ _ e e2,rfl⟩
  case ar =>
    obtain ⟨l',e,rfl⟩ := h1
    simp only [V.mv0,Option.map_eq_some_iff] at h2 ⊢
    obtain ⟨l2,e2,rfl⟩ := h2
    exact ⟨_,hh _ _ _ e e2,rfl⟩
  all_goals
    split at h1
    · rename_i hf
      cases h1
      simp only [V.mv0,hf,if_true] at h2 ⊢
      exact h2
    · cases h1
theorem mv1_comp {ρ σ τ : Nat → Option Nat} (hh : ∀ i j k,ρ i = some j → σ j = some k → τ i = some k) (x y z : V) (h1 : x.mv1 ρ = some y) (h2 : y.mv1 σ = some z) : x.mv1 τ = some z := by
  unfold V.mv1 at h1
  split at h1
  · split at h1
    · rename_i as' bs' e1 e2
      cases h1
      unfold V.mv1 at h2
      simp only at h2
      split at h2
      · rename_i e3 e4
        cases h2
        simp only [V.mv1,mapO_comp (mv0_comp hh) e1 e3,mapO_comp (mv0_comp hh) e2 e4]
      · cases h2
    · cases h1
  · rename_i hne
    have hy : y.mv1 σ = y.mv0 σ := by
      cases x <;> simp only [V.mv0,Option.map_eq_some_iff] at h1
      case pt => obtain ⟨l',e,rfl⟩ := h1; rfl
      case ar => obtain ⟨l',e,rfl⟩ := h1; rfl
      case fn f as bs =>
        split at h1
        · cases h1
          unfold V.mv1
          split
          · rename_i e; exact absurd e (hne _ _ _)
          · rfl
        · cases h1
      all_goals (split at h1 <;> cases h1; rfl)
    rw [hy] at h2
    have := mv0_comp hh x y z h1 h2
    unfold V.mv1
    split
    · exact absurd rfl (hne _ _ _)
    · exact this
theorem mv2_comp {ρ σ τ : Nat → Option Nat} (hh : ∀ i j k,ρ i = some j → σ j = some k → τ i = some k) (x y z : V) (h1 : x.mv2 ρ = some y) (h2 : y.mv2 σ = some z) : x.mv2 τ = some z := by
  by_cases hx : ∃ cs,x = .agg cs
  · obtain ⟨cs,rfl⟩ := hx
    simp only [V.mv2,Option.map_eq_some_iff] at h1
    obtain ⟨ds,e1,rfl⟩ := h1
    simp only [V.mv2,Option.map_eq_some_iff] at h2 ⊢
    obtain ⟨es,e2,rfl⟩ := h2
    exact ⟨_,mapO_comp (mv1_comp hh) e1 e2,rfl⟩
  · have e : ∀ ρ,x.mv2 ρ = x.mv1 ρ := fun ρ => by
      unfold V.mv2; split
      · exact absurd ⟨_,rfl⟩ hx
      · rfl
    rw [e] at h1 ⊢
    have ho := (mv1_one h1).2
    have e2 : y.mv2 σ = y.mv1 σ := by
      unfold V.mv2; split
      · cases ho
      · rfl
    rw [e2] at h2
    exact mv1_comp hh x y z h1 h2
theorem mv_comp {ρ σ τ : Nat → Option Nat} (hh : ∀ i j k,ρ i = some j → σ j = some k → τ i = some k) (x y z : V) (h1 : x.mv ρ = some y) (h2 : y.mv σ = some z) : x.mv τ = some z := by
  by_cases hx : ∃ cs,x = .tup cs
  · obtain ⟨cs,rfl⟩ := hx
    simp only [V.mv,Option.map_eq_some_iff] at h1
    obtain ⟨ds,e1,rfl⟩ := h1
    simp only [V.mv,Option.map_eq_some_iff] at h2 ⊢
    obtain ⟨es,e2,rfl⟩ := h2
    exact ⟨_,mapO_comp (mv2_comp hh) e1 e2,rfl⟩
  · have e : ∀ ρ,x.mv ρ = x.mv2 ρ := fun ρ => by
      unfold V.mv; split
      · exact absurd ⟨_,rfl⟩ hx
      · rfl
    rw [e] at h1 ⊢
    have e2 : y.mv σ = y.mv2 σ := by
      unfold V.mv; split
      · exfalso
        by_cases ha : ∃ cs,x = .agg cs
        · obtain ⟨cs,rfl⟩ := ha
          simp only [V.mv2,Option.map_eq_some_iff] at h1
          obtain ⟨ds,_,h1⟩ := h1; cases h1
        · have e3 : x.mv2 ρ = x.mv1 ρ := by
            unfold V.mv2; split
            · exact absurd ⟨_,rfl⟩ ha
            · rfl
          rw [e3] at h1
          have := (mv1_one h1).2
          cases this
      · rfl
    rw [e2] at h2
    exact mv2_comp hh x y z h1 h2
theorem mvO_comp {ρ σ τ : Nat → Option Nat} (hh : ∀ i j k,ρ i = some j → σ j = some k → τ i = some k) (x y z : O) (h1 : mvO ρ x = some y) (h2 : mvO σ y = some z) : mvO τ x = some z := by
  cases x <;> simp only [mvO,Option.map_eq_some_iff] at h1
  case cells =>
    obtain ⟨ds,e1,rfl⟩ := h1
    simp only [mvO,Option.map_eq_some_iff] at h2 ⊢
    obtain ⟨es,e2,rfl⟩ := h2
    exact ⟨_,mapO_comp (mv1_comp hh) e1 e2,rfl⟩
  case arr =>
    obtain ⟨ds,e1,rfl⟩ := h1
    simp only [mvO,Option.map_eq_some_iff] at h2 ⊢
    obtain ⟨es,e2,rfl⟩ := h2
    exact ⟨_,mapO_comp (mv2_comp hh) e1 e2,rfl⟩
  all_goals cases h1
theorem out_comp {S N : List Nat} {m : Nat} (i j k : Nat) (h1 : outI S.length N i = some j) (h2 : outT S S.length m j = some k) : outS S N m i = some k := by
  unfold outI at h1
  unfold outT at h2
  unfold outS
  split at h1
  · rename_i h; cases h1; rw [if_pos h] at h2 ⊢; exact h2
  · rename_i h
    rw [if_neg h]
    split at h1
    · rename_i hm; cases h1
      rw [if_neg (by omega)] at h2
      rw [if_pos hm]; cases h2; congr 1; omega
    · cases h1

theorem SFn.call {f : FuncId} {as bs xs ys zs : List V} {o o1 os : List O} {S : List Nat} {Q : V → List O → Prop} {K : V → List O → Prop} (h : SFn P T f zs os Q) (hm : T.mode f = 5 ∨ T.mode f = 6)
    (hc : evCallV.hand (T.mode f) o (as ++ xs ++ bs) = some (ys,o1)) (hn : S.Nodup) (hz : mapO (V.mv2 (inS S)) ys = some zs) (hos : mapO (fun l => (o1[l]?).bind (mvO (inS S))) S = some os)
    (hK : ∀ z os',Q z os' → ∃ z' os'',z.mv (outT S S.length o1.length) = some z' ∧ mapO (mvO (outT S S.length o1.length)) os' = some os'' ∧ K z' (putS o1 S os'' ++ os''.drop S.length)) :
    evCallV T (Call P T) yi (.fn (.func f) as bs) xs o K := by
  have h1 : ¬ T.mode f < 2 := by omega
  have h2 : ¬ T.mode f = 3 := by omega
  have h3 : ¬ T.mode f = 2 := by omega
  simp only [evCallV]
  rw [if_neg h1,if_neg h2,if_neg h3,if_pos hm,hc]
  refine ⟨S,zs,os,hn,hz,hos, ?_⟩
  refine call_le _ _ f (fun _ _ _ _ _ _ h => h) _ _ _ _ (fun y o' hy => ?_) (h _ (fun _ _ _ _ _ _ h => h))
  obtain ⟨z,os',⟨z0,o2,N,a1,a2,a3,a4,a5⟩,hq⟩ := hy
  obtain ⟨z',os'',b1,b2,b3⟩ := hK z os' hq
  have hl := mapO_len hos
  rw [hl] at a3 a4 a5
  exact ⟨z0,o2,N,z',os'',a1,a2,a3,mv_comp out_comp _ _ _ a4 b1,mapO_comp (f := fun i => (o2[i]?).bind (mvO (outI S.length N))) (g := mvO (outT S S.length o1.length)) (fun i y z e1 e2 => by
    simp only [Option.bind_eq_some_iff] at e1 ⊢
    obtain ⟨ob,e3,e4⟩ := e1
    exact ⟨ob,e3,mvO_comp out_comp _ _ _ e4 e2⟩) a5 b2,b3⟩

theorem mv0_free {ρ : Nat → Option Nat} {x : V} (h : x.free1 = true) : x.mv0 ρ = some x := by
  cases x <;> simp_all [V.mv0,V.free1]
theorem mapO_id {α : Type} {f : α → Option α} : ∀ {xs : List α},(∀ x ∈ xs,f x = some x) → mapO f xs = some xs
  | [],h => rfl
  | x :: xs,h => by
    have ih : mapO f xs = some xs := mapO_id fun y hy => h y (List.mem_cons_of_mem _ hy)
    simp only [mapO,h x (by simp),ih]
theorem mv1_free {ρ : Nat → Option Nat} {x : V} (h : x.free1 = true) : x.mv1 ρ = some x := by
  unfold V.mv1
  split
  · rename_i f as bs
    have e : as = [] ∧ bs = [] := by cases as <;> cases bs <;> simp_all [V.free1]
    obtain ⟨rfl,rfl⟩ := e
    rfl
  · exact mv0_free h
theorem mv2_free {ρ : Nat → Option Nat} {x : V} (h : x.free = true) : x.mv2 ρ = some x := by
  unfold V.mv2
  split
  · rename_i cs
    simp only [V.free,List.all_eq_true] at h
    rw [mapO_id (fun y hy => mv1_free (h y hy))]; rfl
  · exact mv1_free (by cases x <;> first | exact h | (rename_i hne; exact absurd rfl (hne _)))
theorem mv_free {ρ : Nat → Option Nat} {x : V} (h : x.freeT = true) : x.mv ρ = some x := by
  unfold V.mv
  split
  · rename_i cs
    simp only [V.freeT,List.all_eq_true] at h
    rw [mapO_id (fun y hy => mv2_free (h y hy))]; rfl
  · exact mv2_free (by cases x <;> first | exact h | (rename_i hne; exact absurd rfl (hne _)))
theorem mvC_free {ρ : Nat → Option Nat} {cs : List V} (h : cs.all V.free1 = true) : mvO ρ (.cells cs) = some (.cells cs) := by
  simp only [List.all_eq_true] at h
  simp only [mvO]; rw [mapO_id (fun y hy => mv1_free (h y hy))]; rfl

theorem SFn.call1 {f : FuncId} {xs : List V} {o : List O} {l : Nat} {cs : List V} {Q : V → List O → Prop} {K : V → List O → Prop} (h : SFn P T f (.pt 0 0 :: xs) [.cells cs] Q) (hm : T.mode f = 5)
    (hx : ∀ x ∈ xs,x.free = true) (hl : o[l]? = some (.cells cs)) (hcs : cs.all V.free1 = true)
    (hK : ∀ z os',Q z os' → ∃ cs',os' = [.cells cs'] ∧ cs'.all V.free1 = true ∧ z.freeT = true ∧ K z (o.set l (.cells cs'))) :
    evCallV T (Call P T) yi (.fn (.func f) [] []) (.pt l 0 :: xs) o K := by
  have hc : evCallV.commits' o xs = some (xs,o) := by
    clear h hK
    induction xs with
    | nil => rfl
    | cons x xs ih => exact cm_free (hx x (by simp)) (ih fun y hy => hx y (by simp [hy]))
  refine h.call (S := [l]) (ys := .pt l 0 :: xs) (o1 := o) (.inl hm) (by rw [hm]; simpa [evCallV.hand] using cm_pt hc) (by simp) ?_ ?_ fun z os' hq => ?_
  · simp only [mapO,V.mv2,V.mv1,V.mv0,inS,List.mem_singleton,if_true,List.idxOf_cons_self,Option.map_some]
    rw [mapO_id (fun y hy => mv2_free (hx y hy))]
  · simp only [mapO,hl,Option.bind_some,mvC_free hcs]
  · obtain ⟨cs',rfl,h1,h2,h3⟩ := hK z os' hq
    exact ⟨z,[.cells cs'],mv_free h2,by simp only [mapO,mvC_free h1],by simpa [putS] using h3⟩
theorem fin1 {z : V} {cs : List V} {r : List O} (h1 : cs.all V.free1 = true) (h2 : z.freeT = true) : Fin5 1 z (.cells cs :: r) z [.cells cs] :=
  ⟨z,.cells cs :: r,[],.inr ⟨rfl,rfl⟩,by simp,by simp,mv_free h2,by simp [mapO,mvC_free h1]⟩
theorem fin1F {y z : V} {cs cs2 : List V} {r r2 : List O} (hz : freezeT (.cells cs :: r) y = some (z,.cells cs2 :: r2)) (h1 : cs2.all V.free1 = true) (h2 : z.freeT = true) : Fin5 1 y (.cells cs :: r) z [.cells cs2] :=
  ⟨z,.cells cs2 :: r2,[],.inl hz,by simp,by simp,mv_free h2,by simp [mapO,mvC_free h1]⟩
end Go.Proofs.Pe
end

section
set_option linter.unusedVariables false
namespace Go.Proofs.Pe
variable {P : Program} {T : Tab} {ca : Ca} {yi : Nat → Sem'}

/-! ### A row behind all that stands in the store: nil, or an array at the end -/
def Tail (n k : Nat) (rv : V) (vs : List V) (tl : List O) : Prop := (rv = nilV ∧ vs = [] ∧ tl = []) ∨ ∃ v wr,rv = .ar n v ∧ tl = [.arr v wr k vs]
theorem Tail.row {n k : Nat} {rv : V} {vs : List V} {tl : List O} (h : Tail n k rv vs tl) {o : List O} (hn : o.length = n) : rowOf (o ++ tl) rv = some vs := by
  rcases h with ⟨rfl,rfl,rfl⟩ | ⟨v,wr,rfl,rfl⟩
  · rfl
  · simp [rowOf,← hn]
theorem Tail.push {n k b : Nat} {rv : V} {vs : List V} {tl : List O} (h : Tail n k rv vs tl) {f : Bool} {y : V} (hk : okRow k [y]) (hr : (vs.length + 1) * b ≤ room) {o : List O} (hn : o.length = n) :
    ∃ rv' tl',appOf k b (o ++ tl) rv (.sl k f [y]) = some (rv',o ++ tl') ∧ Tail n k rv' (vs ++ [y]) tl' := by
  rcases h with ⟨rfl,rfl,rfl⟩ | ⟨v,wr,rfl,rfl⟩
  · refine ⟨_,_, ?_,.inr ⟨0,true,rfl,rfl⟩⟩
    rw [List.append_nil,ap_nil rfl hk (by simp) (by simpa using hr),hn]; rfl
  · refine ⟨_,_, ?_,.inr ⟨v + 1,wr,rfl,rfl⟩⟩
    have hg : (o ++ [O.arr v wr k vs])[n]? = some (.arr v wr k vs) := by simp [← hn]
    rw [ap_ar hg (y := .sl k f [y]) rfl hk (by simp) hr]
    simp [← hn]
theorem Tail.frz1 {n k : Nat} {rv : V} {vs : List V} {tl : List O} (h : Tail n k rv vs tl) (hf : vs.all V.free = true) {o : List O} (hn : o.length = n) : ∃ w tl',freeze1 (o ++ tl) rv = some (w,o ++ tl') ∧ IsSl k w vs := by
  rcases h with ⟨rfl,rfl,rfl⟩ | ⟨v,wr,rfl,rfl⟩
  · exact ⟨nilV,[],rfl,.inl ⟨rfl,rfl⟩⟩
  · exact ⟨.sl k false vs,[.arr v false k vs],by simp [freeze1,← hn,hf],.inr ⟨_,rfl⟩⟩
theorem Tail.frzD {n k : Nat} {rv : V} {vs : List V} {tl : List O} (h : Tail n k rv vs tl) (hf : vs.all V.free = true) {o : List O} (hn : o.length = n) : ∃ w tl',freezeD (o ++ tl) rv = some (w,o ++ tl') ∧ IsSl k w vs := by
  rcases h with ⟨rfl,rfl,rfl⟩ | ⟨v,wr,rfl,rfl⟩
  · exact ⟨nilV,[],rfl,.inl ⟨rfl,rfl⟩⟩
  · exact ⟨.sl k false vs,[.arr v false k vs],by simp [freezeD,← hn,hf],.inr ⟨_,rfl⟩⟩
theorem Tail.frz {n k : Nat} {rv : V} {vs : List V} {tl : List O} (h : Tail n k rv vs tl) (hf : vs.all V.free = true) {o : List O} (hn : o.length = n) : ∃ w tl',freeze (o ++ tl) rv = some (w,o ++ tl') ∧ IsSl k w vs := by
  rcases h with ⟨rfl,rfl,rfl⟩ | ⟨v,wr,rfl,rfl⟩
  · exact ⟨nilV,[],rfl,.inl ⟨rfl,rfl⟩⟩
  · exact ⟨.sl k false vs,[.arr v false k vs],by simp [freeze,freeze1,← hn,hf],.inr ⟨_,rfl⟩⟩
theorem Tail.shape {n k : Nat} {rv : V} {vs : List V} {tl : List O} (h : Tail n k rv vs tl) : rv.one = true ∧ rv.cells = [rv] ∧ rv.solid = true := by
  rcases h with ⟨rfl,rfl,rfl⟩ | ⟨v,wr,rfl,rfl⟩ <;> exact ⟨rfl,rfl,rfl⟩
theorem Tail.nil (n k : Nat) : Tail n k nilV [] [] := .inl ⟨rfl,rfl,rfl⟩
theorem freeT_of {z : V} (h : z.free = true) : z.freeT = true := by cases z <;> first | exact h | cases h
theorem frzT_ag {o o' : List O} {cs ds : List V} (h : freezes o cs = some (ds,o')) : freezeT o (.agg cs) = some (.agg ds,o') := by rw [frzT_agg,h]; rfl
end Go.Proofs.Pe
end

section
set_option linter.unusedVariables false
namespace Go.Proofs.Pe
variable {P : Program} {T : Tab} {ca : Ca} {yi : Nat → Sem'}

/-! ### Objects that go along: words for simp -/
section
variable {ρ : Nat → Option Nat}
theorem mv2_pt {l a : Nat} : (V.pt l a).mv2 ρ = (ρ l).map fun l' => .pt l' a := rfl
theorem mv2_ar {l v : Nat} : (V.ar l v).mv2 ρ = (ρ l).map fun l' => .ar l' v := rfl
theorem mv1_ar {l v : Nat} : (V.ar l v).mv1 ρ = (ρ l).map fun l' => .ar l' v := rfl
theorem mv_pt {l a : Nat} : (V.pt l a).mv ρ = (ρ l).map fun l' => .pt l' a := rfl
theorem mv_ar {l v : Nat} : (V.ar l v).mv ρ = (ρ l).map fun l' => .ar l' v := rfl
theorem mv2_sc {v : Value} : (V.sc v).mv2 ρ = some (.sc v) := mv2_free rfl
theorem mvO_c {cs : List V} : mvO ρ (.cells cs) = (mapO (V.mv1 ρ) cs).map .cells := rfl
theorem mvO_f {v k : Nat} {wr : Bool} {xs : List V} (h : xs.all V.free = true) : mvO ρ (.arr v wr k xs) = some (.arr v wr k xs) := by
  simp only [List.all_eq_true] at h
  simp only [mvO]; rw [mapO_id (fun y hy => mv2_free (h y hy))]; rfl
theorem mvO_a {v k : Nat} {wr : Bool} {xs : List V} : mvO ρ (.arr v wr k xs) = (mapO (V.mv2 ρ) xs).map (.arr v wr k) := rfl
theorem mapO_cons {α β : Type} {f : α → Option β} {x : α} {xs : List α} {y : β} (h : f x = some y) : mapO f (x :: xs) = (mapO f xs).map (y :: ·) := by
  simp only [mapO,h]; cases mapO f xs <;> rfl
end
theorem bl_free (E : List Bool) : ((E.map bV).all V.free) = true := by simp [List.all_eq_true,V.free,V.free1]
theorem bl_set {E : List Bool} {i : Nat} {b : Bool} : (E.map bV).set i (bV b) = (E.set i b).map bV := by rw [List.map_set]
def idO (n : Nat) (i : Nat) : Option Nat := if i < n then some i else none
theorem fin_id {n : Nat} {z : V} {os r : List O} (hn : os.length = n) (hz : z.mv (idO n) = some z) (hos : mapO (mvO (idO n)) os = some os) : Fin5 n z (os ++ r) z os := by
  have e : outI n [] = idO n := by funext i; simp [outI,idO]
  refine ⟨z,os ++ r,[],.inr ⟨rfl,rfl⟩,by simp,by simp,by rw [e]; exact hz, ?_⟩
  rw [e,List.append_nil]
  subst hn
  have key : ∀ (f : O → Option O) (xs ys : List O),mapO f xs = some ys → ∀ (pre : List O),mapO (fun i => ((pre ++ xs ++ r)[i]?).bind f) (List.range' pre.length xs.length) = some ys := by
    intro f xs
    induction xs with
    | nil => intro ys h pre; simp [mapO] at h; subst h; rfl
    | cons x xs ih =>
      intro ys h pre
      simp only [mapO] at h
      split at h
      · cases h
      · rename_i y hy
        split at h
        · cases h
        · rename_i ys' hys
          cases h
          have := ih ys' hys (pre ++ [x])
          simp only [List.length_append,List.length_cons,List.length_nil,Nat.zero_add,List.append_assoc,List.cons_append,List.nil_append] at this
          rw [show (x :: xs).length = xs.length + 1 from rfl,List.range'_succ]
          have e1 : (pre ++ x :: xs ++ r)[pre.length]? = some x := by simp
          have e2 : pre ++ x :: xs ++ r = pre ++ x :: (xs ++ r) := by simp
          simp only [mapO,e1,Option.bind_some,hy]
          rw [e2,this]
  have := key _ os os hos []
  simpa [List.range_eq_range'] using this
end Go.Proofs.Pe
end

section
set_option linter.unusedVariables false
namespace Go.Proofs.Pe
variable {P : Program} {T : Tab} {ca : Ca} {yi : Nat → Sem'}
theorem outT_nil {m i : Nat} : outT [] 0 m i = some (m + i) := by simp [outT]
theorem SFn.call0 {f : FuncId} {xs : List V} {o : List O} {Q : V → List O → Prop} {K : V → List O → Prop} (h : SFn P T f xs [] Q) (hm : T.mode f = 5) (hx : ∀ x ∈ xs,x.free = true)
    (hK : ∀ z os',Q z os' → ∃ z' os'',z.mv (fun i => some (o.length + i)) = some z' ∧ mapO (mvO (fun i => some (o.length + i))) os' = some os'' ∧ K z' (o ++ os'')) :
    evCallV T (Call P T) yi (.fn (.func f) [] []) xs o K := by
  have hc : evCallV.commits' o xs = some (xs,o) := by
    clear h hK
    induction xs with
    | nil => rfl
    | cons x xs ih => exact cm_free (hx x (by simp)) (ih fun y hy => hx y (by simp [hy]))
  refine h.call (S := []) (ys := xs) (o1 := o) (.inl hm) (by rw [hm]; simpa [evCallV.hand] using hc) (by simp) (mapO_id fun y hy => mv2_free (hx y hy)) rfl fun z os' hq => ?_
  obtain ⟨z',os'',h1,h2,h3⟩ := hK z os' hq
  have e : outT [] ([] : List Nat).length o.length = fun i => some (o.length + i) := by funext i; exact outT_nil
  refine ⟨z',os'',by rw [e]; exact h1,by rw [e]; exact h2, ?_⟩
  have : putS o [] os'' ++ os''.drop ([] : List Nat).length = o ++ os'' := by cases os'' <;> rfl
  rw [this]; exact h3
theorem ix_ar {k : Nat} {o : List O} {l v n : Nat} {wr : Bool} {xs : List V} (h : o[l]? = some (.arr v wr k xs)) (hn : n < xs.length) : ixOf k o (.ar l v) (iV n) = some (.pa l v n 0,o) := by
  simp [ixOf,intOf,h,hn]
theorem outI_at {N : List Nat} (hn : N.Nodup) {i k : Nat} (h : N[i]? = some k) : outI 0 N k = some i := by
  have h2 := inS_mk hn h
  unfold inS at h2
  unfold outI
  rw [if_neg (by omega)]
  split at h2
  · rename_i hm; rw [if_pos hm]; cases h2; congr 1; omega
  · cases h2
theorem mapO_of {α β : Type} {f : α → Option β} : ∀ {xs : List α} {ys : List β},ys.length = xs.length → (∀ (i : Nat) (x : α) (y : β),xs[i]? = some x → ys[i]? = some y → f x = some y) → mapO f xs = some ys
  | [],ys,hl,_ => by cases ys <;> first | rfl | simp at hl
  | x :: xs,[],hl,_ => by simp at hl
  | x :: xs,y :: ys,hl,h => by
    rw [mapO_cons (h 0 x y rfl rfl),mapO_of (by simpa using hl) fun i x' y' h1 h2 => h (i + 1) x' y' (by simpa using h1) (by simpa using h2)]; rfl
end Go.Proofs.Pe
end

section
set_option linter.unusedVariables false
namespace Go.Proofs.Pe
variable {P : Program} {T : Tab} {ca : Ca} {yi : Nat → Sem'}
/-! ### A shift -/
theorem vi (k : IntKind) (a : Int) : toVal (.sc (.int k a)) = some (.int k a) := rfl
theorem sca_shr {t tr : TypeId} {x y : Nat} {op : Oper} {ts : List V} {o : List O} {a b : Int} (ho : op.op = .binOp .shr t (.tmp x) (.tmp y) tr)
    (hx : ts.getD x .dead = iV a) (hy : ts.getD y .dead = .sc (.int .u64 b)) (hb : 0 ≤ b) : step P ⟨ts,o⟩ (.sca op) = some (iV (a.fdiv (2 ^ (min b.toNat 64))),o) := by
  have e1 : scEnv ⟨ts,o⟩ (.tmp x) = some (.int .i64 a) := by
    show (some (E.tmp x)).bind _ = _
    simp only [Option.bind_some,E.ev,hx,vi]
  have e2 : scEnv ⟨ts,o⟩ (.tmp y) = some (.int .u64 b) := by
    show (some (E.tmp y)).bind _ = _
    simp only [Option.bind_some,E.ev,hy,vi]
  refine sca_of (v := .int .i64 (a.fdiv (2 ^ (min b.toNat 64)))) (fun z hz => ?_) ?_ rfl
  · rw [ho] at hz
    simp [Op.operands] at hz
    rcases hz with rfl | rfl
    · rw [e1]; rfl
    · rw [e2]; rfl
  · simp only [execOp,ho,getD_sc e1,getD_sc e2]
    show pureRun P ((eqGuard _ _ _ _ _ _ >>= fun _ => binOp _ _ _ _) >>= fun r => pure (Next.value r)) = _
    have h1 : pureRun P (eqGuard .shr t (.tmp x) (.tmp y) (.int .i64 a) (.int .u64 b)) = some () := rfl
    have h2 : pureRun P (binOp .shr t (.int .i64 a) (.int .u64 b)) = some (.int .i64 (a.fdiv (2 ^ (min b.toNat 64)))) := by
      show pureRun P (Op.shift .shr .i64 a .u64 b) = _
      unfold Op.shift
      rw [if_neg (by omega)]
      rfl
    have h3 : pureRun P (eqGuard .shr t (.tmp x) (.tmp y) (.int .i64 a) (.int .u64 b) >>= fun _ => binOp .shr t (.int .i64 a) (.int .u64 b)) = some (.int .i64 (a.fdiv (2 ^ (min b.toNat 64)))) := by
      rw [pureRun_bind2 h1]; exact h2
    rw [pureRun_bind2 h3]; rfl
theorem q_shr {t : List V} {o : List O} {K : V → List O → Prop} {op : Oper} {tt tr : TypeId} {x y : Nat} {a b : Int} (ho : op.op = .binOp .shr tt (.tmp x) (.tmp y) tr)
    (hx : t.getD x .dead = iV a) (hy : t.getD y .dead = .sc (.int .u64 b)) (hb : 0 ≤ b) : evK P T ca yi (.sca op) t o K = K (iV (a.fdiv (2 ^ (min b.toNat 64)))) o := by
  rw [q_sca,sca_shr ho hx hy hb]; rfl
theorem u64_nonneg (n : Int) : 0 ≤ IntKind.u64.wrap n := by
  unfold IntKind.wrap
  simp [IntKind.bits,IntKind.signed]
  omega
theorem SFn.callP {f : FuncId} {xs zs : List V} {o : List O} {l : Nat} {cs : List V} {Q : V → List O → Prop} {K : V → List O → Prop} (h : SFn P T f zs [.cells cs] Q) (hm : T.mode f = 5)
    (hc : evCallV.commits' o xs = some (xs,o)) (hz : mapO (V.mv2 (inS [l])) xs = some zs) (hl : o[l]? = some (.cells cs)) (hcs : cs.all V.free1 = true)
    (hK : ∀ z os',Q z os' → ∃ cs',os' = [.cells cs'] ∧ cs'.all V.free1 = true ∧ z.freeT = true ∧ K z (o.set l (.cells cs'))) :
    evCallV T (Call P T) yi (.fn (.func f) [] []) xs o K := by
  refine h.call (S := [l]) (ys := xs) (o1 := o) (.inl hm) (by rw [hm]; simpa [evCallV.hand] using hc) (by simp) hz ?_ fun z os' hq => ?_
  · simp only [mapO,hl,Option.bind_some,mvC_free hcs]
  · obtain ⟨cs',rfl,h1,h2,h3⟩ := hK z os' hq
    exact ⟨z,[.cells cs'],mv_free h2,by simp only [mapO,mvC_free h1],by simpa [putS] using h3⟩
theorem in1 {l : Nat} : inS [l] l = some 0 := by simp [inS]
/-! ### Appends of one, in a run -/
theorem oKa_nil {k b : Nat} {o : List O} {f : Bool} {y : V} {K : V → List O → Prop} (hk : okRow k [y]) (hr : 1 * b ≤ room) (h : K (.ar o.length 0) (o ++ [O.arr 0 true k [y]])) : oK (appOf k b o nilV (.sl k f [y])) K := by
  rw [ap_nil rfl hk (by simp) hr]; exact h
theorem oKa_ar {k b : Nat} {o : List O} {f wr : Bool} {l v : Nat} {y : V} {xs : List V} {K : V → List O → Prop} (hl : o[l]? = some (.arr v wr k xs)) (hk : okRow k [y]) (hr : (xs.length + 1) * b ≤ room)
    (h : K (.ar l (v + 1)) (o.set l (O.arr (v + 1) wr k (xs ++ [y])))) : oK (appOf k b o (.ar l v) (.sl k f [y])) K := by
  rw [ap_ar (y := .sl k f [y]) hl rfl hk (by simp) hr]; exact h
end Go.Proofs.Pe
end

section
set_option linter.unusedVariables false
namespace Go.Proofs.Pe
/-! ### What is reckoned with numbers of 64 bits -/
end Go.Proofs.Pe
end

section
set_option linter.unusedVariables false
set_option linter.unusedSimpArgs false
namespace Go.Proofs.Pe

/-! ### Expressions and processes -/
inductive Ex where
  | mk (k n : Int) (nm : ByteArray) (l : List Ex)
inductive Tm where
  | mk (k a b : Int) (nm : ByteArray) (e : Ex) (l : List Tm)
def cap : Nat := 1000000000
abbrev sV (s : ByteArray) : V := .sc (.string s)
mutual
def IsEx : Ex → V → Prop
  | .mk k n nm l,v => ∃ lv vs,v = .agg [iV k,iV n,sV nm,lv] ∧ IsSl 4 lv vs ∧ vs.length ≤ cap ∧ IsExs l vs
def IsExs : List Ex → List V → Prop
  | [],vs => vs = []
  | x :: l,vs => ∃ v ws,vs = v :: ws ∧ IsEx x v ∧ IsExs l ws
end
mutual
def IsTm : Tm → V → Prop
  | .mk k a b nm (.mk ek en em el) l,v => ∃ ev evs lv vs,v = .agg [iV k,iV a,iV b,sV nm,iV ek,iV en,sV em,ev,lv] ∧ IsSl 4 ev evs ∧ evs.length ≤ cap ∧ IsExs el evs ∧ IsSl 9 lv vs ∧ vs.length ≤ cap ∧ IsTms l vs
def IsTms : List Tm → List V → Prop
  | [],vs => vs = []
  | x :: l,vs => ∃ v ws,vs = v :: ws ∧ IsTm x v ∧ IsTms l ws
end
def All2 {α : Type} (R : α → V → Prop) : List α → List V → Prop
  | [],vs => vs = []
  | x :: l,vs => ∃ v ws,vs = v :: ws ∧ R x v ∧ All2 R l ws
theorem isExs_all : ∀ {l : List Ex} {vs : List V},IsExs l vs ↔ All2 IsEx l vs
  | [],vs => by simp only [IsExs,All2]
  | x :: l,vs => by simp only [IsExs,All2,isExs_all]
theorem isTms_all : ∀ {l : List Tm} {vs : List V},IsTms l vs ↔ All2 IsTm l vs
  | [],vs => by simp only [IsTms,All2]
  | x :: l,vs => by simp only [IsTms,All2,isTms_all]
section
variable {α : Type} {R : α → V → Prop}
theorem All2.len : ∀ {l : List α} {vs : List V},All2 R l vs → vs.length = l.length
  | [],vs,h => by rw [show vs = [] from h]; rfl
  | x :: l,vs,h => by obtain ⟨v,ws,rfl,_,h2⟩ := h; simp [h2.len]
theorem All2.get : ∀ {l : List α} {vs : List V},All2 R l vs → ∀ {i : Nat} {v : V} {x : α},vs[i]? = some v → l[i]? = some x → R x v
  | [],vs,h,i,v,x,hv,hx => by simp at hx
  | y :: l,vs,h,i,v,x,hv,hx => by
    obtain ⟨w,ws,rfl,h1,h2⟩ := h
    cases i with
    | zero => simp at hv hx; subst hv hx; exact h1
    | succ i => simp at hv hx; exact h2.get hv hx
theorem All2.of : ∀ {l : List α} {vs : List V},vs.length = l.length → (∀ (i : Nat) (v : V) (x : α),vs[i]? = some v → l[i]? = some x → R x v) → All2 R l vs
  | [],vs,hl,_ => List.length_eq_zero_iff.1 (by simpa using hl)
  | x :: l,[],hl,_ => by simp at hl
  | x :: l,v :: vs,hl,h => ⟨v,vs,rfl,h 0 v x rfl rfl,All2.of (by simpa using hl) fun i v' x' hv hx => h (i + 1) v' x' (by simpa using hv) (by simpa using hx)⟩
theorem All2.snoc : ∀ {l : List α} {vs : List V},All2 R l vs → ∀ {x : α} {v : V},R x v → All2 R (l ++ [x]) (vs ++ [v])
  | [],vs,h,x,v,hr => by rw [show vs = [] from h]; exact ⟨v,[],rfl,hr,rfl⟩
  | y :: l,vs,h,x,v,hr => by
    obtain ⟨w,ws,rfl,h1,h2⟩ := h
    exact ⟨w,ws ++ [v],rfl,h1,h2.snoc hr⟩
theorem All2.append : ∀ {l : List α} {vs : List V},All2 R l vs → ∀ {l' : List α} {vs' : List V},All2 R l' vs' → All2 R (l ++ l') (vs ++ vs')
  | [],vs,h,l',vs',hr => by rw [show vs = [] from h]; exact hr
  | y :: l,vs,h,l',vs',hr => by
    obtain ⟨w,ws,rfl,h1,h2⟩ := h
    exact ⟨w,ws ++ vs',rfl,h1,h2.append hr⟩
theorem All2.take {l : List α} {vs : List V} (h : All2 R l vs) (n : Nat) : All2 R (l.take n) (vs.take n) :=
  .of (by simp [h.len]) fun i v x hv hx => by
    have hi : i < n := by have := (List.getElem?_eq_some_iff.1 hv).1; simp at this; omega
    rw [List.getElem?_take_of_lt hi] at hv hx
    exact h.get hv hx
theorem All2.set {l : List α} {vs : List V} (h : All2 R l vs) (n : Nat) {x : α} {v : V} (hr : R x v) : All2 R (l.set n x) (vs.set n v) :=
  .of (by simp [h.len]) fun i v' x' hv hx => by
    have hi : i < vs.length := by have := (List.getElem?_eq_some_iff.1 hv).1; simpa using this
    have hl := h.len
    rw [List.getElem?_set] at hv hx
    by_cases e : n = i
    · subst e; simp [hi] at hv; simp [show n < l.length by omega] at hx; subst hv hx; exact hr
    · rw [if_neg e] at hv hx; exact h.get hv hx
theorem All2.mem {l : List α} {vs : List V} (h : All2 R l vs) {v : V} (hv : v ∈ vs) : ∃ x,x ∈ l ∧ R x v := by
  obtain ⟨i,hi⟩ := List.getElem?_of_mem hv
  have hlt := (List.getElem?_eq_some_iff.1 hi).1
  have hlt2 : i < l.length := by rw [← h.len]; exact hlt
  exact ⟨l[i],List.getElem_mem hlt2,h.get hi (List.getElem?_eq_getElem hlt2)⟩
theorem All2.okRow {l : List α} {vs : List V} {k : Nat} (h : All2 R l vs) (hr : ∀ x v,R x v → v.free = true ∧ v.cells.length = k) : okRow k vs := by
  unfold Pe.okRow
  simp only [List.all_eq_true,Bool.and_eq_true,decide_eq_true_eq]
  intro v hv
  obtain ⟨x,_,hx⟩ := h.mem hv
  exact hr x v hx
theorem All2.free {l : List α} {vs : List V} (h : All2 R l vs) (hr : ∀ x v,R x v → v.free = true) : vs.all V.free = true := by
  simp only [List.all_eq_true]
  intro v hv
  obtain ⟨x,_,hx⟩ := h.mem hv
  exact hr x v hx
end
theorem IsEx.ok {x : Ex} {v : V} (h : IsEx x v) : v.free = true ∧ v.cells.length = 4 := by
  cases x; obtain ⟨lv,vs,rfl,h1,_⟩ := h
  exact ⟨by simp only [free_agg,List.all_cons,List.all_nil,free1_sc,h1.free,Bool.and_self],rfl⟩
theorem IsEx.solid {x : Ex} {v : V} (h : IsEx x v) : v.solid = true := by
  cases x; obtain ⟨lv,vs,rfl,h1,_⟩ := h
  simp only [solid_agg,List.all_cons,List.all_nil,one_sc,free1_one h1.free,Bool.and_true]
theorem IsTm.ok {x : Tm} {v : V} (h : IsTm x v) : v.free = true ∧ v.cells.length = 9 := by
  rcases x with ⟨_,_,_,_,⟨_,_,_,_⟩,_⟩; obtain ⟨ev,evs,lv,vs,rfl,h1,_,_,h2,_⟩ := h
  exact ⟨by simp only [free_agg,List.all_cons,List.all_nil,free1_sc,h1.free,h2.free,Bool.and_self],rfl⟩
theorem okRow1 {k : Nat} {v : V} (h : v.free = true ∧ v.cells.length = k) : okRow k [v] := by
  simp [Pe.okRow,h.1,h.2]

end Go.Proofs.Pe
end

section
set_option linter.unusedVariables false
namespace Go.Proofs.Pe
/-! ### What an expression comes to -/
inductive WfE (n : Nat) : Ex → Prop where
  | num {m : Int} {nm : ByteArray} : I64 m → WfE n (.mk 1 m nm [])
  | var {i : Nat} {nm : ByteArray} : i < n → WfE n (.mk 2 i nm [])
  | one {k m : Int} {nm : ByteArray} {x : Ex} : 3 ≤ k → k ≤ 4 → WfE n x → WfE n (.mk k m nm [x])
  | two {k m : Int} {nm : ByteArray} {x y : Ex} : 5 ≤ k → k ≤ 17 → WfE n x → WfE n y → WfE n (.mk k m nm [x,y])
end Go.Proofs.Pe
end

section
set_option linter.unusedVariables false
namespace Go.Proofs.Pe
variable {P : Program}
/-! ### Data that came in, type by type -/
theorem VT_int {n : Nat} {t : TypeId} {k : IntKind} {xs : List V} (hu : P.underlying t = some (.int k)) (h : VT P n t xs) : ∃ z,(Lit.int k z).wf = true ∧ xs = [.sc (.int k z)] := by
  cases n with
  | zero => cases h
  | succ n => simpa only [VT,hu] using h
theorem VT_sl {n : Nat} {t e : TypeId} {xs : List V} (hu : P.underlying t = some (.slice e)) (h : VT P n t xs) : ∃ m,m < n ∧ (xs = [nilV] ∨ ∃ ys : List V,xs = [.sl (P.cellsOf e) false ys] ∧ ys.length ≤ maxLen ∧ ∀ y ∈ ys,∃ zs,y = elV zs ∧ zs.length = P.cellsOf e ∧ VT P m e zs) := by
  cases n with
  | zero => cases h
  | succ n =>
    simp only [VT,hu] at h
    exact ⟨n,Nat.lt_succ_self n,h⟩
def SegsVT (P : Program) (n : Nat) : List TypeId → List (List V) → Prop
  | [],[] => True
  | t :: ts,s :: ss => VT P n t s ∧ SegsVT P n ts ss
  | _,_ => False
theorem segsVT {n : Nat} : ∀ {fs : List Field} {segs : List (List V)},segs.length = fs.length → (∀ (i : Nat) f seg,fs[i]? = some f → segs[i]? = some seg → VT P n f.type seg) → SegsVT P n (fs.map (·.type)) segs
  | [],[],_,_ => trivial
  | f :: fs,s :: ss,hl,h => ⟨h 0 f s rfl rfl,segsVT (by simpa using hl) fun i f seg hf hs => h (i + 1) f seg (by simpa using hf) (by simpa using hs)⟩
  | [],_ :: _,hl,_ => by simp at hl
  | _ :: _,[],hl,_ => by simp at hl
theorem VT_st {n : Nat} {t : TypeId} {fs : Array Field} {xs : List V} (hu : P.underlying t = some (.struct fs)) (h : VT P n t xs) : ∃ m,m < n ∧ ∃ segs,xs = segs.flatten ∧ SegsVT P m (fs.toList.map (·.type)) segs := by
  cases n with
  | zero => cases h
  | succ n =>
    simp only [VT,hu] at h
    obtain ⟨segs,h1,h2,h3⟩ := h
    exact ⟨n,Nat.lt_succ_self n,segs,h1,segsVT h2 h3⟩

/-! ### Raw expressions -/
inductive Rw where
  | mk (k n : Int) (l : List Rw)
def Rw.k : Rw → Int | .mk k _ _ => k
def Rw.n : Rw → Int | .mk _ n _ => n
def Rw.l : Rw → List Rw | .mk _ _ l => l
mutual
def IsRw : Rw → V → Prop
  | .mk k n l,v => ∃ lv vs,v = .agg [iV k,iV n,lv] ∧ I64 k ∧ I64 n ∧ IsSl 3 lv vs ∧ vs.length ≤ maxLen ∧ IsRws l vs
def IsRws : List Rw → List V → Prop
  | [],vs => vs = []
  | x :: l,vs => ∃ v ws,vs = v :: ws ∧ IsRw x v ∧ IsRws l ws
end
theorem isRws_all : ∀ {l : List Rw} {vs : List V},IsRws l vs ↔ All2 IsRw l vs
  | [],vs => by simp only [IsRws,All2]
  | x :: l,vs => by simp only [IsRws,All2,isRws_all]
theorem IsRw.ok {x : Rw} {v : V} (h : IsRw x v) : v.free = true ∧ v.cells.length = 3 := by
  cases x; obtain ⟨lv,vs,rfl,_,_,h1,_⟩ := h
  exact ⟨by simp only [free_agg,List.all_cons,List.all_nil,free1_sc,h1.free,Bool.and_self],rfl⟩
theorem all2_of {α : Type} {R : α → V → Prop} : ∀ {vs : List V},(∀ v ∈ vs,∃ x,R x v) → ∃ l,All2 R l vs
  | [],_ => ⟨[],rfl⟩
  | v :: vs,h => by
    obtain ⟨x,hx⟩ := h v (by simp)
    obtain ⟨l,hl⟩ := all2_of (vs := vs) fun w hw => h w (List.mem_cons_of_mem _ hw)
    exact ⟨x :: l,v,vs,rfl,hx,hl⟩
structure RwTypes (P : Program) (tr tl : TypeId) : Prop where
  ti : P.underlying 3 = some (.int .i64)
  sl : P.underlying tl = some (.slice tr)
  ce : P.cellsOf tr = 3
  st : ∃ fs,P.underlying tr = some (.struct fs) ∧ fs.toList.map (·.type) = [3,3,tl]
theorem rw_of {tr tl : TypeId} (H : RwTypes P tr tl) : ∀ (n : Nat),(∀ xs,VT P n tr xs → ∃ r,IsRw r (elV xs)) ∧ (∀ x,VT P n tl [x] → ∃ l vs,IsSl 3 x vs ∧ All2 IsRw l vs ∧ vs.length ≤ maxLen)
  | n => by
    constructor
    · intro xs h
      obtain ⟨fs,hu,ht⟩ := H.st
      obtain ⟨m,hm,segs,rfl,hs⟩ := VT_st hu h
      rw [ht] at hs
      match segs,hs with
      | [s0,s1,s2],⟨h0,h1,h2,_⟩ =>
        obtain ⟨k,hk,rfl⟩ := VT_int H.ti h0
        obtain ⟨z,hz,rfl⟩ := VT_int H.ti h1
        have h2' := h2
        obtain ⟨_,_,e | ⟨ys,e,_⟩⟩ := VT_sl H.sl h2
        · subst e
          obtain ⟨l,vs,g1,g2,g3⟩ := (rw_of H m).2 _ h2'
          exact ⟨.mk k z l,_,vs,rfl,I64.of hk,I64.of hz,g1,g3,isRws_all.2 g2⟩
        · subst e
          obtain ⟨l,vs,g1,g2,g3⟩ := (rw_of H m).2 _ h2'
          exact ⟨.mk k z l,_,vs,rfl,I64.of hk,I64.of hz,g1,g3,isRws_all.2 g2⟩
    · intro x h
      obtain ⟨m,hm,e | ⟨ys,e,hl,hy⟩⟩ := VT_sl H.sl h
      · cases e
        exact ⟨[],[],.inl ⟨rfl,rfl⟩,rfl,by simp⟩
      · cases e
        rw [H.ce]
        obtain ⟨l,hl2⟩ := all2_of (R := IsRw) (vs := ys) fun y hy' => by
          obtain ⟨zs,rfl,_,hv⟩ := hy y hy'
          exact (rw_of H m).1 zs hv
        exact ⟨l,ys,.inr ⟨_,rfl⟩,hl2,hl⟩
end Go.Proofs.Pe
end

section
set_option linter.unusedVariables false
namespace Go.Proofs.Pe
/-! ### How much there is of raw expressions -/
def szLoop (f : List Rw → Int) : List Rw → Int → Int
  | [],n => n
  | x :: l,n => if n ≤ 20 then szLoop f l (n + 1 + f x.l) else n
def szL : Nat → List Rw → Int
  | 0,_ => 1000
  | r + 1,l => szLoop (szL r) l 0
theorem szLoop_le {f : List Rw → Int} {B : Int} (hB : 0 ≤ B) (hf : ∀ l,0 ≤ f l ∧ f l ≤ B) : ∀ (l : List Rw) {n : Int},0 ≤ n → n ≤ 21 + B → 0 ≤ szLoop f l n ∧ szLoop f l n ≤ 21 + B
  | [],n,h0,h1 => ⟨h0,h1⟩
  | x :: l,n,h0,h1 => by
    unfold szLoop
    have := hf x.l
    split
    · exact szLoop_le hB hf l (by omega) (by omega)
    · exact ⟨h0,h1⟩
theorem szL_le : ∀ (r : Nat) (l : List Rw),0 ≤ szL r l ∧ szL r l ≤ 1000 + 21 * r
  | 0,l => by simp [szL]
  | r + 1,l => by
    have := szLoop_le (f := szL r) (B := 1000 + 21 * r) (by omega) (szL_le r) l (n := 0) (by omega) (by omega)
    show 0 ≤ szLoop (szL r) l 0 ∧ szLoop (szL r) l 0 ≤ _
    omega
theorem szLoop_drop {f : List Rw → Int} {l : List Rw} {i : Nat} {x : Rw} (hx : l[i]? = some x) {n : Int} (hn : n ≤ 20) : szLoop f (l.drop i) n = szLoop f (l.drop (i + 1)) (n + 1 + f x.l) := by
  obtain ⟨hlt,e⟩ := List.getElem?_eq_some_iff.1 hx
  rw [List.drop_eq_getElem_cons hlt,e]
  show (if n ≤ 20 then _ else _) = _
  rw [if_pos hn]
theorem szLoop_stop {f : List Rw → Int} {l : List Rw} {n : Int} (hn : ¬ n ≤ 20) : szLoop f l n = n := by
  cases l with
  | nil => rfl
  | cons x l => show (if n ≤ 20 then _ else _) = _; rw [if_neg hn]

/-! ### What is made of a raw expression -/
def nums : List Int := [0,1,2,7,99,999999999999999999,5,3]
def emp : ByteArray := ByteArray.mk #[]
def ptS (n : Int) (ps : List Ex) (i : Nat) : Ex := ps.getD i (.mk 1 (withinI (IntKind.i64.wrap (n + i)) 5) emp [])
def mkC (nm : List ByteArray) (k n : Int) (ps : List Ex) : Ex :=
  if withinI k 24 < 4 then .mk 1 (nums.getD (withinI n 8).toNat 0) emp []
  else if withinI k 24 < 9 then (if nm = [] then .mk 2 (withinI n 3) emp [] else .mk 2 0 (nm.getD (withinI n nm.length).toNat emp) [])
  else if withinI k 24 = 9 then .mk 3 0 emp [ptS n ps 0] else if withinI k 24 = 10 then .mk 4 0 emp [ptS n ps 0] else .mk (5 + withinI k 24 - 11) 0 emp [ptS n ps 0,ptS n ps 1]
mutual
def mkS (nm : List ByteArray) : Rw → Ex
  | .mk k n l => mkC nm k n (mkL nm l)
def mkL (nm : List ByteArray) : List Rw → List Ex
  | [] => []
  | x :: l => mkS nm x :: mkL nm l
end
theorem mkL_map (nm : List ByteArray) : ∀ (l : List Rw),mkL nm l = l.map (mkS nm)
  | [] => by simp [mkL]
  | x :: l => by simp [mkL,mkL_map nm l]
theorem mkS_eq (nm : List ByteArray) (k n : Int) (l : List Rw) : mkS nm (.mk k n l) = mkC nm k n (l.map (mkS nm)) := by rw [mkS,mkL_map]
def oneS (nm : List ByteArray) : List Rw → Ex
  | [] => .mk 1 1 emp []
  | r :: _ => mkS nm r
end Go.Proofs.Pe
end

section
set_option linter.unusedVariables false
namespace Go.Proofs.Pe
/-! ### All that an expression is made of, from left to right -/
mutual
def nodes : Ex → List Ex
  | .mk k n m l => .mk k n m l :: nodesL l
def nodesL : List Ex → List Ex
  | [] => []
  | x :: l => nodes x ++ nodesL l
end
/-! ### Whether an expression may be -/
end Go.Proofs.Pe
end

section
set_option linter.unusedVariables false
namespace Go.Proofs.Pe
variable {P : Program}
/-! ### Expressions that came in -/
mutual
def IsExM : Ex → V → Prop
  | .mk k n nm l,v => ∃ lv vs,v = .agg [iV k,iV n,sV nm,lv] ∧ IsSl 4 lv vs ∧ vs.length ≤ maxLen ∧ IsExMs l vs
def IsExMs : List Ex → List V → Prop
  | [],vs => vs = []
  | x :: l,vs => ∃ v ws,vs = v :: ws ∧ IsExM x v ∧ IsExMs l ws
end
theorem IsExM.ok {x : Ex} {v : V} (h : IsExM x v) : v.free = true ∧ v.cells.length = 4 := by
  cases x; obtain ⟨lv,vs,rfl,h1,_⟩ := h
  exact ⟨by simp only [free_agg,List.all_cons,List.all_nil,free1_sc,h1.free,Bool.and_self],rfl⟩
theorem All2.imp {α : Type} {R S : α → V → Prop} : ∀ {l : List α} {vs : List V},All2 R l vs → (∀ x ∈ l,∀ v,R x v → S x v) → All2 S l vs
  | [],vs,h,_ => h
  | x :: l,vs,⟨v,ws,e,h1,h2⟩,hi => ⟨v,ws,e,hi x (by simp) v h1,h2.imp fun y hy => hi y (List.mem_cons_of_mem _ hy)⟩
structure ExTypes (P : Program) (te tl ts : TypeId) : Prop where
  ti : P.underlying 3 = some (.int .i64)
  st : P.underlying ts = some .string
  sl : P.underlying tl = some (.slice te)
  ce : P.cellsOf te = 4
  fs : ∃ fs,P.underlying te = some (.struct fs) ∧ fs.toList.map (·.type) = [3,3,ts,tl]
end Go.Proofs.Pe
end

section
set_option linter.unusedVariables false
namespace Go.Proofs.Pe
variable {P : Program}
/-! ### Raw processes -/
inductive R3 where
  | mk (k a b : Int) (e : List Rw) (l : List R3)
mutual
def IsR3 : R3 → V → Prop
  | .mk k a b e l,v => ∃ ev evs lv vs,v = .agg [iV k,iV a,iV b,ev,lv] ∧ IsSl 3 ev evs ∧ evs.length ≤ maxLen ∧ All2 IsRw e evs ∧ IsSl 5 lv vs ∧ vs.length ≤ maxLen ∧ IsR3s l vs
def IsR3s : List R3 → List V → Prop
  | [],vs => vs = []
  | x :: l,vs => ∃ v ws,vs = v :: ws ∧ IsR3 x v ∧ IsR3s l ws
end
theorem isR3s_all : ∀ {l : List R3} {vs : List V},IsR3s l vs ↔ All2 IsR3 l vs
  | [],vs => by simp only [IsR3s,All2]
  | x :: l,vs => by simp only [IsR3s,All2,isR3s_all]
theorem IsR3.ok {x : R3} {v : V} (h : IsR3 x v) : v.free = true ∧ v.cells.length = 5 := by
  cases x; obtain ⟨ev,evs,lv,vs,rfl,h1,_,_,h2,_⟩ := h
  exact ⟨by simp only [free_agg,List.all_cons,List.all_nil,free1_sc,h1.free,h2.free,Bool.and_self],rfl⟩
structure R3Types (P : Program) (tr tl r3 l3 : TypeId) : Prop where
  rw : RwTypes P tr tl
  sl : P.underlying l3 = some (.slice r3)
  ce : P.cellsOf r3 = 5
  st : ∃ fs,P.underlying r3 = some (.struct fs) ∧ fs.toList.map (·.type) = [3,3,3,tl,l3]
theorem r3_of {tr tl r3 l3 : TypeId} (H : R3Types P tr tl r3 l3) : ∀ (n : Nat),(∀ xs,VT P n r3 xs → ∃ r,IsR3 r (.agg xs) ∧ xs.length = 5) ∧ (∀ x,VT P n l3 [x] → ∃ l vs,IsSl 5 x vs ∧ All2 IsR3 l vs ∧ vs.length ≤ maxLen)
  | n => by
    constructor
    · intro xs h
      obtain ⟨fs,hu,ht⟩ := H.st
      obtain ⟨m,hm,segs,rfl,hs⟩ := VT_st hu h
      rw [ht] at hs
      match segs,hs with
      | [s0,s1,s2,s3,s4],⟨h0,h1,h2,h3,h4,_⟩ =>
        obtain ⟨k,_,rfl⟩ := VT_int H.rw.ti h0
        obtain ⟨a,_,rfl⟩ := VT_int H.rw.ti h1
        obtain ⟨b,_,rfl⟩ := VT_int H.rw.ti h2
        have h3' := h3
        have h4' := h4
        obtain ⟨x3,rfl⟩ : ∃ x,s3 = [x] := by obtain ⟨_,_,e | ⟨ys,e,_⟩⟩ := VT_sl H.rw.sl h3 <;> exact ⟨_,e⟩
        obtain ⟨x4,rfl⟩ : ∃ x,s4 = [x] := by obtain ⟨_,_,e | ⟨ys,e,_⟩⟩ := VT_sl H.sl h4 <;> exact ⟨_,e⟩
        obtain ⟨e,evs,f1,f2,f3⟩ := (rw_of H.rw m).2 _ h3'
        obtain ⟨l,vs,g1,g2,g3⟩ := (r3_of H m).2 _ h4'
        exact ⟨.mk k a b e l,⟨_,evs,_,vs,rfl,f1,f3,f2,g1,g3,isR3s_all.2 g2⟩,rfl⟩
    · intro x h
      obtain ⟨m,hm,e | ⟨ys,e,hl,hy⟩⟩ := VT_sl H.sl h
      · cases e
        exact ⟨[],[],.inl ⟨rfl,rfl⟩,rfl,by simp⟩
      · cases e
        rw [H.ce]
        obtain ⟨l,hl2⟩ := all2_of (R := IsR3) (vs := ys) fun y hy' => by
          obtain ⟨zs,rfl,hc,hv⟩ := hy y hy'
          obtain ⟨x,hx,h4⟩ := (r3_of H m).1 zs hv
          refine ⟨x, ?_⟩
          match zs,h4 with
          | [a,b,c,d,e],_ => exact hx
        exact ⟨l,ys,.inr ⟨_,rfl⟩,hl2,hl⟩

/-! ### Processes by names -/
inductive Pr where
  | mk (k : Int) (nm to : ByteArray) (e : Ex) (l : List Pr)
mutual
def IsPr : Pr → V → Prop
  | .mk k nm to (.mk ek en em el) l,v => ∃ ev evs lv vs,v = .agg [iV k,sV nm,sV to,iV ek,iV en,sV em,ev,lv] ∧ IsSl 4 ev evs ∧ evs.length ≤ cap ∧ IsExs el evs ∧ IsSl 8 lv vs ∧ vs.length ≤ cap ∧ IsPrs l vs
def IsPrs : List Pr → List V → Prop
  | [],vs => vs = []
  | x :: l,vs => ∃ v ws,vs = v :: ws ∧ IsPr x v ∧ IsPrs l ws
end
theorem isPrs_all : ∀ {l : List Pr} {vs : List V},IsPrs l vs ↔ All2 IsPr l vs
  | [],vs => by simp only [IsPrs,All2]
  | x :: l,vs => by simp only [IsPrs,All2,isPrs_all]
theorem IsPr.ok {x : Pr} {v : V} (h : IsPr x v) : v.free = true ∧ v.cells.length = 8 := by
  rcases x with ⟨_,_,_,⟨_,_,_,_⟩,_⟩; obtain ⟨ev,evs,lv,vs,rfl,h1,_,_,h2,_⟩ := h
  exact ⟨by simp only [free_agg,List.all_cons,List.all_nil,free1_sc,h1.free,h2.free,Bool.and_self],rfl⟩
theorem IsPr.solid {x : Pr} {v : V} (h : IsPr x v) : v.solid = true := by
  rcases x with ⟨_,_,_,⟨_,_,_,_⟩,_⟩; obtain ⟨ev,evs,lv,vs,rfl,h1,_,_,h2,_⟩ := h
  simp only [solid_agg,List.all_cons,List.all_nil,one_sc,free1_one h1.free,free1_one h2.free,Bool.and_true]
inductive PrOk : Pr → Prop where
  | mk {k : Int} {nm to : ByteArray} {e : Ex} {l : List Pr} : l.length ≤ 2 → (k = 12 → l.length = 2) → (∀ x ∈ l,PrOk x) → PrOk (.mk k nm to e l)
def prP (z : V) : Prop := ∃ p,IsPr p z ∧ PrOk p
theorem prLeaf (k : Int) (hk : k ≠ 12) (nm to : ByteArray) : prP (.agg [iV k,sV nm,sV to,iV 0,iV 0,sV (ByteArray.mk #[]),nilV,nilV]) :=
  ⟨.mk k nm to (.mk 0 0 _ []) [],⟨nilV,[],nilV,[],rfl,.inl ⟨rfl,rfl⟩,by simp,rfl,.inl ⟨rfl,rfl⟩,by simp,rfl⟩,.mk (by simp) (fun h => absurd h hk) (by simp)⟩
theorem prOne (k : Int) (hk : k ≠ 12) (nm to : ByteArray) {a : V} (ha : prP a) (f : Bool) : prP (.agg [iV k,sV nm,sV to,iV 0,iV 0,sV (ByteArray.mk #[]),nilV,.sl 8 f [a]]) := by
  obtain ⟨p,h1,h2⟩ := ha
  exact ⟨.mk k nm to (.mk 0 0 _ []) [p],⟨nilV,[],_,[a],rfl,.inl ⟨rfl,rfl⟩,by simp,rfl,.inr ⟨_,rfl⟩,by simp [cap],a,[],rfl,h1,rfl⟩,.mk (by simp) (fun h => absurd h hk) (fun x hx => by rw [List.mem_singleton.1 hx]; exact h2)⟩
theorem prTwo (k : Int) (nm to : ByteArray) {a b e0 : V} {ek en : Int} {em : ByteArray} {el : List Ex} (he : IsEx (.mk ek en em el) (.agg [iV ek,iV en,sV em,e0])) (ha : prP a) (hb : prP b) (f : Bool) : prP (.agg [iV k,sV nm,sV to,iV ek,iV en,sV em,e0,.sl 8 f [a,b]]) := by
  obtain ⟨p,h1,h2⟩ := ha
  obtain ⟨q,h3,h4⟩ := hb
  obtain ⟨ev,evs,e,f1,f2,f3⟩ := he
  simp only [V.agg.injEq,List.cons.injEq,and_true,true_and] at e
  subst e
  exact ⟨.mk k nm to (.mk ek en em el) [p,q],⟨e0,evs,_,[a,b],rfl,f1,f2,f3,.inr ⟨_,rfl⟩,by simp [cap],a,[b],rfl,h1,b,[],rfl,h3,rfl⟩,.mk (by simp) (fun _ => rfl) (fun x hx => by
    simp only [List.mem_cons,List.not_mem_nil,or_false] at hx; rcases hx with rfl | rfl <;> assumption)⟩
theorem zeroE : IsEx (.mk 0 0 (ByteArray.mk #[]) []) (.agg [iV 0,iV 0,sV (ByteArray.mk #[]),nilV]) := ⟨nilV,[],rfl,.inl ⟨rfl,rfl⟩,by simp,rfl⟩
theorem prSet (nm to : ByteArray) {e0 : V} {k ek en : Int} {em : ByteArray} {el : List Ex} (hk : k ≠ 12) (he : IsEx (.mk ek en em el) (.agg [iV ek,iV en,sV em,e0])) : prP (.agg [iV k,sV nm,sV to,iV ek,iV en,sV em,e0,nilV]) := by
  obtain ⟨ev,evs,e,f1,f2,f3⟩ := he
  simp only [V.agg.injEq,List.cons.injEq,and_true,true_and] at e
  subst e
  exact ⟨.mk k nm to (.mk ek en em el) [],⟨e0,evs,nilV,[],rfl,f1,f2,f3,.inl ⟨rfl,rfl⟩,by simp,rfl⟩,.mk (by simp) (fun h => absurd h hk) (by simp)⟩
theorem prP.ok {z : V} (h : prP z) : z.free = true ∧ z.cells.length = 8 ∧ z.solid = true := by
  obtain ⟨p,h1,_⟩ := h
  exact ⟨h1.ok.1,h1.ok.2,h1.solid⟩
theorem prP.fr {z : V} (h : prP z) (o : List O) : ∃ w o2,freezeT o z = some (w,o2) ∧ prP w := ⟨z,o,frzT_free h.ok.1,h⟩
end Go.Proofs.Pe
end

section
set_option linter.unusedVariables false
namespace Go.Proofs.Pe
/-! ### Names and their numbers -/
theorem ba_list (a : ByteArray) : a.toList = a.data.toList := by
  rcases a with ⟨⟨l⟩⟩
  exact btl l
theorem ba_eq (a b : ByteArray) : (a.toList == b.toList) = decide (a = b) := by
  rw [ba_list,ba_list]
  by_cases h : a = b
  · subst h; simp
  · have : ¬ a.data.toList = b.data.toList := fun e => h (by
      rcases a with ⟨⟨l⟩⟩; rcases b with ⟨⟨l'⟩⟩; simp at e; subst e; rfl)
    rw [decide_eq_false h]; simpa using this
def nmsV (ns : List ByteArray) : List V := ns.map sV
theorem nms_free (ns : List ByteArray) : (nmsV ns).all V.free = true := by
  simp [nmsV,List.all_eq_true,V.free,V.free1]
theorem nms_snoc (ns : List ByteArray) (s : ByteArray) : nmsV ns ++ [sV s] = nmsV (ns ++ [s]) := by simp [nmsV]
theorem nms_len (ns : List ByteArray) : (nmsV ns).length = ns.length := by simp [nmsV]
theorem nms_get {ns : List ByteArray} {i : Nat} {s : ByteArray} (h : ns[i]? = some s) : (nmsV ns)[i]? = some (sV s) := by simp [nmsV,h]
def findO : List ByteArray → ByteArray → Option Nat
  | [],_ => none
  | x :: xs,s => if x = s then some 0 else (findO xs s).map (· + 1)
def findI (ns : List ByteArray) (s : ByteArray) : Int := match findO ns s with
  | some k => k
  | none => -1
theorem findO_lt : ∀ {ns : List ByteArray} {s : ByteArray} {k : Nat},findO ns s = some k → k < ns.length
  | [],s,k,h => by cases h
  | x :: xs,s,k,h => by
    unfold findO at h
    split at h
    · cases h; simp
    · simp only [Option.map_eq_some_iff] at h
      obtain ⟨j,h1,rfl⟩ := h
      have := findO_lt h1; simp; omega
theorem findO_drop {ns : List ByteArray} {s : ByteArray} : ∀ {i : Nat},(∀ j,j < i → ns[j]? ≠ some s) → findO ns s = (findO (ns.drop i) s).map (· + i)
  | 0,_ => by simp
  | i + 1,h => by
    have ih := findO_drop (ns := ns) (s := s) (i := i) fun j hj => h j (by omega)
    by_cases hi : i < ns.length
    · have hne := h i (by omega)
      rw [List.getElem?_eq_getElem hi] at hne
      have e : ns.drop i = ns[i] :: ns.drop (i + 1) := (List.drop_eq_getElem_cons hi)
      rw [e] at ih
      simp only [findO] at ih
      rw [if_neg (fun e => hne (by rw [e]))] at ih
      rw [ih]
      cases findO (ns.drop (i + 1)) s <;> simp <;> omega
    · rw [List.drop_eq_nil_of_le (by omega)] at ih ⊢
      simpa [findO] using ih
theorem findO_at {ns : List ByteArray} {s : ByteArray} {i : Nat} (h : ∀ j,j < i → ns[j]? ≠ some s) (hi : ns[i]? = some s) : findO ns s = some i := by
  rw [findO_drop h]
  have hlt := (List.getElem?_eq_some_iff.1 hi).1
  have e : ns.drop i = ns[i] :: ns.drop (i + 1) := (List.drop_eq_getElem_cons hlt)
  rw [e]
  have : ns[i] = s := by rw [List.getElem?_eq_getElem hlt] at hi; exact Option.some.inj hi
  simp [findO,this]
theorem findO_none {ns : List ByteArray} {s : ByteArray} (h : ∀ j,j < ns.length → ns[j]? ≠ some s) : findO ns s = none := by
  rw [findO_drop h,List.drop_eq_nil_of_le (Nat.le_refl _)]; rfl
def twiceB (ns : List ByteArray) : Bool := (List.range ns.length).any fun i => match ns[i]? with
  | some s => decide (findI ns s ≠ (i : Int))
  | none => false

/-! ### By numbers -/
mutual
def lowE (V : List ByteArray) : Ex → Ex
  | .mk k n m l => .mk k (if k = 2 then findI V m else n) emp (lowEs V l)
def lowEs (V : List ByteArray) : List Ex → List Ex
  | [] => []
  | x :: l => lowE V x :: lowEs V l
end
mutual
def badE (V : List ByteArray) : Ex → Bool
  | .mk k n m l => (decide (k = 2) && decide (findI V m < 0)) || badEs V l
def badEs (V : List ByteArray) : List Ex → Bool
  | [] => false
  | x :: l => badE V x || badEs V l
end
theorem lowEs_map (V : List ByteArray) : ∀ l,lowEs V l = l.map (lowE V)
  | [] => rfl
  | x :: l => by simp only [lowEs,lowEs_map V l,List.map_cons]
theorem badEs_any (V : List ByteArray) : ∀ l,badEs V l = l.any (badE V)
  | [] => rfl
  | x :: l => by simp only [badEs,badEs_any V l,List.any_cons]
def zE : Ex := .mk 0 0 emp []
def lowA (V S D : List ByteArray) (k : Int) (nm to : ByteArray) : Int :=
  if k = 1 then (if to = emp then -1 else findI V to) else if k = 2 then findI V to else if k = 3 ∨ k = 4 ∨ k = 5 ∨ k = 6 then findI S nm else if k = 13 then findI D nm else 0
def lowB (S : List ByteArray) (k : Int) (to : ByteArray) : Int := if k = 6 then findI S to else 0
def badA (V S D : List ByteArray) (k : Int) (nm to : ByteArray) : Bool :=
  if k = 1 then !decide (to = emp) && decide (findI V to < 0) else if k = 2 then decide (findI V to < 0) else if k = 3 ∨ k = 4 ∨ k = 5 then decide (findI S nm < 0) else if k = 6 then (decide (findI S nm < 0) || decide (findI S to < 0)) else if k = 13 then decide (findI D nm < 0) else false
mutual
def lowP (V S D : List ByteArray) : Pr → Tm
  | .mk k nm to e l => .mk k (lowA V S D k nm to) (lowB S k to) (if k = 1 then nm else emp) (if k = 2 ∨ k = 9 then lowE V e else zE) (lowPs V S D l)
def lowPs (V S D : List ByteArray) : List Pr → List Tm
  | [] => []
  | x :: l => lowP V S D x :: lowPs V S D l
end
mutual
def badP (V S D : List ByteArray) : Pr → Bool
  | .mk k nm to e l => (badA V S D k nm to || (decide (k = 2 ∨ k = 9) && badE V e)) || badPs V S D l
def badPs (V S D : List ByteArray) : List Pr → Bool
  | [] => false
  | x :: l => badP V S D x || badPs V S D l
end
theorem lowPs_map (V S D : List ByteArray) : ∀ l,lowPs V S D l = l.map (lowP V S D)
  | [] => rfl
  | x :: l => by simp only [lowPs,lowPs_map V S D l,List.map_cons]
theorem badPs_any (V S D : List ByteArray) : ∀ l,badPs V S D l = l.any (badP V S D)
  | [] => rfl
  | x :: l => by simp only [badPs,badPs_any V S D l,List.any_cons]

theorem take_succ_map {α β : Type} {f : α → β} {l : List α} {i : Nat} {x : α} (h : l[i]? = some x) : (l.map f).take (i + 1) = (l.map f).take i ++ [f x] := by
  rw [List.take_add_one,List.getElem?_map,h]; rfl
theorem take_succ_any {α : Type} {f : α → Bool} {l : List α} {i : Nat} {x : α} (h : l[i]? = some x) : (l.take (i + 1)).any f = ((l.take i).any f || f x) := by
  rw [List.take_add_one,h]; simp
end Go.Proofs.Pe
end

section
set_option linter.unusedVariables false
namespace Go.Proofs.Pe
/-! ### What a process may do without an action -/
def bothC (D : List ByteArray) (E X : List Bool) (k : Int) (nm : ByteArray) (a b : Bool × Bool) : Bool × Bool :=
  if k = 1 then (false,false) else if k = 8 then (false,true) else if k = 4 then (true,true) else if k = 7 then (a.1 || a.2,false)
  else if k = 9 ∨ k = 10 then (a.1 || b.1,a.2 || b.2) else if k = 11 then (a.1 && b.1,a.2 || b.2) else if k = 12 then (a.1 && b.1,a.2 || (a.1 && b.2))
  else if k = 13 then (match findO D nm with
    | some i => (E.getD i false,X.getD i false)
    | none => (false,false)) else (true,false)
mutual
def bothS (D : List ByteArray) (E X : List Bool) : Pr → Bool × Bool
  | .mk k nm _ _ l => bothC D E X k nm ((bothSs D E X l).getD 0 (false,false)) ((bothSs D E X l).getD 1 (false,false))
def bothSs (D : List ByteArray) (E X : List Bool) : List Pr → List (Bool × Bool)
  | [] => []
  | x :: l => bothS D E X x :: bothSs D E X l
end
theorem bothSs_map (D : List ByteArray) (E X : List Bool) : ∀ l,bothSs D E X l = l.map (bothS D E X)
  | [] => rfl
  | x :: l => by simp only [bothSs,bothSs_map D E X l,List.map_cons]
def mayO (d : V) (v1 v2 : Nat) (E X : List Bool) : List O := [.cells [d,.ar 1 v1,.ar 2 v2],.arr v1 true 1 (E.map bV),.arr v2 true 1 (X.map bV)]
theorem mayO_fin {d z : V} {v1 v2 : Nat} {E X : List Bool} {r : List O} (hd : d.free1 = true) (hz : z.mv (idO 3) = some z) : Fin5 3 z (mayO d v1 v2 E X ++ r) z (mayO d v1 v2 E X) := by
  refine fin_id rfl hz ?_
  unfold mayO
  rw [mapO_cons (by rw [mvO_c,mapO_cons (mv1_free hd)]; rfl),mapO_cons (mvO_f (bl_free E)),mapO_cons (mvO_f (bl_free X))]
  rfl
theorem i012 : inS [0,1,2] 0 = some 0 ∧ inS [0,1,2] 1 = some 1 ∧ inS [0,1,2] 2 = some 2 := by decide
section
variable {P : Program} {T : Tab} {yi : Nat → Sem'}
theorem SFn.callM {f : FuncId} {xs : List V} {r : List O} {d : V} {v1 v2 : Nat} {E X : List Bool} {Q : V → Prop} {K : V → List O → Prop} (h : SFn P T f (.pt 0 0 :: xs) (mayO d v1 v2 E X) fun z os' => Q z ∧ os' = mayO d v1 v2 E X) (hm : T.mode f = 5)
    (hx : ∀ x ∈ xs,x.free = true) (hd : d.free1 = true) (hq : ∀ z,Q z → z.freeT = true) (hK : ∀ z,Q z → K z (mayO d v1 v2 E X ++ r)) :
    evCallV T (Call P T) yi (.fn (.func f) [] []) (.pt 0 0 :: xs) (mayO d v1 v2 E X ++ r) K := by
  have hc : evCallV.commits' (mayO d v1 v2 E X ++ r) xs = some (xs,mayO d v1 v2 E X ++ r) := by
    clear h hK
    induction xs with
    | nil => rfl
    | cons x xs ih => exact cm_free (hx x (by simp)) (ih fun y hy => hx y (by simp [hy]))
  refine h.call (S := [0,1,2]) (ys := .pt 0 0 :: xs) (o1 := mayO d v1 v2 E X ++ r) (.inl hm) (by rw [hm]; simpa [evCallV.hand] using cm_pt hc) (by decide) ?_ ?_ fun z os' hq' => ?_
  · rw [mapO_cons (y := .pt 0 0) (by rw [mv2_pt,i012.1]; rfl),mapO_id (fun y hy => mv2_free (hx y hy))]; rfl
  · unfold mayO
    rw [mapO_cons (y := .cells [d,.ar 1 v1,.ar 2 v2]) (by
        change mvO (inS [0,1,2]) (.cells [d,.ar 1 v1,.ar 2 v2]) = _
        rw [mvO_c,mapO_cons (mv1_free hd),mapO_cons (y := .ar 1 v1) (by rw [mv1_ar,i012.2.1]; rfl),mapO_cons (y := .ar 2 v2) (by rw [mv1_ar,i012.2.2]; rfl)]; rfl),
      mapO_cons (y := .arr v1 true 1 (E.map bV)) (by change mvO (inS [0,1,2]) (.arr v1 true 1 (E.map bV)) = _; rw [mvO_f (bl_free E)]),mapO_cons (y := .arr v2 true 1 (X.map bV)) (by change mvO (inS [0,1,2]) (.arr v2 true 1 (X.map bV)) = _; rw [mvO_f (bl_free X)])]
    rfl
  · obtain ⟨h1,rfl⟩ := hq'
    refine ⟨z,mayO d v1 v2 E X,mv_free (hq z h1), ?_,by simpa [putS,mayO] using hK z h1⟩
    unfold mayO
    have e : outT [0,1,2] [0,1,2].length (mayO d v1 v2 E X ++ r).length 1 = some 1 ∧ outT [0,1,2] [0,1,2].length (mayO d v1 v2 E X ++ r).length 2 = some 2 := ⟨rfl,rfl⟩
    unfold mayO at e
    rw [mapO_cons (y := .cells [d,.ar 1 v1,.ar 2 v2]) (by
        rw [mvO_c,mapO_cons (mv1_free hd),mapO_cons (y := .ar 1 v1) (by rw [mv1_ar,e.1]; rfl),mapO_cons (y := .ar 2 v2) (by rw [mv1_ar,e.2]; rfl)]; rfl),
      mapO_cons (y := .arr v1 true 1 (E.map bV)) (mvO_f (bl_free E)),mapO_cons (y := .arr v2 true 1 (X.map bV)) (mvO_f (bl_free X))]
    rfl
end
end Go.Proofs.Pe
end

section
set_option linter.unusedVariables false
namespace Go.Proofs.Pe
variable {P : Program} {T : Tab} {yi : Nat → Sem'}
theorem mayS_in {o : List O} {S : List Nat} {l a b v1 v2 : Nat} {d : V} {E X : List Bool} (hS : inS S l = some 0 ∧ inS S a = some 1 ∧ inS S b = some 2) (hd : d.free1 = true)
    (hl : o[l]? = some (.cells [d,.ar a v1,.ar b v2])) (ha : o[a]? = some (.arr v1 true 1 (E.map bV))) (hb : o[b]? = some (.arr v2 true 1 (X.map bV))) {r : List Nat} {os : List O}
    (hr : mapO (fun l => (o[l]?).bind (mvO (inS S))) r = some os) : mapO (fun l => (o[l]?).bind (mvO (inS S))) (l :: a :: b :: r) = some (mayO d v1 v2 E X ++ os) := by
  rw [mapO_cons (y := .cells [d,.ar 1 v1,.ar 2 v2]) (by
      rw [hl,Option.bind_some,mvO_c,mapO_cons (mv1_free hd),mapO_cons (y := .ar 1 v1) (by rw [mv1_ar,hS.2.1]; rfl),mapO_cons (y := .ar 2 v2) (by rw [mv1_ar,hS.2.2]; rfl)]; rfl),
    mapO_cons (y := .arr v1 true 1 (E.map bV)) (by rw [ha,Option.bind_some,mvO_f (bl_free E)]),mapO_cons (y := .arr v2 true 1 (X.map bV)) (by rw [hb,Option.bind_some,mvO_f (bl_free X)]),hr]
  rfl
theorem mayS_out {σ : Nat → Option Nat} {a b v1 v2 : Nat} {d : V} {E X : List Bool} (hS : σ 1 = some a ∧ σ 2 = some b) (hd : d.free1 = true) {r os : List O} (hr : mapO (mvO σ) r = some os) :
    mapO (mvO σ) (mayO d v1 v2 E X ++ r) = some (.cells [d,.ar a v1,.ar b v2] :: .arr v1 true 1 (E.map bV) :: .arr v2 true 1 (X.map bV) :: os) := by
  unfold mayO
  simp only [List.cons_append,List.nil_append]
  rw [mapO_cons (y := .cells [d,.ar a v1,.ar b v2]) (by
      rw [mvO_c,mapO_cons (mv1_free hd),mapO_cons (y := .ar a v1) (by rw [mv1_ar,hS.1]; rfl),mapO_cons (y := .ar b v2) (by rw [mv1_ar,hS.2]; rfl)]; rfl),
    mapO_cons (y := .arr v1 true 1 (E.map bV)) (mvO_f (bl_free E)),mapO_cons (y := .arr v2 true 1 (X.map bV)) (mvO_f (bl_free X)),hr]
  rfl
theorem SFn.callMr {f : FuncId} {xs : List V} {o : List O} {l a b v1 v2 : Nat} {d : V} {E X : List Bool} {Q : V → Prop} {K : V → List O → Prop} (h : SFn P T f (.pt 0 0 :: xs) (mayO d v1 v2 E X) fun z os' => Q z ∧ os' = mayO d v1 v2 E X) (hm : T.mode f = 5)
    (hx : ∀ x ∈ xs,x.free = true) (hd : d.free1 = true) (hl : o[l]? = some (.cells [d,.ar a v1,.ar b v2])) (ha : o[a]? = some (.arr v1 true 1 (E.map bV))) (hb : o[b]? = some (.arr v2 true 1 (X.map bV))) (hn : l ≠ a ∧ l ≠ b ∧ a ≠ b)
    (hq : ∀ z,Q z → z.freeT = true) (hK : ∀ z,Q z → K z (((o.set l (.cells [d,.ar a v1,.ar b v2])).set a (.arr v1 true 1 (E.map bV))).set b (.arr v2 true 1 (X.map bV)))) :
    evCallV T (Call P T) yi (.fn (.func f) [] []) (.pt l 0 :: xs) o K := by
  have hc : evCallV.commits' o xs = some (xs,o) := by
    clear h hK
    induction xs with
    | nil => rfl
    | cons x xs ih => exact cm_free (hx x (by simp)) (ih fun y hy => hx y (by simp [hy]))
  obtain ⟨h1,h2,h3⟩ := hn
  have hS : inS [l,a,b] l = some 0 ∧ inS [l,a,b] a = some 1 ∧ inS [l,a,b] b = some 2 := by
    have hN : [l,a,b].Nodup := by simp [h1,h2,h3]
    exact ⟨inS_mk hN rfl,inS_mk hN rfl,inS_mk hN rfl⟩
  refine h.call (S := [l,a,b]) (ys := .pt l 0 :: xs) (o1 := o) (.inl hm) (by rw [hm]; simpa [evCallV.hand] using cm_pt hc) (by simp [h1,h2,h3]) ?_ (by have h0 := mayS_in hS hd hl ha hb (r := []) (os := []) rfl; rw [List.append_nil] at h0; exact h0) fun z os' hq' => ?_
  · rw [mapO_cons (y := .pt 0 0) (by rw [mv2_pt,hS.1]; rfl),mapO_id (fun y hy => mv2_free (hx y hy))]; rfl
  · obtain ⟨h1,rfl⟩ := hq'
    exact ⟨z,_,mv_free (hq z h1),by have h0 := mayS_out (σ := outT [l,a,b] [l,a,b].length o.length) (a := a) (b := b) (v1 := v1) (v2 := v2) (E := E) (X := X) ⟨rfl,rfl⟩ hd (r := []) (os := []) rfl; rw [List.append_nil] at h0; exact h0,by simpa [putS] using hK z h1⟩
theorem SFn.callMw {f : FuncId} {u : V} {o : List O} {l a b c v1 v2 v : Nat} {d : V} {E X is : List Bool} {Q : List Bool → Prop} {K : V → List O → Prop}
    (h : SFn P T f [.pt 0 0,u,.ar 3 v] (mayO d v1 v2 E X ++ [.arr v true 1 (is.map bV)]) fun z os' => z = .tup [] ∧ ∃ is',Q is' ∧ os' = mayO d v1 v2 E X ++ [.arr v true 1 (is'.map bV)]) (hm : T.mode f = 6)
    (hu : u.free = true) (hd : d.free1 = true) (hl : o[l]? = some (.cells [d,.ar a v1,.ar b v2])) (ha : o[a]? = some (.arr v1 true 1 (E.map bV))) (hb : o[b]? = some (.arr v2 true 1 (X.map bV))) (hcc : o[c]? = some (.arr v true 1 (is.map bV)))
    (hn : l ≠ a ∧ l ≠ b ∧ l ≠ c ∧ a ≠ b ∧ a ≠ c ∧ b ≠ c)
    (hK : ∀ is',Q is' → K (.tup []) ((((o.set l (.cells [d,.ar a v1,.ar b v2])).set a (.arr v1 true 1 (E.map bV))).set b (.arr v2 true 1 (X.map bV))).set c (.arr v true 1 (is'.map bV)))) :
    evCallV T (Call P T) yi (.fn (.func f) [] []) [.pt l 0,u,.ar c v] o K := by
  obtain ⟨h1,h2,h3,h4,h5,h6⟩ := hn
  have hN : [l,a,b,c].Nodup := by simp [h1,h2,h3,h4,h5,h6]
  have hS : inS [l,a,b,c] l = some 0 ∧ inS [l,a,b,c] a = some 1 ∧ inS [l,a,b,c] b = some 2 := ⟨inS_mk hN rfl,inS_mk hN rfl,inS_mk hN rfl⟩
  have hS3 : inS [l,a,b,c] c = some 3 := inS_mk hN rfl
  refine h.call (S := [l,a,b,c]) (ys := [.pt l 0,u,.ar c v]) (o1 := o) (.inr hm) (by rw [hm]; rfl) hN ?_ (by
    refine mayS_in hS hd hl ha hb ?_
    rw [mapO_cons (y := .arr v true 1 (is.map bV)) (by rw [hcc,Option.bind_some,mvO_f (bl_free is)])]; rfl) fun z os' hq' => ?_
  · rw [mapO_cons (y := .pt 0 0) (by rw [mv2_pt,hS.1]; rfl),mapO_cons (mv2_free hu),mapO_cons (y := .ar 3 v) (by rw [mv2_ar,hS3]; rfl)]; rfl
  · obtain ⟨rfl,is',hq,rfl⟩ := hq'
    refine ⟨.tup [],_,rfl,mayS_out (σ := outT [l,a,b,c] [l,a,b,c].length o.length) (a := a) (b := b) ⟨rfl,rfl⟩ hd (r := [.arr v true 1 (is'.map bV)]) (os := [.arr v true 1 (is'.map bV)]) (by
      rw [mapO_cons (y := .arr v true 1 (is'.map bV)) (mvO_f (bl_free is'))]; rfl),by simpa [putS] using hK is' hq⟩
theorem may_fin4 {d z : V} {v1 v2 v : Nat} {E X is : List Bool} {r : List O} (hd : d.free1 = true) (hz : z.mv (idO 4) = some z) : Fin5 4 z (mayO d v1 v2 E X ++ [.arr v true 1 (is.map bV)] ++ r) z (mayO d v1 v2 E X ++ [.arr v true 1 (is.map bV)]) := by
  refine fin_id rfl hz ?_
  exact mayS_out (σ := idO 4) (a := 1) (b := 2) ⟨rfl,rfl⟩ hd (r := [.arr v true 1 (is.map bV)]) (os := [.arr v true 1 (is.map bV)]) (by
      rw [mapO_cons (y := .arr v true 1 (is.map bV)) (mvO_f (bl_free is))]; rfl)
end Go.Proofs.Pe
end

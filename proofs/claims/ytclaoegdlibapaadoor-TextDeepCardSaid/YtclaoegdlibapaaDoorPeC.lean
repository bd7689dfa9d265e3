/- An evaluator over the loaded code, and the proof that what it tells is so: a part of the texts that the claim's proof needs. Conditions: none beside those that its theorems state. -/
import Derived.Test.YtclaoegdlibapaaDoorPeB
import Derived.OrdersIn
import Derived.TacticsIn
import Derived.RangeFuncNested
import Derived.LoopNIn
import Derived.Scope
import Derived.Below
set_option linter.unusedSimpArgs false
set_option linter.unusedVariables false

section
set_option linter.unusedVariables false
namespace Go.Proofs.Pe
variable {P : Program} {T : Tab}

theorem Sim.refl (d : Nat) (o : List O) : Sim d o o := ⟨fun _ l cs h => h,fun _ l v wr k xs h => ⟨wr,h⟩⟩
theorem Sim.trans {d : Nat} {o o1 o2 : List O} (a : Sim d o o1) (b : Sim d o1 o2) : Sim d o o2 :=
  ⟨fun h l cs hl => b.1 h l cs (a.1 h l cs hl),fun h l v wr k xs hl => by
    obtain ⟨wr1,h1⟩ := a.2 h l v wr k xs hl
    exact b.2 h l v wr1 k xs h1⟩
theorem Sim.le {d d' : Nat} {o o' : List O} (a : Sim d o o') (h : d' ≤ d) : Sim d' o o' := ⟨fun h' => a.1 (by omega),fun h' => a.2 (by omega)⟩
theorem Sim.zero (o o' : List O) : Sim 0 o o' := ⟨fun h => by omega,fun h => by omega⟩
theorem Sim.push (d : Nat) (o : List O) (ob : O) : Sim d o (o ++ [ob]) :=
  ⟨fun _ l cs h => by rw [getElem?_snoc_lt (List.getElem?_eq_some_iff.1 h).1]; exact h,fun _ l v wr k xs h => ⟨wr,by rw [getElem?_snoc_lt (List.getElem?_eq_some_iff.1 h).1]; exact h⟩⟩
theorem Sim.off {d : Nat} {o : List O} {l v k : Nat} {wr wr' : Bool} {xs : List V} (h : o[l]? = some (.arr v wr k xs)) : Sim d o (o.set l (.arr v wr' k xs)) := by
  have hlt := (List.getElem?_eq_some_iff.1 h).1
  refine ⟨fun _ l' cs h' => ?_,fun _ l' v' w' k' xs' h' => ?_⟩
  · rw [set_get hlt]
    split
    · rename_i e; subst e; rw [h] at h'; cases h'
    · exact h'
  · rw [set_get hlt]
    split
    · rename_i e; subst e; rw [h] at h'; cases h'; exact ⟨_,rfl⟩
    · exact ⟨_,h'⟩
theorem Sim.arr {o : List O} {l v k : Nat} {wr : Bool} {xs : List V} {ob : O} (h : o[l]? = some (.arr v wr k xs)) : Sim 1 o (o.set l ob) := by
  have hlt := (List.getElem?_eq_some_iff.1 h).1
  refine ⟨fun _ l' cs h' => ?_,fun h => by omega⟩
  rw [set_get hlt]
  split
  · rename_i e; subst e; rw [h] at h'; cases h'
  · exact h'

theorem freeze1_sim {d : Nat} {o o' : List O} {x y : V} (h : freeze1 o x = some (y,o')) : Sim d o o' := by
  unfold freeze1 at h
  split at h
  · split at h
    · rename_i hl
      split at h
      · rename_i hc; cases h; obtain ⟨rfl,_⟩ := hc; exact Sim.off hl
      · cases h
    · cases h
  · split at h
    · cases h; exact Sim.refl _ _
    · cases h
theorem freezes_sim {d : Nat} : ∀ {xs ys : List V} {o o' : List O},freezes o xs = some (ys,o') → Sim d o o'
  | [],ys,o,o',h => by simp [freezes] at h; obtain ⟨_,rfl⟩ := h; exact Sim.refl _ _
  | x :: xs,ys,o,o',h => by
    simp only [freezes,Option.bind_eq_bind,Option.bind_eq_some_iff] at h
    obtain ⟨⟨y,o1⟩,h1,⟨ys',o2⟩,h2,h3⟩ := h
    simp only [pure,Option.some.injEq,Prod.mk.injEq] at h3
    obtain ⟨rfl,rfl⟩ := h3
    exact (freeze1_sim h1).trans (freezes_sim h2)
theorem freeze_sim {d : Nat} {o o' : List O} {x y : V} (h : freeze o x = some (y,o')) : Sim d o o' := by
  unfold freeze at h
  split at h
  · simp only [Option.map_eq_some_iff] at h
    obtain ⟨⟨ys,o1⟩,h1,h2⟩ := h
    cases h2; exact freezes_sim h1
  · exact freeze1_sim h
theorem freezes'_sim {d : Nat} : ∀ {xs ys : List V} {o o' : List O},step.freezes' o xs = some (ys,o') → Sim d o o'
  | [],ys,o,o',h => by simp [step.freezes'] at h; obtain ⟨_,rfl⟩ := h; exact Sim.refl _ _
  | x :: xs,ys,o,o',h => by
    simp only [step.freezes',Option.bind_eq_bind,Option.bind_eq_some_iff] at h
    obtain ⟨⟨y,o1⟩,h1,⟨ys',o2⟩,h2,h3⟩ := h
    simp only [pure,Option.some.injEq,Prod.mk.injEq] at h3
    obtain ⟨rfl,rfl⟩ := h3
    exact (freeze_sim h1).trans (freezes'_sim h2)

theorem commits'_sim {d : Nat} : ∀ {xs ys : List V} {o o' : List O},evCallV.commits' o xs = some (ys,o') → Sim d o o'
  | [],ys,o,o',h => by simp [evCallV.commits'] at h; obtain ⟨_,rfl⟩ := h; exact Sim.refl _ _
  | x :: xs,ys,o,o',h => by
    simp only [evCallV.commits'] at h
    split at h
    · cases h
    · rename_i zs o2 h2
      simp only [Option.some.injEq,Prod.mk.injEq] at h
      obtain ⟨_,rfl⟩ := h
      refine Sim.trans ?_ (commits'_sim h2)
      cases hf : freeze o x with
      | none => exact Sim.refl _ _
      | some p => exact freeze_sim (show freeze o x = some (p.1,p.2) from hf)

theorem freeze_free {o : List O} {x : V} (h : x.free = true) : freeze o x = some (x,o) := by
  have h1 : ∀ x : V,x.free1 = true → freeze1 o x = some (x,o) := fun x h => by
    cases x <;> first | (simp [V.free1] at h; done) | (simp only [freeze1,h,if_true])
  cases x with
  | agg cs =>
    have h2 : ∀ cs : List V,cs.all V.free1 = true → freezes o cs = some (cs,o) := fun cs => by
      induction cs with
      | nil => intro _; rfl
      | cons c cs ih =>
        intro hc
        simp only [List.all_cons,Bool.and_eq_true] at hc
        simp [freezes,h1 c hc.1,ih hc.2]
    simp only [freeze,h2 cs h,Option.map_some]
  | _ => simp only [freeze]; exact h1 _ h
theorem freezes'_free {o : List O} : ∀ {xs : List V},(∀ x,x ∈ xs → x.free = true) → step.freezes' o xs = some (xs,o)
  | [],h => rfl
  | x :: xs,h => by simp [step.freezes',freeze_free (o := o) (h x (by simp)),freezes'_free (xs := xs) fun y hy => h y (by simp [hy])]

theorem eff_sim {k : K} {md : FuncId → Nat} {s : St} {y : V} {o' : List O} {d : Nat} (he : k.eff md + d ≤ 3) (hd : d ≤ 2) (h : step P s k = some (y,o')) : Sim d s.o o' := by
  cases k
  case store x y n => have : d = 0 := by simp only [K.eff] at he; omega
                      subst this; exact Sim.zero _ _
  case snxt x => simp only [K.eff] at he; omega
  case call f xs => simp [step] at h
  case app x z k b =>
    have hd1 : d ≤ 1 := by simp only [K.eff] at he; omega
    refine Sim.le ?_ hd1
    simp only [step,Option.bind_eq_some_iff] at h
    obtain ⟨ys,_,h⟩ := h
    split at h
    · split at h
      · split at h
        · cases h; exact Sim.refl _ _
        · cases h
      · simp only [Option.map_eq_some_iff] at h; obtain ⟨_,_,h⟩ := h; cases h; exact Sim.refl _ _
      · cases h; exact Sim.refl _ _
      · cases h
    · split at h
      · split at h
        · cases h; exact Sim.push _ _ _
        · cases h
      · split at h
        · cases h; exact Sim.push _ _ _
        · cases h
      · split at h
        · rename_i hl
          split at h
          · cases h; exact Sim.arr hl
          · cases h
        · cases h
      · cases h
  case apz x z k b zv =>
    have hd1 : d ≤ 1 := by simp only [K.eff] at he; omega
    refine Sim.le ?_ hd1
    simp only [step,Option.bind_eq_some_iff] at h
    obtain ⟨n,_,h⟩ := h
    split at h
    case isFalse => cases h
    split at h
    · split at h
      · split at h
        · cases h; exact Sim.refl _ _
        · cases h
      · simp only [Option.map_eq_some_iff] at h; obtain ⟨_,_,h⟩ := h; cases h; exact Sim.refl _ _
      · cases h; exact Sim.refl _ _
      · cases h
    · split at h
      · split at h
        · cases h; exact Sim.push _ _ _
        · cases h
      · split at h
        · cases h; exact Sim.push _ _ _
        · cases h
      · split at h
        · rename_i hl
          split at h
          · cases h; exact Sim.arr hl
          · cases h
        · cases h
      · cases h
  case bsl k len z ps =>
    simp only [step,Option.bind_eq_bind,Option.bind_eq_some_iff] at h
    obtain ⟨⟨xs,o1⟩,h1,h⟩ := h
    split at h
    · simp only [pure,Option.some.injEq,Prod.mk.injEq] at h
      obtain ⟨_,rfl⟩ := h
      exact freezes'_sim h1
    · cases h
  case slc x lo hi mx k0 =>
    simp only [step,Option.bind_eq_bind] at h
    split at h
    case h_2 =>
      have : o' = s.o := by
        split at h
        · split at h
          · split at h
            · simp only [Option.map_eq_some_iff,Prod.mk.injEq] at h
              obtain ⟨_,_,_,h⟩ := h; exact h.symm
            · cases h
          · cases h
        · split at h
          · split at h
            · simp only [Option.map_eq_some_iff,Prod.mk.injEq] at h
              obtain ⟨_,_,_,h⟩ := h; exact h.symm
            · cases h
          · cases h
        · cases h
      subst this; exact Sim.refl _ _
    rename_i z o1 h1
    have hs : Sim d s.o o1 := freeze1_sim h1
    have : o' = o1 := by
      split at h
      · split at h
        · cases h
        · simp only [Option.bind_eq_some_iff] at h
          obtain ⟨h',_,l,_,h⟩ := h
          split at h
          · simp only [pure,Option.some.injEq,Prod.mk.injEq] at h; exact h.2.symm
          · simp only [Option.bind_eq_some_iff] at h
            obtain ⟨m',_,h⟩ := h
            split at h
            · simp only [pure,Option.some.injEq,Prod.mk.injEq] at h; exact h.2.symm
            · cases h
      · simp only [Option.bind_eq_some_iff] at h
        obtain ⟨h',_,l,_,m,_,h⟩ := h
        split at h
        · simp only [pure,Option.some.injEq,Prod.mk.injEq] at h; exact h.2.symm
        · cases h
      · cases h
    subst this; exact hs
  all_goals
    simp only [step] at h
    repeat' (first | (split at h) | (obtain ⟨_,_,h⟩ : ∃ _,_ ∧ _ := h) | (simp only [Option.bind_eq_some_iff,Option.map_eq_some_iff] at h))
    all_goals first
      | (cases h; done)
      | (simp only [Option.some.injEq,Prod.mk.injEq] at h; obtain ⟨_,rfl⟩ := h; first | exact Sim.refl _ _ | exact Sim.push _ _ _)

def SimR (d : Nat) (o o' : List O) : Prop := if d = 4 then Shp o o' else Sim d o o'
theorem Shp.of {o o' : List O} (h : Sim 2 o o') : Shp o o' := fun l v wr k xs hl => by
  obtain ⟨wr',h'⟩ := h.2 (Nat.le_refl _) l v wr k xs hl
  exact ⟨wr',xs,h',rfl⟩
theorem SimR.refl (d : Nat) (o : List O) : SimR d o o := by
  unfold SimR; split
  · exact Shp.of (Sim.refl _ _)
  · exact Sim.refl _ _
theorem SimR.zero (o o' : List O) : SimR 0 o o' := Sim.zero _ _
theorem SimR.of {d : Nat} {o o' : List O} (hd : d ≠ 3) (hd4 : d ≤ 4) (h : Sim 2 o o') : SimR d o o' := by
  unfold SimR; split
  · exact Shp.of h
  · exact h.le (by omega)
theorem okR_lt {d m : Nat} (h : okR d m = true) : d ≠ 3 ∧ d ≤ 4 := by
  simp only [okR,Bool.or_eq_true,Bool.and_eq_true,beq_iff_eq,decide_eq_true_eq] at h
  omega
theorem combR_spec (x y : Nat) : (x ≤ 1 ∧ (combR x y = y ∨ (y = 0 ∧ combR x y = 1))) ∨ (y ≤ 1 ∧ combR x y = x) ∨ (x = y ∧ combR x y = x) ∨ combR x y = 4 := by
  unfold combR
  split
  · split
    · exact .inl ⟨‹_›,.inr ⟨‹_›,rfl⟩⟩
    · exact .inl ⟨‹_›,.inl rfl⟩
  · split
    · exact .inr (.inl ⟨‹_›,rfl⟩)
    · split
      · exact .inr (.inr (.inl ⟨‹_›,rfl⟩))
      · exact .inr (.inr (.inr rfl))
theorem okR_iff {d m : Nat} : okR d m = true ↔ (d = 0 ∨ (d = 1 ∧ m ≤ 2) ∨ (d = 2 ∧ m ≤ 1) ∨ (d = 4 ∧ (m ≤ 1 ∨ m = 3))) := by
  simp only [okR,Bool.or_eq_true,Bool.and_eq_true,beq_iff_eq,decide_eq_true_eq,or_assoc]
theorem combR_l {x y d : Nat} (h : okR d (combR x y) = true) : okR d x = true := by
  rw [okR_iff] at h ⊢
  rcases combR_spec x y with ⟨a,e | ⟨b,e⟩⟩ | ⟨a,e⟩ | ⟨a,e⟩ | e <;> rw [e] at h <;> omega
theorem combR_r {x y d : Nat} (h : okR d (combR x y) = true) : okR d y = true := by
  rw [okR_iff] at h ⊢
  rcases combR_spec x y with ⟨a,e | ⟨b,e⟩⟩ | ⟨a,e⟩ | ⟨a,e⟩ | e <;> rw [e] at h <;> omega
theorem store_shp {s : St} {x y : E} {n : Nat} {z : V} {o' : List O} (h : step P s (.store x y n) = some (z,o')) : Shp s.o o' := by
  simp only [step] at h
  split at h
  case isFalse => cases h
  split at h
  · split at h
    · rename_i l off _ cs hl
      split at h
      · cases h
        intro l' v wr k xs hl'
        have hlt := (List.getElem?_eq_some_iff.1 hl).1
        refine ⟨wr,xs, ?_,rfl⟩
        rw [set_get hlt,if_neg (fun e => by subst e; rw [hl] at hl'; cases hl')]; exact hl'
      · cases h
    · cases h
  · split at h
    · rename_i l v i off _ v' k xs hl
      split at h
      · rename_i hv; subst hv
        simp only [Option.bind_eq_some_iff] at h
        obtain ⟨x',hx',h⟩ := h
        split at h
        · cases h
          intro l' v wr k0 xs0 hl'
          have hlt := (List.getElem?_eq_some_iff.1 hl).1
          rw [set_get hlt]
          split
          · rename_i e; subst e; rw [hl] at hl'; cases hl'
            exact ⟨_,_,rfl,by simp⟩
          · exact ⟨wr,xs0,hl',rfl⟩
        · cases h
      · cases h
    · cases h
  · cases h
theorem effR {k : K} {md : FuncId → Nat} {s : St} {y : V} {o' : List O} {d : Nat} (he : okR d (k.eff md) = true) (h : step P s k = some (y,o')) : SimR d s.o o' := by
  obtain ⟨h3,h4⟩ := okR_lt he
  by_cases hd : d = 4
  · subst hd
    show Shp s.o o'
    by_cases h1 : k.eff md ≤ 1
    · exact Shp.of (eff_sim (md := md) (by omega) (Nat.le_refl _) h)
    · have e3 : k.eff md = 3 := by
        simp [okR] at he; omega
      cases k
      case store => exact store_shp h
      case call => simp [step] at h
      case bsl => simp only [K.eff] at e3; split at e3 <;> cases e3
      all_goals (simp [K.eff] at e3)
  · have : SimR d s.o o' = Sim d s.o o' := by unfold SimR; rw [if_neg hd]
    rw [this]
    by_cases h0 : d = 0
    · subst h0; exact Sim.zero _ _
    · refine eff_sim (md := md) ?_ (by omega) h
      simp only [okR,Bool.or_eq_true,Bool.and_eq_true,beq_iff_eq,decide_eq_true_eq] at he
      omega
end Go.Proofs.Pe
end

section
set_option linter.unusedVariables false
namespace Go.Proofs.Pe
variable {P : Program} {T : Tab}

def E.at (t : List V) : E → V
  | .tmp x => t.getD x .dead
  | .lit x => x
theorem ev_at (e : E) (s : St) : e.ev s = e.at s.t := by cases e <;> rfl
theorem scEnv_o (t : List V) (o o2 : List O) : scEnv { t := t,o := o } = scEnv { t := t,o := o2 } := by
  funext x
  simp only [scEnv,ev_at]

theorem part_o {α : Type} {m : Option α} {o o2 : List O} {y : α} {o' : List O} (h : m.map (fun y => (y,o)) = some (y,o')) : o' = o ∧ m.map (fun y => (y,o2)) = some (y,o2) := by
  cases m with
  | none => cases h
  | some a => cases h; exact ⟨rfl,rfl⟩

theorem part_f {α : Type} {m : Option α} {f : α → V} {o : List O} {y : V} {o' : List O} (h : m.map (fun x => (f x,o)) = some (y,o')) : o' = o ∧ ∀ o2 : List O,m.map (fun x => (f x,o2)) = some (y,o2) := by
  cases m with
  | none => cases h
  | some a => cases h; exact ⟨rfl,fun _ => rfl⟩
def arDep : V → Nat
  | .ar .. => 2
  | .vw .. => 2
  | _ => 0
def arDep4 : V → Nat
  | .ar .. => 4
  | .vw .. => 4
  | _ => 0
theorem row_o {x : V} {o o2 : List O} {xs : List V} (hs : SimR (arDep x) o o2) (h : rowOf o x = some xs) : rowOf o2 x = some xs := by
  cases x with
  | ar l v =>
    simp only [rowOf] at h ⊢
    split at h
    · rename_i v' wr k ys hl
      obtain ⟨wr',hl'⟩ := (show Sim 2 o o2 from hs).2 (Nat.le_refl _) l v' wr k ys hl
      rw [hl']
      exact h
    · cases h
  | vw l v a n =>
    simp only [rowOf] at h ⊢
    split at h
    · rename_i v' wr k ys hl
      obtain ⟨wr',hl'⟩ := (show Sim 2 o o2 from hs).2 (Nat.le_refl _) l v' wr k ys hl
      rw [hl']
      exact h
    · cases h
  | sc v =>
    unfold rowOf at h ⊢
    split at h <;> first | (cases h; done) | skip
    · rename_i e; cases e
    · rename_i e; cases e
    · rename_i e; cases e
    · rename_i e; cases e; exact h
  | _ => exact h

theorem row_o4 {x : V} {o o2 : List O} {xs : List V} (hs : SimR (arDep4 x) o o2) (h : rowOf o x = some xs) : ∃ xs',rowOf o2 x = some xs' ∧ xs'.length = xs.length := by
  cases x with
  | ar l v =>
    simp only [rowOf] at h ⊢
    split at h
    · rename_i v' wr k ys hl
      obtain ⟨wr',xs',hl',hlen⟩ := (show Shp o o2 from hs) l v' wr k ys hl
      rw [hl']
      dsimp only
      split at h
      · rename_i hv
        cases h
        exact ⟨xs',by rw [if_pos hv],hlen⟩
      · cases h
    · cases h
  | vw l v a n =>
    simp only [rowOf] at h ⊢
    split at h
    · rename_i v' wr k ys hl
      obtain ⟨wr',xs',hl',hlen⟩ := (show Shp o o2 from hs) l v' wr k ys hl
      rw [hl']
      dsimp only
      split at h
      · rename_i hv
        cases h
        exact ⟨_,by rw [if_pos hv],by simp [hlen]⟩
      · cases h
    · cases h
  | _ => exact ⟨xs,row_o (x := _) (SimR.zero _ _) h,rfl⟩

theorem reader_step {k : K} {md : FuncId → Nat} {t : List V} {o : List O} {y : V} {o' : List O} (he : k.eff md = 0) (hd : k.dep { t := t,o := o } ≠ 3) (h : step P { t := t,o := o } k = some (y,o')) :
    o' = o ∧ ∀ o2,SimR (k.dep { t := t,o := o }) o o2 → step P { t := t,o := o2 } k = some (y,o2) := by
  cases k
  case box => simp [K.eff] at he
  case alloc => simp [K.eff] at he
  case msl => simp [K.eff] at he
  case s2b => simp [K.eff] at he
  case bsa => simp [K.eff] at he
  case mks => simp [K.eff] at he
  case srng => simp [K.eff] at he
  case snxt => simp [K.eff] at he
  case slc => simp [K.eff] at he
  case app => simp [K.eff] at he
  case apz => simp [K.eff] at he
  case store => simp [K.eff] at he
  case call f xs => simp [step] at h
  case sca op =>
    simp only [step] at h
    split at h
    · rename_i hall
      split at h
      · rename_i v hv
        refine ⟨(part_o (o2 := o) h).1,fun o2 _ => ?_⟩
        have e := scEnv_o t o o2
        rw [e] at hall hv
        simp only [step,hall,if_true,hv]
        exact (part_o (o2 := o2) h).2
      · cases h
    · cases h
  case bsl k len z ps =>
    have hfree : ∀ x,x ∈ ps.map (fun p => p.2.at t) → x.free = true := fun x hx => by
      simp only [K.dep] at hd
      split at hd
      · rename_i hall
        simp only [List.all_eq_true] at hall
        obtain ⟨p,hp,rfl⟩ := List.mem_map.1 hx
        rw [← ev_at p.2 { t := t,o := o }]; exact hall p hp
      · omega
    have key : ∀ o3,(ps.map fun x => match x with | (_,e) => e.ev { t := t,o := o3 }) = ps.map (fun p => p.2.at t) := fun o3 => List.map_congr_left fun p hp => ev_at _ _
    simp only [step,key,freezes'_free hfree,Option.bind_eq_bind,Option.bind_some] at h ⊢
    split at h
    · rename_i hc
      simp only [pure,Option.some.injEq,Prod.mk.injEq] at h
      obtain ⟨rfl,rfl⟩ := h
      exact ⟨rfl,fun o2 _ => by rw [if_pos hc]; rfl⟩
    · cases h
  case load x ag n =>
    simp only [step,ev_at,K.dep] at h ⊢
    split at h
    · rename_i l off hx
      simp only [hx]
      split at h
      · rename_i cs hl
        refine ⟨(part_o (o2 := o) h).1,fun o2 hs => ?_⟩
        rw [hs.1 (by omega) l cs hl]
        exact (part_o (o2 := o2) h).2
      · cases h
    · rename_i l v i off hx
      simp only [hx]
      split at h
      · rename_i v' wr k xs hl
        split at h
        · rename_i hv
          cases hxi : xs[i]? with
          | none => rw [hxi] at h; cases h
          | some z =>
            rw [hxi] at h
            simp only [Option.bind_some] at h
            refine ⟨(part_o (o2 := o) h).1,fun o2 hs => ?_⟩
            obtain ⟨wr',hl'⟩ := hs.2 (by omega) l v' wr k xs hl
            rw [hl']
            simp only [if_pos hv,hxi,Option.bind_some]
            exact (part_o (o2 := o2) h).2
        · cases h
      · cases h
    · rename_i cs hx
      simp only [hx]
      exact ⟨(part_o (o2 := o) h).1,fun o2 hs => (part_o (o2 := o2) h).2⟩
    · cases h
  case nilck x =>
    simp only [step,ev_at,K.dep] at h ⊢
    split at h
    · rename_i l off hx; cases h; simp [hx]
    · rename_i l v i off hx
      simp only [hx]
      split at h
      · rename_i v' wr k xs hl
        split at h
        · rename_i hv
          cases h
          refine ⟨rfl,fun o2 hs => ?_⟩
          obtain ⟨wr',xs',hl',_⟩ := (show Shp o o2 from hs) l v' wr k xs hl
          rw [hl']; simp only [if_pos hv]
        · cases h
      · cases h
    · rename_i cs hx; cases h; simp [hx]
    · rename_i hx; cases h; simp [hx]
    · rename_i hx; cases h; simp [hx]
    · cases h
  case fad x off =>
    simp only [step,ev_at,K.dep] at h ⊢
    split at h
    · rename_i l off hx; cases h; simp [hx]
    · rename_i l v i off hx
      simp only [hx]
      split at h
      · rename_i v' wr k xs hl
        split at h
        · rename_i hv
          cases h
          refine ⟨rfl,fun o2 hs => ?_⟩
          obtain ⟨wr',xs',hl',_⟩ := (show Shp o o2 from hs) l v' wr k xs hl
          rw [hl']; simp only [if_pos hv]
        · cases h
      · cases h
    · rename_i cs hx
      simp only [hx]
      split at h
      · rename_i hc; cases h; exact ⟨rfl,fun o2 _ => by rw [if_pos hc]⟩
      · cases h
    · cases h
  case iad x i k =>
    simp only [step,ev_at,K.dep] at h ⊢
    cases hi : intOf (i.at t) with
    | none => rw [hi] at h; cases h
    | some n =>
      rw [hi] at h
      simp only [Option.bind_some] at h ⊢
      split at h
      · rename_i hn
        simp only [if_pos hn]
        split at h
        · rename_i k' f xs hx
          simp only [hx]
          split at h
          · rename_i hk
            simp only [if_pos hk]
            exact ⟨(part_f h).1,fun o2 _ => (part_f h).2 o2⟩
          · cases h
        · rename_i l v hx
          simp only [hx]
          split at h
          · rename_i v' wr k' xs hl
            split at h
            · rename_i hc
              cases h
              refine ⟨rfl,fun o2 hs => ?_⟩
              obtain ⟨wr',xs2,hl',hl2⟩ := (show Shp o o2 from hs) l v' wr k' xs hl
              rw [hl']; simp only [hl2,if_pos hc]
            · cases h
          · cases h
        · rename_i l v a0 m hx
          simp only [hx]
          split at h
          · rename_i v' wr k' xs hl
            split at h
            · rename_i hc
              cases h
              refine ⟨rfl,fun o2 hs => ?_⟩
              obtain ⟨wr',xs2,hl',hl2⟩ := (show Shp o o2 from hs) l v' wr k' xs hl
              rw [hl']; simp only [if_pos hc]
            · cases h
          · cases h
        · cases h
      · cases h
  case aia x i k m =>
    simp only [step,ev_at,K.dep] at h ⊢
    generalize x.at t = u at h ⊢
    cases hi : intOf (i.at t) with
    | none => rw [hi] at h; cases h
    | some n =>
      rw [hi] at h
      simp only [Option.bind_some] at h ⊢
      split at h
      · rename_i hn
        simp only [if_pos hn]
        split at h
        · cases h
          exact ⟨rfl,fun o2 _ => rfl⟩
        · cases h
      · cases h
  case bad => simp [step] at h
  case ssl x lo hi =>
    have hb : ∀ (o1 o2 : List O) (n : Nat) (e : Option E),bound { t := t,o := o1 } n e = bound { t := t,o := o2 } n e := fun o1 o2 n e => by
      cases e with
      | none => rfl
      | some e => simp only [bound,ev_at]
    simp only [step,ev_at] at h ⊢
    split at h
    · rename_i b hx
      simp only [Option.bind_eq_some_iff,Option.map_eq_some_iff] at h
      obtain ⟨m,h1,q,h2,h⟩ := h
      cases h
      refine ⟨rfl,fun o2 _ => ?_⟩
      rw [hb o o2] at h1 h2
      simp only [h1,h2,Option.bind_some,Option.map_some]
    · cases h
  case len x =>
    simp only [step,ev_at,K.dep] at h ⊢
    cases hr : rowOf o (x.at t) with
    | none => rw [hr] at h; cases h
    | some xs =>
      rw [hr] at h; cases h
      exact ⟨rfl,fun o2 hs => by obtain ⟨xs',h1,h2⟩ := row_o4 (x := x.at t) hs hr; rw [h1,← h2]; rfl⟩
  case b2s x =>
    simp only [step,ev_at,K.dep] at h ⊢
    cases hr : rowOf o (x.at t) with
    | none => rw [hr] at h; cases h
    | some xs =>
      rw [hr] at h
      simp only [Option.bind_some] at h
      exact ⟨(part_f h).1,fun o2 hs => by rw [row_o (x := x.at t) hs hr]; exact (part_f h).2 o2⟩
  case cmpnil kind neg x =>
    simp only [step,ev_at,K.dep] at h ⊢
    split at h <;> first | (cases h; done) | (cases h; rename_i hx; simp)
  case bin op x z =>
    simp only [step,ev_at] at h ⊢
    generalize x.at t = u at h ⊢
    generalize z.at t = v at h ⊢
    split at h
    · split at h
      · rename_i hk
        simp only [if_pos hk]
        exact ⟨(part_f h).1,fun o2 _ => (part_f h).2 o2⟩
      · cases h
    · exact ⟨(part_f h).1,fun o2 _ => (part_f h).2 o2⟩
    · cases h
  case bld zs ps =>
    simp only [step,ev_at] at h ⊢
    split at h
    · rename_i hc
      refine ⟨(part_f h).1,fun o2 _ => ?_⟩
      rw [if_pos hc]
      exact (part_f h).2 o2
    · cases h
  case sidx x i =>
    simp only [step,ev_at] at h ⊢
    generalize x.at t = u at h ⊢
    generalize i.at t = v at h ⊢
    split at h
    · split at h
      · rename_i hk
        simp only [if_pos hk]
        exact ⟨(part_f h).1,fun o2 _ => (part_f h).2 o2⟩
      · cases h
    · cases h
  case beq n x z =>
    simp only [step,ev_at] at h ⊢
    generalize x.at t = u at h ⊢
    generalize z.at t = v at h ⊢
    split at h
    · cases h; exact ⟨rfl,fun o2 _ => rfl⟩
    · cases h
  case mm m x z =>
    simp only [step,ev_at] at h ⊢
    generalize x.at t = u at h ⊢
    generalize z.at t = v at h ⊢
    split at h
    · cases h; exact ⟨rfl,fun o2 _ => rfl⟩
    · cases h
  case fld x off n ag =>
    simp only [step,ev_at] at h ⊢
    generalize x.at t = u at h ⊢
    split at h
    · exact ⟨(part_f h).1,fun o2 _ => (part_f h).2 o2⟩
    · cases h
  case ext x i =>
    simp only [step,ev_at] at h ⊢
    generalize x.at t = u at h ⊢
    split at h
    · exact ⟨(part_f h).1,fun o2 _ => (part_f h).2 o2⟩
    · cases h
  all_goals
    simp only [step,ev_at,K.dep] at h ⊢
    (repeat' split at h) <;> first
      | (cases h; done)
      | (cases h; refine ⟨rfl,fun o2 _ => ?_⟩; simp only [*]; done)
      | (cases h; exact ⟨rfl,fun o2 _ => rfl⟩)
      | (refine ⟨(part_f h).1,fun o2 _ => ?_⟩; simp only [*]; exact (part_f h).2 o2)
end Go.Proofs.Pe
end

section
set_option linter.unusedVariables false
namespace Go.Proofs.Pe
variable {P : Program} {T : Tab}

theorem putT_get {d : Option Nat} {y : V} {t : List V} {x : Nat} (h : dstIn d [x] = false) : (putT d y t).getD x .dead = t.getD x .dead := by
  cases d with
  | none => rfl
  | some d =>
    simp only [dstIn,List.contains_cons,List.contains_nil,Bool.or_false,beq_eq_false_iff_ne] at h
    simp only [putT,List.getD_eq_getElem?_getD]
    rw [List.getElem?_set_ne h]
theorem agree_putT {us : List Nat} {d : Option Nat} {y : V} {t : List V} (h : dstIn d us = false) : Agree us (putT d y t) t := fun x hx => putT_get (by
  cases d with
  | none => rfl
  | some d =>
    simp only [dstIn] at h ⊢
    simp only [List.contains_cons,List.contains_nil,Bool.or_false,beq_eq_false_iff_ne]
    intro e; subst e
    simp [hx] at h)
theorem putT_comm {d d' : Option Nat} {x y : V} {t : List V} (h : (match d,d' with | some x,some y => x != y | _,_ => true) = true) : putT d x (putT d' y t) = putT d' y (putT d x t) := by
  cases d <;> cases d' <;> try rfl
  simp only [bne_iff_ne] at h
  exact (List.set_comm _ _ (Ne.symm h))

theorem guard_congr {g : Option (Nat × Bool)} {s s' : St} (h : Agree (gUses g) s.t s'.t) : guardOk s g = guardOk s' g := by
  cases g with
  | none => rfl
  | some p =>
    obtain ⟨x,b⟩ := p
    have := h x (by simp [gUses])
    simp only [guardOk,this]

theorem dep_congr {k : K} {s s' : St} (h : Agree k.uses s.t s'.t) : k.dep s = k.dep s' := by
  cases k
  case bsl k len z ps =>
    have h1 : (ps.all fun p => (p.2.ev s).free) = (ps.all fun p => (p.2.ev s').free) := all_congr' fun p hp => by rw [ev_congr (h.sub fun x hx => by simp only [K.uses,List.mem_flatMap]; exact ⟨p,hp,hx⟩)]
    simp only [K.dep,h1]
  case iad x i k => simp only [K.dep,ev_congr (e := x) (s := s) (s' := s') (h.sub fun z hz => by simp [K.uses,hz])]
  all_goals first
    | rfl
    | (rename_i x; simp only [K.dep,ev_congr (e := x) (s := s) (s' := s') h])
    | (rename_i x _; simp only [K.dep,ev_congr (e := x) (s := s) (s' := s') h])
    | (rename_i x _ _; simp only [K.dep,ev_congr (e := x) (s := s) (s' := s') h])

theorem evCallV_sim {ca : Ca} (hc : CLe ca ca) {yi : Nat → Sem'} {g : FuncId} {as bs xs : List V} {o : List O} {K K' : V → List O → Prop} (hm : T.mode g < 2 ∨ T.mode g = 3) (hK : ∀ y o',Sim 2 o o' → K y o' → K' y o')
    (h : evCallV T ca yi (.fn (.func g) as bs) xs o K) : evCallV T ca yi (.fn (.func g) as bs) xs o K' := by
  rcases hm with hm | hm
  case inr =>
    have hn : ¬ T.mode g < 2 := by omega
    simp only [evCallV,if_neg hn,if_pos hm] at h ⊢
    split at h
    · exact h.elim
    · rename_i ys o1 hcm
      exact hc _ _ g (fun _ _ _ _ _ _ h => h) _ _ _ _ (fun y o' h => ⟨h.1,hK _ _ ((commits'_sim hcm).trans h.1) h.2⟩) h
  simp only [evCallV,if_pos hm] at h ⊢
  split at h
  · exact h.elim
  · rename_i ys o1 hcm
    have hs : Sim 2 o o1 := freezes'_sim hcm
    refine hc _ _ g (fun _ _ _ _ _ _ h => h) _ _ _ _ (fun y o' h => ?_) h
    unfold pureEnd at h ⊢
    split at h
    · split at h
      · split at h
        · rename_i hc; rw [if_pos hc]; exact hK _ _ (hs.trans (Sim.push _ _ _)) h
        · exact h.elim
      · exact h.elim
    · split at h
      · exact h.elim
      · split at h
        · rename_i hc; rw [if_pos hc]; exact hK _ _ (Sim.refl _ _) h
        · rename_i hc; rw [if_neg hc]; exact hK _ _ hs h

theorem eff_call (md : FuncId → Nat) (f : E) (xs : List E) : K.eff md (.call f xs) ≠ 0 := by
  unfold K.eff
  split <;> first | (intro h; cases ‹K.call _ _ = _›; done) | skip
  all_goals first | (split <;> simp) | simp | skip
  all_goals simp_all

theorem reader_replay {ca : Ca} {yi : Nat → Sem'} {ki : KO} {s : St} {K : St → Prop} (hok : ki.k.okS) (he : ki.k.eff T.mode = 0) (hd : ki.k.dep s ≠ 3) (h : evOp P T ca yi ki s K) :
    ∃ y,K { t := putT ki.dst y s.t,o := s.o } ∧ ∀ (s2 : St) (K2 : St → Prop),Agree ki.uses s2.t s.t → SimR (ki.k.dep s) s.o s2.o → K2 { t := putT ki.dst y s2.t,o := s2.o } → evOp P T ca yi ki s2 K2 := by
  unfold evOp at h
  split at h
  · exact h.elim
  · rename_i hg
    refine ⟨.tup [],h,fun s2 K2 ha hs hk => ?_⟩
    unfold evOp
    rw [guard_congr (g := ki.g) (ha.sub fun x hx => by simp [KO.uses,hx]),hg]
    exact hk
  · rename_i hg
    split at h
    · rename_i f xs hk
      rw [hk] at he
      exact absurd he (eff_call _ _ _)
    · rename_i k hk
      split at h
      · exact h.elim
      · rename_i y o' hst
        obtain ⟨t,o⟩ := s
        obtain ⟨rfl,hre⟩ := reader_step he hd hst
        refine ⟨y,h,fun s2 K2 ha hs hk2 => ?_⟩
        obtain ⟨t2,o2⟩ := s2
        unfold evOp
        rw [guard_congr (s' := { t := t,o := o' }) (g := ki.g) (ha.sub fun x hx => by simp [KO.uses,hx]),hg]
        dsimp only
        split
        · rename_i f xs hc; exact absurd hc (hk f xs)
        · rw [step_congr hok (t' := t) (ha.sub fun x hx => by simp [KO.uses,hx]),hre o2 hs]
          exact hk2
end Go.Proofs.Pe
end

section
set_option linter.unusedVariables false
namespace Go.Proofs.Pe
variable {fl : Bool} {P : Program} {T : Tab}

theorem mover_move {ca : Ca} {yi : Nat → Sem'} (hc : CLe ca ca) (hy : YLe yi yi) {kj : KO} {t t1 : List V} {o : List O} {K K2 : St → Prop} {d : Nat} (hok : kj.k.okS) (ha : Agree kj.uses t1 t) (he : okR d (kj.k.eff T.mode) = true)
    (h : evOp P T ca yi kj { t := t1,o := o } K) (hK : ∀ y o',SimR d o o' → K { t := putT kj.dst y t1,o := o' } → K2 { t := putT kj.dst y t,o := o' }) : evOp P T ca yi kj { t := t,o := o } K2 := by
  unfold evOp at h ⊢
  rw [guard_congr (s' := { t := t,o := o }) (g := kj.g) (ha.sub fun x hx => by simp [KO.uses,hx])] at h
  split at h
  · exact h.elim
  · exact hK _ _ (SimR.refl _ _) h
  · split at h
    · rename_i f xs hk
      have hf : f.ev { t := t1,o := o } = f.ev { t := t,o := o } := ev_congr (ha.sub fun x hx => by simp [KO.uses,hk,Pe.K.uses,hx])
      have hxs : (xs.map (·.ev { t := t1,o := o })) = xs.map (·.ev { t := t,o := o }) := List.map_congr_left fun e hin => ev_congr (ha.sub fun x hx => by
        simp only [KO.uses,hk,Pe.K.uses,List.mem_append,List.mem_flatMap]; exact .inr (.inr ⟨e,hin,hx⟩))
      rw [hf,hxs] at h
      by_cases hp : ∃ g as bs,f = .lit (.fn (.func g) as bs) ∧ (T.mode g < 2 ∨ T.mode g = 3)
      · obtain ⟨g,as,bs,rfl,hm⟩ := hp
        exact evCallV_sim hc hm (fun y o' hs h => hK _ _ (SimR.of (okR_lt he).1 (okR_lt he).2 hs) h) h
      · have he3 : kj.k.eff T.mode = 4 := by
          rw [hk]
          unfold Pe.K.eff
          split
          all_goals first | (cases ‹Pe.K.call _ _ = _›; done) | skip
          · rename_i g as bs xs' e
            rw [if_neg]
            intro hm
            cases e
            exact hp ⟨g,as,bs,rfl,hm⟩
          · rfl
          · rename_i h1 h2 h3
            exact absurd rfl (h3 _ _)
        have : d = 0 := by rw [okR_iff] at he; omega
        subst this
        exact evCallV_mono hc hy _ _ _ _ _ (fun y o' h => hK _ _ (SimR.zero _ _) h) h
    · rename_i k hk
      rw [step_congr hok (t' := t) (ha.sub fun x hx => by simp [KO.uses,hx])] at h
      split at h
      · exact h.elim
      · rename_i y o' hst
        exact hK _ _ (effR he hst) h

def evAny (fl : Bool) (P : Program) (T : Tab) (ca : Ca) (yi : Nat → Sem') (ops : Array Oper) : Nat → Array Bool → St → (St → Prop) → Prop
  | 0,listed,s,K => Region.ready .any ops listed = [] ∧ K s
  | n + 1,listed,s,K => (Region.ready .any ops listed = [] → K s) ∧ ∀ i,i ∈ Region.ready .any ops listed →
    ∃ oper ko,ops[i]? = some oper ∧ trKO P fl ops oper = some ko ∧ evOp P T ca yi ko s fun s' => evAny fl P T ca yi ops n (listed.setIfInBounds i true) s' K

inductive Beh (ops : Array Oper) (i : Nat) : Nat → Prop
  | one {j : Nat} {oj : Oper} {e : Edge} (h : ops[j]? = some oj) (he : e ∈ oj.after) (hb : Region.binds .any e = true) (ho : e.on = i) : Beh ops i j
  | more {j : Nat} {oj : Oper} {e : Edge} (h : ops[j]? = some oj) (he : e ∈ oj.after) (hb : Region.binds .any e = true) (ho : Beh ops i e.on) : Beh ops i j
theorem behind_ok {ops : Array Oper} {i : Nat} : ∀ {js acc : List Nat},(∀ j,j ∈ acc → Beh ops i j) → ∀ j,j ∈ behind ops i js acc → Beh ops i j
  | [],acc,h,j,hj => h j hj
  | k :: js,acc,h,j,hj => by
    simp only [behind] at hj
    split at hj
    · exact behind_ok h j hj
    · rename_i oj hoj
      split at hj
      · rename_i hc
        refine behind_ok (acc := k :: acc) (fun q hq => ?_) j hj
        rcases List.mem_cons.1 hq with rfl | hq
        · rw [Array.any_eq_true'] at hc
          obtain ⟨e,he,hb⟩ := hc
          simp only [Bool.and_eq_true,Bool.or_eq_true,beq_iff_eq,List.contains_iff_mem] at hb
          rcases hb.2 with h1 | h1
          · exact .one hoj he hb.1 h1
          · exact .more hoj he hb.1 (h _ h1)
        · exact h q hq
      · exact behind_ok h j hj
def Cl (ops : Array Oper) (listed : Array Bool) : Prop := ∀ (k : Nat) (ok : Oper),ops[k]? = some ok → listed.getD k false = true → ∀ e ∈ ok.after,Region.binds .any e = true → listed.getD e.on false = true
theorem getD_ft {listed : Array Bool} {i : Nat} (h0 : listed.getD i true = false) (h1 : listed.getD i false = true) : False := by
  rcases Nat.lt_or_ge i listed.size with h' | h'
  · simp [h'] at h0 h1; rw [h0] at h1; cases h1
  · simp [Array.getElem?_eq_none h'] at h1
theorem Cl.not {ops : Array Oper} {listed : Array Bool} {i j : Nat} (hc : Cl ops listed) (h0 : listed.getD i true = false) (hb : Beh ops i j) : listed.getD j false = true → False := by
  induction hb with
  | one h he hb ho => exact fun hl => getD_ft h0 (by rw [← ho]; exact hc _ _ h hl _ he hb)
  | more h he hb _ ih => exact fun hl => ih (hc _ _ h hl _ he hb)
theorem Cl.ready {ops : Array Oper} {listed : Array Bool} {i j : Nat} (hc : Cl ops listed) (h0 : listed.getD i true = false) (hr : j ∈ Region.ready .any ops listed) : ¬ Beh ops i j := fun hb => by
  obtain ⟨_,oj,hoj,hall⟩ := mem_ready.1 hr
  cases hb with
  | one h he hb ho => rw [hoj] at h; cases h; exact getD_ft h0 (by rw [← ho]; exact hall _ he hb)
  | more h he hb ho => rw [hoj] at h; cases h; exact hc.not h0 ho (hall _ he hb)
theorem Cl.set {ops : Array Oper} {listed : Array Bool} {j : Nat} (hc : Cl ops listed) (hr : j ∈ Region.ready .any ops listed) : Cl ops (listed.setIfInBounds j true) := fun k ok hk hl e he hb => by
  by_cases hjk : j = k
  · subst hjk
    obtain ⟨_,oj,hoj,hall⟩ := mem_ready.1 hr
    rw [hoj] at hk; cases hk
    exact getD_set_true (hall e he hb)
  · rw [getD_set_ne false hjk] at hl
    exact getD_set_true (hc k ok hk hl e he hb)
theorem Cl.init {ops : Array Oper} {n : Nat} : Cl ops (Array.replicate n false) := fun k ok _ hl => by
  exfalso
  rcases Nat.lt_or_ge k n with h' | h'
  · simp [h'] at hl
  · simp [h'] at hl
theorem evAny_first {ca : Ca} {yi : Nat → Sem'} (hc : CLe ca ca) (hy : YLe yi yi) {ops : Array Oper} {i : Nat} {oper : Oper} {ko : KO} (ho : ops[i]? = some oper) (hk : trKO P fl ops oper = some ko)
    (hok : ∀ (j : Nat) (oj : Oper) (kj : KO),ops[j]? = some oj → trKO P fl ops oj = some kj → kj.k.okS) (heff : ko.k.eff T.mode = 0) {m : Nat} {B : List Nat} (hB : ∀ j,j ∈ B → Beh ops i j) (K : St → Prop) :
    ∀ (fuel : Nat) (listed : Array Bool) (s : St),
      Cl ops listed → (∀ (j : Nat) (oj : Oper) (kj : KO),ops[j]? = some oj → j ≠ i → listed.getD j true = false → ¬ j ∈ B → trKO P fl ops oj = some kj → apartK ko kj = true ∧ ∀ d,okR d m = true → okR d (kj.k.eff T.mode) = true) →
      i ∈ Region.ready .any ops listed → okR (ko.k.dep s) m = true → evOp P T ca yi ko s (fun s' => evAny fl P T ca yi ops fuel (listed.setIfInBounds i true) s' K) → evAny fl P T ca yi ops (fuel + 1) listed s K := by
  intro fuel
  induction fuel with
  | zero =>
    intro listed s _ _ hr hd H
    refine ⟨fun h => (by rw [h] at hr; cases hr),fun j hj => ?_⟩
    by_cases hji : j = i
    · subst hji; exact ⟨oper,ko,ho,hk,H⟩
    · obtain ⟨y,⟨h1,_⟩,_⟩ := reader_replay (hok i oper ko ho hk) heff (okR_lt hd).1 H
      have := ready_mono hj hji
      rw [h1] at this
      cases this
  | succ fuel ih =>
    intro listed s hcl hfree hr hd H
    refine ⟨fun h => (by rw [h] at hr; cases hr),fun j hj => ?_⟩
    by_cases hji : j = i
    · subst hji; exact ⟨oper,ko,ho,hk,H⟩
    · obtain ⟨y0,⟨_,h1⟩,hre⟩ := reader_replay (hok i oper ko ho hk) heff (okR_lt hd).1 H
      obtain ⟨oj,kj,hoj,hkj,h2⟩ := h1 j (ready_mono hj hji)
      obtain ⟨hjun,oj',hoj',hall⟩ := mem_ready.1 hj
      rw [hoj] at hoj'; cases hoj'
      have hnot : ¬ j ∈ B := fun hm => hcl.ready (mem_ready.1 hr).1 hj (hB j hm)
      obtain ⟨hap,hem⟩ := hfree j oj kj hoj hji hjun hnot hkj
      simp only [apartK,Bool.and_eq_true,Bool.not_eq_true'] at hap
      obtain ⟨⟨ha1,ha2⟩,ha3⟩ := hap
      refine ⟨oj,kj,hoj,hkj, ?_⟩
      obtain ⟨t,o⟩ := s
      refine mover_move hc hy (d := ko.k.dep ⟨t,o⟩) (hok j oj kj hoj hkj) (agree_putT ha1) (hem _ hd) h2 fun y o' hs h3 => ?_
      have hag : Agree ko.uses (putT kj.dst y t) t := agree_putT ha2
      have hdep : ko.k.dep { t := putT kj.dst y t,o := o' } = ko.k.dep { t := t,o := o } := dep_congr (hag.sub fun x hx => by simp [KO.uses,hx])
      refine ih (listed.setIfInBounds j true) _ (hcl.set hj) (fun k ok kk hk' hki hun hno hkk => hfree k ok kk hk' hki ?_ hno hkk) (ready_mono hr (Ne.symm hji)) (by rw [hdep]; exact hd) (hre _ _ hag hs ?_)
      · by_cases hjk : j = k
        · subst hjk; exact hjun
        · rw [getD_set_ne true hjk] at hun; exact hun
      · dsimp only
        rw [putT_comm ha3,Array.setIfInBounds_comm _ _ hji]
        exact h3

theorem freeM_ok {md : FuncId → Nat} {ops : Array Oper} {listed : Array Bool} {i : Nat} {ko : KO} {B : List Nat} : ∀ {js : List Nat} {m : Nat},freeM P fl md ops listed B i ko js = some m →
    ∀ (j : Nat),j ∈ js → ∀ (oj : Oper) (kj : KO),ops[j]? = some oj → j ≠ i → listed.getD j true = false → ¬ j ∈ B → trKO P fl ops oj = some kj → apartK ko kj = true ∧ ∀ d,okR d m = true → okR d (kj.k.eff md) = true
  | [],m,h => by simp only [freeM,Option.some.injEq] at h; subst h; exact fun j hj => by cases hj
  | j :: js,m,h => by
    simp only [freeM] at h
    split at h
    · cases h
    · rename_i m0 h0
      have h2 := freeM_ok h0
      split at h
      · rename_i hc
        cases h
        refine fun j' hj' oj kj hoj hji hun hno hkj => ?_
        rcases List.mem_cons.1 hj' with rfl | hj'
        · rcases hc with hc | hc
          · exact absurd hc hji
          · rw [hc] at hun; cases hun
        · exact h2 j' hj' oj kj hoj hji hun hno hkj
      · split at h
        · rename_i hn
          cases h
          refine fun j' hj' oj kj hoj hji hun hno hkj => ?_
          rcases List.mem_cons.1 hj' with rfl | hj'
          · rw [hn] at hoj; cases hoj
          · exact h2 j' hj' oj kj hoj hji hun hno hkj
        · rename_i oj0 hoj0
          split at h
          · rename_i hb
            cases h
            refine fun j' hj' oj kj hoj hji hun hno hkj => ?_
            rcases List.mem_cons.1 hj' with rfl | hj'
            · exact absurd (by simpa using hb) hno
            · exact h2 j' hj' oj kj hoj hji hun hno hkj
          · split at h
            · cases h
            · rename_i kj0 hkj0
              split at h
              · rename_i hap
                cases h
                refine fun j' hj' oj kj hoj hji hun hno hkj => ?_
                rcases List.mem_cons.1 hj' with rfl | hj'
                · rw [hoj0] at hoj; cases hoj
                  rw [hkj0] at hkj; cases hkj
                  exact ⟨hap,fun d hd => combR_r hd⟩
                · obtain ⟨a1,a2⟩ := h2 j' hj' oj kj hoj hji hun hno hkj
                  exact ⟨a1,fun d hd => a2 d (combR_l hd)⟩
              · cases h
end Go.Proofs.Pe
end

section
set_option linter.unusedVariables false
namespace Go.Proofs.Pe
variable {fl : Bool} {P : Program} {w : World} {g : G} {o : List O} {T : Tab}

/-! ### A loop's record, a block for deferred calls, put anew -/
theorem loop_put {l : Nat} {st st' : LoopState} {p p' : Option Code} {ts : List V} {ps : Array Tmp} {as bd : Code} {dl : Nat} (I : Inv w.heap g o) (hl : o[l]? = some (.loop st p ts ps as bd dl)) {r : Loop}
    (hr : w.heap[g.blk l]? = some (.loop r)) :
    Tr w g o (w.putObj (g.blk l) (.loop { r with state := st',pending := p' })) g (o.set l (.loop st' p' ts ps as bd dl)) ∧
    Inv (w.putObj (g.blk l) (.loop { r with state := st',pending := p' })).heap g (o.set l (.loop st' p' ts ps as bd dl)) := by
  obtain ⟨fn,us,hb,hts,sh,hsh⟩ := I.loop l _ _ _ _ _ _ _ hl
  have hT : Tr w g o (w.putObj (g.blk l) (.loop { r with state := st',pending := p' })) g (o.set l (.loop st' p' ts ps as bd dl)) :=
    tr_put hl rfl rfl hr (fun _ _ _ h => by cases h) (fun _ h => by cases h) (fun _ _ _ _ h => by cases h)
  rw [hr] at hb
  cases hb
  refine ⟨hT,inv_cells I hl rfl rfl hT (fun b hb => World.putObj_heap_other hb) (by simp) (fun _ h => by cases h) (fun _ _ _ _ h => by cases h) (fun _ _ _ _ _ _ _ h => ?_) (fun _ h => by cases h) (fun _ h => by cases h)⟩
  cases h
  refine ⟨fn,us,World.putObj_heap_same (I.lt hl rfl),hts.ev hT.ev,sh, ?_⟩
  have hlt : l < o.length := (List.getElem?_eq_some_iff.1 hl).1
  rw [set_get hlt]
  split
  · rename_i e; subst e; rw [hl] at hsh; cases hsh
  · exact hsh

theorem dfd_put {l : Nat} (I : Inv w.heap g o) (hl : o[l]? = some (.dfd (.sh false))) :
    Tr w g o (w.putObj (g.blk l) (.deferred none)) g (o.set l (.dfd (.sh true))) ∧ Inv (w.putObj (g.blk l) (.deferred none)).heap g (o.set l (.dfd (.sh true))) := by
  have hb := I.dfd l _ hl
  have hT : Tr w g o (w.putObj (g.blk l) (.deferred none)) g (o.set l (.dfd (.sh true))) :=
    tr_put hl rfl rfl hb (fun _ _ _ h => by cases h) (fun _ h => by cases h) (fun _ _ _ _ h => by cases h)
  refine ⟨hT,inv_cells I hl rfl rfl hT (fun b hb => World.putObj_heap_other hb) (by simp) (fun _ h => by cases h) (fun _ _ _ _ h => by cases h) (fun _ _ _ _ _ _ _ h => by cases h) (fun _ h => ⟨true,rfl⟩) (fun _ h => ?_)⟩
  cases h
  exact World.putObj_heap_same (I.lt hl rfl)

/-! ### Regions -/
theorem noDefer_spec {ops : Array Oper} (h : noDefer ops = true) : ∀ oper,oper ∈ ops.toList → ∀ c,oper.op ≠ .defer c := fun oper ho c e => by
  simp only [noDefer,Array.all_eq_true'] at h
  have := h oper (by simpa using ho)
  rw [e] at this
  cases this

theorem evOps_ok {ca : (Nat → Sem') → FuncId → Sem'} {yi : Nat → Sem'} (hca : CaOk P ca) (hyi : YOk P yi) {ops : Array Oper} {rb : Option Nat} {Q : Exit → Act → World → Prop} {K : St → Prop} : ∀ {os : List Oper} {ks : List KO} {s : St} {a : Act} {w : World} {g : G},
    seqR P fl ops os = some ks → (∀ oper,oper ∈ os → ∀ c,oper.op ≠ .defer c) → evOps P T ca yi ks s K → Inv w.heap g s.o → Ts w.heap g s a →
    (∀ a' w' g' s',a'.defers = a.defers → Tr w g s.o w' g' s'.o → Inv w'.heap g' s'.o → Ts w'.heap g' s' a' → K s' → Q .normal a' w') → wpListIn (FR rb) 0 P ops Q os a w
  | [],ks,s,a,w,g,h1,hnd,h,I,Tt,hn => by
    simp only [seqR,Option.some.injEq] at h1; subst h1
    exact hn a w g s rfl (Tr.refl _ _ _) I Tt h
  | oper :: os,ks,s,a,w,g,h1,hnd,h,I,Tt,hn => by
    simp only [seqR,Option.bind_eq_bind,Option.bind_eq_some_iff] at h1
    obtain ⟨ko,hko,l,hl,h2⟩ := h1
    simp only [pure,Option.some.injEq] at h2; subst h2
    show if _ then _ else _
    refine evOp_ok hca hyi hko (hnd oper (by simp)) h I Tt fun a1 w1 g1 s1 hd T1 I1 Tt1 hK => ?_
    exact evOps_ok hca hyi hl (fun oper ho => hnd oper (by simp [ho])) hK I1 Tt1 fun a' w' g' s' hd' T2 I2 Tt2 hK2 => hn a' w' g' s' (hd'.trans hd) (T1.trans T2) I2 Tt2 hK2

/-! ### Regions that draw -/
theorem wpAnyIn_wide {ops : Array Oper} {rb : Option Nat} {md : Region.Mode} {Q : Exit → Act → World → Prop} (hnd : ∀ oper,oper ∈ ops.toList → ∀ c,oper.op ≠ .defer c) (n : Nat) : ∀ (fuel : Nat) (listed : Array Bool) (a : Act) (w : World),
    wpAnyIn Fence.wide n P md ops Q fuel listed a w → wpAnyIn (FR rb) n P md ops Q fuel listed a w
  | 0,listed,a,w,h => h
  | fuel + 1,listed,a,w,h => by
    refine ⟨h.1,fun i hi => ?_⟩
    have h2 := wpOpIn_mono (fun a w => wpAnyIn_wide (rb := rb) hnd n fuel _ a w) (h.2 i hi)
    unfold wpOpIn at h2 ⊢
    split at h2
    · exact h2
    · rename_i oper ho
      have hnd' := hnd oper (by simpa using Array.mem_of_getElem? ho)
      simp only [Oper.wpIn,Oper.semAt_eq _ _ _ hnd'] at h2 ⊢
      exact h2

theorem count_set {listed : Array Bool} {i : Nat} (h : listed.getD i true = false) : (listed.setIfInBounds i true).toList.count false + 1 = listed.toList.count false := by
  have hlt : i < listed.size := by
    rcases Nat.lt_or_ge i listed.size with h' | h'
    · exact h'
    · simp [Array.getD,Nat.not_lt.2 h'] at h
  have he : listed[i] = false := by simpa [Array.getD,hlt] using h
  have hlt' : i < listed.toList.length := by simpa using hlt
  have he' : listed.toList[i] = false := by simpa using he
  rw [Array.toList_setIfInBounds,List.count_set hlt']
  have hp : 0 < listed.toList.count false := List.count_pos_iff.2 (he' ▸ List.getElem_mem hlt')
  rw [he']
  simp only [BEq.rfl,if_true]
  have : ((true == false) = true) = False := by simp
  simp only [this,if_false]
  omega

theorem ready_count {ops : Array Oper} {listed : Array Bool} {i : Nat} (h : i ∈ Region.ready .any ops listed) : (listed.setIfInBounds i true).toList.count false + 1 = listed.toList.count false := count_set (mem_ready.1 h).1

theorem trK_sca {oper o1 : Oper} (h : trK P oper = some (.sca o1)) : o1 = oper := by
  unfold trK at h
  split at h
  all_goals (revert h)
  case h_10 =>
    split <;> intro hk
    · exfalso; rename_i hh; unfold trNil at hh; split at hh <;> first | (cases hh; done) | (simp only [Option.map_eq_some_iff] at hh; obtain ⟨_,_,hh⟩ := hh; cases hh; cases hk)
    · exfalso; rename_i hh; unfold trNil at hh; split at hh <;> first | (cases hh; done) | (simp only [Option.map_eq_some_iff] at hh; obtain ⟨_,_,hh⟩ := hh; cases hh; cases hk)
    · cases hk; rfl
  case h_11 =>
    split <;> intro hk
    · exfalso; rename_i hh; unfold trConv at hh; split at hh <;> (try (split at hh)) <;> (try (split at hh)) <;> first | (cases hh; done) | (simp only [Option.map_eq_some_iff] at hh; obtain ⟨_,_,hh⟩ := hh; cases hh; cases hk)
    · cases hk; rfl
  case h_5 => intro hk; unfold trBld at hk; split at hk <;> simp_all [Option.bind_eq_some_iff]
  case h_6 => intro hk; simp [trBsl,Option.bind_eq_some_iff] at hk; obtain ⟨_,_,_,_,_,_,_,_,_,hk⟩ := hk; split at hk <;> cases hk
  case h_12 => split <;> simp [Option.bind_eq_some_iff]
  case h_14 => split <;> simp [Option.bind_eq_some_iff]; exact Eq.symm
  all_goals (try (split <;> (try split) <;> (try split) <;> (try split)))
  all_goals (try (rename_i hx; obtain ⟨_,_,rfl⟩ := trExt_k hx))
  all_goals simp [Option.bind_eq_some_iff]
  all_goals exact Eq.symm


theorem optS_sca {o o1 : Oper} (h : optS P o = .sca o1) : o1 = o := by
  unfold optS optB at h
  repeat' split at h
  all_goals first | (cases h; done) | (cases h; rfl)

theorem okS_of {ops : Array Oper} (hnd : noDefer ops = true) (j : Nat) (oj : Oper) (kj : KO) (hj : ops[j]? = some oj) (hk : trKO P fl ops oj = some kj) : kj.k.okS := by
  intro o1 he cs b hs
  obtain ⟨k0,h1,h2⟩ : ∃ k0,looseK fl ((trK P oj).getD .bad) = k0 ∧ kj.k = opt P k0 := by
    simp only [trKO,Option.bind_eq_bind,Option.bind_eq_some_iff] at hk
    obtain ⟨k,hk1,hop⟩ := hk
    simp only [Option.some.injEq] at hk1
    split at hop
    · simp only [pure,Option.some.injEq] at hop; subst hop; exact ⟨k,hk1,rfl⟩
    · simp only [Option.bind_eq_some_iff] at hop
      obtain ⟨oj,hoj,d,hd,hop⟩ := hop
      simp only [pure,Option.some.injEq] at hop; subst hop; exact ⟨k,hk1,rfl⟩
  rw [he] at h2
  have h3 : o1 = oj := by
    have h1' : ∀ o2,k0 = .sca o2 → trK P oj = some k0 := fun o2 e => by
      subst e
      cases ht : trK P oj with
      | none => rw [ht] at h1; cases fl <;> cases h1
      | some k1 => rw [ht] at h1; cases fl <;> cases k1 <;> simp_all [looseK]
    cases k0 <;> first | (cases h2; done) | skip
    rename_i o2
    have e1 := optS_sca h2.symm
    have e2 := trK_sca (h1' _ rfl)
    rw [e1,e2]
  subst h3
  simp only [noDefer,Array.all_eq_true'] at hnd
  have := hnd o1 (by simpa using Array.mem_of_getElem? hj)
  rw [hs] at this
  cases this
end Go.Proofs.Pe
end

section
set_option linter.unusedVariables false
namespace Go.Proofs.Pe
variable {fl : Bool} {P : Program} {w : World} {g : G} {o : List O} {T : Tab}

section
variable {ca : Ca} {yi : Nat → Sem'} {ops : Array Oper} {K : St → Prop}
theorem evAny_done {listed : Array Bool} {s : St} (hr : Region.ready .any ops listed = []) (h : K s) : ∀ fuel,evAny fl P T ca yi ops fuel listed s K
  | 0 => ⟨hr,h⟩
  | _ + 1 => ⟨fun _ => h,by rw [hr]; intro i hi; cases hi⟩

theorem findSome_spec {α β : Type} {f : α → Option β} {b : β} : ∀ {l : List α},l.findSome? f = some b → ∃ a,a ∈ l ∧ f a = some b
  | a :: l,h => by
    simp only [List.findSome?_cons] at h
    split at h
    · rename_i b' hb; cases h; exact ⟨a,by simp,hb⟩
    · obtain ⟨a',h1,h2⟩ := findSome_spec h
      exact ⟨a',by simp [h1],h2⟩

mutual
theorem treeR_any (hc : CLe ca ca) (hy : YLe yi yi) (hnd : noDefer ops = true) : ∀ (n : Nat) (listed : Array Bool) (r : R) (fuel : Nat) (s : St),Cl ops listed → treeR P fl T.mode ops n listed = some r → listed.toList.count false ≤ fuel → evR P T ca yi r s K → evAny fl P T ca yi ops fuel listed s K
  | 0,listed,r,fuel,s,hcl,h,hf,he => by simp [treeR] at h
  | n + 1,listed,r,fuel,s,hcl,h,hf,he => by
    rw [treeR] at h
    split at h
    · rename_i hr
      cases h
      exact evAny_done hr he fuel
    · rename_i rs hne
      split at h
      · rename_i i ko m hfs
        split at h
        · rename_i r' hr'
          cases h
          obtain ⟨i',hmem,hi'⟩ := findSome_spec hfs
          simp only [Option.map_eq_some_iff] at hi'
          obtain ⟨p,hp,e⟩ := hi'
          cases e
          have hcount := ready_count hmem
          obtain ⟨fuel',rfl⟩ : ∃ f',fuel = f' + 1 := ⟨fuel - 1,by omega⟩
          unfold takeM at hp
          split at hp
          · cases hp
          · rename_i oper ho
            split at hp
            · cases hp
            · rename_i ko' hk
              split at hp
              · rename_i heff
                simp only [Option.bind_eq_some_iff] at hp
                obtain ⟨m',hm',e⟩ := hp
                unfold keepM at e
                split at e
                · cases e
                cases e
                have h2 := freeM_ok hm'
                refine evAny_first hc hy ho hk (okS_of hnd) heff (behind_ok (fun j hj => by cases hj)) K fuel' listed s hcl (fun j oj kj hoj => h2 j ?_ oj kj hoj) hmem he.1 ?_
                · rw [List.mem_range]
                  rcases Nat.lt_or_ge j ops.size with h' | h'
                  · exact h'
                  · rw [Array.getElem?_eq_none h'] at hoj; cases hoj
                · exact evOp_mono hc hy ko s _ _ (fun s' he' => treeR_any hc hy hnd n _ r' fuel' s' (hcl.set hmem) hr' (by omega) he') he.2
              · cases hp
        · cases h
      · split at h
        · rename_i l hl
          cases h
          have hne' : Region.ready .any ops listed ≠ [] := hne
          obtain ⟨i,hi⟩ := List.exists_mem_of_ne_nil _ hne'
          have hcount := ready_count hi
          obtain ⟨fuel',rfl⟩ : ∃ f',fuel = f' + 1 := ⟨fuel - 1,by omega⟩
          exact ⟨fun h => absurd h hne',treeL_any hc hy hnd n listed _ l fuel' s hcl hl (fun i hi => hi) (fun i hi => by have := ready_count hi; omega) he⟩
        · cases h
theorem treeL_any (hc : CLe ca ca) (hy : YLe yi yi) (hnd : noDefer ops = true) : ∀ (n : Nat) (listed : Array Bool) (rs : List Nat) (l : List R) (fuel : Nat) (s : St),Cl ops listed → treeL P fl T.mode ops n listed rs = some l → (∀ i,i ∈ rs → i ∈ Region.ready .any ops listed) → (∀ i,i ∈ rs → (listed.setIfInBounds i true).toList.count false ≤ fuel) → evRs P T ca yi l s K →
    ∀ i,i ∈ rs → ∃ oper ko,ops[i]? = some oper ∧ trKO P fl ops oper = some ko ∧ evOp P T ca yi ko s fun s' => evAny fl P T ca yi ops fuel (listed.setIfInBounds i true) s' K
  | 0,listed,rs,l,fuel,s,hcl,h,hrd,hf,he => by simp [treeL] at h
  | n + 1,listed,[],l,fuel,s,hcl,h,hrd,hf,he => fun i hi => by cases hi
  | n + 1,listed,j :: rs,l,fuel,s,hcl,h,hrd,hf,he => fun i hi => by
    rw [treeL] at h
    split at h
    · cases h
    · rename_i oper ho
      split at h
      · rename_i ko r l' hk hr hl
        cases h
        rcases List.mem_cons.1 hi with rfl | hi
        · exact ⟨oper,ko,ho,hk,evOp_mono hc hy ko s _ _ (fun s' he' => treeR_any hc hy hnd n _ r fuel s' (hcl.set (hrd i (by simp))) hr (hf i (by simp)) he') he.1⟩
        · exact treeL_any hc hy hnd n listed rs l' fuel s hcl hl (fun i hi => hrd i (by simp [hi])) (fun i hi => hf i (by simp [hi])) he.2 i hi
      · cases h
end

theorem evAny_ok (hca : CaOk P ca) (hyi : YOk P yi) (hnd : noDefer ops = true) {Q : Exit → Act → World → Prop} : ∀ (fuel : Nat) (listed : Array Bool) (s : St) (a : Act) (w : World) (g : G),evAny fl P T ca yi ops fuel listed s K → Inv w.heap g s.o → Ts w.heap g s a →
    (∀ a' w' g' s',a'.defers = a.defers → Tr w g s.o w' g' s'.o → Inv w'.heap g' s'.o → Ts w'.heap g' s' a' → K s' → Q .normal a' w') → wpAnyIn (FR none) 0 P .any ops Q fuel listed a w
  | 0,listed,s,a,w,g,h,I,Tt,hn => ⟨h.1,hn a w g s rfl (Tr.refl _ _ _) I Tt h.2⟩
  | fuel + 1,listed,s,a,w,g,h,I,Tt,hn => by
    refine ⟨fun hr => hn a w g s rfl (Tr.refl _ _ _) I Tt (h.1 hr),fun i hi => ?_⟩
    obtain ⟨oper,ko,ho,hk,he⟩ := h.2 i hi
    have hnd' : ∀ c,oper.op ≠ .defer c := noDefer_spec hnd oper (by simpa using Array.mem_of_getElem? ho)
    refine wpOpIn_step ho fun K' hK' => ?_
    refine evOp_ok hca hyi hk hnd' he I Tt fun a1 w1 g1 s1 hd T1 I1 Tt1 hK => hK' _ _ ?_
    exact evAny_ok hca hyi hnd fuel _ s1 a1 w1 g1 hK I1 Tt1 fun a' w' g' s' hd' T2 I2 Tt2 hK2 => hn a' w' g' s' (hd'.trans hd) (T1.trans T2) I2 Tt2 hK2
end

theorem regd_ok {ca : Ca} {yi : Nat → Sem'} (hca : CaOk P ca) (hc : CLe ca ca) (hyi : YOk P yi) (hy : YLe yi yi) (hm : P.follows .mixedOrders = true) {id : Nat} {ops : Array Oper} {rb : Option Nat} {Q : Exit → Act → World → Prop} {K : St → Prop} {r : R} {s : St} {a : Act}
    (hnd : noDefer ops = true) (hr : treeR P fl T.mode ops (ops.size * ops.size + 2 * ops.size + 2) (Array.replicate ops.size false) = some r) (h : evR P T ca yi r s K) (I : Inv w.heap g s.o) (Tt : Ts w.heap g s a)
    (hn : ∀ a' w' g' s',a'.defers = a.defers → Tr w g s.o w' g' s'.o → Inv w'.heap g' s'.o → Ts w'.heap g' s' a' → K s' → Q .normal a' w') : (Code.region id ops true).wpIn (FR rb) 0 P Q a w := by
  refine wpIn_region_any hm (wpAnyIn_wide (noDefer_spec hnd) 0 _ _ _ _ ?_)
  have hI : Inv ({ w with drawn := w.drawn + 1 } : World).heap g s.o := I
  have hT : Ts ({ w with drawn := w.drawn + 1 } : World).heap g s a := Tt
  refine evAny_ok hca hyi hnd _ _ s a _ g (treeR_any hc hy hnd _ _ r _ s Cl.init hr ?_ h) hI hT fun a' w' g' s' hd T1 I1 Tt1 hK => hn a' w' g' s' hd ((Tr.drawn w g s.o _).trans T1) I1 Tt1 hK
  simp
end Go.Proofs.Pe
end

section
set_option linter.unusedVariables false
namespace Go.Proofs.Pe
variable {P : Program} {w : World} {g : G} {o : List O} {T : Tab}

/-! ### Code -/
def X.toExit : X → Exit
  | .normal => .normal
  | .exit id => .exit id
  | .goto l => .goto l
  | .ret => .ret

def fixed (o : List O) (l : Nat) : Prop := ∃ ob,o[l]? = some ob ∧ ∀ v wr k xs,ob ≠ .arr v wr k xs

theorem fixed.ev {h h' : Array Obj} {g g' : G} {o o' : List O} {l : Nat} (E : Ev h g o h' g' o') (f : fixed o l) : g'.blk l = g.blk l ∧ fixed o' l := by
  obtain ⟨ob,h1,h2⟩ := f
  obtain ⟨e,ob',h3,h4⟩ := E.fix l ob h1 h2
  exact ⟨e,ob',h3,h4⟩

def mark (g : G) (l : Nat) : Deferred := { target := .collected (g.blk l),args := #[] }
def Marks (g : G) (o : List O) (m : List Nat) (ds : List Deferred) : Prop := ds = m.map (mark g) ∧ ∀ l,l ∈ m → fixed o l

theorem Marks.ev {h h' : Array Obj} {g g' : G} {o o' : List O} {m : List Nat} {ds : List Deferred} (E : Ev h g o h' g' o') (M : Marks g o m ds) : Marks g' o' m ds :=
  ⟨by rw [M.1]; exact List.map_congr_left fun l hl => by simp [mark,((M.2 l hl).ev E).1],fun l hl => ((M.2 l hl).ev E).2⟩

structure FrOk (h : Array Obj) (g : G) (f : Fr) (a : Act) : Prop where
  inv : Inv h g f.s.o
  ts : Ts h g f.s a
  mks : Marks g f.s.o f.m a.defers

def RdOk (g : G) (o : List O) : Option Nat → Option Nat → Prop
  | none,rb => rb = none
  | some l,rb => rb = some (g.blk l) ∧ fixed o l

theorem RdOk.ev {h h' : Array Obj} {g g' : G} {o o' : List O} {rd rb : Option Nat} (E : Ev h g o h' g' o') (M : RdOk g o rd rb) : RdOk g' o' rd rb := by
  cases rd with
  | none => exact M
  | some l => exact ⟨by rw [M.1,(M.2.ev E).1],(M.2.ev E).2⟩

def Post (w : World) (g : G) (o : List O) (Φ : X → Fr → Prop) : Exit → Act → World → Prop := fun e a' w' =>
  ∃ x f' g',e = X.toExit x ∧ Tr w g o w' g' f'.s.o ∧ FrOk w'.heap g' f' a' ∧ Φ x f'

theorem Post.behind {w1 : World} {g1 : G} {o1 : List O} {Φ : X → Fr → Prop} {e : Exit} {a' : Act} {w' : World} (t : Tr w g o w1 g1 o1) (h : Post w1 g1 o1 Φ e a' w') : Post w g o Φ e a' w' := by
  obtain ⟨x,f',g',h1,h2,h3⟩ := h
  exact ⟨x,f',g',h1,t.trans h2,h3⟩

def Good (P : Program) (T : Tab) (ca : (Nat → Sem') → FuncId → Sem') (lp : (Fr → (X → Fr → Prop) → Prop) → Fr → (X → Fr → Prop) → Prop) (code : Code) (c : C) : Prop :=
  ∀ rd yi f Φ (w : World) g a rb,ev P T ca lp c rd yi f Φ → YOk P yi → RdOk g f.s.o rd rb → FrOk w.heap g f a → code.wpIn (FR rb) 0 P (Post w g f.s.o Φ) a w

theorem setTs_rep {h : Array Obj} : ∀ (ps : List Tmp) (xs ts : List V) (us : List Value) (vs : Array Value),Reps h g o xs us → Reps h g o ts vs.toList →
    Reps h g o (setTs ts (ps.zip xs)) ((ps.zip us).foldl (fun tmps (p : Tmp × Value) => tmps.setIfInBounds p.1 p.2) vs).toList
  | [],xs,ts,us,vs,hx,ht => by simpa [setTs] using ht
  | p :: ps,[],ts,us,vs,hx,ht => by
    have : us = [] := by have := hx.1; simpa using this
    subst this; simpa [setTs] using ht
  | p :: ps,x :: xs,ts,us,vs,hx,ht => by
    obtain ⟨u,us',rfl,hu,hr⟩ := hx.tail
    simp only [List.zip_cons_cons,setTs,List.foldl_cons]
    refine setTs_rep ps xs _ us' _ hr ?_
    have := put_rep (a := { tmps := vs,defers := [] }) ht hu (some p)
    simpa [putT,Act.put] using this

theorem wpIn_scope_straight {F : Fence} {n : Nat} {c : Code} {Q : Exit → Act → World → Prop} {a : Act} (h : c.wpIn F n P (Exit.noGoto Q) a w) : (Code.scope c).wpIn F n P Q a w := by
  intro b k cs hro hb hr
  have h0 : (lone (b.atR a (.code (.scope c) :: k)) cs w).fenced P F := fenced_calm hb hr rfl
  have s0 : Go.step P (lone (b.atR a (.code (.scope c) :: k)) cs w) = .next (lone (b.atR a (.code c :: .inScope c :: k)) cs w) := step_lone_go (by simp [stepG,stepG.exec,Frame.atR])
  have s1 : ∀ a w,Go.step P (lone (b.atR a (.inScope c :: k)) cs w) = .next (lone (b.atR a k) cs w) := fun a w => step_lone_go (by simp [stepG,stepG.exec,Frame.atR])
  obtain ⟨e,a₁,w₁,hq,harr⟩ := h b (.inScope c :: k) cs hro hb hr
  cases e with
  | normal => exact ⟨.normal,a₁,w₁,hq,.head h0 s0 (StepsIn.trans harr (.one (fenced_calm hb hr rfl) (s1 _ _)))⟩
  | exit id =>
    have hx : exitTo id (.inScope c :: k) = exitTo id k := by simp [exitTo]
    exact ⟨_,a₁,w₁,hq,fun k' hk => .head h0 s0 (harr.1 k' (by rw [hx]; exact hk)),
      fun hr' hk => let ⟨k₁,h1,h2⟩ := harr.2 hr' (by rw [hx]; exact hk); ⟨k₁,h1,.head h0 s0 h2⟩⟩
  | goto l => exact hq.elim
  | ret => exact ⟨_,a₁,w₁,hq,.of_steps (.one h0 s0) harr⟩
  | panic ch => exact ⟨_,a₁,w₁,hq,.of_steps (.one h0 s0) harr⟩
  | outgrown => exact ⟨_,a₁,w₁,hq,.of_steps (.one h0 s0) harr⟩
end Go.Proofs.Pe
end

section
set_option linter.unusedVariables false
namespace Go.Proofs.Pe
variable {P : Program} {w : World} {g : G} {o : List O} {T : Tab}

/-! ### A range over a function -/
def yieldSem (P : Program) (T : Tab) (ca : (Nat → Sem') → FuncId → Sem') (lp : (Fr → (X → Fr → Prop) → Prop) → Fr → (X → Fr → Prop) → Prop) (yi : Nat → Sem') (ps : Array Tmp) (assign body : Code) (cass cb : C) (l : Nat) : Sem' := fun xs o K => match o[l]? with
  | some (.loop .ready pend ts ps' a' b' dl') => (ps' = ps ∧ a' = assign ∧ b' = body ∧ xs.length = ps.size) ∧
    ev P T ca lp cass (some l) yi { s := { t := setTs ts (ps.toList.zip xs),o := o },m := [] } fun x f1 => match x with
      | .normal => match f1.s.o[l]? with
        | some (.loop .ready p1 ts1 ps1 a1 b1 dl1) =>
          ev P T ca lp cb (some l) yi { f1 with s := { f1.s with o := f1.s.o.set l (.loop .busy p1 ts1 ps1 a1 b1 dl1) } } fun x2 f2 => match f2.s.o[l]? with
            | some (.loop st2 p2 ts2 ps2 a2 b2 dl2) => K (.sc (.bool (jumpOf x2).isNone)) (f2.s.o.set l (.loop (if (jumpOf x2).isNone then .ready else .done) (jumpOf x2) ts2 ps2 a2 b2 dl2))
            | _ => False
        | _ => False
      | _ => False
  | _ => False

theorem yield_le {ca : Ca} {lp : (Fr → (X → Fr → Prop) → Prop) → Fr → (X → Fr → Prop) → Prop} {yi : Nat → Sem'} {ps : Array Tmp} {assign body : Code} {cass cb : C} {l : Nat} (hc : CLe ca ca) (hlp : LLe lp lp) (hy : YLe yi yi) :
    YLe (fun l' => if l' = l then yieldSem P T ca lp yi ps assign body cass cb l else yi l') (fun l' => if l' = l then yieldSem P T ca lp yi ps assign body cass cb l else yi l') := by
  intro l'
  dsimp only
  split
  · intro xs o K K' hK h
    unfold yieldSem at h ⊢
    split at h
    · refine ⟨h.1,ev_mono hc hlp cass _ yi yi hy _ _ _ (fun x f1 h => ?_) h.2⟩
      cases x with
      | normal =>
        dsimp only at h ⊢
        split at h
        · refine ev_mono hc hlp cb _ yi yi hy _ _ _ (fun x2 f2 h => ?_) h
          split at h
          · exact hK _ _ h
          · exact h.elim
        · exact h.elim
      | _ => exact h.elim
    · exact h.elim
  · exact hy l'

theorem yield_ok {ca : (Nat → Sem') → FuncId → Sem'} {lp : (Fr → (X → Fr → Prop) → Prop) → Fr → (X → Fr → Prop) → Prop} {yi : Nat → Sem'} {ps : Array Tmp} {assign body : Code} {cass cb : C} {l : Nat} (hc : CLe ca ca) (hlp : LLe lp lp) (ha : Good P T ca lp assign cass) (hb : Good P T ca lp body cb) (hyi : YOk P yi) :
    YOk P (fun l' => if l' = l then yieldSem P T ca lp yi ps assign body cass cb l else yi l') := by
  refine ⟨?_,yield_le hc hlp hyi.le⟩
  intro l' xs o K h w g us I hx
  split at h
  · rename_i e
    subst e
    unfold yieldSem at h
    split at h
    · rename_i pend ts ps' a' b' dl hl
      obtain ⟨⟨rfl,rfl,rfl,hlen⟩,h⟩ := h
      obtain ⟨fn,vs,hb0,hts,hdl⟩ := I.loop l' _ _ _ _ _ _ _ hl
      have hsz : us.size = ps'.size := by have := hx.1; simp at this; omega
      refine ⟨_,_,_,_,run_yield hb0 hsz,roundIn_of_wpIn (F := Fence.wide) (n := 0) trivial ?_⟩
      have hfix : fixed o l' := ⟨_,hl,fun _ _ _ _ h => by cases h⟩
      have hts' := setTs_rep ps'.toList xs ts us.toList vs hx hts
      have hfold : ((ps'.zip us).foldl (fun tmps (p : Tmp × Value) => tmps.setIfInBounds p.1 p.2) vs) = ((ps'.toList.zip us.toList).foldl (fun tmps (p : Tmp × Value) => tmps.setIfInBounds p.1 p.2) vs) := by
        rw [← Array.foldl_toList]; simp
      rw [← hfold] at hts'
      have hga := ha (some l') yi _ _ w g { tmps := (ps'.zip us).foldl (fun tmps (p : Tmp × Value) => tmps.setIfInBounds p.1 p.2) vs,defers := [] } (some (g.blk l')) h hyi ⟨rfl,hfix⟩ ⟨I,⟨hts'⟩,⟨rfl,fun l h => by cases h⟩⟩
      refine wpIn_mono hga fun e a1 w1 hp => ?_
      obtain ⟨x,f1,g1,rfl,T1,F1,hx1⟩ := hp
      cases x with
      | exit id => exact hx1.elim
      | goto l => exact hx1.elim
      | ret => exact hx1.elim
      | normal =>
        dsimp only at hx1
        split at hx1
        · rename_i p1 ts1 ps1 a1' b1 dl1 hl1
          obtain ⟨fn1,vs1,hb1,_,_⟩ := F1.inv.loop l' _ _ _ _ _ _ _ hl1
          have eb1 : g1.blk l' = g.blk l' := (hfix.ev T1.ev).1
          obtain ⟨T2,I2⟩ := loop_put (st' := .busy) (p' := p1) F1.inv hl1 hb1
          have hrun := run_beginRound (P := P) hb1 rfl
          rw [eb1] at hrun
          refine ⟨_,hrun, ?_⟩
          rw [← eb1]
          have hfix1 : fixed (f1.s.o.set l' (.loop .busy p1 ts1 ps1 a1' b1 dl1)) l' := (T2.ev.fix l' _ hl1 (fun _ _ _ _ h => by cases h)).2
          have hgb := hb (some l') yi _ _ _ g1 a1 (some (g1.blk l')) hx1 hyi ⟨rfl,hfix1⟩ ⟨I2,⟨F1.ts.rep.ev T2.ev⟩,F1.mks.ev T2.ev⟩
          refine wpIn_mono hgb fun e a2 w3 hp2 => ?_
          obtain ⟨x2,f2,g2,rfl,T3,F2,hx2⟩ := hp2
          split at hx2
          · rename_i st2 p2 ts2 ps2 a2' b2 dl2 hl2
            obtain ⟨fn2,vs2,hb2,_,_⟩ := F2.inv.loop l' _ _ _ _ _ _ _ hl2
            obtain ⟨T4,I4⟩ := loop_put (st' := if (jumpOf x2).isNone then .ready else .done) (p' := jumpOf x2) F2.inv hl2 hb2
            have hrun2 := run_endRound (P := P) (jumpOf x2) hb2
            have eb2 : g2.blk l' = g1.blk l' := (hfix1.ev T3.ev).1
            rw [eb2] at hrun2
            have hfin : ∃ v w',(Instr.endRound (g1.blk l') (jumpOf x2)).run P w3 = .ok v w' ∧ EndOk P w g o K (.returned v) w' := by
              refine ⟨_,_,hrun2,_,_,_,g2,rfl,((T1.trans T2).trans T3).trans ?_, ?_, ?_,hx2⟩
              · rw [← eb2]; exact T4
              · rw [← eb2]; exact I4
              · exact .sc rfl
            cases x2 <;> exact hfin
          · exact hx2.elim
        · exact hx1.elim
    · exact h.elim
  · exact hyi.ok _ _ _ _ h w g us I hx
end Go.Proofs.Pe
end

section
set_option linter.unusedVariables false
namespace Go.Proofs.Pe
variable {P : Program} {w : World} {g : G} {o : List O} {T : Tab}

theorem rfun_rest {ca : (Nat → Sem') → FuncId → Sem'} {lp : (Fr → (X → Fr → Prop) → Prop) → Fr → (X → Fr → Prop) → Prop} {yi : Nat → Sem'} {ps : Array Tmp} {assign body : Code} {cass cb : C} {e : E} {x : Operand} {f : Fr} {Φ : X → Fr → Prop} {a : Act} {rb : Option Nat} {w1 : World} {g1 : G} {o0 : List O} {dl : Nat} {mk : List Nat} {mks : List Deferred}
    (hca : CaOk P ca) (hc : CLe ca ca) (hlp : LLe lp lp) (ha : Good P T ca lp assign cass) (hb : Good P T ca lp body cb) (hyi : YOk P yi) (hx : trE x = some e) (Tt : Ts w.heap g f.s a)
    (T1 : Tr w g f.s.o w1 g1 (o0 ++ [O.loop .ready none f.s.t ps assign body dl])) (I1 : Inv w1.heap g1 (o0 ++ [O.loop .ready none f.s.t ps assign body dl]))
    (hM : Marks g1 (o0 ++ [O.loop .ready none f.s.t ps assign body dl]) (mk ++ f.m) (mks ++ a.defers))
    (h : match e.ev f.s with
      | .fn (.func fn) as bs => evCallV T ca (fun l' => if l' = o0.length then yieldSem P T ca lp yi ps assign body cass cb o0.length else yi l') (.fn (.func fn) as bs) [.fn (.yield o0.length) [] []] (o0 ++ [O.loop .ready none f.s.t ps assign body dl]) fun _ o3 => match o3[o0.length]? with
        | some (.loop st3 p3 ts3 ps3 a3 b3 dl3) => if st3 = .busy then False else
          match xOf p3 with
          | none => False
          | some x3 => Φ x3 { s := { t := f.s.t,o := o3.set o0.length (.loop .exhausted p3 ts3 ps3 a3 b3 dl3) },m := mk ++ f.m }
        | _ => False
      | _ => False) :
    ∃ (d : Deferred) (w1' : World) (fn : FuncId) (args : Array Value) (w2 : World),(resolve a.eval (rangeCall x (g1.blk o0.length)) 0).run P w1 = .ok d w1' ∧ (invoke d.target d.args).run P w1' = .ok (.enter fn args) w2 ∧
      CallsIn Fence.wide 0 P fn args w2 (rangePost (FR rb) 0 P (g1.blk o0.length) (Post w g f.s.o Φ) { a with defers := mks ++ a.defers }) := by
  have hl : (o0 ++ [O.loop .ready none f.s.t ps assign body dl])[o0.length]? = some (O.loop .ready none f.s.t ps assign body dl) := by simp
  have hfix : fixed (o0 ++ [O.loop .ready none f.s.t ps assign body dl]) o0.length := ⟨_,hl,fun _ _ _ _ h => by cases h⟩
  have hr := (ev_rep Tt hx).ev T1.ev
  generalize e.ev f.s = fv at h hr
  split at h
  · rename_i fn as bs
    have hy : Reps w1.heap g1 (o0 ++ [O.loop .ready none f.s.t ps assign body dl]) [.fn (.yield o0.length) [] []] [.func (.yield (g1.blk o0.length)) #[] #[]] := Reps.cons (.yl hl fun _ _ _ _ h => by cases h) (Reps.nil _ _ _)
    obtain ⟨fn',first,cap,hu,hh⟩ := evCallV_ok (us := #[.func (.yield (g1.blk o0.length)) #[] #[]]) hca (yield_ok hc hlp ha hb hyi) h I1 hr hy
    have hend : ∀ en w',EndOk P w1 g1 (o0 ++ [O.loop .ready none f.s.t ps assign body dl]) (fun _ o3 => match o3[o0.length]? with
        | some (.loop st3 p3 ts3 ps3 a3 b3 dl3) => if st3 = .busy then False else
          match xOf p3 with
          | none => False
          | some x3 => Φ x3 { s := { t := f.s.t,o := o3.set o0.length (.loop .exhausted p3 ts3 ps3 a3 b3 dl3) },m := mk ++ f.m }
        | _ => False) en w' → rangePost (FR rb) 0 P (g1.blk o0.length) (Post w g f.s.o Φ) { a with defers := mks ++ a.defers } en w' := fun en w' he => by
      obtain ⟨r,y,o3,g3,rfl,T3,I3,R3,hK⟩ := he
      split at hK
      · rename_i st3 p3 ts3 ps3 a3 b3 dl3 hl3
        split at hK
        · exact hK.elim
        · rename_i hbusy
          split at hK
          · exact hK.elim
          · rename_i x3 hx3
            obtain ⟨fn3,vs3,hb3,_,_⟩ := I3.loop _ _ _ _ _ _ _ _ hl3
            obtain ⟨T4,I4⟩ := loop_put (st' := .exhausted) (p' := p3) I3 hl3 hb3
            have hrun := run_endLoop (P := P) hb3 hbusy
            have eb : g3.blk o0.length = g1.blk o0.length := (hfix.ev T3.ev).1
            rw [eb] at hrun
            refine ⟨_,_,hrun, ?_⟩
            have hE := (T1.trans T3).trans T4
            have hpost : Post w g f.s.o Φ x3.toExit { a with defers := mks ++ a.defers } (w'.putObj (g3.blk o0.length) _) :=
              ⟨x3,{ s := { t := f.s.t,o := o3.set o0.length (.loop .exhausted p3 ts3 ps3 a3 b3 dl3) },m := mk ++ f.m },g3,rfl,hE,⟨I4,⟨Tt.rep.ev hE.ev⟩,(hM.ev T3.ev).ev T4.ev⟩,hK⟩
            rw [eb] at hpost
            unfold xOf at hx3
            split at hx3 <;> first | (cases hx3; done) | skip
            · cases hx3; exact hpost
            · cases hx3; exact wpIn_exit hpost
            · cases hx3; exact wpIn_goto hpost
            · cases hx3; exact wpIn_ret hpost
      · exact hK.elim
    rcases hh with ⟨gg,rfl,⟨fnn,hfn,hbody,hname⟩,hcall⟩ | ⟨b,rfn,ts,ass,bodyy,rfl,rfl,rfl,hy,hround⟩
    · obtain ⟨bd,hbd⟩ := Option.isSome_iff_exists.1 hbody
      have hnm : ¬ (fnn.name = "runtime.NumGoroutine") := by simpa using hname
      have hu' : a.eval x = .func (.func gg) first cap := hu
      refine ⟨_,w1,gg,_,w1,by simp [resolve,hu',Deferred.ofValue]; rfl, ?_,hcall.mono hend⟩
      simp [invoke,callFunc,program,Sem.run,hfn,hbd,hnm,Act.eval]
    · generalize a.eval x = u at hu hr
      subst hu
      cases hr
  · exact h.elim
end Go.Proofs.Pe
end

section
set_option linter.unusedVariables false
namespace Go.Proofs.Pe
variable {P : Program} {w : World} {g : G} {o : List O} {T : Tab}

theorem rfun_ok {ca : (Nat → Sem') → FuncId → Sem'} {lp : (Fr → (X → Fr → Prop) → Prop) → Fr → (X → Fr → Prop) → Prop} {ps : Array Tmp} {assign body : Code} {cass cb : C} {e : E} {x : Operand}
    (hca : CaOk P ca) (hc : CLe ca ca) (hlp : LLe lp lp) (ha : Good P T ca lp assign cass) (hb : Good P T ca lp body cb) (hx : trE x = some e) : Good P T ca lp (.rangeFunc x ps assign body) (.rfun e ps assign body cass cb) := by
  intro rd yi f Φ w g a rb h hyi hrd hf
  refine wpIn_rangeFunc fun fn _ => ?_
  obtain ⟨I,Tt,hM⟩ := hf
  unfold ev at h
  cases rd with
  | none =>
    have hrb : rb = none := hrd
    subst hrb
    have T0 := tr_push I (.deferred (some [])) (.dfd (.sh false)) 0
    have I0 : Inv (w.alloc (.deferred (some []))).heap (g.at f.s.o.length w.heap.size 0) (f.s.o ++ [.dfd (.sh false)]) :=
      inv_push I (.deferred (some [])) (.dfd (.sh false)) 0 (fun _ h => by cases h) (fun _ _ _ _ h => by cases h) (fun _ _ _ _ _ _ _ h => by cases h) (fun sh h => by cases h; rfl)
    have hdl : (f.s.o ++ [O.dfd (.sh false)])[f.s.o.length]? = some (.dfd (.sh false)) := by simp
    let lp : Loop := { state := .ready,pending := none,fn,tmps := a.tmps,params := ps,assign,body,defers := w.heap.size }
    have T1 := tr_push I0 (.loop lp) (.loop .ready none f.s.t ps assign body f.s.o.length) 0
    have E1 := T0.ev.trans T1.ev
    have I1 := inv_push I0 (.loop lp) (.loop .ready none f.s.t ps assign body f.s.o.length) 0 (fun _ h => by cases h) (fun _ _ _ _ h => by cases h)
      (fun _ _ _ _ _ _ _ h => by
        cases h
        refine ⟨fn,a.tmps, ?_,Tt.rep.ev E1,false,hdl⟩
        show Obj.loop lp = _
        simp [lp]) (fun sh h => by cases h)
    have hfd : fixed (f.s.o ++ [O.dfd (.sh false)]) f.s.o.length := ⟨_,hdl,fun _ _ _ _ h => by cases h⟩
    have hM0 : Marks (g.at f.s.o.length w.heap.size 0) (f.s.o ++ [.dfd (.sh false)]) ([f.s.o.length] ++ f.m) ([mark (g.at f.s.o.length w.heap.size 0) f.s.o.length] ++ a.defers) := by
      have := hM.ev T0.ev
      refine ⟨by rw [this.1]; rfl,fun l hl => ?_⟩
      rcases List.mem_append.1 hl with hl | hl
      · rw [List.mem_singleton] at hl; subst hl; exact hfd
      · exact this.2 l hl
    obtain ⟨d,w1',fnn,args,w2,h1,h2,h3⟩ := rfun_rest (rb := none) hca hc hlp ha hb hyi hx Tt (T0.trans T1) I1 (hM0.ev T1.ev) h
    refine ⟨_,_,_,d,w1',fnn,args,w2,run_enterLoop_outer fn a.tmps ps assign body, ?_,fun _ _ => trivial,h2,fun h => by simp [FR,Fence.wide] at h, ?_⟩
    · have e : (G.at (g.at f.s.o.length w.heap.size 0) (f.s.o ++ [O.dfd (.sh false)]).length (w.alloc (.deferred (some []))).heap.size 0).blk (f.s.o ++ [O.dfd (.sh false)]).length = w.heap.size + 1 := by rw [G.at_blk]; simp
      rw [e] at h1; exact h1
    · have e : (G.at (g.at f.s.o.length w.heap.size 0) (f.s.o ++ [O.dfd (.sh false)]).length (w.alloc (.deferred (some []))).heap.size 0).blk (f.s.o ++ [O.dfd (.sh false)]).length = w.heap.size + 1 := by rw [G.at_blk]; simp
      rw [e] at h3
      have e2 : mark (g.at f.s.o.length w.heap.size 0) f.s.o.length = { target := .collected w.heap.size,args := #[] } := by simp [mark]
      rw [e2] at h3
      exact h3
  | some l0 =>
    obtain ⟨hrb,hfix⟩ := hrd
    subst hrb
    dsimp only at h
    split at h
    · exact h.elim
    · rename_i o0 dl mk hbase
      split at hbase
      · rename_i st p ts ps' as' bd' dl' hl0
        cases hbase
        obtain ⟨fn0,vs0,hb0,_,sh,hsh⟩ := I.loop _ _ _ _ _ _ _ _ hl0
        let lp : Loop := { state := .ready,pending := none,fn,tmps := a.tmps,params := ps,assign,body,defers := g.blk dl }
        have T1 := tr_push I (.loop lp) (.loop .ready none f.s.t ps assign body dl) 0
        have I1 := inv_push I (.loop lp) (.loop .ready none f.s.t ps assign body dl) 0 (fun _ h => by cases h) (fun _ _ _ _ h => by cases h)
          (fun _ _ _ _ _ _ _ h => by cases h; exact ⟨fn,a.tmps,rfl,Tt.rep.ev T1.ev,sh,hsh⟩) (fun sh h => by cases h)
        obtain ⟨d,w1',fnn,args,w2,h1,h2,h3⟩ := rfun_rest (rb := some (g.blk l0)) (mk := []) (mks := []) hca hc hlp ha hb hyi hx Tt T1 I1 (hM.ev T1.ev) h
        refine ⟨_,_,_,d,w1',fnn,args,w2,run_enterLoop_inner hb0 fn a.tmps ps assign body, ?_,fun _ _ => trivial,h2,fun h => by simp [FR,Fence.wide] at h, ?_⟩
        · rw [G.at_blk] at h1; exact h1
        · rw [G.at_blk] at h3; exact h3
      · cases hbase

theorem killTs_rep {h : Array Obj} {us : List Value} : ∀ (l : List Nat) (ts : List V),Reps h g o ts us → Reps h g o (killTs l ts) us
  | [],ts,r => r
  | i :: l,ts,r => killTs_rep l _ ⟨by rw [List.length_set]; exact r.1,fun j y hy u hu => by
      rw [List.getElem?_set] at hy
      split at hy
      · split at hy
        · cases hy; exact .dead
        · cases hy
      · exact r.2 j y hy u hu⟩

theorem kill_ok {ca : (Nat → Sem') → FuncId → Sem'} {lp : (Fr → (X → Fr → Prop) → Prop) → Fr → (X → Fr → Prop) → Prop} {p : Code} {cx : C} (l : List Nat) (h : Good P T ca lp p cx) : Good P T ca lp p (.kill l cx) := by
  intro rd yi f Φ w g a rb hh hyi hrd hf
  simp only [ev] at hh
  exact h rd yi { f with s := { f.s with t := killTs l f.s.t } } Φ w g a rb hh hyi hrd ⟨hf.inv,⟨killTs_rep l _ hf.ts.rep⟩,hf.mks⟩

def RestOk (P : Program) (T : Tab) (ca : (Nat → Sem') → FuncId → Sem') (code : Code) (c : C) : Prop :=
  ∀ l,(restC c l = none ∧ findLabel code l = none) ∨ ∃ r rest,restC c l = some r ∧ findLabel code l = some rest ∧ Good P T ca Lfp rest r
theorem seq_good {ca : (Nat → Sem') → FuncId → Sem'} {x y : Code} {cx cy : C} (hx : Good P T ca Lfp x cx) (hy : Good P T ca Lfp y cy) : Good P T ca Lfp (.seq x y) (.seq cx cy) := by
  intro rd yi f Φ w g a rb h hyi hrd hf
  simp only [ev] at h
  refine wpIn_seq (wpIn_mono (hx rd yi f _ w g a rb h hyi hrd hf) fun e a1 w1 hp => ?_)
  obtain ⟨x1,f1,g1,rfl,T1,F1,hx1⟩ := hp
  cases x1 with
  | normal => exact wpIn_mono (hy rd yi f1 Φ w1 g1 a1 rb hx1 hyi (hrd.ev T1.ev) F1) fun e a2 w2 hp => hp.behind T1
  | exit id => exact ⟨_,f1,g1,rfl,T1,F1,hx1⟩
  | goto l => exact ⟨_,f1,g1,rfl,T1,F1,hx1⟩
  | ret => exact ⟨_,f1,g1,rfl,T1,F1,hx1⟩
theorem scope_good {ca : (Nat → Sem') → FuncId → Sem'} {p : Code} {cx : C} (hp : Good P T ca Lfp p cx) : Good P T ca Lfp (.scope p) (.scope cx) := by
  intro rd yi f Φ w g a rb h hyi hrd hf
  simp only [ev] at h
  refine wpIn_scope_straight (wpIn_mono (hp rd yi f _ w g a rb h hyi hrd hf) fun e a1 w1 hp => ?_)
  obtain ⟨x1,f1,g1,rfl,T1,F1,hx1⟩ := hp
  cases x1 with
  | normal => exact ⟨_,f1,g1,rfl,T1,F1,hx1⟩
  | exit i => exact ⟨_,f1,g1,rfl,T1,F1,hx1⟩
  | goto l => exact hx1.elim
  | ret => exact ⟨_,f1,g1,rfl,T1,F1,hx1⟩
theorem scopeG_good {ca : (Nat → Sem') → FuncId → Sem'} {p rest : Code} {cx r : C} {l : Nat} (hp : Good P T ca Lfp p cx) (hfl : findLabel p l = some rest) (hr2 : Good P T ca Lfp rest r) :
    Good P T ca Lfp (.scope p) (.scopeG l cx r) := by
  intro rd yi f Φ w g a rb h hyi hrd hf
  simp only [ev] at h
  intro b k cs hro hb hr
  have h0 : (lone (b.atR a (.code (.scope p) :: k)) cs w).fenced P (FR rb) := fenced_calm hb hr rfl
  have s0 : Go.step P (lone (b.atR a (.code (.scope p) :: k)) cs w) = .next (lone (b.atR a (.code p :: .inScope p :: k)) cs w) := step_lone_go (by simp [stepG,stepG.exec,Frame.atR])
  have s1 : ∀ a w,Go.step P (lone (b.atR a (.inScope p :: k)) cs w) = .next (lone (b.atR a k) cs w) := fun a w => step_lone_go (by simp [stepG,stepG.exec,Frame.atR])
  have hgo : gotoIn l (.inScope p :: k) = some (.code rest :: .inScope p :: k) := by simp [gotoIn,hfl]
  have key : ∀ (f1 : Fr) (Ψ : X → Fr → Prop),(∀ f,Ψ (.goto l) f → Φ .normal f) → (∀ x f,(∀ l,x ≠ .goto l) → Ψ x f → Φ x f) → Lfp (gBody l (ev P T ca Lfp r rd yi)) f1 Ψ → ∀ (w1 : World) (g1 : G) (a1 : Act),Tr w g f.s.o w1 g1 f1.s.o → RdOk g1 f1.s.o rd rb → FrOk w1.heap g1 f1 a1 →
      ∃ e a' w',Post w g f.s.o Φ e a' w' ∧ ArrivesIn (Machine.fenced P (FR rb)) P (lone (b.atR a1 (.code rest :: .inScope p :: k)) cs w1) b k cs e a' w' := by
    intro f1 Ψ hΨ1 hΨ2 hl
    refine hl (fun f1 => ∀ (w1 : World) (g1 : G) (a1 : Act),Tr w g f.s.o w1 g1 f1.s.o → RdOk g1 f1.s.o rd rb → FrOk w1.heap g1 f1 a1 →
      ∃ e a' w',Post w g f.s.o Φ e a' w' ∧ ArrivesIn (Machine.fenced P (FR rb)) P (lone (b.atR a1 (.code rest :: .inScope p :: k)) cs w1) b k cs e a' w') (fun f1 hb1 w1 g1 a1 T1 hrd1 F1 => ?_)
    unfold gBody at hb1
    obtain ⟨e,a2,w2,hq,harr⟩ := hr2 rd yi f1 _ w1 g1 a1 rb hb1 hyi hrd1 F1 b (.inScope p :: k) cs hro hb hr
    obtain ⟨x1,f2,g2,rfl,T2,F2,hx1⟩ := hq
    cases x1 with
    | normal => exact ⟨.normal,a2,w2,⟨.normal,f2,g2,rfl,T1.trans T2,F2,hΨ1 _ hx1⟩,StepsIn.trans harr (.one (fenced_calm hb hr rfl) (s1 _ _))⟩
    | exit id =>
      have hx : exitTo id (.inScope p :: k) = exitTo id k := by simp [exitTo]
      exact ⟨.exit id,a2,w2,⟨.exit id,f2,g2,rfl,T1.trans T2,F2,hΨ2 _ _ (fun _ h => by cases h) hx1⟩,fun k' hk => harr.1 k' (by rw [hx]; exact hk),fun hr' hk => harr.2 hr' (by rw [hx]; exact hk)⟩
    | goto l2 =>
      dsimp only at hx1
      split at hx1
      · rename_i e
        subst e
        obtain ⟨e₂,a₂,w₂,hq₂,harr₂⟩ := hx1 w2 g2 a2 (T1.trans T2) (hrd1.ev T2.ev) F2
        exact ⟨e₂,a₂,w₂,hq₂,.of_steps (harr.1 _ hgo) harr₂⟩
      · exact hx1.elim
    | ret => exact ⟨.ret,a2,w2,⟨.ret,f2,g2,rfl,T1.trans T2,F2,hΨ2 _ _ (fun _ h => by cases h) hx1⟩,harr⟩
  obtain ⟨e,a1,w1,hq,harr⟩ := hp rd yi f _ w g a rb h hyi hrd hf b (.inScope p :: k) cs hro hb hr
  obtain ⟨x1,f1,g1,rfl,T1,F1,hx1⟩ := hq
  cases x1 with
  | normal => exact ⟨.normal,a1,w1,⟨.normal,f1,g1,rfl,T1,F1,hx1⟩,.head h0 s0 (StepsIn.trans harr (.one (fenced_calm hb hr rfl) (s1 _ _)))⟩
  | exit id =>
    have hx : exitTo id (.inScope p :: k) = exitTo id k := by simp [exitTo]
    exact ⟨.exit id,a1,w1,⟨.exit id,f1,g1,rfl,T1,F1,hx1⟩,fun k' hk => .head h0 s0 (harr.1 k' (by rw [hx]; exact hk)),
      fun hr' hk => let ⟨k₁,h1,h2⟩ := harr.2 hr' (by rw [hx]; exact hk); ⟨k₁,h1,.head h0 s0 h2⟩⟩
  | goto l2 =>
    dsimp only at hx1
    split at hx1
    · rename_i e
      subst e
      obtain ⟨e₂,a₂,w₂,hq₂,harr₂⟩ := key f1 _ (fun _ h => h) (fun x f hn h => by cases x with
        | goto l => exact (hn l rfl).elim
        | _ => exact h) hx1 w1 g1 a1 T1 (hrd.ev T1.ev) F1
      exact ⟨e₂,a₂,w₂,hq₂,.of_steps (.head h0 s0 (harr.1 _ hgo)) harr₂⟩
    · exact hx1.elim
  | ret => exact ⟨.ret,a1,w1,⟨.ret,f1,g1,rfl,T1,F1,hx1⟩,.of_steps (.one h0 s0) harr⟩

theorem ev_ok {ca : (Nat → Sem') → FuncId → Sem'} (hm : P.follows .mixedOrders = true) (hca : CaOk P ca) (hcl : CLe ca ca) (an : Nat → List Nat) : ∀ (code : Code) (bk : Nat) (c : C),comp P T.mode an bk code = some c → Good P T ca Lfp code c ∧ RestOk P T ca code c
  | .skip,bk,c,hc => by
    simp only [comp,Option.some.injEq] at hc; subst hc
    refine ⟨?_,fun l => .inl ⟨rfl,rfl⟩⟩
    intro rd yi f Φ w g a rb h hyi hrd hf
    exact wpIn_skip ⟨.normal,f,g,rfl,Tr.refl _ _ _,hf,h⟩
  | .region id ops false,bk,c,hc => by
    simp only [comp] at hc
    split at hc
    · rename_i hnd
      simp only [Option.map_eq_some_iff] at hc
      obtain ⟨ks,hks,rfl⟩ := hc
      refine ⟨?_,fun l => .inl ⟨rfl,rfl⟩⟩
      intro rd yi f Φ w g a rb h hyi hrd hf
      simp only [ev] at h
      exact wpIn_region_list (evOps_ok hca hyi hks (noDefer_spec hnd) h hf.inv hf.ts fun a' w' g' s' hd T1 I1 Tt1 hK =>
        ⟨.normal,_,g',rfl,T1,⟨I1,Tt1,by rw [hd]; exact hf.mks.ev T1.ev⟩,hK⟩)
    · cases hc
  | .region id ops true,bk,c,hc => by
    simp only [comp] at hc
    split at hc
    · rename_i hnd
      simp only [Option.map_eq_some_iff] at hc
      obtain ⟨r,hr,rfl⟩ := hc
      refine ⟨?_,fun l => .inl ⟨rfl,rfl⟩⟩
      intro rd yi f Φ w g a rb h hyi hrd hf
      simp only [ev] at h
      exact regd_ok hca hcl hyi hyi.le hm hnd hr h hf.inv hf.ts fun a' w' g' s' hd T1 I1 Tt1 hK =>
        ⟨.normal,_,g',rfl,T1,⟨I1,Tt1,by rw [hd]; exact hf.mks.ev T1.ev⟩,hK⟩
    · cases hc
  | .seq x y,bk,c,hc => by
    simp only [comp,Option.bind_eq_bind,Option.bind_eq_some_iff] at hc
    obtain ⟨cx,hx,cy,hy,hc⟩ := hc
    simp only [pure,Option.some.injEq] at hc; subst hc
    have i1 := ev_ok hm hca hcl an x _ cx hx
    have i2 := ev_ok hm hca hcl an y _ cy hy
    refine ⟨seq_good i1.1 i2.1,fun l => ?_⟩
    rcases i1.2 l with ⟨h1,h2⟩ | ⟨r,rs,h1,h2,h3⟩
    · rcases i2.2 l with ⟨k1,k2⟩ | ⟨r,rs,k1,k2,k3⟩
      · exact .inl ⟨by simp [restC,h1,k1],by simp [findLabel,h2,k2]⟩
      · exact .inr ⟨r,rs,by simp [restC,h1,k1],by simp [findLabel,h2,k2],k3⟩
    · exact .inr ⟨.seq r cy,.seq rs y,by simp [restC,h1],by simp [findLabel,h2],seq_good h3 i2.1⟩
  | .cond x p q,bk,c,hc => by
    simp only [comp,Option.bind_eq_bind,Option.bind_eq_some_iff] at hc
    obtain ⟨e,he,cx,hx,cy,hy,hc⟩ := hc
    simp only [pure,Option.some.injEq] at hc; subst hc
    refine ⟨?_,fun l => .inl ⟨rfl,rfl⟩⟩
    intro rd yi f Φ w g a rb h hyi hrd hf
    simp only [ev] at h
    have hr := ev_rep hf.ts he
    split at h
    · rename_i hv
      rw [hv] at hr
      generalize hu : a.eval x = u at hr
      cases hr
      exact wpIn_cond_true hu ((ev_ok hm hca hcl an p _ cx hx).1 rd yi f Φ w g a rb h hyi hrd hf)
    · rename_i hv
      rw [hv] at hr
      generalize hu : a.eval x = u at hr
      cases hr
      exact wpIn_cond_false hu ((ev_ok hm hca hcl an q _ cy hy).1 rd yi f Φ w g a rb h hyi hrd hf)
    · exact h.elim
  | .block id p,bk,c,hc => by
    simp only [comp,Option.map_eq_some_iff] at hc
    obtain ⟨cx,hx,rfl⟩ := hc
    refine ⟨?_,fun l => .inl ⟨rfl,rfl⟩⟩
    intro rd yi f Φ w g a rb h hyi hrd hf
    simp only [ev] at h
    refine wpIn_block (wpIn_mono ((ev_ok hm hca hcl an p _ cx hx).1 rd yi f _ w g a rb h hyi hrd hf) fun e a1 w1 hp => ?_)
    obtain ⟨x1,f1,g1,rfl,T1,F1,hx1⟩ := hp
    cases x1 with
    | normal => exact ⟨_,f1,g1,rfl,T1,F1,hx1⟩
    | exit i =>
      dsimp only [X.toExit,Exit.inBlock] at hx1 ⊢
      split at hx1
      · rename_i hi
        rw [if_pos hi]
        exact ⟨.normal,f1,g1,rfl,T1,F1,hx1⟩
      · rename_i hi
        rw [if_neg hi]
        exact ⟨.exit i,f1,g1,rfl,T1,F1,hx1⟩
    | goto l => exact ⟨_,f1,g1,rfl,T1,F1,hx1⟩
    | ret => exact ⟨_,f1,g1,rfl,T1,F1,hx1⟩
  | .loop p,bk,c,hc => by
    simp only [comp,Option.map_eq_some_iff] at hc
    obtain ⟨cx0,hx,rfl⟩ := hc
    generalize hcx : C.kill (an bk) cx0 = cx
    refine ⟨?_,fun l => .inl ⟨rfl,rfl⟩⟩
    intro rd yi f Φ w g a rb h hyi hrd hf
    simp only [ev] at h
    have hgood : Good P T ca Lfp p cx := by rw [← hcx]; exact kill_ok _ (ev_ok hm hca hcl an p _ cx0 hx).1
    intro b k cs hro hb hr
    have key : ∀ (f1 : Fr),Lfp (ev P T ca Lfp cx rd yi) f1 Φ → ∀ (w1 : World) (g1 : G) (a1 : Act),Tr w g f.s.o w1 g1 f1.s.o → RdOk g1 f1.s.o rd rb → FrOk w1.heap g1 f1 a1 →
        ∃ e a' w',Post w g f.s.o Φ e a' w' ∧ ArrivesIn (Machine.fenced P (FR rb)) P (lone (b.atR a1 (.code p :: .inLoop p :: k)) cs w1) b k cs e a' w' := by
      intro f1 hl
      refine hl (fun f1 => ∀ (w1 : World) (g1 : G) (a1 : Act),Tr w g f.s.o w1 g1 f1.s.o → RdOk g1 f1.s.o rd rb → FrOk w1.heap g1 f1 a1 →
        ∃ e a' w',Post w g f.s.o Φ e a' w' ∧ ArrivesIn (Machine.fenced P (FR rb)) P (lone (b.atR a1 (.code p :: .inLoop p :: k)) cs w1) b k cs e a' w') (fun f1 hb1 w1 g1 a1 T1 hrd1 F1 => ?_)
      obtain ⟨e,a2,w2,hq,harr⟩ := hgood rd yi f1 _ w1 g1 a1 rb hb1 hyi hrd1 F1 b (.inLoop p :: k) cs hro hb hr
      obtain ⟨x1,f2,g2,rfl,T2,F2,hx1⟩ := hq
      cases x1 with
      | normal =>
        obtain ⟨e₂,a₂,w₂,hq₂,harr₂⟩ := hx1 w2 g2 a2 (T1.trans T2) (hrd1.ev T2.ev) F2
        exact ⟨e₂,a₂,w₂,hq₂,.of_steps (StepsIn.trans harr (.one (fenced_calm hb hr rfl) stepR_inLoop)) harr₂⟩
      | exit id => exact ⟨_,a2,w2,⟨_,f2,g2,rfl,T1.trans T2,F2,hx1⟩,.pass (x := .inLoop p) rfl (fun _ _ => .inl (by simp [X.toExit])) harr⟩
      | goto l => exact ⟨_,a2,w2,⟨_,f2,g2,rfl,T1.trans T2,F2,hx1⟩,.pass (x := .inLoop p) rfl (fun _ _ => .inl (by simp [X.toExit])) harr⟩
      | ret => exact ⟨_,a2,w2,⟨_,f2,g2,rfl,T1.trans T2,F2,hx1⟩,.pass (x := .inLoop p) rfl (fun _ _ => .inl (by simp [X.toExit])) harr⟩
    obtain ⟨e,a',w',hq,harr⟩ := key f h w g a (Tr.refl _ _ _) hrd hf
    exact ⟨e,a',w',hq,.of_steps (.one (fenced_calm hb hr rfl) stepR_loop) harr⟩
  | .rangeFunc x ps p q,bk,c,hc => by
    simp only [comp,Option.bind_eq_bind,Option.bind_eq_some_iff] at hc
    obtain ⟨e,he,cx,hx,cy,hy,hc⟩ := hc
    simp only [pure,Option.some.injEq] at hc; subst hc
    exact ⟨rfun_ok hca hcl lfp_le (ev_ok hm hca hcl an p _ cx hx).1 (ev_ok hm hca hcl an q _ cy hy).1 he,fun l => .inl ⟨rfl,rfl⟩⟩
  | .exit id,bk,c,hc => by
    simp only [comp,Option.some.injEq] at hc; subst hc
    refine ⟨?_,fun l => .inl ⟨rfl,rfl⟩⟩
    intro rd yi f Φ w g a rb h hyi hrd hf
    exact wpIn_exit ⟨.exit id,f,g,rfl,Tr.refl _ _ _,hf,h⟩
  | .scope p,bk,c,hc => by
    simp only [comp,Option.map_eq_some_iff] at hc
    obtain ⟨cx,hx,rfl⟩ := hc
    have i1 := ev_ok hm hca hcl an p _ cx hx
    unfold mkScope
    split
    · rename_i l hg
      split
      · rename_i r hr
        refine ⟨?_,fun l => .inl ⟨rfl,rfl⟩⟩
        rcases i1.2 l with ⟨h1,h2⟩ | ⟨r',rs,h1,h2,h3⟩
        · rw [hr] at h1; cases h1
        · rw [hr] at h1; cases h1
          exact scopeG_good i1.1 h2 h3
      · exact ⟨scope_good i1.1,fun l => .inl ⟨rfl,rfl⟩⟩
    · exact ⟨scope_good i1.1,fun l => .inl ⟨rfl,rfl⟩⟩
  | .label l,bk,c,hc => by
    simp only [comp,Option.some.injEq] at hc; subst hc
    refine ⟨?_,fun l2 => ?_⟩
    · intro rd yi f Φ w g a rb h hyi hrd hf
      exact wpIn_label ⟨.normal,f,g,rfl,Tr.refl _ _ _,hf,h⟩
    · cases he : l == l2 with
      | false => exact .inl ⟨by simp [restC,he],by simp [findLabel,he]⟩
      | true =>
        refine .inr ⟨.skip,.skip,by simp [restC,he],by simp [findLabel,he], ?_⟩
        intro rd yi f Φ w g a rb h hyi hrd hf
        exact wpIn_skip ⟨.normal,f,g,rfl,Tr.refl _ _ _,hf,h⟩
  | .goto l,bk,c,hc => by
    simp only [comp,Option.some.injEq] at hc; subst hc
    refine ⟨?_,fun l => .inl ⟨rfl,rfl⟩⟩
    intro rd yi f Φ w g a rb h hyi hrd hf
    exact wpIn_goto ⟨.goto l,f,g,rfl,Tr.refl _ _ _,hf,h⟩
  | .ret,bk,c,hc => by
    simp only [comp,Option.some.injEq] at hc; subst hc
    refine ⟨?_,fun l => .inl ⟨rfl,rfl⟩⟩
    intro rd yi f Φ w g a rb h hyi hrd hf
    exact wpIn_ret ⟨.ret,f,g,rfl,Tr.refl _ _ _,hf,h⟩
  | .refuse _,bk,c,hc => by simp [comp] at hc
end Go.Proofs.Pe
end

section
set_option linter.unusedVariables false
namespace Go.Proofs.Pe
variable {P : Program} {w : World} {g : G} {o : List O} {T : Tab}

/-! ### A function's call -/
def resOne (tmps : Array Value) : ResultVar → Sem Value
  | .tmp t => pure (tmps.getD t undef)
  | .cell a t => do loadVar t (← asAddr (tmps.getD a undef))

theorem res_ok {s : St} {a : Act} (I : Inv w.heap g s.o) (Tt : Ts w.heap g s a) : ∀ {rs : List ResultVar} {rv : List Rv} {ys : List V},compRes P rs = some rv → rets s rv = some ys →
    ∃ vs,(rs.mapM (resOne a.tmps)).run P w = .ok vs w ∧ Reps w.heap g s.o ys vs
  | [],rv,ys,h1,h2 => by
    simp only [compRes,Option.some.injEq] at h1; subst h1
    simp only [rets,Option.some.injEq] at h2; subst h2
    exact ⟨[],by simp,Reps.nil _ _ _⟩
  | .tmp t :: rs,rv,ys,h1,h2 => by
    simp only [compRes,Option.map_eq_some_iff] at h1
    obtain ⟨rv',h3,rfl⟩ := h1
    simp only [rets,Option.map_eq_some_iff] at h2
    obtain ⟨ys',h4,rfl⟩ := h2
    obtain ⟨vs,h5,h6⟩ := res_ok I Tt h3 h4
    exact ⟨a.tmps.getD t undef :: vs,by simp [resOne,h5],Reps.cons (getD_rep Tt.rep t) h6⟩
  | .cell c t :: rs,rv,ys,h1,h2 => by
    simp only [compRes,Option.bind_eq_bind,Option.bind_eq_some_iff] at h1
    obtain ⟨ag,hag,n,hn,rv',h3,h1⟩ := h1
    simp only [pure,Option.some.injEq] at h1; subst h1
    simp only [rets] at h2
    split at h2
    · rename_i l off hp
      split at h2
      · rename_i cs hl
        simp only [Option.bind_eq_bind,Option.bind_eq_some_iff] at h2
        obtain ⟨y,hy,ys',h4,h2⟩ := h2
        simp only [pure,Option.some.injEq] at h2; subst h2
        obtain ⟨vs,h5,h6⟩ := res_ok I Tt h3 h4
        have hr := getD_rep Tt.rep c
        rw [hp] at hr
        generalize hu : a.tmps.getD c undef = u at hr
        cases hr with
        | pt _ =>
          obtain ⟨us,ty,hb,_,hs,hx⟩ := I.cells l cs hl
          obtain ⟨r,h7,h8⟩ := load_rowS (P := P) (t := t) (off := 0) (p := off) hb (aggOf_ok hag w) (fun _ => by simp only [sizeOf',Option.map_eq_some_iff] at hn; exact hn) hy (by simp at hs; omega) (fun j z hz u hu => hx j z hz u (by simpa using hu))
          rw [Nat.zero_add] at h7
          exact ⟨r :: vs,by simp [resOne,hu,asAddr,h5,h7],Reps.cons h8 h6⟩
      · cases h2
    · cases h2

def tupOf : List Value → Value
  | [v] => v
  | vs => .tuple vs.toArray

theorem results_run {fn : Func} {tmps : Array Value} {vs : List Value} (h : (fn.results.toList.mapM (resOne tmps)).run P w = .ok vs w) : (results fn tmps).run P w = .ok (tupOf vs) w := by
  have e : results fn tmps = (do
    let vs ← fn.results.mapM (resOne tmps)
    pure (if h : vs.size = 1 then vs[0] else .tuple vs)) := by
    unfold results
    congr 1
  have e2 : fn.results.mapM (resOne tmps) = List.toArray <$> fn.results.toList.mapM (resOne tmps) := by
    conv => lhs; rw [show fn.results = fn.results.toList.toArray by simp,List.mapM_toArray]
  rw [e,e2]
  simp only [Sem.run_bind,Sem.run_map,h]
  simp only [Result.andThen,Sem.run_pure]
  match vs with
  | [] => simp [tupOf]
  | [v] => simp [tupOf]
  | v :: v' :: vs => simp [tupOf]

theorem marks_ok {fn : Func} {a : Act} {R : Ending → World → Prop} : ∀ {m : List Nat} {o o1 : List O} {w : World} {ds : List Deferred},shut o m = some o1 → Inv w.heap g o → Marks g o m ds →
    (∀ w',Tr w g o w' g o1 → Inv w'.heap g o1 → LeavesInM Fence.wide 0 P fn a.tmps R [] .returning w') → LeavesInM Fence.wide 0 P fn a.tmps R ds .returning w
  | [],o,o1,w,ds,h,I,M,hn => by
    simp only [shut,Option.some.injEq] at h; subst h
    have : ds = [] := M.1
    subst this
    exact hn w (Tr.refl _ _ _) I
  | l :: m,o,o1,w,ds,h,I,M,hn => by
    simp only [shut] at h
    split at h
    · rename_i hl
      obtain ⟨T1,I1⟩ := dfd_put I hl
      have M1 := M.ev T1.ev
      have hds : ds = mark g l :: m.map (mark g) := M.1
      subst hds
      refine ⟨by simp,.inl ⟨g.blk l,_,rfl,run_takeDeferred (I.dfd l _ hl), ?_⟩⟩
      exact marks_ok h I1 ⟨rfl,fun l' hl' => M1.2 l' (by simp [hl'])⟩ fun w' T2 I2 => hn w' (T1.trans T2) I2
    · cases h

def XOk (P : Program) (T : Tab) : Prop := ∀ f xs y,T.ext f xs = some y → Known P f ∧ ∀ (w : World) (g : G) (o : List O) (us : Array Value),Inv w.heap g o → Reps w.heap g o xs us.toList →
  CallsIn Fence.wide 0 P f us w (EndOk P w g o fun y' o' => y' = y ∧ o' = o)
def TOk (P : Program) (T : Tab) : Prop := (∀ f cf,T.cf f = some cf → compF P T.mode T.an f = some cf) ∧ XOk P T

theorem compF_ok {f : FuncId} {cf : CF} {md : FuncId → Nat} {an : FuncId → Nat → List Nat} (h : compF P md an f = some cf) : Known P f ∧ ∃ fn c,P.funcs[f]? = some fn ∧ fn.body = some c ∧ comp P md (an f) 0 c = some cf.body ∧ compRes P fn.results.toList = some cf.res ∧ cf.ntmps = fn.ntmps := by
  simp only [compF,Option.bind_eq_bind,Option.bind_eq_some_iff] at h
  obtain ⟨fn,hfn,c,hc,h⟩ := h
  split at h
  · cases h
  · rename_i hname
    simp only [Option.bind_eq_some_iff] at h
    obtain ⟨b,hb,r,hr,h⟩ := h
    simp only [pure,Option.some.injEq] at h; subst h
    exact ⟨⟨fn,hfn,by rw [hc]; rfl,by simpa using hname⟩,fn,c,hfn,hc,hb,hr,rfl⟩

theorem body_ok {ca : (Nat → Sem') → FuncId → Sem'} (hm : P.follows .mixedOrders = true) (hT : TOk P T) (hca : CaOk P ca) (hcl : CLe ca ca) : CaOk P (evBody P T ca Lfp) := fun yi f xs o K h hyi => by
    simp only [evBody] at h
    split at h
    · split at h
      · exact h.elim
      · rename_i y hy
        obtain ⟨h1,h2⟩ := hT.2 f xs y hy
        refine ⟨h1,fun w g us I hx => (h2 w g o us I hx).mono fun e w' he => ?_⟩
        obtain ⟨r,y',o',g',q1,q2,q3,q4,rfl,rfl⟩ := he
        exact ⟨r,y',o',g',q1,q2,q3,q4,h⟩
    · rename_i cf hcf
      obtain ⟨hk,fn,c,hfn,hbody,hcomp,hres,hnt⟩ := compF_ok (hT.1 f cf hcf)
      refine ⟨hk,fun w g us I hx => callsIn_of_wp_marks hfn hbody trivial ?_⟩
      have hlen : us.size = xs.length := by simpa using hx.1
      have hf : FrOk w.heap g { s := { t := xs ++ List.replicate (cf.ntmps - xs.length) .dead,o := o },m := [] } { tmps := us ++ Array.replicate (fn.ntmps - us.size) undef,defers := [] } := by
        refine ⟨I,⟨?_⟩,⟨rfl,fun l h => by cases h⟩⟩
        simp only [Array.toList_append,Array.toList_replicate]
        refine hx.append ⟨by simp [hnt,hlen],fun j y hy u hu => ?_⟩
        have := List.mem_of_getElem? hy
        rw [List.mem_replicate] at this
        rw [this.2]; exact .dead
      refine wpIn_mono ((ev_ok hm hca hcl _ c _ cf.body hcomp).1 none yi _ _ w g _ none h hyi rfl hf) fun e a1 w1 hp => ?_
      obtain ⟨x1,f1,g1,rfl,T1,F1,hx1⟩ := hp
      have hfin : ∀ o1,shut f1.s.o f1.m = some o1 → (match rets { f1.s with o := o1 } cf.res with
          | some [y] => K y o1
          | some ys => K (.tup ys) o1
          | none => False) → LeavesInM Fence.wide 0 P fn a1.tmps (EndOk P w g o K) a1.defers .returning w1 := fun o1 hs hK => by
        refine marks_ok hs F1.inv F1.mks fun w' T2 I2 => ?_
        cases hr : rets { f1.s with o := o1 } cf.res with
        | none => rw [hr] at hK; exact hK.elim
        | some ys =>
          rw [hr] at hK
          obtain ⟨vs,hrun,hreps⟩ := res_ok (P := P) (s := { f1.s with o := o1 }) (a := a1) I2 ⟨F1.ts.rep.ev T2.ev⟩ hres hr
          refine ⟨_,results_run hrun, ?_⟩
          match ys,vs,hreps,hK with
          | [y],[v],hreps,hK => exact ⟨v,y,o1,g1,rfl,T1.trans T2,I2,hreps.2 0 y rfl v rfl,hK⟩
          | [],[],hreps,hK => exact ⟨_,_,o1,g1,rfl,T1.trans T2,I2,.tup rfl (by simp),hK⟩
          | y :: y' :: ys,v :: v' :: vs,hreps,hK => exact ⟨_,_,o1,g1,rfl,T1.trans T2,I2,.tup (by have := hreps.1; simpa using this) (fun j y hy u hu => hreps.2 j y hy u (by simpa using hu)),hK⟩
          | [],v :: vs,hreps,hK => exact absurd hreps.1 (by simp)
          | [y],[],hreps,hK => exact absurd hreps.1 (by simp)
          | [y],v :: v' :: vs,hreps,hK => exact absurd hreps.1 (by simp)
          | y :: y' :: ys,[],hreps,hK => exact absurd hreps.1 (by simp)
          | y :: y' :: ys,[v],hreps,hK => exact absurd hreps.1 (by simp)
      cases x1 with
      | exit id => exact hx1.elim
      | goto l => exact hx1.elim
      | normal =>
        dsimp only at hx1
        split at hx1
        · exact hx1.elim
        · rename_i o1 hs; exact hfin o1 hs hx1
      | ret =>
        dsimp only at hx1
        split at hx1
        · exact hx1.elim
        · rename_i o1 hs; exact hfin o1 hs hx1

theorem YLe.trans {a b c : Nat → Sem'} (h : YLe a b) (h' : YLe b c) : YLe a c := fun l xs o K K' hK hx => h' l xs o K K' hK (h l xs o K K (fun _ _ h => h) hx)

theorem EndOk.mono {w : World} {g : G} {o : List O} {K K' : V → List O → Prop} (hK : ∀ y o,K y o → K' y o) {e : Ending} {w' : World} (h : EndOk P w g o K e w') : EndOk P w g o K' e w' := by
  obtain ⟨r,y,o',g',h1,h2,h3,h4,h5⟩ := h
  exact ⟨r,y,o',g',h1,h2,h3,h4,hK _ _ h5⟩

def Sound (P : Program) : Ca := fun yi f xs o K => ∀ yi' K',YLe yi yi' → YOk P yi' → (∀ y o,K y o → K' y o) → Known P f ∧ ∀ (w : World) (g : G) (us : Array Value),Inv w.heap g o → Reps w.heap g o xs us.toList → CallsIn Fence.wide 0 P f us w (EndOk P w g o K')
theorem sound_le : CLe (Sound P) (Sound P) := fun y1 y2 f hy xs o K1 K2 hK h yi' K' hy' hok hK' => h yi' K' (hy.trans hy') hok fun y o h => hK' y o (hK y o h)
theorem sound_ok : CaOk P (Sound P) := fun yi f xs o K h hyi => h yi K hyi.le hyi fun _ _ h => h

theorem call_ok (hm : P.follows .mixedOrders = true) (hT : TOk P T) : CaOk P (Call P T) := fun yi f xs o K h hyi => by
  refine h (Sound P) (fun yi f xs o K hb yi' K' hy hok hK => ?_) yi K hyi.le hyi fun _ _ h => h
  exact body_ok hm hT sound_ok sound_le yi' f xs o K' (evBody_mono sound_le lfp_le yi yi' f hy xs o K K' hK hb) hok
end Go.Proofs.Pe
end

section
set_option linter.unusedVariables false
namespace Go.Proofs.Pe
variable {P : Program} {T : Tab} {ca : Ca} {yi : Nat → Sem'} {lp : Bd → Bd} {rd : Option Nat} {t : List V} {o : List O} {m : List Nat} {Φ : X → Fr → Prop} {K : St → Prop} {d : Option Nat} {g : Option (Nat × Bool)}

/-! ### Steps, where the state is at hand -/
theorem s_skip : ev P T ca lp .skip rd yi ⟨⟨t,o⟩,m⟩ Φ = Φ .normal ⟨⟨t,o⟩,m⟩ := propext Iff.rfl
theorem s_regs {ks : List KO} : ev P T ca lp (.regs ks) rd yi ⟨⟨t,o⟩,m⟩ Φ = evOps P T ca yi ks ⟨t,o⟩ fun s' => Φ .normal ⟨s',m⟩ := propext Iff.rfl
theorem s_regd {r : R} : ev P T ca lp (.regd r) rd yi ⟨⟨t,o⟩,m⟩ Φ = evR P T ca yi r ⟨t,o⟩ fun s' => Φ .normal ⟨s',m⟩ := propext Iff.rfl
theorem s_seq {a b : C} : ev P T ca lp (.seq a b) rd yi ⟨⟨t,o⟩,m⟩ Φ = ev P T ca lp a rd yi ⟨⟨t,o⟩,m⟩ fun x f' => match x with
    | .normal => ev P T ca lp b rd yi f' Φ
    | x => Φ x f' := propext Iff.rfl
theorem s_block {id : Nat} {c : C} : ev P T ca lp (.block id c) rd yi ⟨⟨t,o⟩,m⟩ Φ = ev P T ca lp c rd yi ⟨⟨t,o⟩,m⟩ fun x f' => match x with
    | .exit i => if i = id then Φ .normal f' else Φ (.exit i) f'
    | x => Φ x f' := propext Iff.rfl
theorem s_loop {c : C} : ev P T ca lp (.loop c) rd yi ⟨⟨t,o⟩,m⟩ Φ = lp (ev P T ca lp c rd yi) ⟨⟨t,o⟩,m⟩ Φ := propext Iff.rfl
theorem s_kill {l : List Nat} {c : C} : ev P T ca lp (.kill l c) rd yi ⟨⟨t,o⟩,m⟩ Φ = ev P T ca lp c rd yi ⟨⟨killTs l t,o⟩,m⟩ Φ := propext Iff.rfl
theorem s_exit {id : Nat} : ev P T ca lp (.exit id) rd yi ⟨⟨t,o⟩,m⟩ Φ = Φ (.exit id) ⟨⟨t,o⟩,m⟩ := propext Iff.rfl
theorem s_scope {c : C} : ev P T ca lp (.scope c) rd yi ⟨⟨t,o⟩,m⟩ Φ = ev P T ca lp c rd yi ⟨⟨t,o⟩,m⟩ fun x f' => match x with
    | .goto _ => False
    | x => Φ x f' := propext Iff.rfl
theorem s_scopeG {l : Nat} {c r : C} : ev P T ca lp (.scopeG l c r) rd yi ⟨⟨t,o⟩,m⟩ Φ = ev P T ca lp c rd yi ⟨⟨t,o⟩,m⟩ fun x f' => match x with
    | .goto l' => if l' = l then lp (gBody l (ev P T ca lp r rd yi)) f' (fun x3 f3 => match x3 with
      | .goto _ => Φ .normal f3
      | x => Φ x f3) else False
    | x => Φ x f' := propext Iff.rfl
theorem s_label {l : Nat} : ev P T ca lp (.label l) rd yi ⟨⟨t,o⟩,m⟩ Φ = Φ .normal ⟨⟨t,o⟩,m⟩ := propext Iff.rfl
theorem s_goto {l : Nat} : ev P T ca lp (.goto l) rd yi ⟨⟨t,o⟩,m⟩ Φ = Φ (.goto l) ⟨⟨t,o⟩,m⟩ := propext Iff.rfl
theorem s_ret : ev P T ca lp .ret rd yi ⟨⟨t,o⟩,m⟩ Φ = Φ .ret ⟨⟨t,o⟩,m⟩ := propext Iff.rfl
theorem s_nil : evOps P T ca yi [] ⟨t,o⟩ K = K ⟨t,o⟩ := propext Iff.rfl
theorem s_cons {ko : KO} {ks : List KO} : evOps P T ca yi (ko :: ks) ⟨t,o⟩ K = evOp P T ca yi ko ⟨t,o⟩ fun s' => evOps P T ca yi ks s' K := propext Iff.rfl
theorem s_rnil : evR P T ca yi .nil ⟨t,o⟩ K = K ⟨t,o⟩ := propext Iff.rfl
theorem s_rop {i : Nat} {ko : KO} {r : R} : evR P T ca yi (.op i ko r) ⟨t,o⟩ K = evOp P T ca yi ko ⟨t,o⟩ fun s' => evR P T ca yi r s' K := propext Iff.rfl
theorem s_rrd {i : Nat} {ko : KO} {mm : Nat} {r : R} : evR P T ca yi (.rd i ko mm r) ⟨t,o⟩ K = (okR (ko.k.dep ⟨t,o⟩) mm = true ∧ evOp P T ca yi ko ⟨t,o⟩ fun s' => evR P T ca yi r s' K) := propext Iff.rfl
theorem s_ralt {rs : List R} : evR P T ca yi (.alt rs) ⟨t,o⟩ K = evRs P T ca yi rs ⟨t,o⟩ K := propext Iff.rfl
theorem s_rsnil : evRs P T ca yi [] ⟨t,o⟩ K = True := propext Iff.rfl
theorem s_rscons {r : R} {rs : List R} : evRs P T ca yi (r :: rs) ⟨t,o⟩ K = (evR P T ca yi r ⟨t,o⟩ K ∧ evRs P T ca yi rs ⟨t,o⟩ K) := propext Iff.rfl
def oK (r : Option (V × List O)) (K : V → List O → Prop) : Prop :=
  match r with
  | none => False
  | some p => K p.1 p.2
def evK (P : Program) (T : Tab) (ca : Ca) (yi : Nat → Sem') (k : Pe.K) (t : List V) (o : List O) (K : V → List O → Prop) : Prop :=
  match k with
  | .call f xs => evCallV T ca yi (f.at t) (xs.map (·.at t)) o K
  | k => oK (step P ⟨t,o⟩ k) K

theorem s_op {k : Pe.K} : evOp P T ca yi ⟨d,g,k⟩ ⟨t,o⟩ K = match guardOk ⟨t,o⟩ g with
    | none => False
    | some false => K ⟨putT d (.tup []) t,o⟩
    | some true => evK P T ca yi k t o fun y o' => K ⟨putT d y t,o'⟩ := by
  unfold evOp evK
  cases guardOk ⟨t,o⟩ g with
  | none => rfl
  | some b =>
    cases b
    · rfl
    · cases k
      case call f xs =>
        dsimp only
        rw [ev_at,show (xs.map (·.ev ⟨t,o⟩)) = xs.map (·.at t) from List.map_congr_left fun e _ => ev_at _ _]
      all_goals
        dsimp only [oK]
        split <;> simp_all
section
variable {K : V → List O → Prop} {c x y z : E}
theorem oK_none : oK none K = False := propext Iff.rfl
theorem oK_some {v : V} {o' : List O} : oK (some (v,o')) K = K v o' := propext Iff.rfl
end
end Go.Proofs.Pe
end

section
set_option linter.unusedVariables false
namespace Go.Proofs.Pe

/-! ### The evaluator as a program: for calls of which all is known -/
def natF {α : Type} (n : Nat) (k : Nat → α) : α := match n with
  | 0 => k 0
  | m + 1 => k (m + 1)
theorem natF_eq {α : Type} (n : Nat) (k : Nat → α) : natF n k = k n := by cases n <;> rfl
def intF {α : Type} (n : Int) (k : Int → α) : α := match n with
  | .ofNat m => natF m fun m => k (.ofNat m)
  | .negSucc m => natF m fun m => k (.negSucc m)
theorem intF_eq {α : Type} (n : Int) (k : Int → α) : intF n k = k n := by cases n <;> simp [intF,natF_eq]
def boolF {α : Type} (b : Bool) (k : Bool → α) : α := match b with
  | true => k true
  | false => k false
theorem boolF_eq {α : Type} (n : Bool) (k : Bool → α) : boolF n k = k n := by cases n <;> rfl
def listF {α β : Type} (f : β → (β → α) → α) : List β → (List β → α) → α
  | [],k => k []
  | x :: xs,k => f x fun x => listF f xs fun xs => k (x :: xs)
theorem listF_eq {α β : Type} {f : β → (β → α) → α} (hf : ∀ x k,f x k = k x) : ∀ (l : List β) (k : List β → α),listF f l k = k l
  | [],k => rfl
  | x :: xs,k => by rw [listF,hf,listF_eq hf]
def kindF {α : Type} (x : IntKind) (k : IntKind → α) : α := match x with
  | .i8 => k .i8
  | .i16 => k .i16
  | .i32 => k .i32
  | .i64 => k .i64
  | .u8 => k .u8
  | .u16 => k .u16
  | .u32 => k .u32
  | .u64 => k .u64
theorem kindF_eq {α : Type} (x : IntKind) (k : IntKind → α) : kindF x k = k x := by cases x <;> rfl
def byteF {α : Type} (x : UInt8) (k : UInt8 → α) : α := match x with
  | ⟨⟨⟨n,h⟩⟩⟩ => k ⟨⟨⟨n,h⟩⟩⟩
theorem byteF_eq {α : Type} (x : UInt8) (k : UInt8 → α) : byteF x k = k x := rfl
def strF {α : Type} (x : ByteArray) (k : ByteArray → α) : α := match x with
  | ⟨⟨l⟩⟩ => listF byteF l fun l => k ⟨⟨l⟩⟩
theorem strF_eq {α : Type} (x : ByteArray) (k : ByteArray → α) : strF x k = k x := by
  rcases x with ⟨⟨l⟩⟩; simp only [strF]; rw [listF_eq (byteF_eq)]
def valF {α : Type} (v : Value) (k : Value → α) : α := match v with
  | .bool b => boolF b fun b => k (.bool b)
  | .int i n => kindF i fun i => intF n fun n => k (.int i n)
  | .string s => strF s fun s => k (.string s)
  | v => k v
theorem valF_eq {α : Type} (v : Value) (k : Value → α) : valF v k = k v := by
  unfold valF; split <;> simp [boolF_eq,kindF_eq,intF_eq,strF_eq]
def V.f1 {α : Type} (v : V) (k : V → α) : α := match v with
  | .sc v => k (.sc v)
  | .sl n f xs => k (.sl n f xs)
  | .ar l v => k (.ar l v)
  | .vw l v a n => k (.vw l v a n)
  | .pt l a => k (.pt l a)
  | .pa l v i a => k (.pa l v i a)
  | .ep cs => k (.ep cs)
  | .agg cs => k (.agg cs)
  | .fn f a b => k (.fn f a b)
  | .tup vs => k (.tup vs)
  | .it l => k (.it l)
  | .dead => k .dead
theorem V.f1_eq {α : Type} (v : V) (k : V → α) : v.f1 k = k v := by cases v <;> rfl
def V.f2 {α : Type} (v : V) (k : V → α) : α := match v with
  | .sc v => valF v fun v => k (.sc v)
  | .sl n f xs => natF n fun n => boolF f fun f => listF V.f1 xs fun xs => k (.sl n f xs)
  | .ar l v => natF l fun l => natF v fun v => k (.ar l v)
  | .vw l v a n => natF l fun l => natF v fun v => natF a fun a => natF n fun n => k (.vw l v a n)
  | .pt l a => natF l fun l => natF a fun a => k (.pt l a)
  | .pa l v i a => natF l fun l => natF v fun v => natF i fun i => natF a fun a => k (.pa l v i a)
  | .ep cs => listF V.f1 cs fun cs => k (.ep cs)
  | .agg cs => listF V.f1 cs fun cs => k (.agg cs)
  | .fn f a b => listF V.f1 a fun a => listF V.f1 b fun b => k (.fn f a b)
  | .tup vs => listF V.f1 vs fun vs => k (.tup vs)
  | .it l => natF l fun l => k (.it l)
  | .dead => k .dead
theorem V.f2_eq {α : Type} (v : V) (k : V → α) : v.f2 k = k v := by
  unfold V.f2; split <;> simp [valF_eq,natF_eq,boolF_eq,listF_eq V.f1_eq]
def O.f {α : Type} (o : O) (k : O → α) : α := match o with
  | .cells cs => listF V.f1 cs fun cs => k (.cells cs)
  | .arr v w n xs => natF v fun v => boolF w fun w => natF n fun n => listF V.f1 xs fun xs => k (.arr v w n xs)
  | .loop st p ts ps a b dl => k (.loop st p ts ps a b dl)
  | .dfd (.sh s) => boolF s fun s => k (.dfd (.sh s))
  | .dfd (.it s p) => natF p fun p => k (.dfd (.it s p))
  | .dead => k .dead
theorem O.f_eq {α : Type} (o : O) (k : O → α) : o.f k = k o := by
  unfold O.f; split <;> simp [natF_eq,boolF_eq,listF_eq V.f1_eq]
def O.f0 {α : Type} (o : O) (k : O → α) : α := match o with
  | .cells cs => k (.cells cs)
  | .arr v w n xs => k (.arr v w n xs)
  | .loop st p ts ps a b dl => k (.loop st p ts ps a b dl)
  | .dfd s => k (.dfd s)
  | .dead => k .dead
def osF {α : Type} (os : List O) (k : List O → α) : α := listF O.f os k
theorem osF_eq {α : Type} (os : List O) (k : List O → α) : osF os k = k os := listF_eq O.f_eq os k
def setF {α β : Type} : List β → Nat → β → (List β → α) → α
  | [],_,_,k => k []
  | _ :: xs,0,y,k => k (y :: xs)
  | x :: xs,n + 1,y,k => setF xs n y fun r => k (x :: r)
theorem setF_eq {α β : Type} : ∀ (l : List β) (n : Nat) (y : β) (k : List β → α),setF l n y k = k (l.set n y)
  | [],n,y,k => by simp [setF]
  | x :: xs,0,y,k => rfl
  | x :: xs,n + 1,y,k => by rw [setF,setF_eq xs]; rfl
def putF {α : Type} (d : Option Nat) (y : V) (t : List V) (k : List V → α) : α := match d with
  | some d => setF t d y k
  | none => k t
theorem putF_eq {α : Type} (d : Option Nat) (y : V) (t : List V) (k : List V → α) : putF d y t k = k (putT d y t) := by
  cases d <;> simp [putF,putT,setF_eq]

def K.quiet : K → Bool
  | .box _ | .alloc _ | .msl .. | .s2b _ | .slc .. | .app .. | .apz .. | .store .. | .bsl .. | .bsa .. | .call .. | .srng .. | .snxt .. => false
  | _ => true
def K.moves : K → Bool
  | .mv _ | .load .. | .nilck _ | .ext .. | .pick .. | .mks .. => true
  | _ => false

def sameVal : Value → Value → Bool
  | .int k n,.int k' n' => decide (k = k') && decide (n = n')
  | .bool b,.bool b' => b == b'
  | .string s,.string s' => decide (s.data.toList = s'.data.toList)
  | .slice none 0 0,.slice none 0 0 => true
  | .pointer none,.pointer none => true
  | .nilFunc,.nilFunc => true
  | .nilIface,.nilIface => true
  | _,_ => false
theorem sameVal_eq {a b : Value} (h : sameVal a b = true) : a = b := by
  unfold sameVal at h
  split at h <;> first | rfl | (cases h; done) | skip
  · simp only [Bool.and_eq_true,decide_eq_true_eq] at h; rw [h.1,h.2]
  · simp at h; rw [h]
  · rename_i s s'
    rcases s with ⟨⟨l⟩⟩; rcases s' with ⟨⟨l'⟩⟩
    simp at h; rw [h]
mutual
def V.same : V → V → Bool
  | .sc a,.sc b => sameVal a b
  | .sl k f xs,.sl k' f' xs' => decide (k = k') && (f == f') && V.sames xs xs'
  | .ar l v,.ar l' v' => decide (l = l') && decide (v = v')
  | .pt l v,.pt l' v' => decide (l = l') && decide (v = v')
  | .ep xs,.ep xs' => V.sames xs xs'
  | .agg xs,.agg xs' => V.sames xs xs'
  | .fn (.func f) as bs,.fn (.func f') as' bs' => decide (f = f') && V.sames as as' && V.sames bs bs'
  | .dead,.dead => true
  | _,_ => false
def V.sames : List V → List V → Bool
  | [],[] => true
  | x :: xs,y :: ys => V.same x y && V.sames xs ys
  | _,_ => false
end
mutual
theorem V.same_eq : ∀ {a b : V},V.same a b = true → a = b := fun {a b} h => by
  unfold V.same at h
  split at h
  · rw [sameVal_eq h]
  · simp only [Bool.and_eq_true,decide_eq_true_eq,beq_iff_eq] at h; rw [h.1.1,h.1.2,V.sames_eq h.2]
  · simp only [Bool.and_eq_true,decide_eq_true_eq] at h; rw [h.1,h.2]
  · simp only [Bool.and_eq_true,decide_eq_true_eq] at h; rw [h.1,h.2]
  · rw [V.sames_eq h]
  · rw [V.sames_eq h]
  · simp only [Bool.and_eq_true,decide_eq_true_eq] at h; rw [h.1.1,V.sames_eq h.1.2,V.sames_eq h.2]
  · rfl
  · cases h
theorem V.sames_eq : ∀ {a b : List V},V.sames a b = true → a = b := fun {a b} h => by
  unfold V.sames at h
  split at h
  · rfl
  · simp only [Bool.and_eq_true] at h; rw [V.same_eq h.1,V.sames_eq h.2]
  · cases h
end
def simB : List O → List O → Bool
  | [],_ => true
  | .cells cs :: o,.cells cs' :: o' => V.sames cs cs' && simB o o'
  | .arr v _ k xs :: o,.arr v' _ k' xs' :: o' => decide (v = v') && decide (k = k') && V.sames xs xs' && simB o o'
  | .loop .. :: o,_ :: o' => simB o o'
  | .dfd _ :: o,_ :: o' => simB o o'
  | .dead :: o,_ :: o' => simB o o'
  | _,_ => false
theorem simB_ok {d : Nat} : ∀ {o o' : List O},simB o o' = true → Sim d o o'
  | [],_,h => ⟨fun _ l cs h => by simp at h,fun _ l v wr k xs h => by simp at h⟩
  | a :: o,o',h => by
    unfold simB at h
    split at h
    case h_1 => rename_i e; cases e
    case h_2 =>
      rename_i e; cases e
      simp only [Bool.and_eq_true] at h
      have ih := simB_ok (d := d) h.2
      have e := V.sames_eq h.1
      refine ⟨fun hd l cs hl => ?_,fun hd l v wr k xs hl => ?_⟩
      · cases l with
        | zero => simp at hl ⊢; rw [← e,hl]
        | succ l => simpa using ih.1 hd l cs (by simpa using hl)
      · cases l with
        | zero => simp at hl
        | succ l => simpa using ih.2 hd l v wr k xs (by simpa using hl)
    case h_3 =>
      rename_i e; cases e
      simp only [Bool.and_eq_true,decide_eq_true_eq] at h
      have ih := simB_ok (d := d) h.2
      have e := V.sames_eq h.1.2
      obtain ⟨⟨⟨rfl,rfl⟩,_⟩,_⟩ := h
      refine ⟨fun hd l cs hl => ?_,fun hd l v wr k xs hl => ?_⟩
      · cases l with
        | zero => simp at hl
        | succ l => simpa using ih.1 hd l cs (by simpa using hl)
      · cases l with
        | zero => simp at hl ⊢; obtain ⟨rfl,_,rfl,rfl⟩ := hl; exact ⟨rfl,rfl,e.symm⟩
        | succ l => simpa using ih.2 hd l v wr k xs (by simpa using hl)
    case h_7 => cases h
    all_goals
      rename_i e; cases e
      have ih := simB_ok (d := d) h
      refine ⟨fun hd l cs hl => ?_,fun hd l v wr k xs hl => ?_⟩
      · cases l with
        | zero => simp at hl
        | succ l => simpa using ih.1 hd l cs (by simpa using hl)
      · cases l with
        | zero => simp at hl
        | succ l => simpa using ih.2 hd l v wr k xs (by simpa using hl)

abbrev SemB := List V → List O → (V → List O → Bool) → Bool
def pureEndB (m : Nat) (o o1 : List O) (K : V → List O → Bool) (y : V) (o' : List O) : Bool :=
  match m,y with
  | 1,.ar l v => match o'[l]? with
    | some (.arr v' wr k ws) => if v' = v ∧ ws.all V.free = true then osF (o1 ++ [.arr 0 wr k ws]) fun o2 => K (.ar o1.length 0) o2 else false
    | _ => false
  | _,y => match freezeT o' y with
    | none => false
    | some (z,_) => z.f2 fun z => if z.bare = true then K z o else K z o1

def addr0 : V → List Nat
  | .pt l _ => [l]
  | .ar l _ => [l]
  | _ => []
def addr1 : V → List Nat
  | .fn (.func _) as bs => as.flatMap addr0 ++ bs.flatMap addr0
  | x => addr0 x
def addr2 : V → List Nat
  | .agg cs => cs.flatMap addr1
  | x => addr1 x
def addrT : V → List Nat
  | .tup xs => xs.flatMap addr2
  | x => addr2 x
def addrO : O → List Nat
  | .cells cs => cs.flatMap addr1
  | .arr _ _ _ xs => xs.flatMap addr2
  | _ => []
def reach (o : List O) : Nat → List Nat → List Nat → List Nat
  | 0,_,acc => acc
  | _ + 1,[],acc => acc
  | n + 1,l :: ls,acc => if l ∈ acc then reach o n ls acc else match o[l]? with
    | some ob => reach o n (ls ++ addrO ob) (acc ++ [l])
    | none => reach o n ls acc
def backB (S : List Nat) (o1 : List O) (K : V → List O → Bool) (z : V) (o2 : List O) : Bool :=
  let N := (reach o2 1000 (addrT z ++ (List.range S.length).flatMap fun i => match o2[i]? with | some ob => addrO ob | none => []) []).filter fun i => decide (S.length ≤ i)
  if N.Nodup then match z.mv (outS S N o1.length),mapO (fun i => (o2[i]?).bind (mvO (outS S N o1.length))) (List.range S.length ++ N) with
    | some z',some os => z'.f2 fun z' => osF (putS o1 S os ++ os.drop S.length) fun o3 => K z' o3
    | _,_ => false
  else false
def backEndB (S : List Nat) (o1 : List O) (K : V → List O → Bool) (y : V) (o' : List O) : Bool :=
  match freezeT o' y with
  | some (z,o2) => backB S o1 K z o2
  | none => backB S o1 K y o'

section
variable (P : Program) (T : Tab)
def evCallVB (ca : (Nat → SemB) → FuncId → SemB) (yi : Nat → SemB) (f : V) (xs : List V) (o : List O) (K : V → List O → Bool) : Bool :=
  match f with
  | .fn (.func g) as bs =>
    if T.mode g < 2 then
      match commits o (as ++ xs ++ bs) with
      | none => false
      | some (ys,o1) => listF V.f2 ys fun ys => osF o1 fun o1 => ca (fun _ _ _ _ => false) g ys [] fun y o' => pureEndB (T.mode g) o o1 K y o'
    else if T.mode g = 3 then
      match evCallV.commits' o (as ++ xs ++ bs) with
      | none => false
      | some (ys,o1) => listF V.f2 ys fun ys => osF o1 fun o1 => ca (fun _ _ _ _ => false) g ys o1 fun y o' => match simB o1 o' with
        | true => K y o'
        | false => false
    else if T.mode g = 2 then
      match evCallV.commits' o (as ++ xs ++ bs) with
      | none => false
      | some (ys,o1) => listF V.f2 ys fun ys => osF o1 fun o1 => ca yi g ys o1 K
    else if T.mode g = 5 ∨ T.mode g = 6 then
      match evCallV.hand (T.mode g) o (as ++ xs ++ bs) with
      | none => false
      | some (ys,o1) => listF V.f2 ys fun ys => osF o1 fun o1 =>
        let S := reach o1 1000 (ys.flatMap addr2) []
        if S.Nodup then match mapO (V.mv2 (inS S)) ys,mapO (fun l => (o1[l]?).bind (mvO (inS S))) S with
          | some zs,some os => listF V.f2 zs fun zs => osF os fun os => ca (fun _ _ _ _ => false) g zs os fun y o' => backEndB S o1 K y o'
          | _,_ => false
        else false
    else ca yi g (as ++ xs ++ bs) o K
  | .fn (.yield l) [] [] => match evCallV.commits' o xs with
      | none => false
      | some (ys,o1) => listF V.f2 ys fun ys => osF o1 fun o1 => yi l ys o1 K
  | _ => false

def evOpB (ca : (Nat → SemB) → FuncId → SemB) (yi : Nat → SemB) (ko : KO) (s : St) (K : St → Bool) : Bool :=
  match guardOk s ko.g with
  | none => false
  | some false => putF ko.dst (.tup []) s.t fun t => K ⟨t,s.o⟩
  | some true => match ko.k with
    | .call f xs => (f.ev s).f1 fun f => evCallVB T ca yi f (xs.map (·.ev s)) s.o fun y o' => putF ko.dst y s.t fun t => K ⟨t,o'⟩
    | k => match step P s k with
      | none => false
      | some (y,o') =>
        if k.quiet = true then
          if k.moves = true then y.f1 fun y => putF ko.dst y s.t fun t => K ⟨t,o'⟩
          else y.f2 fun y => putF ko.dst y s.t fun t => K ⟨t,o'⟩
        else y.f2 fun y => osF o' fun o' => putF ko.dst y s.t fun t => K ⟨t,o'⟩

def evOpsB (ca : (Nat → SemB) → FuncId → SemB) (yi : Nat → SemB) : List KO → St → (St → Bool) → Bool
  | [],s,K => K s
  | ko :: ks,s,K => evOpB P T ca yi ko s fun s' => evOpsB ca yi ks s' K

mutual
def evRB (ca : (Nat → SemB) → FuncId → SemB) (yi : Nat → SemB) : R → St → (St → Bool) → Bool
  | .nil,s,K => K s
  | .op _ ko r,s,K => evOpB P T ca yi ko s fun s' => evRB ca yi r s' K
  | .rd _ ko m r,s,K => match okR (ko.k.dep s) m with
    | true => evOpB P T ca yi ko s fun s' => evRB ca yi r s' K
    | false => false
  | .alt rs,s,K => evRsB ca yi rs s K
def evRsB (ca : (Nat → SemB) → FuncId → SemB) (yi : Nat → SemB) : List R → St → (St → Bool) → Bool
  | [],_,_ => true
  | r :: rs,s,K => match evRB ca yi r s K with
    | true => evRsB ca yi rs s K
    | false => false
end

def roundsB (body : Fr → (X → Fr → Bool) → Bool) : Nat → Fr → (X → Fr → Bool) → Bool
  | 0,_,_ => false
  | n + 1,f,Φ => body f fun x f' => match x with
    | .normal => roundsB body n f' Φ
    | x => Φ x f'

def gBodyB (l : Nat) (b : Fr → (X → Fr → Bool) → Bool) (f : Fr) (Φ : X → Fr → Bool) : Bool := b f fun x f' => match x with
  | .normal => Φ (.goto l) f'
  | .goto l2 => if l2 = l then Φ .normal f' else false
  | x => Φ x f'
def evB (ca : (Nat → SemB) → FuncId → SemB) (lp : (Fr → (X → Fr → Bool) → Bool) → Fr → (X → Fr → Bool) → Bool) : C → Option Nat → (Nat → SemB) → Fr → (X → Fr → Bool) → Bool
  | .skip,_,_,f,Φ => Φ .normal f
  | .regs ks,_,yi,f,Φ => evOpsB P T ca yi ks f.s fun s' => Φ .normal { f with s := s' }
  | .regd r,_,yi,f,Φ => evRB P T ca yi r f.s fun s' => Φ .normal { f with s := s' }
  | .seq a b,rd,yi,f,Φ => evB ca lp a rd yi f fun x f' => match x with
    | .normal => evB ca lp b rd yi f' Φ
    | x => Φ x f'
  | .cond x a b,rd,yi,f,Φ => match x.ev f.s with
    | .sc (.bool true) => evB ca lp a rd yi f Φ
    | .sc (.bool false) => evB ca lp b rd yi f Φ
    | _ => false
  | .block id c,rd,yi,f,Φ => evB ca lp c rd yi f fun x f' => match x with
    | .exit i => if i = id then Φ .normal f' else Φ (.exit i) f'
    | x => Φ x f'
  | .loop c,rd,yi,f,Φ => lp (evB ca lp c rd yi) f Φ
  | .kill l c,rd,yi,f,Φ => listF V.f1 (killTs l f.s.t) fun t => evB ca lp c rd yi { f with s := { f.s with t := t } } Φ
  | .rfun x ps assign body cass cb,rd,yi,f,Φ =>
    let base : Option (List O × Nat × List Nat) := match rd with
      | none => some (f.s.o ++ [.dfd (.sh false)],f.s.o.length,[f.s.o.length])
      | some l => match f.s.o[l]? with
        | some (.loop _ _ _ _ _ _ dl) => some (f.s.o,dl,[])
        | _ => none
    match base with
    | none => false
    | some (o0,dl,mk) =>
      let l := o0.length
      osF (o0 ++ [O.loop .ready none f.s.t ps assign body dl]) fun o1 =>
      let y : SemB := fun xs o K => match o[l]? with
        | some (.loop .ready pend ts ps' a' b' dl') => if xs.length = ps.size then
          evB ca lp cass (some l) yi { s := { t := setTs ts (ps.toList.zip xs),o := o },m := [] } fun x f1 => match x with
            | .normal => match f1.s.o[l]? with
              | some (.loop .ready p1 ts1 ps1 a1 b1 dl1) =>
                setF f1.s.o l (.loop .busy p1 ts1 ps1 a1 b1 dl1) fun o2 =>
                evB ca lp cb (some l) yi { f1 with s := { f1.s with o := o2 } } fun x2 f2 => match f2.s.o[l]? with
                  | some (.loop st2 p2 ts2 ps2 a2 b2 dl2) => boolF (jumpOf x2).isNone fun j => setF f2.s.o l (.loop (if j then .ready else .done) (jumpOf x2) ts2 ps2 a2 b2 dl2) fun o3 => K (.sc (.bool j)) o3
                  | _ => false
              | _ => false
            | _ => false
          else false
        | _ => false
      match x.ev f.s with
      | .fn (.func fn) as bs => evCallVB T ca (fun l' => if l' = l then y else yi l') (.fn (.func fn) as bs) [.fn (.yield l) [] []] o1 fun _ o3 => match o3[l]? with
        | some (.loop st3 p3 ts3 ps3 a3 b3 dl3) => if st3 = .busy then false else
          match xOf p3 with
          | none => false
          | some x3 => Φ x3 { s := { t := f.s.t,o := o3.set l (.loop .exhausted p3 ts3 ps3 a3 b3 dl3) },m := mk ++ f.m }
        | _ => false
      | _ => false
  | .exit id,_,_,f,Φ => Φ (.exit id) f
  | .scope c,rd,yi,f,Φ => evB ca lp c rd yi f fun x f' => match x with
    | .goto _ => false
    | x => Φ x f'
  | .scopeG l c r,rd,yi,f,Φ => evB ca lp c rd yi f fun x f' => match x with
    | .goto l' => if l' = l then lp (gBodyB l (evB ca lp r rd yi)) f' (fun x3 f3 => match x3 with
      | .goto _ => Φ .normal f3
      | x => Φ x f3) else false
    | x => Φ x f'
  | .label _,_,_,f,Φ => Φ .normal f
  | .goto l,_,_,f,Φ => Φ (.goto l) f
  | .ret,_,_,f,Φ => Φ .ret f

def evBodyB (ca : (Nat → SemB) → FuncId → SemB) (lp : (Fr → (X → Fr → Bool) → Bool) → Fr → (X → Fr → Bool) → Bool) (yi : Nat → SemB) (f : FuncId) : SemB := fun xs o K => match T.cf f with
  | none => match T.ext f xs with
    | none => false
    | some y => y.f2 fun y => K y o
  | some cf => listF V.f1 (xs ++ List.replicate (cf.ntmps - xs.length) .dead) fun t => evB P T ca lp cf.body none yi { s := { t := t,o := o },m := [] } fun x f' => match x with
    | .normal | .ret => match shut f'.s.o f'.m with
      | none => false
      | some o1 => match rets { f'.s with o := o1 } cf.res with
        | some [y] => y.f2 fun y => K y o1
        | some ys => listF V.f1 ys fun ys => K (.tup ys) o1
        | none => false
    | _ => false

def evCallB : Nat → (Nat → SemB) → FuncId → SemB
  | 0,_,_,_,_,_ => false
  | n + 1,yi,f,xs,o,K => evBodyB P T (evCallB n) (fun b => roundsB b n) yi f xs o K
end
end Go.Proofs.Pe
end

section
set_option linter.unusedVariables false
namespace Go.Proofs.Pe
variable {P : Program} {T : Tab}

/-! ### What the program tells is so -/
def Keep (o o' : List O) : Prop := ∀ (l : Nat) st p ts ps a b dl,o[l]? = some (.loop st p ts ps a b dl) → ∃ st' p' ts' dl',o'[l]? = some (.loop st' p' ts' ps a b dl')
theorem Keep.refl (o : List O) : Keep o o := fun l st p ts ps a b dl h => ⟨st,p,ts,dl,h⟩
theorem Keep.trans {a b c : List O} (h : Keep a b) (h' : Keep b c) : Keep a c := fun l st p ts ps x y dl hl => by
  obtain ⟨_,_,_,_,h1⟩ := h _ _ _ _ _ _ _ _ hl
  exact h' _ _ _ _ _ _ _ _ h1
theorem Keep.nil (o : List O) : Keep [] o := fun l st p ts ps a b dl h => by simp at h
theorem Keep.app (o : List O) (l : List O) : Keep o (o ++ l) := fun i st p ts ps a b dl h => ⟨st,p,ts,dl,by rw [List.getElem?_append_left (List.getElem?_eq_some_iff.1 h).1]; exact h⟩
theorem Keep.set {o : List O} {l : Nat} {ob ob' : O} (h : o[l]? = some ob) (hn : ∀ st p ts ps a b dl,ob ≠ .loop st p ts ps a b dl) : Keep o (o.set l ob') := fun i st p ts ps a b dl hi => by
  refine ⟨st,p,ts,dl, ?_⟩
  rw [List.getElem?_set]
  split
  · rename_i e; subst e; rw [h] at hi; cases hi; exact absurd rfl (hn _ _ _ _ _ _ _)
  · exact hi
theorem Keep.setL {o : List O} {l : Nat} {st p ts ps a b dl st' p' ts' dl'} (h : o[l]? = some (.loop st p ts ps a b dl)) : Keep o (o.set l (.loop st' p' ts' ps a b dl')) := fun i st1 p1 ts1 ps1 a1 b1 dl1 hi => by
  rw [List.getElem?_set]
  split
  · rename_i e; subst e; rw [h] at hi; cases hi
    rw [if_pos (List.getElem?_eq_some_iff.1 h).1]; exact ⟨_,_,_,_,rfl⟩
  · exact ⟨_,_,_,_,hi⟩

theorem freeze1_keep {o o' : List O} {x y : V} (h : freeze1 o x = some (y,o')) : Keep o o' := by
  cases x <;> simp only [freeze1] at h
  case ar l v =>
    split at h
    · rename_i hl
      split at h
      · cases h; exact Keep.set hl (fun _ _ _ _ _ _ _ e => by cases e)
      · cases h
    · cases h
  all_goals (split at h <;> cases h; exact Keep.refl _)
theorem freezes_keep : ∀ {xs ys : List V} {o o' : List O},freezes o xs = some (ys,o') → Keep o o'
  | [],ys,o,o',h => by simp [freezes] at h; rw [h.2]; exact Keep.refl _
  | x :: xs,ys,o,o',h => by
    simp only [freezes,Option.bind_eq_bind,Option.bind_eq_some_iff] at h
    obtain ⟨⟨y,o1⟩,h1,⟨zs,o2⟩,h2,h3⟩ := h
    simp [pure] at h3
    rw [← h3.2]; exact (freeze1_keep h1).trans (freezes_keep h2)
theorem freeze_keep {o o' : List O} {x y : V} (h : freeze o x = some (y,o')) : Keep o o' := by
  cases x <;> simp only [freeze] at h
  case agg cs =>
    simp only [Option.map_eq_some_iff] at h
    obtain ⟨⟨ys,o1⟩,h1,h2⟩ := h
    cases h2; exact freezes_keep h1
  all_goals exact freeze1_keep h
theorem freezes'_keep : ∀ {xs ys : List V} {o o' : List O},step.freezes' o xs = some (ys,o') → Keep o o'
  | [],ys,o,o',h => by simp [step.freezes'] at h; rw [h.2]; exact Keep.refl _
  | x :: xs,ys,o,o',h => by
    simp only [step.freezes',Option.bind_eq_bind,Option.bind_eq_some_iff] at h
    obtain ⟨⟨y,o1⟩,h1,⟨zs,o2⟩,h2,h3⟩ := h
    simp [pure] at h3
    rw [← h3.2]; exact (freeze_keep h1).trans (freezes'_keep h2)
theorem commits'_keep : ∀ {xs ys : List V} {o o' : List O},evCallV.commits' o xs = some (ys,o') → Keep o o'
  | [],ys,o,o',h => by simp [evCallV.commits'] at h; rw [h.2]; exact Keep.refl _
  | x :: xs,ys,o,o',h => by
    simp only [evCallV.commits'] at h
    split at h
    · cases h
    · rename_i zs o2 h2
      simp at h
      rw [← h.2]
      refine Keep.trans ?_ (commits'_keep h2)
      cases hf : freeze o x with
      | none => exact Keep.refl _
      | some p => exact freeze_keep (show freeze o x = some (p.1,p.2) from hf)
theorem hand_keep {m : Nat} {xs ys : List V} {o o' : List O} (h : evCallV.hand m o xs = some (ys,o')) : Keep o o' := by
  unfold evCallV.hand at h
  split at h
  · cases h; exact Keep.refl _
  · exact commits'_keep h
theorem shut_keep : ∀ {m : List Nat} {o o1 : List O},shut o m = some o1 → Keep o o1
  | [],o,o1,h => by simp [shut] at h; rw [h]; exact Keep.refl _
  | l :: ls,o,o1,h => by
    simp only [shut] at h
    split at h
    · rename_i hl
      exact (Keep.set hl (fun _ _ _ _ _ _ _ e => by cases e)).trans (shut_keep h)
    · cases h

theorem step_keep {s : St} {k : K} {y : V} {o' : List O} (h : step P s k = some (y,o')) : Keep s.o o' := by
  cases k <;> simp only [step] at h
  all_goals repeat' (first | (split at h) | (simp only [Option.bind_eq_bind,Option.bind_eq_some_iff,Option.map_eq_some_iff,Prod.mk.injEq,Option.some.injEq,pure,reduceCtorEq,and_false,exists_false] at h) | (obtain ⟨_,_,h⟩ := h) | (obtain ⟨_,h⟩ := h))
  all_goals first
    | contradiction
    | exact Keep.refl _
    | exact Keep.app _ _
    | exact Keep.set (by assumption) (fun _ _ _ _ _ _ _ e => by cases e)
    | exact freezes'_keep (by assumption)
    | exact freeze1_keep (by assumption)
    | (subst h; first | exact Keep.refl _ | exact Keep.app _ _)
    | skip
end Go.Proofs.Pe
end

section
set_option linter.unusedVariables false
namespace Go.Proofs.Pe
variable {P : Program} {T : Tab}

def RS (o0 : List O) (sB : SemB) (s : Sem') : Prop := ∀ xs o KB K,Keep o0 o → (∀ y o',Keep o o' → KB y o' = true → K y o') → sB xs o KB = true → s xs o K
structure RY (o0 : List O) (yB : Nat → SemB) (y : Nat → Sem') : Prop where
  r : ∀ l,RS o0 (yB l) (y l)
  le : YLe y y
def RCa (cB : (Nat → SemB) → FuncId → SemB) (c : Ca) : Prop := ∀ yB y f o0,RY o0 yB y → RS o0 (cB yB f) (c y f)
def RBd (o0 : List O) (bB : Fr → (X → Fr → Bool) → Bool) (b : Bd) : Prop := ∀ f ΦB Φ,Keep o0 f.s.o → (∀ x f',Keep f.s.o f'.s.o → ΦB x f' = true → Φ x f') → bB f ΦB = true → b f Φ
def RLp (lB : (Fr → (X → Fr → Bool) → Bool) → Fr → (X → Fr → Bool) → Bool) (lp : Bd → Bd) : Prop := ∀ o0 bB b,BLe b b → RBd o0 bB b → RBd o0 (lB bB) (lp b)

theorem gBodyB_ok {o0 : List O} {l : Nat} {bB : Fr → (X → Fr → Bool) → Bool} {b : Bd} (h : RBd o0 bB b) : RBd o0 (gBodyB l bB) (gBody l b) := by
  intro f ΦB Φ k0 hΦ hb
  unfold gBodyB at hb
  unfold gBody
  refine h f _ _ k0 (fun x f' k h => ?_) hb
  cases x with
  | goto l2 =>
    dsimp only at h ⊢
    split at h
    · rename_i e; rw [if_pos e]; exact hΦ _ _ k h
    · cases h
  | _ => exact hΦ _ _ k h
theorem RY.on {o0 o1 : List O} {yB : Nat → SemB} {y : Nat → Sem'} (h : RY o0 yB y) (k : Keep o0 o1) : RY o1 yB y := ⟨fun l xs o KB K hk => h.r l xs o KB K (k.trans hk),h.le⟩

section
variable {cB : (Nat → SemB) → FuncId → SemB} {c : Ca} {yB : Nat → SemB} {y : Nat → Sem'} {lB : (Fr → (X → Fr → Bool) → Bool) → Fr → (X → Fr → Bool) → Bool} {lp : Bd → Bd}

theorem pureEndB_ok {m : Nat} {o o1 : List O} {KB : V → List O → Bool} {K : V → List O → Prop} {y : V} {o' : List O} (h1 : Keep o o1) (hK : ∀ y o',Keep o o' → KB y o' = true → K y o') (h : pureEndB m o o1 KB y o' = true) : pureEnd m o o1 K y o' := by
  unfold pureEndB at h; unfold pureEnd
  split at h
  · split at h
    · split at h
      · rename_i hc; rw [osF_eq] at h; simp only [*]; exact hK _ _ (h1.trans (Keep.app _ _)) h
      · cases h
    · cases h
  · rename_i hne
    split at h
    · cases h
    · rename_i z o2 hz
      rw [V.f2_eq] at h
      split
      · exact absurd ‹_› (by intro hm; exact hne _ _ rfl rfl)
      · rw [hz]
        dsimp only
        split at h
        · rename_i hb; rw [if_pos hb]; exact hK _ _ (Keep.refl _) h
        · rename_i hb; rw [if_neg hb]; exact hK _ _ h1 h

theorem backB_ok {S : List Nat} {o1 : List O} {KB : V → List O → Bool} {K : V → List O → Prop} {y z : V} {o' o2 : List O} (hf : freezeT o' y = some (z,o2) ∨ (y = z ∧ o' = o2)) (hk : ∀ vs,Keep o1 (putS o1 S vs))
    (hK : ∀ y o',Keep o1 o' → KB y o' = true → K y o') (h : backB S o1 KB z o2 = true) : backEnd S o1 K y o' := by
  unfold backB at h
  dsimp only at h
  split at h
  · rename_i hN
    split at h
    · rename_i z' os h1 h2
      rw [V.f2_eq,osF_eq] at h
      refine ⟨z,o2,_,z',os,hf,hN,fun i hi => ?_,h1,h2,hK _ _ ((hk _).trans (Keep.app _ _)) h⟩
      simpa using (List.mem_filter.1 hi).2
    · cases h
  · cases h
theorem putS_keep {o1 os : List O} {S : List Nat} (hos : mapO (fun l => (o1[l]?).bind (mvO (inS S))) S = some os) (vs : List O) : Keep o1 (putS o1 S vs) := by
  intro l st p ts ps a b dl hl
  refine ⟨st,p,ts,dl, ?_⟩
  rw [putS_ne (fun hm => ?_)]
  · exact hl
  · obtain ⟨i,hi⟩ := List.getElem?_of_mem hm
    obtain ⟨ob',_,e2⟩ := mapO_at hos hi
    simp [hl,mvO] at e2
theorem evCallVB_ok (hc : RCa cB c) {o : List O} (hy : RY o yB y) (f : V) {xs : List V} {KB : V → List O → Bool} {K : V → List O → Prop} (hK : ∀ y o',Keep o o' → KB y o' = true → K y o')
    (h : evCallVB T cB yB f xs o KB = true) : evCallV T c y f xs o K := by
  unfold evCallVB at h; unfold evCallV
  split at h
  · rename_i g as bs
    dsimp only
    split at h
    · rename_i hm
      rw [if_pos hm]
      split at h
      · cases h
      · rename_i ys o1 hcm
        rw [hcm]
        rw [listF_eq V.f2_eq,osF_eq] at h
        exact hc _ _ g [] ⟨fun l xs o KB K _ _ h => (by cases h),fun _ _ _ _ _ _ h => h⟩ ys [] _ _ (Keep.nil _) (fun z o' _ h => pureEndB_ok (freezes'_keep hcm) hK h) h
    · rename_i hm
      rw [if_neg hm]
      split at h
      · rename_i hm3
        rw [if_pos hm3]
        split at h
        · cases h
        · rename_i ys o1 hcm
          rw [hcm]
          rw [listF_eq V.f2_eq,osF_eq] at h
          have k1 := commits'_keep hcm
          refine hc _ _ g [] ⟨fun l xs o KB K _ _ h => (by cases h),fun _ _ _ _ _ _ h => h⟩ ys o1 _ _ (Keep.nil _) (fun z o' k h => ?_) h
          split at h
          · rename_i hs; exact ⟨simB_ok hs,hK z o' (k1.trans k) h⟩
          · cases h
      rename_i hm3
      rw [if_neg hm3]
      split at h
      · rename_i hm2
        rw [if_pos hm2]
        split at h
        · cases h
        · rename_i ys o1 hcm
          rw [hcm]
          rw [listF_eq V.f2_eq,osF_eq] at h
          have k1 := commits'_keep hcm
          exact hc _ _ g o1 (hy.on k1) ys o1 _ _ (Keep.refl _) (fun z o' k h => hK z o' (k1.trans k) h) h
      · rename_i hm2
        rw [if_neg hm2]
        split at h
        · rename_i hm5
          rw [if_pos hm5]
          split at h
          · cases h
          · rename_i ys o1 hcm
            rw [hcm]
            rw [listF_eq V.f2_eq,osF_eq] at h
            have k1 := hand_keep hcm
            dsimp only at h
            split at h
            · rename_i hN
              split at h
              · rename_i zs os h1 h2
                rw [listF_eq V.f2_eq,osF_eq] at h
                refine ⟨_,zs,os,hN,h1,h2,hc _ _ g [] ⟨fun l xs o KB K _ _ h => (by cases h),fun _ _ _ _ _ _ h => h⟩ zs os _ _ (Keep.nil _) (fun z o' _ h => ?_) h⟩
                unfold backEndB at h
                split at h
                · rename_i hz; exact backB_ok (.inl hz) (putS_keep h2) (fun y o' k h => hK y o' (k1.trans k) h) h
                · exact backB_ok (.inr ⟨rfl,rfl⟩) (putS_keep h2) (fun y o' k h => hK y o' (k1.trans k) h) h
              · cases h
            · cases h
        · rename_i hm5
          rw [if_neg hm5]
          exact hc _ _ g o hy _ o _ _ (Keep.refl _) hK h
  · dsimp only
    split at h
    · cases h
    · rename_i ys o1 hcm
      rw [hcm]
      rw [listF_eq V.f2_eq,osF_eq] at h
      have k1 := commits'_keep hcm
      exact hy.r _ ys o1 _ _ k1 (fun z o' k h => hK z o' (k1.trans k) h) h
  · cases h

theorem evOpB_ok (hc : RCa cB c) {s : St} (hy : RY s.o yB y) (ko : KO) {KB : St → Bool} {K : St → Prop} (hK : ∀ s',Keep s.o s'.o → KB s' = true → K s') (h : evOpB P T cB yB ko s KB = true) : evOp P T c y ko s K := by
  unfold evOpB at h; unfold evOp
  split at h
  · cases h
  · rename_i hg
    rw [hg]
    rw [putF_eq] at h
    exact hK _ (Keep.refl _) h
  · rename_i hg
    rw [hg]
    dsimp only
    split at h
    · rename_i f xs hk
      rw [V.f1_eq] at h
      rw [hk]
      exact evCallVB_ok hc hy _ (fun z o' k h => hK _ k (by rw [putF_eq] at h; exact h)) h
    · rename_i k hk
      split at h
      · cases h
      · rename_i z o' hst
        split
        · exact absurd ‹_› (hk _ _)
        rw [hst]
        refine hK _ (step_keep hst) ?_
        split at h
        · split at h
          · rw [V.f1_eq,putF_eq] at h; exact h
          · rw [V.f2_eq,putF_eq] at h; exact h
        · rw [V.f2_eq,osF_eq,putF_eq] at h; exact h

theorem evOpsB_ok (hc : RCa cB c) : ∀ (ks : List KO) (s : St),RY s.o yB y → ∀ (KB : St → Bool) (K : St → Prop),(∀ s',Keep s.o s'.o → KB s' = true → K s') → evOpsB P T cB yB ks s KB = true → evOps P T c y ks s K
  | [],s,hy,KB,K,hK,h => hK s (Keep.refl _) h
  | ko :: ks,s,hy,KB,K,hK,h => evOpB_ok hc hy ko (fun s' k h => evOpsB_ok hc ks s' (hy.on k) KB K (fun s2 k2 h => hK s2 (k.trans k2) h) h) h

mutual
theorem evRB_ok (hc : RCa cB c) : ∀ (r : R) (s : St),RY s.o yB y → ∀ (KB : St → Bool) (K : St → Prop),(∀ s',Keep s.o s'.o → KB s' = true → K s') → evRB P T cB yB r s KB = true → evR P T c y r s K
  | .nil,s,hy,KB,K,hK,h => hK s (Keep.refl _) (by simpa [evRB] using h)
  | .op i ko r,s,hy,KB,K,hK,h => by
    simp only [evRB] at h; simp only [evR]
    exact evOpB_ok hc hy ko (fun s' k h => evRB_ok hc r s' (hy.on k) KB K (fun s2 k2 h => hK s2 (k.trans k2) h) h) h
  | .rd i ko m r,s,hy,KB,K,hK,h => by
    simp only [evRB] at h; simp only [evR]
    split at h
    · rename_i hd
      exact ⟨hd,evOpB_ok hc hy ko (fun s' k h => evRB_ok hc r s' (hy.on k) KB K (fun s2 k2 h => hK s2 (k.trans k2) h) h) h⟩
    · cases h
  | .alt rs,s,hy,KB,K,hK,h => by
    simp only [evRB] at h; simp only [evR]
    exact evRsB_ok hc rs s hy KB K hK h
theorem evRsB_ok (hc : RCa cB c) : ∀ (rs : List R) (s : St),RY s.o yB y → ∀ (KB : St → Bool) (K : St → Prop),(∀ s',Keep s.o s'.o → KB s' = true → K s') → evRsB P T cB yB rs s KB = true → evRs P T c y rs s K
  | [],s,hy,KB,K,hK,h => trivial
  | r :: rs,s,hy,KB,K,hK,h => by
    simp only [evRsB] at h; simp only [evRs]
    split at h
    · rename_i h1; exact ⟨evRB_ok hc r s hy KB K hK h1,evRsB_ok hc rs s hy KB K hK h⟩
    · cases h
end

theorem evB_ok (hc : RCa cB c) (hcl : CLe c c) (hl : RLp lB lp) (hll : LLe lp lp) : ∀ (cd : C) (rd : Option Nat) (yB : Nat → SemB) (y : Nat → Sem') (o0 : List O),RY o0 yB y → RBd o0 (evB P T cB lB cd rd yB) (ev P T c lp cd rd y)
  | .skip,rd,yB,y,o0,hy,f,ΦB,Φ,k0,hΦ,h => hΦ _ _ (Keep.refl _) h
  | .regs ks,rd,yB,y,o0,hy,f,ΦB,Φ,k0,hΦ,h => evOpsB_ok hc ks f.s (hy.on k0) _ _ (fun s' k h => hΦ _ _ k h) h
  | .regd r,rd,yB,y,o0,hy,f,ΦB,Φ,k0,hΦ,h => evRB_ok hc r f.s (hy.on k0) _ _ (fun s' k h => hΦ _ _ k h) h
  | .seq a b,rd,yB,y,o0,hy,f,ΦB,Φ,k0,hΦ,h => by
    simp only [evB] at h; simp only [ev]
    refine evB_ok hc hcl hl hll a rd yB y o0 hy f _ _ k0 (fun x f' k h => ?_) h
    cases x with
    | normal => exact evB_ok hc hcl hl hll b rd yB y o0 hy f' _ _ (k0.trans k) (fun x f2 k2 h => hΦ _ _ (k.trans k2) h) h
    | _ => exact hΦ _ _ k h
  | .cond x a b,rd,yB,y,o0,hy,f,ΦB,Φ,k0,hΦ,h => by
    simp only [evB] at h; simp only [ev]
    split at h
    · rename_i hx; rw [hx]; exact evB_ok hc hcl hl hll a rd yB y o0 hy f _ _ k0 hΦ h
    · rename_i hx; rw [hx]; exact evB_ok hc hcl hl hll b rd yB y o0 hy f _ _ k0 hΦ h
    · cases h
  | .block id a,rd,yB,y,o0,hy,f,ΦB,Φ,k0,hΦ,h => by
    simp only [evB] at h; simp only [ev]
    refine evB_ok hc hcl hl hll a rd yB y o0 hy f _ _ k0 (fun x f' k h => ?_) h
    cases x with
    | exit i =>
      dsimp only at h ⊢
      split at h
      · rename_i e; rw [if_pos e]; exact hΦ _ _ k h
      · rename_i e; rw [if_neg e]; exact hΦ _ _ k h
    | _ => exact hΦ _ _ k h
  | .loop a,rd,yB,y,o0,hy,f,ΦB,Φ,k0,hΦ,h => by
    simp only [evB] at h; simp only [ev]
    exact hl o0 _ _ (ev_mono hcl hll a rd y y hy.le) (evB_ok hc hcl hl hll a rd yB y o0 hy) f _ _ k0 hΦ h
  | .kill l a,rd,yB,y,o0,hy,f,ΦB,Φ,k0,hΦ,h => by
    simp only [evB] at h; simp only [ev]
    rw [listF_eq V.f1_eq] at h
    exact evB_ok hc hcl hl hll a rd yB y o0 hy { f with s := { f.s with t := killTs l f.s.t } } _ _ k0 hΦ h
  | .rfun x ps assign body cass cb,rd,yB,y,o0,hy,f,ΦB,Φ,k0,hΦ,h => by
    simp only [evB] at h; simp only [ev]
    split at h
    · cases h
    · rename_i o1 dl mk hb
      have k1 : Keep f.s.o o1 := by
        split at hb
        · cases hb; exact Keep.app _ _
        · split at hb
          · cases hb; exact Keep.refl _
          · cases hb
      have hl2 : (o1 ++ [O.loop .ready none f.s.t ps assign body dl])[o1.length]? = some (O.loop .ready none f.s.t ps assign body dl) := by simp
      rw [osF_eq] at h
      have hk := (k0.trans (k1.trans (Keep.app o1 [O.loop .ready none f.s.t ps assign body dl])))
      have hb' : ∀ o1' dl' mk',(match rd with
          | none => some (f.s.o ++ [O.dfd (.sh false)],f.s.o.length,[f.s.o.length])
          | some l => match f.s.o[l]? with
            | some (.loop _ _ _ _ _ _ dl) => some (f.s.o,dl,[])
            | _ => none) = some (o1',dl',mk') → o1' = o1 ∧ dl' = dl ∧ mk' = mk := fun o1' dl' mk' hb2 => by
        cases rd with
        | none => cases hb; cases hb2; exact ⟨rfl,rfl,rfl⟩
        | some l =>
          dsimp only at hb hb2
          split at hb
          · rename_i hl; rw [hl] at hb2; cases hb; cases hb2; exact ⟨rfl,rfl,rfl⟩
          · cases hb
      split
      · rename_i hb2
        exfalso
        cases rd with
        | none => cases hb2
        | some l =>
          dsimp only at hb hb2
          split at hb
          · rename_i hl; rw [hl] at hb2; cases hb2
          · cases hb
      rename_i o1' dl' mk' hb2
      obtain ⟨rfl,rfl,rfl⟩ := hb' _ _ _ hb2
      split at h
      · rename_i fn as bs hx
        rw [hx]
        dsimp only
        refine evCallVB_ok hc (yB := fun l' => if l' = o1'.length then _ else yB l') (hy := ⟨fun l' => ?_,fun l' => ?_⟩) _ (fun z o3 k3 h => ?_) h
        · intro xs o KB K kk hK h
          try dsimp only at h ⊢
          split at h
          · rename_i e
            rw [if_pos e]
            dsimp only at h ⊢
            split at h
            · rename_i pend ts ps' a' b' dl' hlo
              obtain ⟨st4,p4,ts4,dl4,h4⟩ := kk _ _ _ _ _ _ _ _ hl2
              rw [hlo] at h4
              cases h4
              rw [hlo]
              dsimp only
              split at h
              case isFalse => cases h
              rename_i hsz
              refine ⟨⟨rfl,rfl,rfl,hsz⟩,evB_ok hc hcl hl hll cass _ yB y o (hy.on (hk.trans kk)) _ _ _ (Keep.refl _) (fun x f1 k1 h => ?_) h⟩
              cases x with
              | normal =>
                dsimp only at h ⊢
                split at h
                · rename_i p1 ts1 ps1 a1 b1 dl1 hf1
                  rw [hf1]
                  dsimp only
                  rw [setF_eq] at h
                  have k2 : Keep o (f1.s.o.set o1'.length (O.loop LoopState.busy p1 ts1 ps1 a1 b1 dl1)) := Keep.trans k1 (Keep.setL hf1)
                  refine evB_ok hc hcl hl hll cb _ yB y o (hy.on (hk.trans kk)) _ _ _ k2 (fun x2 f2 k3 h => ?_) h
                  split at h
                  · rename_i st2 p2 ts2 ps2 a2 b2 dl2 hf2
                    rw [hf2]
                    rw [boolF_eq,setF_eq] at h
                    exact hK _ _ (k2.trans (Keep.trans k3 (Keep.setL hf2))) h
                  · cases h
                · cases h
              | _ => cases h
            · cases h
          · rename_i e
            rw [if_neg e]
            exact hy.r l' xs o KB K (hk.trans kk) hK h
        · intro xs o K K' hK h
          try dsimp only at h ⊢
          split at h
          · rename_i e
            rw [if_pos e]
            try dsimp only at h ⊢
            split at h
            · refine ⟨h.1,ev_mono hcl hll cass _ y y hy.le _ _ _ (fun x f1 h => ?_) h.2⟩
              cases x with
              | normal =>
                dsimp only at h ⊢
                split at h
                · refine ev_mono hcl hll cb _ y y hy.le _ _ _ (fun x2 f2 h => ?_) h
                  split at h
                  · exact hK _ _ h
                  · exact h.elim
                · exact h.elim
              | _ => exact h.elim
            · exact h.elim
          · rename_i e
            rw [if_neg e]
            exact hy.le l' xs o K K' hK h
        · split at h
          · rename_i st3 p3 ts3 ps3 a3 b3 dl3 h3
            rw [h3]
            dsimp only
            split at h
            · cases h
            · rename_i hbz
              rw [if_neg hbz]
              split at h
              · cases h
              · rename_i x3 hx3
                rw [hx3]
                exact hΦ _ _ ((k1.trans (Keep.app _ _)).trans (k3.trans (Keep.setL h3))) h
          · cases h
      · cases h
  | .exit id,rd,yB,y,o0,hy,f,ΦB,Φ,k0,hΦ,h => hΦ _ _ (Keep.refl _) h
  | .scope a,rd,yB,y,o0,hy,f,ΦB,Φ,k0,hΦ,h => by
    simp only [evB] at h; simp only [ev]
    refine evB_ok hc hcl hl hll a rd yB y o0 hy f _ _ k0 (fun x f' k h => ?_) h
    cases x with
    | goto l => cases h
    | _ => exact hΦ _ _ k h
  | .scopeG l a r,rd,yB,y,o0,hy,f,ΦB,Φ,k0,hΦ,h => by
    simp only [evB] at h; simp only [ev]
    refine evB_ok hc hcl hl hll a rd yB y o0 hy f _ _ k0 (fun x f' k h => ?_) h
    cases x with
    | goto l' =>
      dsimp only at h ⊢
      split at h
      · rename_i e
        rw [if_pos e]
        refine hl o0 _ _ (gBody_mono (ev_mono hcl hll r rd y y hy.le)) (gBodyB_ok (evB_ok hc hcl hl hll r rd yB y o0 hy)) f' _ _ (k0.trans k) (fun x3 f3 k3 h => ?_) h
        cases x3 with
        | goto _ => exact hΦ _ _ (k.trans k3) h
        | _ => exact hΦ _ _ (k.trans k3) h
      · cases h
    | _ => exact hΦ _ _ k h
  | .label l,rd,yB,y,o0,hy,f,ΦB,Φ,k0,hΦ,h => hΦ _ _ (Keep.refl _) h
  | .goto l,rd,yB,y,o0,hy,f,ΦB,Φ,k0,hΦ,h => hΦ _ _ (Keep.refl _) h
  | .ret,rd,yB,y,o0,hy,f,ΦB,Φ,k0,hΦ,h => hΦ _ _ (Keep.refl _) h

theorem evBodyB_ok (hc : RCa cB c) (hcl : CLe c c) (hl : RLp lB lp) (hll : LLe lp lp) : RCa (evBodyB P T cB lB) (evBody P T c lp) := by
  intro yB y f o0 hy xs o KB K k0 hK h
  unfold evBodyB at h; unfold evBody
  split at h
  · rename_i hcf
    rw [hcf]
    dsimp only
    split at h
    · cases h
    · rename_i y hy
      rw [hy]
      dsimp only
      rw [V.f2_eq] at h
      exact hK _ _ (Keep.refl _) h
  · rename_i cf hcf
    rw [hcf]
    dsimp only
    rw [listF_eq V.f1_eq] at h
    refine evB_ok hc hcl hl hll _ none yB y o0 hy _ _ _ k0 (fun x f' k h => ?_) h
    have key : ∀ o1,shut f'.s.o f'.m = some o1 → (match rets { f'.s with o := o1 } cf.res with
        | some [y] => y.f2 fun y => KB y o1
        | some ys => listF V.f1 ys fun ys => KB (.tup ys) o1
        | none => false) = true → (match rets { f'.s with o := o1 } cf.res with
        | some [y] => K y o1
        | some ys => K (.tup ys) o1
        | none => False) := fun o1 hs h => by
      split at h
      · rw [V.f2_eq] at h; exact hK _ _ (Keep.trans k (shut_keep hs)) h
      · rw [listF_eq V.f1_eq] at h; exact hK _ _ (Keep.trans k (shut_keep hs)) h
      · cases h
    cases x with
    | exit i => cases h
    | goto i => cases h
    | normal =>
      dsimp only at h ⊢
      split at h
      · cases h
      · rename_i o1 hs; rw [hs]; exact key _ hs h
    | ret =>
      dsimp only at h ⊢
      split at h
      · cases h
      · rename_i o1 hs; rw [hs]; exact key _ hs h
end

theorem roundsB_ok : ∀ (n : Nat),RLp (fun b => roundsB b n) Lfp
  | 0,o0,bB,b,hb,hr,f,ΦB,Φ,k0,hΦ,h => by cases h
  | n + 1,o0,bB,b,hb,hr,f,ΦB,Φ,k0,hΦ,h => by
    refine Lfp.step hb (hr f _ _ k0 (fun x f' k h => ?_) h)
    cases x with
    | normal => exact roundsB_ok n o0 bB b hb hr f' _ _ (k0.trans k) (fun x f2 k2 h => hΦ _ _ (k.trans k2) h) h
    | _ => exact hΦ _ _ k h

theorem evCallB_ok : ∀ (n : Nat),RCa (evCallB P T n) (Call P T)
  | 0,yB,y,f,o0,hy,xs,o,KB,K,k0,hK,h => by cases h
  | n + 1,yB,y,f,o0,hy,xs,o,KB,K,k0,hK,h =>
    Call.step hy.le (evBodyB_ok (evCallB_ok n) call_le (roundsB_ok n) lfp_le yB y f o0 hy xs o KB K k0 hK h)
end Go.Proofs.Pe
end

section
set_option linter.unusedVariables false
namespace Go.Proofs.Pe

/-! ### Tables -/
def rfs : Code → List (Code × Code)
  | .rangeFunc _ _ a b => (a,b) :: (rfs a ++ rfs b)
  | .seq a b => rfs a ++ rfs b
  | .cond _ a b => rfs a ++ rfs b
  | .block _ c => rfs c
  | .loop c => rfs c
  | .scope c => rfs c
  | _ => []
def codeOf (P : Program) (i : Nat) : Code := match P.funcs[i]? with | some fn => fn.body.getD .skip | none => .skip

def lookN {α : Type} (f : Nat) : List (Nat × α) → Option α
  | [] => none
  | (i,x) :: l => match Nat.beq f i with
    | true => some x
    | false => lookN f l
theorem lookN_mem {α : Type} {f : Nat} {x : α} : ∀ {l : List (Nat × α)},lookN f l = some x → (f,x) ∈ l
  | [],h => by simp [lookN] at h
  | (i,y) :: l,h => by
    simp only [lookN] at h
    split at h
    · rename_i e; cases h; rw [Nat.eq_of_beq_eq_true e]; simp
    · exact List.mem_cons_of_mem _ (lookN_mem h)
def mkTab (md : List (Nat × Nat)) (an : List (Nat × List (Nat × List Nat))) (cf : List (Nat × CF)) : Tab where
  cf f := lookN f cf
  mode f := (lookN f md).getD 2
  an f b := (lookN b ((lookN f an).getD [])).getD []
def okAll (P : Program) (md : FuncId → Nat) (an : FuncId → Nat → List Nat) : List (Nat × CF) → Prop
  | [] => True
  | (f,c) :: l => compF P md an f = some c ∧ okAll P md an l
theorem okAll_mem {P : Program} {md : FuncId → Nat} {an : FuncId → Nat → List Nat} : ∀ {l : List (Nat × CF)},okAll P md an l → ∀ p,p ∈ l → compF P md an p.1 = some p.2
  | [],_,p,h => by cases h
  | (f,c) :: l,h,p,hp => by
    rcases List.mem_cons.1 hp with e | e
    · subst e; exact h.1
    · exact okAll_mem h.2 p e
theorem tok {P : Program} {md : List (Nat × Nat)} {an : List (Nat × List (Nat × List Nat))} {cf : List (Nat × CF)} (h : okAll P (mkTab md an cf).mode (mkTab md an cf).an cf) : TOk P (mkTab md an cf) :=
  ⟨fun f c hf => okAll_mem h (f,c) (lookN_mem hf),fun f xs y h => by cases h⟩
end Go.Proofs.Pe
end

section
set_option linter.unusedVariables false
namespace Go.Proofs.Pe
variable {P : Program} {T : Tab}

/-! ### From the evaluator to the machine -/
def noY : Nat → Sem' := fun _ _ _ _ => False
theorem noY_le : YLe noY noY := fun _ _ _ _ _ _ h => h
theorem noY_ok : YOk P noY := ⟨fun l xs o K h => h.elim,noY_le⟩
def gW (w : World) : G := ⟨fun b => match w.heap[b]? with | some (.cells cs _ _) => cs.size | _ => 0,fun _ => 0,fun _ => 0⟩
theorem inv_start (w : World) (ht : TBP fun b => w.heap[b]?) : Inv w.heap (gW w) [] :=
  ⟨⟨fun l cs h => by simp at h,fun l v wr k xs h => by simp at h,fun l st pend ts ps a b dl h => by simp at h,fun l s h => by simp at h,fun l l' a b h => by simp at h,fun b hb => by simp [gW,Array.getElem?_eq_none hb]⟩,ht,fun l ob h => by simp at h⟩

theorem calls_of (hm : P.follows .mixedOrders = true) (hT : TOk P T) {f : FuncId} {xs : List V} {us : Array Value} {w : World} (ht : TBP fun b => w.heap[b]?) (hr : Reps w.heap (gW w) [] xs us.toList)
    (h : Call P T noY f xs [] (fun y _ => y = .sc (.bool true))) : Calls P f us w (fun e w' => e = .returned (.bool true) ∧ Go.RowKit.Below w.heap.size w w') := by
  obtain ⟨_,hc⟩ := call_ok hm hT _ _ _ _ _ h noY_ok
  refine (callsIn_wide (n := 0)).1 ((hc w (gW w) us (inv_start w ht) hr).mono fun e w' he => ?_)
  obtain ⟨r,y,o',g',rfl,T1,I1,R1,rfl⟩ := he
  cases R1 with
  | sc hp => exact ⟨rfl,T1.os,T1.tape,T1.output,T1.ev.size,fun k hk => (T1.keep k hk (fun l ob h => by simp at h)).1⟩

/-! ### A call of which all is known -/
def isTrue (y : V) : Bool := match y with
  | .sc (.bool true) => true
  | _ => false
theorem isTrue_eq {y : V} (h : isTrue y = true) : y = .sc (.bool true) := by
  unfold isTrue at h; split at h <;> first | rfl | cases h
def noYB : Nat → SemB := fun _ _ _ _ => false
/-! ### Loops -/
theorem Lfp.inv {α : Type} {ca : Ca} (hc : CLe ca ca) {l : List Nat} {c : C} {rd : Option Nat} {yi : Nat → Sem'} (hy : YLe yi yi) (fr : α → Fr) (μ : α → Nat) (J : α → Prop) {f : Fr} {Φ : X → Fr → Prop} (a0 : α)
    (h0 : J a0) (hf : ({ f with s := { f.s with t := killTs l f.s.t } } : Fr) = fr a0)
    (step : ∀ a,J a → ev P T ca Lfp c rd yi (fr a) (fun x f' => match x with
      | .normal => ∃ a',J a' ∧ μ a' < μ a ∧ ({ f' with s := { f'.s with t := killTs l f'.s.t } } : Fr) = fr a'
      | x => Φ x f')) : Lfp (ev P T ca Lfp (.kill l c) rd yi) f Φ := by
  have key : ∀ (n : Nat) (a : α) (f : Fr),μ a < n → J a → ({ f with s := { f.s with t := killTs l f.s.t } } : Fr) = fr a → Lfp (ev P T ca Lfp (.kill l c) rd yi) f Φ := by
    intro n
    induction n with
    | zero => intro a f h; omega
    | succ n ih =>
      intro a f hn hj hf
      refine Lfp.step (ev_mono hc lfp_le _ rd yi yi hy) ?_
      show ev P T ca Lfp c rd yi _ _
      rw [hf]
      refine ev_mono hc lfp_le c rd yi yi hy _ _ _ (fun x f' h => ?_) (step a hj)
      cases x with
      | normal =>
        obtain ⟨a',h1,h2,h3⟩ := h
        exact ih a' f' (by omega) h1 h3
      | _ => exact h
  exact key (μ a0 + 1) a0 f (by omega) h0 hf
end Go.Proofs.Pe
end

section
set_option linter.unusedVariables false
namespace Go.Proofs.Pe
variable {P : Program} {T : Tab} {ca : Ca} {yi : Nat → Sem'} {lp : Bd → Bd} {rd : Option Nat} {t : List V} {o : List O} {m : List Nat} {Φ : X → Fr → Prop} {K : V → List O → Prop}

/-! ### What comes behind is not looked at before it is come to -/
def same {α : Sort _} (x : α) : α := x
theorem same_eq {α : Sort _} (x : α) : same x = x := rfl
/-! ### Operations, one by one -/
theorem ev_lit {s : St} {x : V} : E.ev s (.lit x) = x := rfl
theorem q_alloc {z : V} : evK P T ca yi (.alloc z) t o K = oK (step P ⟨t,o⟩ (.alloc z)) K := propext Iff.rfl
theorem q_box {x : E} : evK P T ca yi (.box x) t o K = oK (step P ⟨t,o⟩ (.box x)) K := propext Iff.rfl
theorem q_mv {x : E} : evK P T ca yi (.mv x) t o K = oK (step P ⟨t,o⟩ (.mv x)) K := propext Iff.rfl
theorem q_pick {c x y : E} : evK P T ca yi (.pick c x y) t o K = oK (step P ⟨t,o⟩ (.pick c x y)) K := propext Iff.rfl
theorem q_bld {zs : List V} {ps} : evK P T ca yi (.bld zs ps) t o K = oK (step P ⟨t,o⟩ (.bld zs ps)) K := propext Iff.rfl
def isUpto : Nat → List Nat → Bool
  | _,[] => true
  | n,x :: xs => decide (x = n) && isUpto (n + 1) xs
theorem isUpto_eq : ∀ {n : Nat} {l : List Nat},isUpto n l = true → l = (List.range l.length).map (n + ·)
  | n,[],_ => rfl
  | n,x :: xs,h => by
    simp only [isUpto,Bool.and_eq_true] at h
    have h1 := of_decide_eq_true h.1
    have h2 := isUpto_eq h.2
    rw [List.length_cons,List.range_succ_eq_map,List.map_cons,List.map_map]
    congr 1
    conv => lhs; rw [h2]
    exact List.map_congr_left fun i _ => by simp; omega
def bslS (k l zl : Nat) (idx : List Nat) : Bool := isUpto 0 idx && decide (idx.length ≤ l) && decide (zl = k) && decide (l * k ≤ 16777216) && decide (1 ≤ k)
theorem bslS_ok {k l zl : Nat} {idx : List Nat} (h : bslS k l zl idx = true) : idx = List.range idx.length ∧ idx.length ≤ l ∧ zl = k ∧ l * k ≤ 16777216 ∧ 0 < k := by
  simp only [bslS,Bool.and_eq_true] at h
  obtain ⟨⟨⟨⟨h1,h2⟩,h3⟩,h4⟩,h5⟩ := h
  have := isUpto_eq h1
  simp at this
  exact ⟨this,of_decide_eq_true h2,of_decide_eq_true h3,of_decide_eq_true h4,of_decide_eq_true h5⟩
def bslOf (k l : Nat) (zs : List V) (s : Bool) (xs : List V) (o : List O) : Option (V × List O) :=
  match s,zs.all V.free1,xs.all V.free with
  | true,true,true => if (xs.all fun x => decide (x.cells.length = k)) = true then some (.sl k true (elems k zs l xs),o) else none
  | true,true,false => do
      let (ys,o1) ← step.freezes' o xs
      if (ys.all fun x => decide (x.cells.length = k)) = true then pure (.sl k true (elems k zs l ys),o1) else none
  | _,_,_ => none
theorem isUpto_range : ∀ (m n : Nat),isUpto n ((List.range m).map (n + ·)) = true
  | 0,n => rfl
  | m + 1,n => by
    rw [List.range_succ_eq_map,List.map_cons,List.map_map]
    simp only [isUpto,Nat.add_zero,Bool.and_eq_true]
    refine ⟨by simp, ?_⟩
    have := isUpto_range m (n + 1)
    rw [show ((fun x => n + x) ∘ Nat.succ) = (fun x => n + 1 + x) from funext fun x => by simp; omega]
    exact this
theorem bslS_mk {k l zl : Nat} {idx : List Nat} (h : idx = List.range idx.length ∧ idx.length ≤ l ∧ zl = k ∧ l * k ≤ 16777216 ∧ 0 < k) : bslS k l zl idx = true := by
  obtain ⟨h1,h2,h3,h4,h5⟩ := h
  have h6 : isUpto 0 idx = true := by
    have := isUpto_range idx.length 0
    simp at this
    rw [← h1] at this; exact this
  simp only [bslS,h6,Bool.true_and,Bool.and_eq_true]
  exact ⟨⟨⟨decide_eq_true h2,decide_eq_true h3⟩,decide_eq_true h4⟩,decide_eq_true h5⟩
theorem q_bsl {k l : Nat} {zs : List V} {ps} : evK P T ca yi (.bsl k l zs ps) t o K = oK (bslOf k l zs (bslS k l zs.length (ps.map (·.1))) (ps.map fun p => p.2.ev ⟨t,o⟩) o) K := by
  show oK (step P ⟨t,o⟩ (.bsl k l zs ps)) K = _
  congr 1
  have hm : (ps.map fun (_,e) => e.ev (⟨t,o⟩ : St)) = ps.map fun p => p.2.ev ⟨t,o⟩ := List.map_congr_left fun _ _ => rfl
  simp only [step]
  cases hs : bslS k l zs.length (ps.map (·.1)) with
  | false =>
    have hn : ¬ (ps.map (·.1) = List.range ps.length ∧ ps.length ≤ l ∧ zs.length = k ∧ l * k ≤ 16777216 ∧ 0 < k) := fun hc => by
      rw [bslS_mk (by simpa only [List.length_map] using hc)] at hs; cases hs
    simp only [hn,false_and,if_false]
    unfold bslOf
    cases step.freezes' o (ps.map fun p => p.2.ev ⟨t,o⟩) <;> rfl
  | true =>
    have hp := bslS_ok hs
    simp only [List.length_map] at hp
    simp only [hp,true_and,and_self]
    unfold bslOf
    cases hz : zs.all V.free1 with
    | false =>
      simp only [Bool.false_eq_true,and_false,if_false]
      cases step.freezes' o (ps.map fun p => p.2.ev ⟨t,o⟩) <;> rfl
    | true =>
      cases hx : (ps.map fun p => p.2.ev (⟨t,o⟩ : St)).all V.free with
      | false => simp only [and_true]
      | true =>
        rw [freezes'_free (o := o) (by simpa only [List.all_eq_true] using hx)]
        simp only [and_true]
        rfl
def bsaOf (k l : Nat) (zs : List V) (s : Bool) (xs : List V) (o : List O) : Option (V × List O) :=
  match s,zs.all V.free1,(xs.all (fun x => x.free && decide (x.cells.length = k)) || xs.all (fun x => x.solid && decide (x.cells.length = k))) with
  | true,true,true => some (.ar o.length 0,o ++ [O.arr 0 true k (elems k zs l xs)])
  | _,_,_ => none
theorem q_bsa {k l : Nat} {zs : List V} {ps} : evK P T ca yi (.bsa k l zs ps) t o K = oK (bsaOf k l zs (bslS k l zs.length (ps.map (·.1))) (ps.map fun p => p.2.ev ⟨t,o⟩) o) K := by
  show oK (step P ⟨t,o⟩ (.bsa k l zs ps)) K = _
  congr 1
  have hm : (ps.map fun (_,e) => e.ev (⟨t,o⟩ : St)) = ps.map fun p => p.2.ev ⟨t,o⟩ := List.map_congr_left fun _ _ => rfl
  have ha : (ps.all fun (_,e) => (e.ev (⟨t,o⟩ : St)).free && decide ((e.ev (⟨t,o⟩ : St)).cells.length = k)) = (ps.map fun p => p.2.ev (⟨t,o⟩ : St)).all fun x => x.free && decide (x.cells.length = k) := by
    rw [List.all_map]; rfl
  have hb : (ps.all fun (_,e) => (e.ev (⟨t,o⟩ : St)).solid && decide ((e.ev (⟨t,o⟩ : St)).cells.length = k)) = (ps.map fun p => p.2.ev (⟨t,o⟩ : St)).all fun x => x.solid && decide (x.cells.length = k) := by
    rw [List.all_map]; rfl
  unfold bsaOf
  simp only [step]
  rw [ha,hb,hm]
  cases hs : bslS k l zs.length (ps.map (·.1)) with
  | false =>
    have hn : ¬ (ps.map (·.1) = List.range ps.length ∧ ps.length ≤ l ∧ zs.length = k ∧ l * k ≤ 16777216 ∧ 0 < k) := fun hc => by
      rw [bslS_mk (by simpa only [List.length_map] using hc)] at hs; cases hs
    simp only [hn,false_and,if_false]
  | true =>
    have hp := bslS_ok hs
    simp only [List.length_map] at hp
    simp only [hp,true_and,and_self]
    cases ((ps.map fun p => p.2.ev (⟨t,o⟩ : St)).all fun x => x.free && decide (x.cells.length = k)) || ((ps.map fun p => p.2.ev (⟨t,o⟩ : St)).all fun x => x.solid && decide (x.cells.length = k)) <;> cases zs.all V.free1 <;> rfl
theorem elems_zero {k : Nat} {z xs : List V} : elems k z 0 xs = [] := by cases xs <;> rfl
theorem elems_cons {k n : Nat} {z xs : List V} {x : V} : elems k z (n + 1) (x :: xs) = x :: elems k z n xs := rfl
theorem q_mks {x : E} : evK P T ca yi (.mks x) t o K = oK (step P ⟨t,o⟩ (.mks x)) K := propext Iff.rfl
theorem q_load {x : E} {ag : Bool} {n : Nat} : evK P T ca yi (.load x ag n) t o K = oK (step P ⟨t,o⟩ (.load x ag n)) K := propext Iff.rfl
theorem q_store {x y : E} {n : Nat} : evK P T ca yi (.store x y n) t o K = oK (step P ⟨t,o⟩ (.store x y n)) K := propext Iff.rfl
theorem q_nilck {x : E} : evK P T ca yi (.nilck x) t o K = oK (step P ⟨t,o⟩ (.nilck x)) K := propext Iff.rfl
theorem q_cmpnil {kd : Nat} {ng : Bool} {x : E} : evK P T ca yi (.cmpnil kd ng x) t o K = oK (step P ⟨t,o⟩ (.cmpnil kd ng x)) K := propext Iff.rfl
theorem q_fad {x : E} {n : Nat} : evK P T ca yi (.fad x n) t o K = oK (step P ⟨t,o⟩ (.fad x n)) K := propext Iff.rfl
theorem q_fld {x : E} {n l : Nat} {ag : Bool} : evK P T ca yi (.fld x n l ag) t o K = oK (step P ⟨t,o⟩ (.fld x n l ag)) K := propext Iff.rfl
def ixOf (k : Nat) (o : List O) (x i : V) : Option (V × List O) := (intOf i).bind fun i => if 0 ≤ i then match x with
    | .sl k' _ xs => if k' = k then (xs[i.toNat]?).map fun x => (.ep x.cells,o) else none
    | .ar l v => match o[l]? with
      | some (.arr v' _ k' xs) => if v' = v ∧ k' = k ∧ i < xs.length then some (.pa l v i.toNat 0,o) else none
      | _ => none
    | .vw l v a n => match o[l]? with
      | some (.arr v' _ k' xs) => if v' = v ∧ k' = k ∧ i < n then some (.pa l v (a + i.toNat) 0,o) else none
      | _ => none
    | _ => none else none
theorem q_aia {x i : E} {k n : Nat} : evK P T ca yi (.aia x i k n) t o K = oK (step P ⟨t,o⟩ (.aia x i k n)) K := propext Iff.rfl
theorem q_iad {x i : E} {k : Nat} : evK P T ca yi (.iad x i k) t o K = oK (ixOf k o (x.ev ⟨t,o⟩) (i.ev ⟨t,o⟩)) K := propext Iff.rfl
def appOf (k bytes : Nat) (o : List O) (x y : V) : Option (V × List O) := ((rowOf o y).bind fun ys => if (ys.all fun y => y.free && decide (y.cells.length = k)) = true then some ys else if (ys.all fun y => y.solid && decide (y.cells.length = k)) = true then some ys else none).bind fun ys =>
    if ys = [] then (match x with
      | .sl k' f xs => if k' = k then some (.sl k' f xs,o) else none
      | .ar l v => (rowOf o (.ar l v)).map fun _ => (.ar l v,o)
      | .sc (.slice none 0 0) => some (.sc (.slice none 0 0),o)
      | _ => none)
    else match x with
      | .sc (.slice none 0 0) => if ys.length * bytes ≤ room then some (.ar o.length 0,o ++ [O.arr 0 true k ys]) else none
      | .sl k' true xs => if k' = k ∧ (xs.length + ys.length) * bytes ≤ room then some (.ar o.length 0,o ++ [O.arr 0 true k (xs ++ ys)]) else none
      | .ar l v => match o[l]? with
        | some (.arr v' wr k' xs) => if v' = v ∧ k' = k ∧ (xs.length + ys.length) * bytes ≤ room then some (.ar l (v + 1),o.set l (O.arr (v + 1) wr k (xs ++ ys))) else none
        | _ => none
      | _ => none
def optEv (s : St) : Option E → Option V
  | none => none
  | some e => some (e.ev s)
def boundV (n : Nat) : Option V → Option Nat
  | none => some n
  | some v => match intOf v with
    | some i => if 0 ≤ i ∧ i ≤ (n : Int) then some i.toNat else none
    | none => none
def viewV (k l v a n : Nat) (lo hi mx : Option V) : Option V := do
  let h ← boundV n hi
  let l0 ← boundV h (some (lo.getD (.sc (.int .i64 0))))
  match mx with
  | none => pure (.vw l v (a + l0) (h - l0))
  | some m => do
    let m' ← boundV n (some m)
    if hi.isSome = true ∧ h ≤ m' then pure (if m' = l0 then .sl k true [] else .vw l v (a + l0) (h - l0)) else none
def slcOf (k0 : Nat) (o : List O) (x : V) (lo hi mx : Option V) : Option (V × List O) := match freeze1 o x with
    | some (y,o1) => (match y with
      | .sl k full xs => if k ≠ k0 then none else do
        let h ← boundV xs.length hi
        let l ← boundV h (some (lo.getD (.sc (.int .i64 0))))
        match mx with
        | none => pure (.sl k (full && h = xs.length) ((xs.take h).drop l),o1)
        | some m => do
          let m' ← boundV xs.length (some m)
          if hi.isSome = true ∧ h ≤ m' then pure (.sl k (decide (h = m')) ((xs.take h).drop l),o1) else none
      | .sc (.slice none 0 0) => do
        let h ← boundV 0 hi
        let l ← boundV h (some (lo.getD (.sc (.int .i64 0))))
        let m ← boundV 0 mx
        if mx.isSome = true → hi.isSome = true then pure (.sc (.slice none 0 0),o1) else none
      | _ => none)
    | none => (match x with
      | .ar l v => match o[l]? with
        | some (.arr v' _ k xs) => if v' = v ∧ k = k0 then (viewV k l v 0 xs.length lo hi mx).map fun y => (y,o) else none
        | _ => none
      | .vw l v a n => match o[l]? with
        | some (.arr v' _ k xs) => if v' = v ∧ k = k0 then (viewV k l v a n lo hi mx).map fun y => (y,o) else none
        | _ => none
      | _ => none)
def sslOf (o : List O) (x : V) (lo hi : Option V) : Option (V × List O) := match x with
  | .sc (.string b) => (boundV b.size hi).bind fun h => (boundV h (some (lo.getD (.sc (.int .i64 0))))).map fun l => (.sc (.string (b.extract l h)),o)
  | _ => none
theorem optEv_some {s : St} {e : E} : optEv s (some e) = some (e.ev s) := rfl
theorem optEv_none {s : St} : optEv s none = none := rfl
theorem q_slc {x : E} {lo hi mx : Option E} {k : Nat} : evK P T ca yi (.slc x lo hi mx k) t o K = oK (slcOf k o (x.ev ⟨t,o⟩) (optEv ⟨t,o⟩ lo) (optEv ⟨t,o⟩ hi) (optEv ⟨t,o⟩ mx)) K := by
  cases lo <;> cases hi <;> cases mx <;> rfl
theorem q_len {x : E} : evK P T ca yi (.len x) t o K = oK (step P ⟨t,o⟩ (.len x)) K := propext Iff.rfl
theorem q_app {x y : E} {k b : Nat} : evK P T ca yi (.app x y k b) t o K = oK (appOf k b o (x.ev ⟨t,o⟩) (y.ev ⟨t,o⟩)) K := propext Iff.rfl
theorem q_msl {n c : E} {k b : Nat} {z : V} : evK P T ca yi (.msl n c k b z) t o K = oK (step P ⟨t,o⟩ (.msl n c k b z)) K := propext Iff.rfl
theorem q_s2b {x : E} : evK P T ca yi (.s2b x) t o K = oK (step P ⟨t,o⟩ (.s2b x)) K := propext Iff.rfl
theorem q_b2s {x : E} : evK P T ca yi (.b2s x) t o K = oK (step P ⟨t,o⟩ (.b2s x)) K := propext Iff.rfl
theorem q_mkf {f : Go.Fn} {as bs : List E} : evK P T ca yi (.mkf f as bs) t o K = oK (step P ⟨t,o⟩ (.mkf f as bs)) K := propext Iff.rfl
theorem q_ext {x : E} {i : Nat} : evK P T ca yi (.ext x i) t o K = oK (step P ⟨t,o⟩ (.ext x i)) K := propext Iff.rfl
theorem q_bin {op : BinOp} {x y : E} : evK P T ca yi (.bin op x y) t o K = oK (step P ⟨t,o⟩ (.bin op x y)) K := propext Iff.rfl
theorem q_beq {n : Bool} {x y : E} : evK P T ca yi (.beq n x y) t o K = oK (step P ⟨t,o⟩ (.beq n x y)) K := propext Iff.rfl
theorem q_not {x : E} : evK P T ca yi (.noT x) t o K = oK (step P ⟨t,o⟩ (.noT x)) K := propext Iff.rfl
theorem q_neg {x : E} : evK P T ca yi (.neg x) t o K = oK (step P ⟨t,o⟩ (.neg x)) K := propext Iff.rfl
theorem q_cvi {k : IntKind} {x : E} : evK P T ca yi (.cvi k x) t o K = oK (step P ⟨t,o⟩ (.cvi k x)) K := propext Iff.rfl
theorem q_slen {x : E} : evK P T ca yi (.slen x) t o K = oK (step P ⟨t,o⟩ (.slen x)) K := propext Iff.rfl
theorem q_ssl {x : E} {lo hi : Option E} : evK P T ca yi (.ssl x lo hi) t o K = oK (sslOf o (x.ev ⟨t,o⟩) (optEv ⟨t,o⟩ lo) (optEv ⟨t,o⟩ hi)) K := by
  cases lo <;> cases hi <;> rfl
theorem q_sidx {x i : E} : evK P T ca yi (.sidx x i) t o K = oK (step P ⟨t,o⟩ (.sidx x i)) K := propext Iff.rfl
theorem q_mm {b : Bool} {x y : E} : evK P T ca yi (.mm b x y) t o K = oK (step P ⟨t,o⟩ (.mm b x y)) K := propext Iff.rfl
theorem q_call {f : E} {xs : List E} : evK P T ca yi (.call f xs) t o K = evCallV T ca yi (f.ev ⟨t,o⟩) (xs.map (·.ev ⟨t,o⟩)) o K := by
  show evCallV T ca yi (f.at t) (xs.map (·.at t)) o K = _
  rw [ev_at,show (xs.map (·.ev ⟨t,o⟩)) = xs.map (·.at t) from List.map_congr_left fun e _ => ev_at _ _]
theorem s_gn {d : Option Nat} {k : Pe.K} {K : St → Prop} : evOp P T ca yi ⟨d,none,k⟩ ⟨t,o⟩ K = evK P T ca yi k t o fun y o' => K ⟨putT d y t,o'⟩ := s_op
def wayK : Option Bool → Prop → Prop → Prop
  | some true,A,_ => A
  | some false,_,B => B
  | none,_,_ => False
def condV : V → Option Bool
  | .sc (.bool b) => some b
  | _ => none
theorem condV_b {b : Bool} : condV (.sc (.bool b)) = some b := rfl
def guardV : V → Bool → Option Bool
  | .sc (.bool true),b => some b
  | .sc (.bool false),b => some !b
  | .tup [],_ => some false
  | _,_ => none
theorem guardV_t {b : Bool} : guardV (.sc (.bool true)) b = some b := rfl
theorem guardV_f {b : Bool} : guardV (.sc (.bool false)) b = some !b := rfl
theorem guardV_u {b : Bool} : guardV (.tup []) b = some false := rfl
theorem s_way {x : E} {a b : C} : ev P T ca lp (.cond x a b) rd yi ⟨⟨t,o⟩,m⟩ Φ = wayK (condV (x.ev ⟨t,o⟩)) (ev P T ca lp a rd yi ⟨⟨t,o⟩,m⟩ Φ) (ev P T ca lp b rd yi ⟨⟨t,o⟩,m⟩ Φ) := by
  simp only [ev]
  generalize x.ev ⟨t,o⟩ = u
  cases u with
  | sc v =>
    cases v with
    | bool c => cases c <;> rfl
    | _ => rfl
  | _ => rfl
theorem s_gg {d : Option Nat} {j : Nat} {b : Bool} {k : Pe.K} {K : St → Prop} : evOp P T ca yi ⟨d,some (j,b),k⟩ ⟨t,o⟩ K = wayK (guardV (t.getD j .dead) b) (evK P T ca yi k t o fun y o' => K ⟨putT d y t,o'⟩) (K ⟨putT d (.tup []) t,o⟩) := by
  rw [s_op]
  unfold guardOk
  dsimp only
  generalize t.getD j .dead = u
  cases u with
  | sc v =>
    cases v with
    | bool c => cases c <;> cases b <;> rfl
    | _ => rfl
  | tup l => cases l <;> rfl
  | _ => rfl
theorem bb1 : (true == true) = true := rfl
theorem bb2 : (true == false) = false := rfl
theorem bb3 : (false == true) = false := rfl
theorem bb4 : (false == false) = true := rfl
theorem s_ct {x : E} {a b : C} (h : condV (x.ev ⟨t,o⟩) = some true) : ev P T ca lp (.cond x a b) rd yi ⟨⟨t,o⟩,m⟩ Φ = ev P T ca lp a rd yi ⟨⟨t,o⟩,m⟩ Φ := by rw [s_way,h]; rfl
theorem s_cf {x : E} {a b : C} (h : condV (x.ev ⟨t,o⟩) = some false) : ev P T ca lp (.cond x a b) rd yi ⟨⟨t,o⟩,m⟩ Φ = ev P T ca lp b rd yi ⟨⟨t,o⟩,m⟩ Φ := by rw [s_way,h]; rfl
theorem s_gt {d : Option Nat} {j : Nat} {b : Bool} {k : Pe.K} {K : St → Prop} (h : guardV (t.getD j .dead) b = some true) : evOp P T ca yi ⟨d,some (j,b),k⟩ ⟨t,o⟩ K = evK P T ca yi k t o fun y o' => K ⟨putT d y t,o'⟩ := by rw [s_gg,h]; rfl
theorem s_gf {d : Option Nat} {j : Nat} {b : Bool} {k : Pe.K} {K : St → Prop} (h : guardV (t.getD j .dead) b = some false) : evOp P T ca yi ⟨d,some (j,b),k⟩ ⟨t,o⟩ K = K ⟨putT d (.tup []) t,o⟩ := by rw [s_gg,h]; rfl
theorem killTs_nil {ts : List V} : killTs [] ts = ts := rfl
theorem row_sl {k : Nat} {f : Bool} {xs : List V} : rowOf o (.sl k f xs) = some xs := rfl
theorem row_nil : rowOf o (.sc (.slice none 0 0)) = some [] := rfl
theorem putT_none {y : V} : putT none y t = t := rfl

def outK (K : V → List O → Prop) (o : List O) : Option (List V) → Prop
  | some [y] => K y o
  | some ys => K (.tup ys) o
  | none => False
def retK (res : List Rv) (K : V → List O → Prop) (f : Fr) : Prop := match shut f.s.o f.m with
  | none => False
  | some o1 => outK K o1 (rets ⟨f.s.t,o1⟩ res)
def endK (res : List Rv) (K : V → List O → Prop) : X → Fr → Prop
  | .normal,f => retK res K f
  | .ret,f => retK res K f
  | _,_ => False
theorem endK_normal {res : List Rv} {f : Fr} : endK res K .normal f = retK res K f := propext Iff.rfl
theorem endK_ret {res : List Rv} {f : Fr} : endK res K .ret f = retK res K f := propext Iff.rfl
theorem retK_nil {res : List Rv} : retK res K ⟨⟨t,o⟩,[]⟩ = outK K o (rets ⟨t,o⟩ res) := propext Iff.rfl
theorem outK_one {y : V} : outK K o (some [y]) = K y o := propext Iff.rfl
theorem outK_nil : outK K o (some []) = K (.tup []) o := propext Iff.rfl
theorem outK_two {x y : V} {l : List V} : outK K o (some (x :: y :: l)) = K (.tup (x :: y :: l)) o := propext Iff.rfl
theorem body_eq {f : FuncId} {cf : CF} (h : T.cf f = some cf) {xs : List V} {K : V → List O → Prop} :
    evBody P T ca lp yi f xs o K = ev P T ca lp cf.body none yi ⟨⟨xs ++ List.replicate (cf.ntmps - xs.length) .dead,o⟩,[]⟩ (endK cf.res K) := by
  unfold evBody
  rw [h]
  dsimp only
  congr 1
  funext x f'
  have key : ∀ o1,(match rets { f'.s with o := o1 } cf.res with
          | some [y] => K y o1
          | some ys => K (.tup ys) o1
          | none => False) = outK K o1 (rets ⟨f'.s.t,o1⟩ cf.res) := fun o1 => by
    show _ = outK K o1 (rets { f'.s with o := o1 } cf.res)
    generalize rets { f'.s with o := o1 } cf.res = r
    rcases r with _ | (_ | ⟨y,_ | ⟨z,l⟩⟩) <;> rfl
  cases x with
  | normal => dsimp only [endK,retK]; cases shut f'.s.o f'.m with | none => rfl | some o1 => exact key o1
  | ret => dsimp only [endK,retK]; cases shut f'.s.o f'.m with | none => rfl | some o1 => exact key o1
  | _ => rfl
theorem shut_nil : shut o [] = some o := rfl
theorem rets_nil {s : St} : rets s [] = some [] := rfl
theorem cells_sc {v : Value} : V.cells (.sc v) = [(.sc v)] := rfl
theorem solid_sc {v : Value} : V.solid (.sc v) = true := rfl
theorem one_sc {v : Value} : V.one (.sc v) = true := rfl
theorem cells_sl {k : Nat} {f : Bool} {xs : List V} : V.cells (.sl k f xs) = [(.sl k f xs)] := rfl
theorem solid_sl {k : Nat} {f : Bool} {xs : List V} : V.solid (.sl k f xs) = true := rfl
theorem one_sl {k : Nat} {f : Bool} {xs : List V} : V.one (.sl k f xs) = true := rfl
theorem cells_ar {l v : Nat} : V.cells (.ar l v) = [(.ar l v)] := rfl
theorem solid_ar {l v : Nat} : V.solid (.ar l v) = true := rfl
theorem one_ar {l v : Nat} : V.one (.ar l v) = true := rfl
theorem cells_pt {l v : Nat} : V.cells (.pt l v) = [(.pt l v)] := rfl
theorem solid_pt {l v : Nat} : V.solid (.pt l v) = true := rfl
theorem one_pt {l v : Nat} : V.one (.pt l v) = true := rfl
theorem cells_pa {l v i j : Nat} : V.cells (.pa l v i j) = [(.pa l v i j)] := rfl
theorem solid_pa {l v i j : Nat} : V.solid (.pa l v i j) = true := rfl
theorem one_pa {l v i j : Nat} : V.one (.pa l v i j) = true := rfl
theorem cells_ep {xs : List V} : V.cells (.ep xs) = [(.ep xs)] := rfl
theorem solid_ep {xs : List V} : V.solid (.ep xs) = true := rfl
theorem one_ep {xs : List V} : V.one (.ep xs) = true := rfl
theorem cells_fn {f : Go.Fn} {as bs : List V} : V.cells (.fn f as bs) = [(.fn f as bs)] := rfl
theorem solid_fn {f : Go.Fn} {as bs : List V} : V.solid (.fn f as bs) = true := rfl
theorem one_fn {f : Go.Fn} {as bs : List V} : V.one (.fn f as bs) = true := rfl
theorem free_sc {v : Value} : V.free (.sc v) = true := rfl
theorem free1_sc {v : Value} : V.free1 (.sc v) = true := rfl
theorem free_sl {k : Nat} {f : Bool} {xs : List V} : V.free (.sl k f xs) = true := rfl
theorem free1_sl {k : Nat} {f : Bool} {xs : List V} : V.free1 (.sl k f xs) = true := rfl
theorem free_ar {l v : Nat} : V.free (.ar l v) = false := rfl
theorem free1_ar {l v : Nat} : V.free1 (.ar l v) = false := rfl
theorem free_pt {l v : Nat} : V.free (.pt l v) = false := rfl
theorem free1_pt {l v : Nat} : V.free1 (.pt l v) = false := rfl
theorem free_pa {l v i j : Nat} : V.free (.pa l v i j) = false := rfl
theorem free1_pa {l v i j : Nat} : V.free1 (.pa l v i j) = false := rfl
theorem free_ep {xs : List V} : V.free (.ep xs) = true := rfl
theorem free1_ep {xs : List V} : V.free1 (.ep xs) = true := rfl
theorem cells_agg {xs : List V} : V.cells (.agg xs) = xs := rfl
theorem solid_agg {xs : List V} : V.solid (.agg xs) = xs.all V.one := rfl
theorem free_agg {xs : List V} : V.free (.agg xs) = xs.all V.free1 := rfl
theorem part_at {n : Nat} {cs : List V} {off : Nat} : part false n cs off = cs[off]? := rfl
theorem part_agg {n : Nat} {cs : List V} {off : Nat} : part true n cs off = if off + n ≤ cs.length then some (.agg ((cs.drop off).take n)) else none := rfl

theorem cast_lit {n : Nat} : ((OfNat.ofNat n : Nat) : Int) = (OfNat.ofNat n : Int) := rfl
/-! ### What a reading operation takes from the store -/
def V.depL : V → Nat
  | .pa .. => 2
  | .ep .. => 0
  | _ => 1
def V.depP : V → Nat
  | .pa .. => 4
  | _ => 0
def V.depA : V → Nat
  | .ar .. => 4
  | .vw .. => 4
  | _ => 0
def V.depB : V → Nat
  | .ar .. => 2
  | .vw .. => 2
  | _ => 0
theorem d_load {x : E} {ag : Bool} {n : Nat} : Pe.K.dep ⟨t,o⟩ (.load x ag n) = (x.ev ⟨t,o⟩).depL := by
  simp only [Pe.K.dep]; generalize E.ev ⟨t,o⟩ x = u; cases u <;> rfl
theorem d_nilck {x : E} : Pe.K.dep ⟨t,o⟩ (.nilck x) = (x.ev ⟨t,o⟩).depP := by
  simp only [Pe.K.dep]; generalize E.ev ⟨t,o⟩ x = u; cases u <;> rfl
theorem d_fad {x : E} {n : Nat} : Pe.K.dep ⟨t,o⟩ (.fad x n) = (x.ev ⟨t,o⟩).depP := by
  simp only [Pe.K.dep]; generalize E.ev ⟨t,o⟩ x = u; cases u <;> rfl
theorem d_iad {x y : E} {n : Nat} : Pe.K.dep ⟨t,o⟩ (.iad x y n) = (x.ev ⟨t,o⟩).depA := by
  simp only [Pe.K.dep]; generalize E.ev ⟨t,o⟩ x = u; cases u <;> rfl
theorem d_len {x : E} : Pe.K.dep ⟨t,o⟩ (.len x) = (x.ev ⟨t,o⟩).depA := by
  simp only [Pe.K.dep]; generalize E.ev ⟨t,o⟩ x = u; cases u <;> rfl
theorem d_b2s {x : E} : Pe.K.dep ⟨t,o⟩ (.b2s x) = (x.ev ⟨t,o⟩).depB := by
  simp only [Pe.K.dep]; generalize E.ev ⟨t,o⟩ x = u; cases u <;> rfl
theorem d_bsl {k l : Nat} {zs : List V} {ps : List (Nat × E)} : Pe.K.dep ⟨t,o⟩ (.bsl k l zs ps) = if ((ps.map fun p => p.2.ev (⟨t,o⟩ : St)).all V.free) = true then 0 else 3 := by
  simp only [Pe.K.dep,List.all_map]; rfl
theorem d_apz {x n : E} {k b : Nat} {z : V} : Pe.K.dep ⟨t,o⟩ (.apz x n k b z) = 0 := rfl
theorem depA_vw {l v a n : Nat} : V.depA (.vw l v a n) = 4 := rfl
theorem d_aia {x i : E} {k n : Nat} : Pe.K.dep ⟨t,o⟩ (.aia x i k n) = 0 := rfl
theorem d_ssl {x : E} {lo hi : Option E} : Pe.K.dep ⟨t,o⟩ (.ssl x lo hi) = 0 := rfl
theorem d_mv {x : E} : Pe.K.dep ⟨t,o⟩ (.mv x) = 0 := rfl
theorem d_pick {c x y : E} : Pe.K.dep ⟨t,o⟩ (.pick c x y) = 0 := rfl
theorem d_bld {zs : List V} {ps} : Pe.K.dep ⟨t,o⟩ (.bld zs ps) = 0 := rfl
theorem d_cmpnil {kd : Nat} {ng : Bool} {x : E} : Pe.K.dep ⟨t,o⟩ (.cmpnil kd ng x) = 0 := rfl
theorem d_fld {x : E} {n l : Nat} {ag : Bool} : Pe.K.dep ⟨t,o⟩ (.fld x n l ag) = 0 := rfl
theorem d_mkf {f : Go.Fn} {as bs : List E} : Pe.K.dep ⟨t,o⟩ (.mkf f as bs) = 0 := rfl
theorem d_ext {x : E} {i : Nat} : Pe.K.dep ⟨t,o⟩ (.ext x i) = 0 := rfl
theorem d_bin {op : BinOp} {x y : E} : Pe.K.dep ⟨t,o⟩ (.bin op x y) = 0 := rfl
theorem d_beq {n : Bool} {x y : E} : Pe.K.dep ⟨t,o⟩ (.beq n x y) = 0 := rfl
theorem d_not {x : E} : Pe.K.dep ⟨t,o⟩ (.noT x) = 0 := rfl
theorem d_neg {x : E} : Pe.K.dep ⟨t,o⟩ (.neg x) = 0 := rfl
theorem d_cvi {k : IntKind} {x : E} : Pe.K.dep ⟨t,o⟩ (.cvi k x) = 0 := rfl
theorem d_slen {x : E} : Pe.K.dep ⟨t,o⟩ (.slen x) = 0 := rfl
theorem d_sidx {x y : E} : Pe.K.dep ⟨t,o⟩ (.sidx x y) = 0 := rfl
theorem d_idxb {x y : E} : Pe.K.dep ⟨t,o⟩ (.idxb x y) = 0 := rfl
theorem d_mm {b : Bool} {x y : E} : Pe.K.dep ⟨t,o⟩ (.mm b x y) = 0 := rfl
theorem d_sca {p : Oper} : Pe.K.dep ⟨t,o⟩ (.sca p) = 0 := rfl
theorem depL_pt {l v : Nat} : V.depL (.pt l v) = 1 := rfl
theorem depL_ep {xs : List V} : V.depL (.ep xs) = 0 := rfl
theorem depL_pa {l v i j : Nat} : V.depL (.pa l v i j) = 2 := rfl
theorem depP_pt {l v : Nat} : V.depP (.pt l v) = 0 := rfl
theorem depP_ep {xs : List V} : V.depP (.ep xs) = 0 := rfl
theorem depP_fn {f : Go.Fn} {as bs : List V} : V.depP (.fn f as bs) = 0 := rfl
theorem depP_pa {l v i j : Nat} : V.depP (.pa l v i j) = 4 := rfl
theorem depA_sl {k : Nat} {f : Bool} {xs : List V} : V.depA (.sl k f xs) = 0 := rfl
theorem depA_sc {v : Value} : V.depA (.sc v) = 0 := rfl
theorem depA_ar {l v : Nat} : V.depA (.ar l v) = 4 := rfl
theorem depB_sl {k : Nat} {f : Bool} {xs : List V} : V.depB (.sl k f xs) = 0 := rfl
theorem depB_sc {v : Value} : V.depB (.sc v) = 0 := rfl
theorem depB_ar {l v : Nat} : V.depB (.ar l v) = 2 := rfl
theorem depB_vw {l v a n : Nat} : V.depB (.vw l v a n) = 2 := rfl
theorem okR_z {m : Nat} : okR 0 m = true := rfl
theorem okR_11 : okR 1 1 = true := rfl
theorem okR_12 : okR 1 2 = true := rfl
theorem okR_21 : okR 2 1 = true := rfl
theorem okR_41 : okR 4 1 = true := rfl
theorem okR_43 : okR 4 3 = true := rfl
theorem depL_le {v : V} : okR v.depL 1 = true := by unfold V.depL; split <;> rfl
theorem depP_le {v : V} : okR v.depP 1 = true := by unfold V.depP; split <;> rfl
theorem depA_le {v : V} : okR v.depA 1 = true := by unfold V.depA; split <;> rfl
theorem depB_le {v : V} : okR v.depB 1 = true := by unfold V.depB; split <;> rfl
theorem depP_l3 {v : V} : okR v.depP 3 = true := by unfold V.depP; split <;> rfl
theorem depA_l3 {v : V} : okR v.depA 3 = true := by unfold V.depA; split <;> rfl
theorem zero_le {n : Nat} : (0 ≤ n) = True := by simp

theorem wrap_ok {n : Int} (h1 : -9223372036854775808 ≤ n) (h2 : n ≤ 9223372036854775807) : IntKind.i64.wrap n = n := by
  unfold IntKind.wrap
  simp [IntKind.bits,IntKind.signed]
  omega
theorem wrap_succ {n : Nat} (h2 : n < 9223372036854775807) : IntKind.i64.wrap ((n : Int) + 1) = ((n + 1 : Nat) : Int) := by
  rw [wrap_ok (by omega) (by omega)]; rfl
end Go.Proofs.Pe
end

section
set_option linter.unusedVariables false
namespace Go.Proofs.Pe
variable {P : Program} {T : Tab}

/-! ### Words for the contracts -/
abbrev nilV : V := .sc (.slice none 0 0)
abbrev iV (n : Int) : V := .sc (.int .i64 n)
abbrev bV (b : Bool) : V := .sc (.bool b)
def IsSl (k : Nat) (v : V) (xs : List V) : Prop := (v = nilV ∧ xs = []) ∨ ∃ f,v = .sl k f xs
theorem IsSl.row {k : Nat} {v : V} {xs : List V} (h : IsSl k v xs) (o : List O) : rowOf o v = some xs := by
  rcases h with ⟨rfl,rfl⟩ | ⟨f,rfl⟩ <;> rfl
theorem IsSl.free {k : Nat} {v : V} {xs : List V} (h : IsSl k v xs) : v.free1 = true := by
  rcases h with ⟨rfl,rfl⟩ | ⟨f,rfl⟩ <;> rfl
theorem IsSl.freeV {k : Nat} {v : V} {xs : List V} (h : IsSl k v xs) : v.free = true := by
  rcases h with ⟨rfl,rfl⟩ | ⟨f,rfl⟩ <;> rfl
theorem IsSl.cells {k : Nat} {v : V} {xs : List V} (h : IsSl k v xs) : v.cells = [v] := by
  rcases h with ⟨rfl,rfl⟩ | ⟨f,rfl⟩ <;> rfl
theorem IsSl.solid {k : Nat} {v : V} {xs : List V} (h : IsSl k v xs) : v.solid = true := by
  rcases h with ⟨rfl,rfl⟩ | ⟨f,rfl⟩ <;> rfl
theorem IsSl.ix {k : Nat} {v : V} {xs : List V} (h : IsSl k v xs) (o : List O) {n : Nat} {y : V} (hy : xs[n]? = some y) : ixOf k o v (iV n) = some (.ep y.cells,o) := by
  rcases h with ⟨rfl,rfl⟩ | ⟨f,rfl⟩
  · simp at hy
  · simp [ixOf,intOf,hy]
theorem IsSl.slc {k : Nat} {v : V} {xs : List V} (h : IsSl k v xs) (o : List O) {lo hi : Nat} (h1 : lo ≤ hi) (h2 : hi ≤ xs.length) : ∃ w,slcOf k o v (some (iV lo)) (some (iV hi)) none = some (w,o) ∧ IsSl k w ((xs.take hi).drop lo) := by
  rcases h with ⟨rfl,rfl⟩ | ⟨f,rfl⟩
  · simp at h2; subst h2
    have : lo = 0 := by omega
    subst this
    exact ⟨nilV,by simp [slcOf,freeze1,V.free1,boundV,intOf],.inl ⟨rfl,by simp⟩⟩
  · refine ⟨.sl k (f && decide (hi = xs.length)) ((xs.take hi).drop lo), ?_,.inr ⟨_,rfl⟩⟩
    simp [slcOf,freeze1,V.free1,boundV,intOf,h1,h2]
theorem IsSl.slcHi {k : Nat} {v : V} {xs : List V} (h : IsSl k v xs) (o : List O) {hi : Nat} (h2 : hi ≤ xs.length) : ∃ w,slcOf k o v none (some (iV hi)) none = some (w,o) ∧ IsSl k w (xs.take hi) := by
  obtain ⟨w,h3,h4⟩ := h.slc o (Nat.zero_le hi) h2
  exact ⟨w,h3,by simpa using h4⟩
def okRow (k : Nat) (ys : List V) : Prop := (ys.all fun y => y.free && decide (y.cells.length = k)) = true
theorem ap_none {k b : Nat} {o : List O} {x y : V} (hy : rowOf o y = some []) (hx : (∃ xs,IsSl k x xs) ∨ ∃ l v xs,x = .ar l v ∧ rowOf o x = some xs) : appOf k b o x y = some (x,o) := by
  rcases hx with ⟨xs,⟨rfl,_⟩ | ⟨f,rfl⟩⟩ | ⟨l,v,xs,rfl,h⟩
  · simp [appOf,hy]
  · simp [appOf,hy]
  · simp [appOf,hy,h]
theorem ap_nil {k b : Nat} {o : List O} {y : V} {ys : List V} (hy : rowOf o y = some ys) (hk : okRow k ys) (hn : ys ≠ []) (hr : ys.length * b ≤ room) : appOf k b o nilV y = some (.ar o.length 0,o ++ [O.arr 0 true k ys]) := by
  unfold okRow at hk
  simp only [appOf,hy,Option.bind_some,hk,if_true,hn,if_false,hr,and_self]
theorem ap_full {k b : Nat} {o : List O} {y : V} {xs ys : List V} (hy : rowOf o y = some ys) (hk : okRow k ys) (hn : ys ≠ []) (hr : (xs.length + ys.length) * b ≤ room) : appOf k b o (.sl k true xs) y = some (.ar o.length 0,o ++ [O.arr 0 true k (xs ++ ys)]) := by
  unfold okRow at hk
  simp only [appOf,hy,Option.bind_some,hk,if_true,hn,if_false,hr,and_self]
theorem ap_ar {k b : Nat} {o : List O} {y : V} {xs ys : List V} {l v : Nat} {wr : Bool} (hl : o[l]? = some (.arr v wr k xs)) (hy : rowOf o y = some ys) (hk : okRow k ys) (hn : ys ≠ []) (hr : (xs.length + ys.length) * b ≤ room) :
    appOf k b o (.ar l v) y = some (.ar l (v + 1),o.set l (O.arr (v + 1) wr k (xs ++ ys))) := by
  unfold okRow at hk
  simp only [appOf,hy,Option.bind_some,hk,if_true,hn,if_false,hr,and_self,hl]
def PFn (P : Program) (T : Tab) (f : FuncId) (xs : List V) (Q : V → Prop) : Prop :=
  ∀ yi,YLe yi yi → Call P T yi f xs [] fun y o' => ∃ z o2,freezeT o' y = some (z,o2) ∧ Q z
theorem PFn.call {f : FuncId} {xs ys : List V} {Q : V → Prop} {o o1 : List O} {yi : Nat → Sem'} {K : V → List O → Prop} (h : PFn P T f ys Q) (hm : T.mode f = 0) (hc : commits o xs = some (ys,o1))
    (hK : ∀ z,Q z → if z.bare = true then K z o else K z o1) : evCallV T (Call P T) yi (.fn (.func f) [] []) xs o K := by
  have hm' : T.mode f < 2 := by omega
  simp only [evCallV,hm',if_true,List.nil_append,List.append_nil,hc]
  refine call_le _ _ f noY_le _ _ _ _ (fun y o' hh => ?_) (h _ noY_le)
  obtain ⟨z,o2,h1,h2⟩ := hh
  unfold pureEnd
  split
  · omega
  · rw [h1]; exact hK z h2
theorem commits_free {o : List O} : ∀ {xs : List V},(∀ x,x ∈ xs → x.free = true) → commits o xs = some (xs,o) := fun {xs} h => freezes'_free h
end Go.Proofs.Pe
end

section
set_option linter.unusedVariables false
namespace Go.Proofs.Pe
variable {P : Program} {T : Tab}

/-! ### Closed runs inside of others -/
def froB (test : V → Bool) (y : V) (o' : List O) : Bool := match freezeT o' y with
  | some (z,_) => test z
  | none => false
theorem PFn.ofB (n : Nat) {f : FuncId} {xs : List V} {test : V → Bool} (h : evCallB P T n noYB f xs [] (froB test) = true) : PFn P T f xs fun z => test z = true := by
  intro yi hy
  refine evCallB_ok n noYB yi f [] ⟨fun l xs o KB K _ _ h => by simp [noYB] at h,hy⟩ xs [] _ _ (Keep.refl _) (fun y o' _ h => ?_) h
  unfold froB at h
  split at h
  · rename_i z o2 hz; exact ⟨z,o2,hz,h⟩
  · cases h
theorem PFn.mono {f : FuncId} {xs : List V} {Q Q' : V → Prop} (h : PFn P T f xs Q) (hq : ∀ z,Q z → Q' z) : PFn P T f xs Q' := fun yi hy =>
  call_le _ _ f hy _ _ _ _ (fun y o' ⟨z,o2,h1,h2⟩ => ⟨z,o2,h1,hq z h2⟩) (h yi hy)
theorem PFn.callB {f : FuncId} {xs ys : List V} {Q : V → Prop} {o o1 : List O} {yi : Nat → Sem'} {K : V → List O → Prop} (h : PFn P T f ys Q) (hm : T.mode f = 0) (hc : commits o xs = some (ys,o1))
    (hb : ∀ z,Q z → z.bare = true) (hK : ∀ z,Q z → K z o) : evCallV T (Call P T) yi (.fn (.func f) [] []) xs o K :=
  h.call hm hc fun z hz => by rw [if_pos (hb z hz)]; exact hK z hz
theorem PFn.callF {f : FuncId} {xs : List V} {Q : V → Prop} {o : List O} {yi : Nat → Sem'} {K : V → List O → Prop} (h : PFn P T f xs Q) (hm : T.mode f = 0) (hx : ∀ x,x ∈ xs → x.free = true)
    (hK : ∀ z,Q z → K z o) : evCallV T (Call P T) yi (.fn (.func f) [] []) xs o K :=
  h.call hm (commits_free hx) fun z hz => by split <;> exact hK z hz

theorem neg_lt_tmod (a : Int) {n : Int} (h : 0 < n) : -n < a.tmod n := by
  have h1 := Int.tmod_lt_of_pos (-a) h
  rw [Int.neg_tmod] at h1
  omega
def withinI (a n : Int) : Int := if a.tmod n < 0 then a.tmod n + n else a.tmod n
theorem withinI_ok (a : Int) {n : Int} (h : 0 < n) : 0 ≤ withinI a n ∧ withinI a n < n := by
  have h1 := Int.tmod_lt_of_pos a h
  have h2 := neg_lt_tmod a h
  unfold withinI
  split <;> omega
end Go.Proofs.Pe
end

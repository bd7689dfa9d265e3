/- An evaluator over the loaded code, and the proof that what it tells is so: a part of the texts that the claim's proof needs. Conditions: none beside those that its theorems state. -/
import Derived.Test.YtclaoegdlibapaaDoorPeC
import Derived.ChangeArms
set_option linter.unusedSimpArgs false
set_option linter.unusedVariables false

section
set_option linter.unusedVariables false
namespace Go.Proofs.Pe
variable {P : Program} {T : Tab}

/-! ### Stores: what stays -/
def SameO (a b : O) : Prop := a = b ∨ ∃ v w w' k xs,a = .arr v w k xs ∧ b = .arr v w' k xs
theorem SameO.refl (a : O) : SameO a a := .inl rfl
theorem SameO.trans {a b c : O} (h : SameO a b) (h' : SameO b c) : SameO a c := by
  rcases h with rfl | ⟨v,w,w',k,xs,rfl,rfl⟩
  · exact h'
  · rcases h' with rfl | ⟨v2,w2,w2',k2,xs2,e,rfl⟩
    · exact .inr ⟨_,_,_,_,_,rfl,rfl⟩
    · cases e; exact .inr ⟨_,_,_,_,_,rfl,rfl⟩
structure Frm (o o' : List O) (S : List Nat) : Prop where
  len : o.length ≤ o'.length
  obj : ∀ (i : Nat) (a : O),i ∉ S → o[i]? = some a → ∃ b,o'[i]? = some b ∧ SameO a b
theorem Frm.refl (o : List O) (S : List Nat) : Frm o o S := ⟨Nat.le_refl _,fun i a _ h => ⟨a,h,.refl _⟩⟩
theorem Frm.trans {o o1 o2 : List O} {S S' : List Nat} (h : Frm o o1 S) (h' : Frm o1 o2 S') (hs : ∀ i,i ∈ S' → i ∈ S ∨ o.length ≤ i) : Frm o o2 S :=
  ⟨Nat.le_trans h.len h'.len,fun i a hi ha => by
    obtain ⟨b,hb,hab⟩ := h.obj i a hi ha
    have hlt : i < o.length := (List.getElem?_eq_some_iff.1 ha).1
    obtain ⟨c,hc,hbc⟩ := h'.obj i b (fun hm => (hs i hm).elim hi fun h => by omega) hb
    exact ⟨c,hc,hab.trans hbc⟩⟩
theorem Frm.mono {o o' : List O} {S S' : List Nat} (h : Frm o o' S) (hs : ∀ i,i ∈ S → i ∈ S') : Frm o o' S' := ⟨h.len,fun i a hi ha => h.obj i a (fun hm => hi (hs i hm)) ha⟩
theorem Frm.app (o l : List O) (S : List Nat) : Frm o (o ++ l) S :=
  ⟨by simp,fun i a _ h => ⟨a,by rw [List.getElem?_append_left (List.getElem?_eq_some_iff.1 h).1]; exact h,.refl _⟩⟩
theorem Frm.set {o : List O} {l : Nat} {b : O} {S : List Nat} (h : l ∈ S) : Frm o (o.set l b) S :=
  ⟨by simp,fun i a hi ha => ⟨a,by rw [List.getElem?_set_ne (fun e => hi (by rw [← e]; exact h))]; exact ha,.refl _⟩⟩
theorem Frm.setSame {o : List O} {l : Nat} {a b : O} {S : List Nat} (h : o[l]? = some a) (hs : SameO a b) : Frm o (o.set l b) S :=
  ⟨by simp,fun i c hi hc => by
    rw [List.getElem?_set]
    split
    · rename_i e; subst e; rw [h] at hc; cases hc
      exact ⟨b,by rw [if_pos (List.getElem?_eq_some_iff.1 h).1],hs⟩
    · exact ⟨c,hc,.refl _⟩⟩
theorem Frm.sim {o o' : List O} (h : Frm o o' []) : Sim 2 o o' := by
  refine ⟨fun _ l cs hl => ?_,fun _ l v wr k xs hl => ?_⟩
  · obtain ⟨b,hb,hs⟩ := h.obj l _ (by simp) hl
    rcases hs with rfl | ⟨_,_,_,_,_,e,_⟩
    · exact hb
    · cases e
  · obtain ⟨b,hb,hs⟩ := h.obj l _ (by simp) hl
    rcases hs with rfl | ⟨_,_,_,_,_,e,rfl⟩
    · exact ⟨wr,hb⟩
    · cases e; exact ⟨_,hb⟩
theorem Frm.cells {o o' : List O} {S : List Nat} (h : Frm o o' S) {l : Nat} {cs : List V} (hl : o[l]? = some (.cells cs)) (hn : l ∉ S) : o'[l]? = some (.cells cs) := by
  obtain ⟨b,hb,hs⟩ := h.obj l _ hn hl
  rcases hs with rfl | ⟨_,_,_,_,_,e,_⟩
  · exact hb
  · cases e
theorem Frm.arr {o o' : List O} {S : List Nat} (h : Frm o o' S) {l v k : Nat} {w : Bool} {xs : List V} (hl : o[l]? = some (.arr v w k xs)) (hn : l ∉ S) : ∃ w',o'[l]? = some (.arr v w' k xs) := by
  obtain ⟨b,hb,hs⟩ := h.obj l _ hn hl
  rcases hs with rfl | ⟨_,_,_,_,_,e,rfl⟩
  · exact ⟨_,hb⟩
  · cases e; exact ⟨_,hb⟩
theorem get_lt {o : List O} {i : Nat} {a : O} (h : o[i]? = some a) : i < o.length := (List.getElem?_eq_some_iff.1 h).1
theorem get_app {o : List O} {l : List O} {i : Nat} {a : O} (h : o[i]? = some a) : (o ++ l)[i]? = some a := by rw [List.getElem?_append_left (get_lt h)]; exact h
theorem get_new {o : List O} {a : O} {l : List O} : (o ++ a :: l)[o.length]? = some a := by simp
theorem get_set {o : List O} {i : Nat} {a b : O} (h : o[i]? = some a) : (o.set i b)[i]? = some b := by simp [get_lt h]
/-! ### A slice in a cell: nil, or an array of the store's -/
def RowAt (o : List O) (k : Nat) (rv : V) (vs : List V) (A : List Nat) : Prop :=
  (rv = nilV ∧ vs = [] ∧ A = []) ∨ ∃ la v wr,rv = .ar la v ∧ o[la]? = some (.arr v wr k vs) ∧ A = [la]
theorem RowAt.row {o : List O} {k : Nat} {rv : V} {vs : List V} {A : List Nat} (h : RowAt o k rv vs A) : rowOf o rv = some vs := by
  rcases h with ⟨rfl,rfl,rfl⟩ | ⟨la,v,wr,rfl,h,rfl⟩
  · rfl
  · simp [rowOf,h]
theorem RowAt.frm {o o' : List O} {S : List Nat} {k : Nat} {rv : V} {vs : List V} {A : List Nat} (h : RowAt o k rv vs A) (hf : Frm o o' S) (hn : ∀ a,a ∈ A → a ∉ S) : RowAt o' k rv vs A := by
  rcases h with ⟨rfl,rfl,rfl⟩ | ⟨la,v,wr,rfl,h,rfl⟩
  · exact .inl ⟨rfl,rfl,rfl⟩
  · obtain ⟨w',h'⟩ := hf.arr h (hn la (by simp))
    exact .inr ⟨la,v,w',rfl,h',rfl⟩
theorem RowAt.lt {o : List O} {k : Nat} {rv : V} {vs : List V} {A : List Nat} (h : RowAt o k rv vs A) : ∀ a,a ∈ A → a < o.length := by
  rcases h with ⟨rfl,rfl,rfl⟩ | ⟨la,v,wr,rfl,h,rfl⟩
  · simp
  · intro a ha; simp at ha; subst ha; exact get_lt h
theorem RowAt.notCells {o : List O} {k : Nat} {rv : V} {vs : List V} {A : List Nat} (h : RowAt o k rv vs A) {l : Nat} {cs : List V} (hl : o[l]? = some (.cells cs)) : l ∉ A := by
  rcases h with ⟨rfl,rfl,rfl⟩ | ⟨la,v,wr,rfl,h,rfl⟩
  · simp
  · intro ha; simp at ha; subst ha; rw [h] at hl; cases hl
theorem RowAt.freeze {o : List O} {k : Nat} {rv : V} {vs : List V} {A : List Nat} (h : RowAt o k rv vs A) (hf : vs.all V.free = true) : ∃ w o1,freeze1 o rv = some (w,o1) ∧ IsSl k w vs ∧ Frm o o1 [] := by
  rcases h with ⟨rfl,rfl,rfl⟩ | ⟨la,v,wr,rfl,h,rfl⟩
  · exact ⟨nilV,o,rfl,.inl ⟨rfl,rfl⟩,.refl _ _⟩
  · exact ⟨.sl k false vs,o.set la (.arr v false k vs),by simp [freeze1,h,hf],.inr ⟨_,rfl⟩,Frm.setSame h (.inr ⟨_,_,_,_,_,rfl,rfl⟩)⟩
theorem RowAt.commit {o : List O} {k : Nat} {rv : V} {vs : List V} {A : List Nat} (h : RowAt o k rv vs A) (hf : vs.all V.free = true) : ∃ w o1,commits o [rv] = some ([w],o1) ∧ IsSl k w vs ∧ Frm o o1 [] := by
  obtain ⟨w,o1,h1,h2,h3⟩ := h.freeze hf
  refine ⟨w,o1, ?_,h2,h3⟩
  have : Pe.freeze o rv = some (w,o1) := by
    rcases h with ⟨rfl,rfl,rfl⟩ | ⟨la,v,wr,rfl,h,rfl⟩ <;> exact h1
  simp [commits,step.freezes',this]
theorem RowAt.slcHi {o : List O} {k : Nat} {rv : V} {vs : List V} {A : List Nat} (h : RowAt o k rv vs A) (hf : vs.all V.free = true) {hi : Nat} (hh : hi ≤ vs.length) :
    ∃ w o1,slcOf k o rv none (some (iV hi)) none = some (w,o1) ∧ IsSl k w (vs.take hi) ∧ Frm o o1 [] := by
  rcases h with ⟨rfl,rfl,rfl⟩ | ⟨la,v,wr,rfl,h,rfl⟩
  · simp at hh; subst hh
    exact ⟨nilV,o,by simp [slcOf,freeze1,V.free1,boundV,intOf],.inl ⟨rfl,by simp⟩,.refl _ _⟩
  · refine ⟨.sl k (false && decide (hi = vs.length)) ((vs.take hi).drop 0),o.set la (.arr v false k vs), ?_,.inr ⟨false && decide (hi = vs.length),by simp⟩,Frm.setSame h (.inr ⟨_,_,_,_,_,rfl,rfl⟩)⟩
    simp [slcOf,freeze1,h,hf,boundV,intOf,hh]
theorem RowAt.push {o : List O} {k b : Nat} {rv : V} {vs : List V} {A : List Nat} (h : RowAt o k rv vs A) {f : Bool} {y : V} (hk : okRow k [y]) (hr : (vs.length + 1) * b ≤ room) :
    ∃ rv' o1 A',appOf k b o rv (.sl k f [y]) = some (rv',o1) ∧ RowAt o1 k rv' (vs ++ [y]) A' ∧ Frm o o1 A ∧ ∀ a,a ∈ A' → a ∈ A ∨ o.length ≤ a := by
  rcases h with ⟨rfl,rfl,rfl⟩ | ⟨la,v,wr,rfl,h,rfl⟩
  · refine ⟨_,_,[o.length],ap_nil rfl hk (by simp) (by simpa using hr),.inr ⟨_,0,true,rfl,by simp,rfl⟩,.app _ _ _,fun a ha => ?_⟩
    simp at ha; omega
  · exact ⟨_,_,[la],ap_ar h rfl hk (by simp) hr,.inr ⟨_,_,_,rfl,get_set h,rfl⟩,.set (by simp),fun a ha => .inl ha⟩

def RowV (o : List O) (k : Nat) (rv : V) (vs : List V) (A : List Nat) : Prop := (IsSl k rv vs ∧ A = []) ∨ RowAt o k rv vs A
theorem RowV.row {o : List O} {k : Nat} {rv : V} {vs : List V} {A : List Nat} (h : RowV o k rv vs A) : rowOf o rv = some vs := by
  rcases h with ⟨h,_⟩ | h
  · exact h.row o
  · exact h.row
theorem RowV.frm {o o' : List O} {S : List Nat} {k : Nat} {rv : V} {vs : List V} {A : List Nat} (h : RowV o k rv vs A) (hf : Frm o o' S) (hn : ∀ a,a ∈ A → a ∉ S) : RowV o' k rv vs A := by
  rcases h with h | h
  · exact .inl h
  · exact .inr (h.frm hf hn)
theorem RowV.cases {o : List O} {k : Nat} {rv : V} {vs : List V} {A : List Nat} (h : RowV o k rv vs A) {i : Nat} {y : V} (hy : vs[i]? = some y) :
    (ixOf k o rv (iV i) = some (.ep y.cells,o)) ∨ ∃ la v wr,ixOf k o rv (iV i) = some (.pa la v i 0,o) ∧ o[la]? = some (.arr v wr k vs) := by
  rcases h with ⟨h,_⟩ | h
  · exact .inl (h.ix o hy)
  · rcases h with ⟨rfl,rfl,rfl⟩ | ⟨la,v,wr,rfl,h,rfl⟩
    · simp at hy
    · have hlt : i < vs.length := (List.getElem?_eq_some_iff.1 hy).1
      exact .inr ⟨la,v,wr,by simp [ixOf,intOf,h,hlt],h⟩
theorem RowV.solid {o : List O} {k : Nat} {rv : V} {vs : List V} {A : List Nat} (h : RowV o k rv vs A) : rv.solid = true ∧ rv.cells = [rv] := by
  rcases h with ⟨h,_⟩ | h
  · exact ⟨h.solid,h.cells⟩
  · rcases h with ⟨rfl,_⟩ | ⟨_,_,_,rfl,_⟩ <;> exact ⟨rfl,rfl⟩

/-! ### Calls along the store -/
theorem IsSl.depA {k : Nat} {v : V} {xs : List V} (h : IsSl k v xs) : v.depA = 0 := by
  rcases h with ⟨rfl,_⟩ | ⟨f,rfl⟩ <;> rfl
theorem call3 {f : FuncId} {xs ys : List V} {o o1 : List O} {yi : Nat → Sem'} {K : V → List O → Prop} (hm : T.mode f = 3) (hc : evCallV.commits' o xs = some (ys,o1)) (h : Pe.Call P T noY f ys o1 fun y o' => Sim 2 o1 o' ∧ K y o') :
    evCallV T (Pe.Call P T) yi (.fn (.func f) [] []) xs o K := by
  have h1 : ¬ T.mode f < 2 := by omega
  simp only [evCallV,List.nil_append,List.append_nil]
  rw [if_neg h1,if_pos hm,hc]
  exact h
theorem call2 {f : FuncId} {as bs xs ys : List V} {o o1 : List O} {yi : Nat → Sem'} {K : V → List O → Prop} (hm : T.mode f = 2) (hc : evCallV.commits' o (as ++ xs ++ bs) = some (ys,o1)) (h : Pe.Call P T yi f ys o1 K) :
    evCallV T (Pe.Call P T) yi (.fn (.func f) as bs) xs o K := by
  have h1 : ¬ T.mode f < 2 := by omega
  have h3 : ¬ T.mode f = 3 := by omega
  simp only [evCallV]
  rw [if_neg h1,if_neg h3,if_pos hm,hc]
  exact h
theorem cm_nil {o : List O} : evCallV.commits' o [] = some ([],o) := rfl
theorem cm_keep {o o' : List O} {x : V} {xs ys : List V} (hx : freeze o x = none) (h : evCallV.commits' o xs = some (ys,o')) : evCallV.commits' o (x :: xs) = some (x :: ys,o') := by
  simp only [evCallV.commits',hx,Option.getD_none,h]
theorem cm_free {o o' : List O} {x : V} {xs ys : List V} (hx : x.free = true) (h : evCallV.commits' o xs = some (ys,o')) : evCallV.commits' o (x :: xs) = some (x :: ys,o') := by
  simp only [evCallV.commits',freeze_free hx,Option.getD_some,h]
theorem cm_pt {o o' : List O} {l a : Nat} {xs ys : List V} (h : evCallV.commits' o xs = some (ys,o')) : evCallV.commits' o (.pt l a :: xs) = some (.pt l a :: ys,o') := cm_keep rfl h
end Go.Proofs.Pe
end

section
set_option linter.unusedVariables false
namespace Go.Proofs.Pe
variable {P : Program} {T : Tab}

/-! ### A loop over a function -/
def yl (P : Program) (T : Tab) (ca : Ca) (lp : Bd → Bd) (ps : Array Tmp) (assign body : Code) (cass cb : C) (yi : Nat → Sem') (l : Nat) : Sem' := fun xs o K => match o[l]? with
  | some (.loop .ready pend ts ps' a' b' dl') => (ps' = ps ∧ a' = assign ∧ b' = body ∧ xs.length = ps.size) ∧
    ev P T ca lp cass (some l) yi { s := { t := setTs ts (ps.toList.zip xs),o := o },m := [] } fun x f1 => match x with
      | .normal => match f1.s.o[l]? with
        | some (.loop .ready p1 ts1 ps1 a1 b1 dl1) =>
          ev P T ca lp cb (some l) yi { f1 with s := { f1.s with o := f1.s.o.set l (.loop .busy p1 ts1 ps1 a1 b1 dl1) } } fun x2 f2 => match f2.s.o[l]? with
            | some (.loop st2 p2 ts2 ps2 a2 b2 dl2) => K (.sc (.bool (jumpOf x2).isNone)) (f2.s.o.set l (.loop (if (jumpOf x2).isNone then .ready else .done) (jumpOf x2) ts2 ps2 a2 b2 dl2))
            | _ => False
        | _ => False
      | _ => False
  | _ => False
def rEnd (dl : Nat) (t : List V) (m : List Nat) (Φ : X → Fr → Prop) : V → List O → Prop := fun _ o3 => match o3[dl + 1]? with
  | some (.loop st3 p3 ts3 ps3 a3 b3 dl3) => if st3 = .busy then False else
    match xOf p3 with
    | none => False
    | some x3 => Φ x3 ⟨⟨t,o3.set (dl + 1) (.loop .exhausted p3 ts3 ps3 a3 b3 dl3)⟩,dl :: m⟩
  | _ => False
theorem ev_rfun {ca : Ca} {lp : Bd → Bd} {x : E} {ps : Array Tmp} {assign body : Code} {cass cb : C} {yi : Nat → Sem'} {t : List V} {o : List O} {m : List Nat} {Φ : X → Fr → Prop} {fn : FuncId} {as bs : List V} (hx : E.ev ⟨t,o⟩ x = .fn (.func fn) as bs)
    (h : evCallV T ca (fun l' => if l' = o.length + 1 then yl P T ca lp ps assign body cass cb yi (o.length + 1) else yi l') (.fn (.func fn) as bs) [.fn (.yield (o.length + 1)) [] []]
      (o ++ [.dfd (.sh false),.loop .ready none t ps assign body o.length]) (rEnd o.length t m Φ)) : ev P T ca lp (.rfun x ps assign body cass cb) none yi ⟨⟨t,o⟩,m⟩ Φ := by
  unfold ev
  dsimp only
  rw [hx]
  dsimp only
  have e1 : (o ++ [O.dfd (.sh false)]).length = o.length + 1 := by simp
  have e2 : o ++ [O.dfd (.sh false)] ++ [O.loop .ready none t ps assign body o.length] = o ++ [.dfd (.sh false),.loop .ready none t ps assign body o.length] := by simp
  rw [e1,e2]
  exact h
theorem yl_mono {ca : Ca} {lp : Bd → Bd} (hc : CLe ca ca) (hl : LLe lp lp) {ps : Array Tmp} {assign body : Code} {cass cb : C} {yi : Nat → Sem'} (hy : YLe yi yi) (l : Nat) : SLe (yl P T ca lp ps assign body cass cb yi l) (yl P T ca lp ps assign body cass cb yi l) := by
  intro xs o K K' hK h
  unfold yl at h ⊢
  split at h
  · refine ⟨h.1,ev_mono hc hl cass _ yi yi hy _ _ _ (fun x f1 h => ?_) h.2⟩
    cases x with
    | normal =>
      dsimp only at h ⊢
      split at h
      · refine ev_mono hc hl cb _ yi yi hy _ _ _ (fun x2 f2 h => ?_) h
        split at h
        · exact hK _ _ h
        · exact h.elim
      · exact h.elim
    | _ => exact h.elim
  · exact h.elim
theorem yl_le {ca : Ca} {lp : Bd → Bd} (hc : CLe ca ca) (hl : LLe lp lp) {ps : Array Tmp} {assign body : Code} {cass cb : C} {yi : Nat → Sem'} (hy : YLe yi yi) (l : Nat) :
    YLe (fun l' => if l' = l then yl P T ca lp ps assign body cass cb yi l else yi l') (fun l' => if l' = l then yl P T ca lp ps assign body cass cb yi l else yi l') := by
  intro l' xs o K K' hK h
  try dsimp only at h ⊢
  split at h
  · rename_i e; rw [if_pos e]; exact yl_mono hc hl hy l xs o K K' hK h
  · rename_i e; rw [if_neg e]; exact hy l' xs o K K' hK h
theorem rEnd_in {dl : Nat} {t : List V} {m : List Nat} {Φ : X → Fr → Prop} {y : V} {o3 : List O} {st3 : LoopState} {p3 : Option Code} {ts3 : List V} {ps3 : Array Tmp} {a3 b3 : Code} {dl3 : Nat} {x3 : X}
    (ho : o3[dl + 1]? = some (.loop st3 p3 ts3 ps3 a3 b3 dl3)) (hs : st3 ≠ .busy) (hp : xOf p3 = some x3) (h : Φ x3 ⟨⟨t,o3.set (dl + 1) (.loop .exhausted p3 ts3 ps3 a3 b3 dl3)⟩,dl :: m⟩) : rEnd dl t m Φ y o3 := by
  unfold rEnd
  rw [ho]
  dsimp only
  rw [if_neg hs,hp]
  exact h
theorem shut_one {o : List O} {dl : Nat} {m : List Nat} (h : o[dl]? = some (.dfd (.sh false))) : shut o (dl :: m) = shut (o.set dl (.dfd (.sh true))) m := by
  simp only [shut,h]
theorem retK_one {res : List Rv} {K : V → List O → Prop} {t : List V} {o : List O} {dl : Nat} (h : o[dl]? = some (.dfd (.sh false))) :
    retK res K ⟨⟨t,o⟩,[dl]⟩ = outK K (o.set dl (.dfd (.sh true))) (rets ⟨t,o.set dl (.dfd (.sh true))⟩ res) := by
  simp only [retK,shut_one h,shut_nil]
theorem Frm.keep {o o' : List O} {S : List Nat} (h : Frm o o' S) {l : Nat} {a : O} (hl : o[l]? = some a) (hn : l ∉ S) (ha : ∀ v w k xs,a ≠ .arr v w k xs) : o'[l]? = some a := by
  obtain ⟨b,hb,hs⟩ := h.obj l _ hn hl
  rcases hs with rfl | ⟨_,_,_,_,_,e,_⟩
  · exact hb
  · exact absurd e (ha _ _ _ _)
end Go.Proofs.Pe
end

section
set_option linter.unusedVariables false
namespace Go.Proofs.Pe
variable {P : Program} {T : Tab}

/-! ### A row that a function made -/
def Fresh (z : V) (o : List O) (k : Nat) (ws : List V) : Prop := (z = nilV ∧ ws = []) ∨ (z = .sl k true [] ∧ ws = []) ∨ ∃ l v,z = .ar l v ∧ o[l]? = some (.arr v true k ws)
theorem Fresh.row {z : V} {o : List O} {k : Nat} {ws : List V} (h : Fresh z o k ws) : rowOf o z = some ws := by
  rcases h with ⟨rfl,rfl⟩ | ⟨rfl,rfl⟩ | ⟨l,v,rfl,h⟩
  · rfl
  · rfl
  · simp [rowOf,h]
def PAr (P : Program) (T : Tab) (f : FuncId) (xs : List V) (k : Nat) (Q : List V → Prop) : Prop :=
  ∀ yi,YLe yi yi → Call P T yi f xs [] fun y o' => ∃ ws,Fresh y o' k ws ∧ ws.all V.free = true ∧ Q ws
theorem PAr.callF {f : FuncId} {k : Nat} {xs : List V} {Q : List V → Prop} {o : List O} {yi : Nat → Sem'} {K : V → List O → Prop} (h : PAr P T f xs k Q) (hm : T.mode f = 1) (hx : ∀ x,x ∈ xs → x.free = true)
    (hK : ∀ z ext ws,Q ws → ws.all V.free = true → Fresh z (o ++ ext) k ws → (∀ l v,z = .ar l v → l = o.length) → K z (o ++ ext)) : evCallV T (Call P T) yi (.fn (.func f) [] []) xs o K := by
  have hm' : T.mode f < 2 := by omega
  simp only [evCallV,hm',if_true,List.nil_append,List.append_nil,commits_free hx]
  refine call_le _ _ f noY_le _ _ _ _ (fun y o' hh => ?_) (h _ noY_le)
  obtain ⟨ws,h1,hf,h2⟩ := hh
  rw [hm]
  rcases h1 with ⟨rfl,rfl⟩ | ⟨rfl,rfl⟩ | ⟨l,v,rfl,h1⟩
  · have := hK nilV [] [] h2 hf (.inl ⟨rfl,rfl⟩) (fun l v e => by cases e)
    rw [List.append_nil] at this
    exact this
  · have := hK (.sl k true []) [] [] h2 hf (.inr (.inl ⟨rfl,rfl⟩)) (fun l v e => by cases e)
    rw [List.append_nil] at this
    exact this
  · show match o'[l]? with
      | some (.arr v' wr k ws) => if v' = v ∧ ws.all V.free = true then K (.ar o.length 0) (o ++ [.arr 0 wr k ws]) else False
      | _ => False
    rw [h1]
    dsimp only
    rw [if_pos ⟨rfl,hf⟩]
    exact hK _ _ ws h2 hf (.inr (.inr ⟨_,_,rfl,by simp⟩)) (fun l v e => by cases e; rfl)
theorem Fresh.app {z : V} {o : List O} {k : Nat} {ws : List V} (h : Fresh z o k ws) (l : List O) : Fresh z (o ++ l) k ws := by
  rcases h with h | h | ⟨l',v,rfl,h⟩
  · exact .inl h
  · exact .inr (.inl h)
  · exact .inr (.inr ⟨l',v,rfl,get_app h⟩)
theorem Fresh.same {x : V} {o o1 : List O} {k : Nat} {vs : List V} (h : Fresh x o k vs) (hs : ∀ l v,x = .ar l v → o1[l]? = o[l]?) : Fresh x o1 k vs := by
  rcases h with h | h | ⟨l,v,rfl,h⟩
  · exact .inl h
  · exact .inr (.inl h)
  · exact .inr (.inr ⟨l,v,rfl,by rw [hs l v rfl]; exact h⟩)
def okRowS (k : Nat) (ys : List V) : Prop := (ys.all fun y => y.solid && decide (y.cells.length = k)) = true
theorem okRow.s {k : Nat} {ys : List V} (h : okRow k ys) : okRowS k ys := by
  unfold okRow at h; unfold okRowS
  simp only [List.all_eq_true,Bool.and_eq_true,decide_eq_true_eq] at h ⊢
  exact fun y hy => ⟨free_solid (h y hy).1,(h y hy).2⟩
theorem rowIf {k : Nat} {ys : List V} (h : okRowS k ys) : (if (ys.all fun y => y.free && decide (y.cells.length = k)) = true then some ys else if (ys.all fun y => y.solid && decide (y.cells.length = k)) = true then some ys else none) = some ys := by
  unfold okRowS at h
  rw [if_pos h]; split <;> rfl
theorem aps_nil {k b : Nat} {o : List O} {y : V} {ys : List V} (hy : rowOf o y = some ys) (hk : okRowS k ys) (hn : ys ≠ []) (hr : ys.length * b ≤ room) : appOf k b o nilV y = some (.ar o.length 0,o ++ [O.arr 0 true k ys]) := by
  simp only [appOf,hy,Option.bind_some,rowIf hk,hn,if_false,hr,if_true]
theorem aps_full {k b : Nat} {o : List O} {y : V} {xs ys : List V} (hy : rowOf o y = some ys) (hk : okRowS k ys) (hn : ys ≠ []) (hr : (xs.length + ys.length) * b ≤ room) : appOf k b o (.sl k true xs) y = some (.ar o.length 0,o ++ [O.arr 0 true k (xs ++ ys)]) := by
  simp only [appOf,hy,Option.bind_some,rowIf hk,hn,if_false,hr,and_self,if_true]
theorem aps_ar {k b : Nat} {o : List O} {y : V} {xs ys : List V} {l v : Nat} {wr : Bool} (hl : o[l]? = some (.arr v wr k xs)) (hy : rowOf o y = some ys) (hk : okRowS k ys) (hn : ys ≠ []) (hr : (xs.length + ys.length) * b ≤ room) :
    appOf k b o (.ar l v) y = some (.ar l (v + 1),o.set l (O.arr (v + 1) wr k (xs ++ ys))) := by
  simp only [appOf,hy,Option.bind_some,rowIf hk,hn,if_false,hr,and_self,if_true,hl]
theorem Fresh.push {w y : V} {o : List O} {k b : Nat} {f : Bool} {vs : List V} (h : Fresh w o k vs) (hk : okRowS k [y]) (hr : (vs.length + 1) * b ≤ room) :
    ∃ l v o',appOf k b o w (.sl k f [y]) = some (.ar l v,o') ∧ o'[l]? = some (.arr v true k (vs ++ [y])) ∧ o.length ≤ o'.length ∧ (∀ i,i ≠ l → i < o.length → o'[i]? = o[i]?) ∧ ((∃ v0,w = .ar l v0) ∨ l = o.length) := by
  rcases h with ⟨rfl,rfl⟩ | ⟨rfl,rfl⟩ | ⟨l,v,rfl,h⟩
  · exact ⟨_,_,_,aps_nil rfl hk (by simp) (by simpa using hr),get_new,by simp,fun i _ hi => List.getElem?_append_left hi,.inr rfl⟩
  · exact ⟨_,_,_,aps_full rfl hk (by simp) (by simpa using hr),get_new,by simp,fun i _ hi => List.getElem?_append_left hi,.inr rfl⟩
  · exact ⟨_,_,_,aps_ar h rfl hk (by simp) hr,get_set h,by simp,fun i hi _ => List.getElem?_set_ne (fun e => hi e.symm),.inl ⟨_,rfl⟩⟩
theorem set_new {o : List O} {a b : O} {l : List O} : (o ++ a :: l).set o.length b = o ++ b :: l := by simp
theorem frzD_free {o : List O} {x : V} (h : x.free = true) : freezeD o x = some (x,o) := by
  cases x with
  | ar l v => cases h
  | _ => exact freeze_free h
theorem frzT_tup {o : List O} {x y : V} (hx : x.free = true) (hy : y.free = true) : freezeT o (.tup [x,y]) = some (.tup [x,y],o) := by
  simp only [freezeT,freezeDs,frzD_free hx,frzD_free hy,Option.map_some]
theorem frzT_free {o : List O} {x : V} (h : x.free = true) : freezeT o x = some (x,o) := by
  cases x with
  | ar l v => cases h
  | tup l => cases h
  | _ => exact freeze_free h
theorem Fresh.solid {z : V} {o : List O} {k : Nat} {ws : List V} (h : Fresh z o k ws) : z.solid = true ∧ z.cells = [z] ∧ z.one = true := by
  rcases h with ⟨rfl,rfl⟩ | ⟨rfl,rfl⟩ | ⟨l,v,rfl,h⟩ <;> exact ⟨rfl,rfl,rfl⟩
end Go.Proofs.Pe
end

section
set_option linter.unusedVariables false
namespace Go.Proofs.Pe
variable {P : Program} {T : Tab}

/-! ### Texts as lists of bytes -/
abbrev tV (l : List UInt8) : V := .sc (.string ⟨l.toArray⟩)
abbrev cV (c : UInt8) : V := .sc (.int .u8 c.toNat)
theorem bsz (l : List UInt8) : (ByteArray.mk l.toArray).size = l.length := rfl
theorem bix (l : List UInt8) (i : Nat) : (ByteArray.mk l.toArray)[i]? = l[i]? := by
  by_cases h : i < l.length
  · rw [List.getElem?_eq_getElem h,getElem?_pos (ByteArray.mk l.toArray) i h]; rfl
  · rw [List.getElem?_eq_none (by omega),getElem?_neg (ByteArray.mk l.toArray) i h]
theorem nn (i : Nat) : ((0 : Int) ≤ (i : Int)) = True := by simp
theorem btl_loop (l : List UInt8) : ∀ (n i : Nat) (r : List UInt8),l.length - i = n → ByteArray.toList.loop ⟨l.toArray⟩ i r = r.reverse ++ l.drop i
  | 0,i,r,h => by
    unfold ByteArray.toList.loop
    rw [if_neg (by show ¬ i < l.length; omega),List.drop_of_length_le (by omega)]; simp
  | n + 1,i,r,h => by
    have hi : i < l.length := by omega
    unfold ByteArray.toList.loop
    rw [if_pos (show i < (ByteArray.mk l.toArray).size from hi),btl_loop l n (i + 1) _ (by omega),List.drop_eq_getElem_cons hi]
    simp [ByteArray.get!,hi]
theorem btl (l : List UInt8) : (ByteArray.mk l.toArray).toList = l := by
  unfold ByteArray.toList
  rw [btl_loop l _ 0 [] rfl]; simp
theorem bext (l : List UInt8) (a b : Nat) : (ByteArray.mk l.toArray).extract a b = ⟨((l.take b).drop a).toArray⟩ := by
  have : ((ByteArray.mk l.toArray).extract a b).data = ((l.take b).drop a).toArray := by
    rw [ByteArray.data_extract]
    apply Array.ext'
    simp [List.extract_eq_take_drop,List.drop_take]
  cases h : (ByteArray.mk l.toArray).extract a b with
  | mk d => rw [h] at this; exact congrArg ByteArray.mk this
theorem bapp (a b : List UInt8) : (ByteArray.mk a.toArray) ++ (ByteArray.mk b.toArray) = ⟨(a ++ b).toArray⟩ := by
  have : ((ByteArray.mk a.toArray) ++ (ByteArray.mk b.toArray)).data = (a ++ b).toArray := by
    rw [ByteArray.data_append]; simp
  cases h : (ByteArray.mk a.toArray) ++ (ByteArray.mk b.toArray) with
  | mk d => rw [h] at this; exact congrArg ByteArray.mk this
theorem ssl_t {l : List UInt8} {a b : Nat} (h1 : a ≤ b) (h2 : b ≤ l.length) (o : List O) : sslOf o (tV l) (some (iV a)) (some (iV b)) = some (tV ((l.take b).drop a),o) := by
  simp [sslOf,boundV,intOf,bsz,h1,h2,bext]
theorem ssl_lo {l : List UInt8} {a : Nat} (h1 : a ≤ l.length) (o : List O) : sslOf o (tV l) (some (iV a)) none = some (tV (l.drop a),o) := by
  simp [sslOf,boundV,intOf,bsz,h1,bext]
theorem ssl_hi {l : List UInt8} {b : Nat} (h2 : b ≤ l.length) (o : List O) : sslOf o (tV l) none (some (iV b)) = some (tV (l.take b),o) := by
  simp [sslOf,boundV,intOf,bsz,h2,bext]
theorem sop_eq {a b : List UInt8} : sop .eql ⟨a.toArray⟩ ⟨b.toArray⟩ = some (.bool (a == b)) := by simp only [sop,btl]
theorem sop_ne {a b : List UInt8} : sop .neq ⟨a.toArray⟩ ⟨b.toArray⟩ = some (.bool !(a == b)) := by simp only [sop,btl]

/-! ### A run of bytes -/
def rnN (p : UInt8 → Bool) (l : List UInt8) : Nat := (l.takeWhile p).length
theorem rnN_le (p : UInt8 → Bool) : ∀ l,rnN p l ≤ l.length
  | [] => Nat.le_refl _
  | c :: l => by
    have := rnN_le p l
    unfold rnN at *
    rw [List.takeWhile_cons]
    split <;> simp <;> omega
theorem rnN_in (p : UInt8 → Bool) : ∀ {l : List UInt8} {n : Nat},n < rnN p l → ∃ c,l[n]? = some c ∧ p c = true
  | [],n,h => by simp [rnN] at h
  | c :: l,n,h => by
    unfold rnN at h
    rw [List.takeWhile_cons] at h
    split at h
    · rename_i hc
      cases n with
      | zero => exact ⟨c,rfl,hc⟩
      | succ n => simpa using rnN_in p (l := l) (n := n) (by unfold rnN; simp at h; omega)
    · simp at h
theorem rnN_out (p : UInt8 → Bool) : ∀ (l : List UInt8),rnN p l = l.length ∨ ∃ c,l[rnN p l]? = some c ∧ p c = false
  | [] => .inl rfl
  | c :: l => by
    unfold rnN
    rw [List.takeWhile_cons]
    split
    · rcases rnN_out p l with h | ⟨d,h,hd⟩
      · exact .inl (by unfold rnN at h; simp [h])
      · exact .inr ⟨d,by unfold rnN at h; simpa using h,hd⟩
    · rename_i hc; exact .inr ⟨c,rfl,by simpa using hc⟩
end Go.Proofs.Pe
end

section
set_option linter.unusedVariables false
namespace Go.Proofs.Pe
variable {P : Program}

theorem pureRun_bind2 {α β : Type} {m : Sem α} {f : α → Sem β} {a : α} (h : pureRun P m = some a) : pureRun P (m >>= f) = pureRun P (f a) := by
  show pureRun P (Sem.bind m f) = _
  induction m with
  | pure b => simp only [pureRun,Option.some.injEq] at h; subst h; rfl
  | program k ih => simp only [pureRun] at h; simp only [Sem.bind,pureRun]; exact ih P h
  | _ => simp [pureRun] at h
theorem q_sca {T : Tab} {ca : Ca} {yi : Nat → Sem'} {t : List V} {o : List O} {K : V → List O → Prop} {op : Oper} : evK P T ca yi (.sca op) t o K = oK (Pe.step P ⟨t,o⟩ (.sca op)) K := propext Iff.rfl
end Go.Proofs.Pe
end

section
set_option linter.unusedVariables false
set_option linter.unusedSimpArgs false
namespace Go.Proofs.Pe
variable {P : Program}

/-! ### Data that came in: numbers, texts, structs and slices of such, to any depth -/
theorem mapM_get {α β : Type} {f : α → Option β} : ∀ {l : List α} {ys : List β},l.mapM f = some ys → ys.length = l.length ∧ ∀ (i : Nat) (x : α),l[i]? = some x → ∃ y,ys[i]? = some y ∧ f x = some y
  | [],ys,h => by
    simp only [List.mapM_nil] at h
    cases h
    exact ⟨rfl,fun i x h => by simp at h⟩
  | a :: l,ys,h => by
    simp only [List.mapM_cons,Option.bind_eq_bind,Option.pure_def] at h
    cases ha : f a with
    | none => rw [ha] at h; cases h
    | some b =>
      rw [ha] at h
      simp only [Option.bind_some] at h
      cases hl : l.mapM f with
      | none => rw [hl] at h; cases h
      | some bs =>
        rw [hl] at h
        simp only [Option.bind_some] at h
        cases h
        obtain ⟨h1,h2⟩ := mapM_get hl
        refine ⟨by simp [h1],fun i x hx => ?_⟩
        cases i with
        | zero => simp at hx; subst hx; exact ⟨b,rfl,ha⟩
        | succ i => simp at hx; exact h2 i x hx
def elV : List V → V
  | [x] => x
  | zs => .agg zs
def lay (P : Program) : Nat → List Field → Option Nat
  | off,[] => some off
  | off,f :: fs => if f.offset = off then lay P (off + P.cellsOf f.type) fs else none
def okTy (P : Program) (S : List TypeId) (t : TypeId) : Bool := match P.underlying t with
  | some .bool | some (.int _) | some .string => P.cellsOf t == 1
  | some (.slice e) => (P.cellsOf t == 1) && decide (0 < P.cellsOf e) && S.contains e
  | some (.struct fs) => (fs.toList.all fun f => S.contains f.type) && (lay P 0 fs.toList == some (P.cellsOf t))
  | _ => false
def okTys (P : Program) (S : List TypeId) : Bool := S.all (okTy P S)
def VT (P : Program) : Nat → TypeId → List V → Prop
  | 0,_,_ => False
  | n + 1,t,xs => match P.underlying t with
    | some .bool => ∃ b,xs = [.sc (.bool b)]
    | some (.int k) => ∃ z,(Lit.int k z).wf = true ∧ xs = [.sc (.int k z)]
    | some .string => ∃ s : ByteArray,s.size ≤ maxLen ∧ xs = [.sc (.string s)]
    | some (.slice e) => xs = [nilV] ∨ ∃ ys : List V,xs = [.sl (P.cellsOf e) false ys] ∧ ys.length ≤ maxLen ∧ ∀ y ∈ ys,∃ zs,y = elV zs ∧ zs.length = P.cellsOf e ∧ VT P n e zs
    | some (.struct fs) => ∃ segs : List (List V),xs = segs.flatten ∧ segs.length = fs.toList.length ∧ ∀ (i : Nat) f seg,fs.toList[i]? = some f → segs[i]? = some seg → VT P n f.type seg
    | _ => False
structure Cells (w : World) (xs : List V) (cs : List Value) : Prop where
  len : xs.length = cs.length
  rep : ∀ (j : Nat) y u,xs[j]? = some y → cs[j]? = some u → Rep w.heap (gW w) [] y u
  one : ∀ y ∈ xs,y.free1 = true ∧ y.cells = [y]
theorem elV_cells {zs : List V} (h : ∀ y ∈ zs,y.free1 = true ∧ y.cells = [y]) : (elV zs).cells = zs ∧ (elV zs).free = true := by
  cases zs with
  | nil => exact ⟨rfl,rfl⟩
  | cons x r =>
    cases r with
    | nil =>
      obtain ⟨h1,h2⟩ := h x (List.mem_cons_self ..)
      refine ⟨h2, ?_⟩
      show V.free x = true
      cases x <;> first | exact h1 | (simp [V.free1] at h1)
    | cons y r =>
      refine ⟨rfl, ?_⟩
      show (x :: y :: r).all V.free1 = true
      rw [List.all_eq_true]
      exact fun z hz => (h z hz).1
theorem Cells.one1 {w : World} {y : V} {u : Value} (hr : Rep w.heap (gW w) [] y u) (h1 : y.free1 = true) (h2 : y.cells = [y]) : Cells w [y] [u] where
  len := rfl
  rep := fun j a b ha hb => by
    cases j with
    | zero => cases ha; cases hb; exact hr
    | succ j => simp at ha
  one := fun a ha => by
    rcases List.mem_singleton.1 ha with rfl
    exact ⟨h1,h2⟩
theorem Cells.app {w : World} {xs ys : List V} {as bs : List Value} (h1 : Cells w xs as) (h2 : Cells w ys bs) : Cells w (xs ++ ys) (as ++ bs) where
  len := by simp [h1.len,h2.len]
  rep := fun j y u hy hu => by
    by_cases hj : j < xs.length
    · rw [List.getElem?_append_left hj] at hy
      rw [List.getElem?_append_left (by rw [← h1.len]; exact hj)] at hu
      exact h1.rep j y u hy hu
    · rw [List.getElem?_append_right (by omega)] at hy
      rw [List.getElem?_append_right (by rw [← h1.len]; omega),← h1.len] at hu
      exact h2.rep _ y u hy hu
  one := fun y hy => by
    rcases List.mem_append.1 hy with h | h
    · exact h1.one y h
    · exact h2.one y h
theorem cells_get {w : World} {base : Nat} {a : Addr} {n : Nat} {l : List Value} (h : w.cells? base a n = some l) : l.length = n ∧ ∀ i,i < n → w.cell? (a.add i) = l[i]? := by
  unfold World.cells? at h
  split at h
  · obtain ⟨h1,h2⟩ := mapM_get h
    refine ⟨by simpa using h1,fun i hi => ?_⟩
    obtain ⟨y,h3,h4⟩ := h2 i i (by simp [hi])
    rw [h3,h4]
  · cases h
theorem Cells.lay {w : World} {Q : Nat → List V → Prop} : ∀ (fs : List Field) (off m : Nat) (cs : List Value),lay P off fs = some m → cs.length = m → off ≤ m →
    (∀ (i : Nat) (f : Field),fs[i]? = some f → ∃ xs,Cells w xs ((cs.drop f.offset).take (P.cellsOf f.type)) ∧ xs.length = P.cellsOf f.type ∧ Q i xs) →
    ∃ segs : List (List V),Cells w segs.flatten (cs.drop off) ∧ segs.length = fs.length ∧ ∀ (i : Nat) seg,segs[i]? = some seg → i < fs.length → Q i seg
  | [],off,m,cs,h,hl,ho,_ => by
    simp only [Pe.lay,Option.some.injEq] at h
    subst h
    refine ⟨[], ?_,rfl,fun i seg hs => by simp at hs⟩
    rw [List.drop_of_length_le (by omega)]
    exact ⟨rfl,fun j y u hy => by simp at hy,fun y hy => by simp at hy⟩
  | f :: fs,off,m,cs,h,hl,ho,hf => by
    simp only [Pe.lay] at h
    split at h
    · rename_i hoff
      obtain ⟨xs,h1,h2,h3⟩ := hf 0 f rfl
      have hlen := h1.len
      rw [hoff,List.length_take,List.length_drop] at hlen
      have hle : ∀ (fs : List Field) (a b : Nat),Pe.lay P a fs = some b → a ≤ b := by
        intro fs
        induction fs with
        | nil => intro a b h; simp only [Pe.lay,Option.some.injEq] at h; omega
        | cons g gs ih =>
          intro a b h
          simp only [Pe.lay] at h
          split at h
          · have := ih _ _ h; omega
          · cases h
      have hm := hle _ _ _ h
      obtain ⟨segs,k1,k2,k3⟩ := Cells.lay (Q := fun i => Q (i + 1)) fs (off + P.cellsOf f.type) m cs h hl hm (fun i g hg => hf (i + 1) g (by simpa using hg))
      refine ⟨xs :: segs, ?_,by simp [k2],fun i seg hs hi => ?_⟩
      · rw [List.flatten_cons]
        have e : cs.drop off = (cs.drop off).take (P.cellsOf f.type) ++ cs.drop (off + P.cellsOf f.type) := by
          rw [← List.drop_drop,List.take_append_drop]
        rw [e]
        rw [hoff] at h1
        exact h1.app k1
      · cases i with
        | zero => simp at hs; subst hs; exact h3
        | succ i => exact k3 i seg (by simpa using hs) (by simpa using hi)
    · cases h
theorem trod_rep {H : Type} {enc : TypeId × Value → H} {w : World} {S : List TypeId} (hS : okTys P S = true) : ∀ (n : Nat) (t : TypeId) (cs : List Value) (x : DataW H × List MemPlace),t ∈ S →
    DataW.trod enc P w 0 (fun _ => true) true n t cs = some x → cs.length = P.cellsOf t ∧ ∃ xs,Cells w xs cs ∧ VT P n t xs
  | 0,t,cs,x,ht,h => by simp [DataW.trod] at h
  | n + 1,t,cs,x,ht,h => by
    have hok : okTy P S t = true := List.all_eq_true.1 hS t ht
    unfold okTy at hok
    cases hu : P.underlying t with
    | none => rw [hu] at hok; cases hok
    | some ty =>
      rw [hu] at hok
      cases ty
      case bool =>
        obtain ⟨b,rfl,_⟩ := DataW.trod_bool hu h
        dsimp only at hok
        refine ⟨by simpa using (eq_of_beq hok).symm,[.sc (.bool b)],Cells.one1 (.sc rfl) rfl rfl, ?_⟩
        simp only [VT,hu]; exact ⟨b,rfl⟩
      case int k =>
        obtain ⟨z,rfl,_,hz⟩ := DataW.trod_int hu h
        dsimp only at hok
        refine ⟨by simpa using (eq_of_beq hok).symm,[.sc (.int k z)],Cells.one1 (.sc rfl) rfl rfl, ?_⟩
        simp only [VT,hu]; exact ⟨z,hz,rfl⟩
      case string =>
        obtain ⟨s,rfl,_,hs⟩ := DataW.trod_string hu h
        dsimp only at hok
        refine ⟨by simpa using (eq_of_beq hok).symm,[.sc (.string s)],Cells.one1 (.sc rfl) rfl rfl, ?_⟩
        simp only [VT,hu]; exact ⟨s,hs,rfl⟩
      case struct fs =>
        dsimp only at hok
        simp only [Bool.and_eq_true] at hok
        obtain ⟨hok1,hok2⟩ := hok
        obtain ⟨xs,m,hm,_,hl,hx1,hx2⟩ := DataW.trod_struct hu h
        cases hm
        refine ⟨hl, ?_⟩
        obtain ⟨segs,k1,k2,k3⟩ := Cells.lay (P := P) (w := w) (Q := fun i seg => ∀ f,fs.toList[i]? = some f → VT P n f.type seg) fs.toList 0 (P.cellsOf t) cs (eq_of_beq hok2) hl (Nat.zero_le _) (fun i f hf => by
          have hf' : fs[i]? = some f := by simpa using hf
          have hi : i < fs.size := (Array.getElem?_eq_some_iff.1 hf').1
          have h3 := hx2 i f hf'
          rw [List.getElem?_eq_getElem (by omega)] at h3
          have hmem : f.type ∈ S := by
            have := List.all_eq_true.1 hok1 f (List.mem_of_getElem? hf)
            simpa using this
          obtain ⟨h4,zs,h5,h6⟩ := trod_rep hS n f.type _ _ hmem h3
          exact ⟨zs,h5,by rw [h5.len,h4],fun g hg => by rw [hf] at hg; cases hg; exact h6⟩)
        refine ⟨segs.flatten,by simpa using k1, ?_⟩
        simp only [VT,hu]
        refine ⟨segs,rfl,k2,fun i f seg hf hs => k3 i seg hs ?_ f hf⟩
        exact (List.getElem?_eq_some_iff.1 hf).1
      case slice e =>
        dsimp only at hok
        simp only [Bool.and_eq_true,decide_eq_true_eq] at hok
        obtain ⟨⟨hok1,hok2⟩,hok3⟩ := hok
        have he : e ∈ S := by simpa using hok3
        have hc1 := eq_of_beq hok1
        rcases DataW.trod_slice hu h with ⟨rfl,_⟩ | ⟨a,len,cap,elems,rest,m,hm,rfl,_,hb,hlc,hcm,hel,hx,hr,_⟩
        · refine ⟨by simpa using hc1.symm,[nilV],Cells.one1 (.sc rfl) rfl rfl, ?_⟩
          simp only [VT,hu]
          exact .inl trivial
        · cases hm
          refine ⟨by simpa using hc1.symm, ?_⟩
          obtain ⟨hr1,hr2⟩ := hr rfl
          -- the elements
          have hel' : ∀ i,i < len → ∃ l zs,w.cells? 0 (a.add (i * P.cellsOf e)) (P.cellsOf e) = some l ∧ Cells w zs l ∧ zs.length = P.cellsOf e ∧ VT P n e zs := fun i hi => by
            have h3 := hx i hi
            rw [List.getElem?_eq_getElem (by omega)] at h3
            cases hcl : w.cells? 0 (a.add (i * P.cellsOf e)) (P.cellsOf e) with
            | none => rw [hcl] at h3; cases h3
            | some l =>
              rw [hcl] at h3
              obtain ⟨h4,zs,h5,h6⟩ := trod_rep hS n e l _ he h3
              exact ⟨l,zs,rfl,h5,by rw [h5.len,h4],h6⟩
          -- the block
          by_cases hc0 : cap = 0
          · have hl0 : len = 0 := by omega
            subst hc0; subst hl0
            refine ⟨[.sl (P.cellsOf e) false []],Cells.one1 .sl0 rfl rfl, ?_⟩
            simp only [VT,hu]
            exact .inr ⟨[],rfl,Nat.zero_le _,fun y hy => by cases hy⟩
          · have hadd : ∀ a : Addr,(a.add 0).add 0 = a.add 0 := fun a => by
              obtain ⟨b,off,sp⟩ := a
              cases sp <;> simp [Addr.add]
            have hfirst : ∃ u,w.cell? (a.add 0) = some u := by
              by_cases hl0 : 0 < len
              · obtain ⟨l,zs,h3,h4,h5,_⟩ := hel' 0 hl0
                obtain ⟨h6,h7⟩ := cells_get h3
                have := h7 0 hok2
                rw [List.getElem?_eq_getElem (by omega)] at this
                rw [Nat.zero_mul,hadd] at this
                exact ⟨_,this⟩
              · have h3 := hr2 0 (by omega)
                cases hcl : w.cells? 0 (a.add ((len + 0) * P.cellsOf e)) (P.cellsOf e) with
                | none => rw [hcl,List.getElem?_eq_getElem (by omega)] at h3; cases h3
                | some l =>
                  obtain ⟨h6,h7⟩ := cells_get hcl
                  have := h7 0 hok2
                  rw [List.getElem?_eq_getElem (by omega)] at this
                  have hl00 : len = 0 := by omega
                  subst hl00
                  rw [Nat.zero_add,Nat.zero_mul,hadd] at this
                  exact ⟨_,this⟩
            obtain ⟨u0,hu0⟩ := hfirst
            obtain ⟨bl,off,spot⟩ := a
            have hsp : spot = none := by
              cases spot with
              | none => rfl
              | some q =>
                unfold World.cell? at hu0
                simp [Addr.add] at hu0
                split at hu0 <;> simp_all
            subst hsp
            rw [add_none] at hu0
            unfold World.cell? at hu0
            dsimp only at hu0
            cases hbk : w.heap[bl]? with
            | none => rw [hbk] at hu0; cases hu0
            | some ob =>
              cases ob
              case cells ca ty fr =>
                have hcell : ∀ i,w.cell? ⟨bl,i,none⟩ = ca[i]? := fun i => by simp [World.cell?,hbk]
                have hget : ∀ i,i < len → ∃ zs : List V,zs.length = P.cellsOf e ∧ VT P n e zs ∧ (∀ y ∈ zs,y.free1 = true ∧ y.cells = [y]) ∧ (∀ j y,zs[j]? = some y → j < P.cellsOf e → ∃ u,ca[off + i * P.cellsOf e + j]? = some u ∧ Rep w.heap (gW w) [] y u) := fun i hi => by
                  obtain ⟨l,zs,h3,h4,h5,h6⟩ := hel' i hi
                  obtain ⟨h7,h8⟩ := cells_get h3
                  refine ⟨zs,h5,h6,h4.one,fun j y hy hj => ?_⟩
                  have h9 := h8 j hj
                  rw [add_none,add_none,hcell,List.getElem?_eq_getElem (by omega)] at h9
                  exact ⟨_,h9,h4.rep j y _ hy (List.getElem?_eq_getElem (by omega))⟩
                have hoff : off < ca.size := by
                  rw [hbk] at hu0
                  simp at hu0
                  exact (Array.getElem?_eq_some_iff.1 hu0).1
                let zf : Nat → List V := fun i => if h : i < len then Classical.choose (hget i h) else []
                have hzf : ∀ i,i < len → (zf i).length = P.cellsOf e ∧ VT P n e (zf i) ∧ (∀ y ∈ zf i,y.free1 = true ∧ y.cells = [y]) ∧ (∀ j y,(zf i)[j]? = some y → j < P.cellsOf e → ∃ u,ca[off + i * P.cellsOf e + j]? = some u ∧ Rep w.heap (gW w) [] y u) := fun i hi => by
                  simp only [zf,dif_pos hi]
                  exact Classical.choose_spec (hget i hi)
                have hys : ∀ (i : Nat) (x : V),((List.range len).map fun i => elV (zf i))[i]? = some x → i < len ∧ x = elV (zf i) := fun i x hx => by
                  rw [List.getElem?_map] at hx
                  cases hr : (List.range len)[i]? with
                  | none => rw [hr] at hx; cases hx
                  | some q =>
                    rw [hr] at hx
                    obtain ⟨h1,h2⟩ := List.getElem?_eq_some_iff.1 hr
                    simp at h1 h2
                    subst h2
                    exact ⟨h1,(Option.some.inj hx).symm⟩
                have hyl : ((List.range len).map fun i => elV (zf i)).length = len := by simp
                have hsize : off + len * P.cellsOf e ≤ ca.size := by
                  by_cases hl0 : len = 0
                  · subst hl0; omega
                  · obtain ⟨q1,_,_,q4⟩ := hzf (len - 1) (by omega)
                    obtain ⟨u,hu1,_⟩ := q4 (P.cellsOf e - 1) _ (List.getElem?_eq_getElem (by omega)) (by omega)
                    have h9 := (Array.getElem?_eq_some_iff.1 hu1).1
                    have h10 : len * P.cellsOf e = (len - 1) * P.cellsOf e + P.cellsOf e := by
                      rw [← Nat.succ_mul]; congr 1; omega
                    omega
                have hrep : Rep w.heap (gW w) [] (.sl (P.cellsOf e) false ((List.range len).map fun i => elV (zf i))) (.slice (some ⟨bl,off,none⟩) ((List.range len).map fun i => elV (zf i)).length cap) := by
                  refine .sl (cs := ca) (ty := ty) (fr := fr) ?_ (by rw [hyl]; exact hsize) (by rw [hyl]; exact hlc) (fun h => by cases h) hbk (fun i x hx => ?_) fun i x hx j y hy u hu => ?_
                  · simp only [gW,hbk]; rw [hyl]; exact hsize
                  · obtain ⟨hi,rfl⟩ := hys i x hx
                    obtain ⟨q1,_,q3,_⟩ := hzf i hi
                    obtain ⟨q5,q6⟩ := elV_cells q3
                    rw [q5]; exact ⟨q1,q6⟩
                  · obtain ⟨hi,rfl⟩ := hys i x hx
                    obtain ⟨q1,_,q3,q4⟩ := hzf i hi
                    rw [(elV_cells q3).1] at hy
                    have hj := (List.getElem?_eq_some_iff.1 hy).1
                    obtain ⟨u',hu1,hu2⟩ := q4 j y hy (by omega)
                    rw [hu1] at hu; cases hu
                    exact hu2
                rw [hyl] at hrep
                refine ⟨_,Cells.one1 hrep rfl rfl, ?_⟩
                simp only [VT,hu]
                refine .inr ⟨_,rfl,by rw [hyl]; omega,fun y hy => ?_⟩
                obtain ⟨i,hi,rfl⟩ := List.mem_map.1 hy
                have hi' : i < len := by simpa using hi
                exact ⟨_,rfl,(hzf i hi').1,(hzf i hi').2.1⟩
              all_goals (rw [hbk] at hu0; cases hu0)
      all_goals cases hok
theorem came {H : Type} {enc : TypeId × Value → H} {w : World} {S : List TypeId} {t : TypeId} {a : Option Addr} {len cap : Nat} {d : DataW H} {ps : List MemPlace} (hS : okTys P S = true) (ht : t ∈ S)
    (h : DataW.Trod enc P w 0 (fun _ => true) true t (.slice a len cap) d ps) : ∃ x,(∃ n,VT P n t [x]) ∧ Rep w.heap (gW w) [] x (.slice a len cap) := by
  obtain ⟨fuel,h⟩ := h
  obtain ⟨_,xs,hc,hv⟩ := trod_rep hS fuel t _ _ ht h
  have hl := hc.len
  have hcs : (Value.slice a len cap).cells.toList = [.slice a len cap] := rfl
  rw [hcs] at hl hc
  match xs,hl with
  | [x],_ => exact ⟨x,⟨fuel,hv⟩,hc.rep 0 x _ rfl rfl⟩
end Go.Proofs.Pe
end

section
set_option linter.unusedVariables false
namespace Go.Proofs.Pe
variable {P : Program}
end Go.Proofs.Pe
end

section
set_option linter.unusedVariables false
namespace Go.Proofs.Pe
variable {P : Program} {T : Tab} {ca : Ca} {yi : Nat → Sem'} {lp : Bd → Bd} {rd : Option Nat} {t : List V} {o : List O} {m : List Nat} {Φ : X → Fr → Prop}

/-! ### Both ways of a test that is not known -/
theorem PFn.callE {f : FuncId} {xs ys : List V} {v : V} {o o1 : List O} {K : V → List O → Prop} (h : PFn P T f ys (fun z => z = v)) (hm : T.mode f = 0) (hc : commits o xs = some (ys,o1)) (hb : v.bare = true) (hK : K v o) : evCallV T (Call P T) yi (.fn (.func f) [] []) xs o K :=
  h.callB hm hc (fun z hz => by rw [hz]; exact hb) (fun z hz => by rw [hz]; exact hK)

theorem nc0 : ((0 : Nat) : Int) = 0 := by omega
theorem nc1 : ((1 : Nat) : Int) = 1 := by omega
theorem nc2 : ((2 : Nat) : Int) = 2 := by omega
theorem nc3 : ((3 : Nat) : Int) = 3 := by omega
/-! ### Whole numbers of 64 bits -/
def I64 (a : Int) : Prop := -9223372036854775808 ≤ a ∧ a ≤ 9223372036854775807
theorem I64.of {a : Int} (h : (Lit.int .i64 a).wf = true) : I64 a := by
  simp [Lit.wf,IntKind.min,IntKind.max,IntKind.bits,IntKind.signed] at h
  unfold I64; omega
end Go.Proofs.Pe
end

section
set_option linter.unusedVariables false
set_option linter.defProp false
namespace Go.Proofs.Pe
/-! ### Temporaries, eight at a time -/
def setL (t : List V) (i : Nat) (v : V) : List V := t.set i v
def getL (t : List V) (i : Nat) : V := t.getD i .dead
section
variable {a0 a1 a2 a3 a4 a5 a6 a7 v : V} {l : List V} {n : Nat}
theorem setL_8 : setL (a0 :: a1 :: a2 :: a3 :: a4 :: a5 :: a6 :: a7 :: l) (n + 8) v = a0 :: a1 :: a2 :: a3 :: a4 :: a5 :: a6 :: a7 :: setL l n v := rfl
theorem getL_8 : getL (a0 :: a1 :: a2 :: a3 :: a4 :: a5 :: a6 :: a7 :: l) (n + 8) = getL l n := rfl
theorem setL_0 : setL (a0 :: l) 0 v = v :: l := rfl
theorem getL_0 : getL (a0 :: l) 0 = a0 := rfl
theorem setL_1 : setL (a0 :: a1 :: l) 1 v = a0 :: v :: l := rfl
theorem getL_1 : getL (a0 :: a1 :: l) 1 = a1 := rfl
theorem setL_2 : setL (a0 :: a1 :: a2 :: l) 2 v = a0 :: a1 :: v :: l := rfl
theorem getL_2 : getL (a0 :: a1 :: a2 :: l) 2 = a2 := rfl
theorem setL_3 : setL (a0 :: a1 :: a2 :: a3 :: l) 3 v = a0 :: a1 :: a2 :: v :: l := rfl
theorem getL_3 : getL (a0 :: a1 :: a2 :: a3 :: l) 3 = a3 := rfl
theorem setL_4 : setL (a0 :: a1 :: a2 :: a3 :: a4 :: l) 4 v = a0 :: a1 :: a2 :: a3 :: v :: l := rfl
theorem getL_4 : getL (a0 :: a1 :: a2 :: a3 :: a4 :: l) 4 = a4 := rfl
theorem setL_5 : setL (a0 :: a1 :: a2 :: a3 :: a4 :: a5 :: l) 5 v = a0 :: a1 :: a2 :: a3 :: a4 :: v :: l := rfl
theorem getL_5 : getL (a0 :: a1 :: a2 :: a3 :: a4 :: a5 :: l) 5 = a5 := rfl
theorem setL_6 : setL (a0 :: a1 :: a2 :: a3 :: a4 :: a5 :: a6 :: l) 6 v = a0 :: a1 :: a2 :: a3 :: a4 :: a5 :: v :: l := rfl
theorem getL_6 : getL (a0 :: a1 :: a2 :: a3 :: a4 :: a5 :: a6 :: l) 6 = a6 := rfl
theorem setL_7 : setL (a0 :: a1 :: a2 :: a3 :: a4 :: a5 :: a6 :: a7 :: l) 7 v = a0 :: a1 :: a2 :: a3 :: a4 :: a5 :: a6 :: v :: l := rfl
theorem getL_7 : getL (a0 :: a1 :: a2 :: a3 :: a4 :: a5 :: a6 :: a7 :: l) 7 = a7 := rfl
end
section
variable {t : List V} {o : List O}
theorem putT_L {d : Nat} {y : V} : putT (some d) y t = setL t d y := rfl
theorem ev_tL {i : Nat} : E.ev ⟨t,o⟩ (.tmp i) = getL t i := rfl
theorem kill_L {i : Nat} {l : List Nat} {ts : List V} : killTs (i :: l) ts = killTs l (setL ts i .dead) := rfl
theorem rets_L {i : Nat} {rs : List Rv} : rets ⟨t,o⟩ (.tmp i :: rs) = (rets ⟨t,o⟩ rs).map (getL t i :: ·) := rfl
theorem getD_L {i : Nat} : t.getD i V.dead = getL t i := rfl
theorem toN0 : Int.toNat 0 = 0 := rfl
theorem toN1 : Int.toNat 1 = 1 := rfl
theorem toN2 : Int.toNat 2 = 2 := rfl
end
def RUF := And.intro (@setL_8) <| And.intro (@getL_8) <| And.intro (@setL_0) <| And.intro (@getL_0) <| And.intro (@setL_1) <| And.intro (@getL_1) <| And.intro (@setL_2) <| And.intro (@getL_2) <| And.intro (@setL_3) <| And.intro (@getL_3) <| And.intro (@setL_4) <| And.intro (@getL_4) <| And.intro (@setL_5) <| And.intro (@getL_5) <| And.intro (@setL_6) <| And.intro (@getL_6) <| And.intro (@setL_7) <| And.intro (@getL_7) <| And.intro (@toN0) <| And.intro (@toN1) <| And.intro (@toN2) <| And.intro (@List.set_cons_succ.{0}) <| (@List.set_cons_zero.{0})
/-! ### The rules of a run, bundled -/
def RUA := And.intro (@nc0) <| And.intro (@nc1) <| And.intro (@nc2) <| And.intro (@nc3) <| And.intro (@Bool.true_or) <| And.intro (@Bool.or_true) <| And.intro (@bapp) <| And.intro (@bsz) <| And.intro (@bix) <| And.intro (@nn) <| And.intro (@Int.toNat_natCast) <| And.intro (@btl) <| And.intro (@sop_eq) <| And.intro (@sop_ne) <| And.intro (@q_ssl) <| And.intro (@d_ssl) <| And.intro (@List.take_succ_cons.{0}) <| And.intro (@List.drop_succ_cons.{0}) <| And.intro (@get_new) <| And.intro (@set_new) <| And.intro (@s_skip) <| And.intro (@s_regs) <| And.intro (@s_regd) <| And.intro (@s_seq) <| And.intro (@s_ct) <| And.intro (@s_cf) <| And.intro (@s_gt) <| And.intro (@s_gf) <| And.intro (@condV_b) <| And.intro (@guardV_t) <| And.intro (@guardV_f) <| And.intro (@guardV_u) <| And.intro (@s_block) <| And.intro (@s_loop) <| And.intro (@s_kill) <| And.intro (@s_exit) <| And.intro (@s_scope) <| And.intro (@s_label) <| And.intro (@s_goto) <| And.intro (@s_ret) <| And.intro (@s_nil) <| And.intro (@s_cons) <| And.intro (@s_rnil) <| And.intro (@s_rop) <| And.intro (@s_rrd) <| And.intro (@s_ralt) <| And.intro (@s_rsnil) <| And.intro (@s_rscons) <| And.intro (@optEv_some) <| And.intro (@optEv_none) <| And.intro (@s_gn) <| And.intro (@elems_zero) <| And.intro (@elems_cons) <| And.intro (@decide_true) <| And.intro (@decide_false) <| And.intro (@q_alloc) <| And.intro (@q_box) <| And.intro (@q_mv) <| And.intro (@q_pick) <| (@q_bld)
def RUB := And.intro (@q_bsl) <| And.intro (@q_bsa) <| And.intro (@q_mks) <| And.intro (@q_load) <| And.intro (@q_store) <| And.intro (@q_nilck) <| And.intro (@q_cmpnil) <| And.intro (@q_fad) <| And.intro (@q_fld) <| And.intro (@q_iad) <| And.intro (@q_slc) <| And.intro (@q_len) <| And.intro (@q_app) <| And.intro (@q_msl) <| And.intro (@q_s2b) <| And.intro (@q_b2s) <| And.intro (@q_mkf) <| And.intro (@q_ext) <| And.intro (@q_bin) <| And.intro (@q_not) <| And.intro (@q_neg) <| And.intro (@q_cvi) <| And.intro (@q_slen) <| And.intro (@q_sidx) <| And.intro (@q_mm) <| And.intro (@q_call) <| And.intro (@ev_tL) <| And.intro (@ev_lit) <| And.intro (@oK_none) <| And.intro (@oK_some) <| And.intro (@putT_L) <| And.intro (@putT_none) <| And.intro (@kill_L) <| And.intro (@killTs_nil) <| And.intro (@getD_L) <| And.intro (@List.map_cons.{0,0}) <| And.intro (@List.map_nil.{0,0}) <| And.intro (@List.length_cons.{0}) <| And.intro (@List.length_nil.{0}) <| And.intro (@List.cons_append.{0}) <| And.intro (@List.nil_append.{0}) <| And.intro (@List.append_nil.{0}) <| And.intro (@row_sl) <| And.intro (@row_nil) <| And.intro (@beq_self_eq_true.{0}) <| And.intro (@bb1) <| And.intro (@bb2) <| And.intro (@bb3) <| And.intro (@bb4) <| And.intro (@q_beq) <| And.intro (@d_beq) <| And.intro (@cells_sc) <| And.intro (@solid_sc) <| And.intro (@one_sc) <| And.intro (@cells_sl) <| And.intro (@solid_sl) <| (@one_sl)
def RUC := And.intro (@cells_ar) <| And.intro (@solid_ar) <| And.intro (@one_ar) <| And.intro (@cells_pt) <| And.intro (@solid_pt) <| And.intro (@one_pt) <| And.intro (@cells_pa) <| And.intro (@solid_pa) <| And.intro (@one_pa) <| And.intro (@cells_ep) <| And.intro (@solid_ep) <| And.intro (@one_ep) <| And.intro (@cells_fn) <| And.intro (@solid_fn) <| And.intro (@one_fn) <| And.intro (@free_sc) <| And.intro (@free1_sc) <| And.intro (@free_sl) <| And.intro (@free1_sl) <| And.intro (@free_ar) <| And.intro (@free1_ar) <| And.intro (@free_pt) <| And.intro (@free1_pt) <| And.intro (@free_pa) <| And.intro (@free1_pa) <| And.intro (@free_ep) <| And.intro (@free1_ep) <| And.intro (@cells_agg) <| And.intro (@solid_agg) <| And.intro (@free_agg) <| And.intro (@part_at) <| And.intro (@part_agg) <| And.intro (@List.all_cons.{0}) <| And.intro (@List.all_nil.{0}) <| And.intro (@Bool.and_true) <| And.intro (@Bool.true_and) <| And.intro (@Bool.and_false) <| And.intro (@Bool.false_and) <| And.intro (@List.drop_zero.{0}) <| And.intro (@List.take_zero.{0}) <| And.intro (@List.getElem?_cons_zero.{0}) <| And.intro (@List.getElem?_cons_succ.{0}) <| And.intro (@List.getElem?_nil.{0}) <| And.intro (@Bool.not_true) <| And.intro (@Bool.not_false) <| And.intro (@Bool.false_eq_true) <| And.intro (@Option.map_some.{0,0}) <| And.intro (@Option.map_none.{0,0}) <| And.intro (@Option.bind_eq_bind.{0}) <| And.intro (@Option.pure_def.{0}) <| And.intro (@Option.bind_some.{0,0}) <| And.intro (@Option.bind_none.{0,0}) <| And.intro (@Option.getD_some.{0}) <| And.intro (@Option.getD_none.{0}) <| And.intro (@shut_nil) <| And.intro (@rets_nil) <| And.intro (@rets_L) <| And.intro (@endK_normal) <| And.intro (@endK_ret) <| (@retK_nil)
def RUD := And.intro (@outK_one) <| And.intro (@outK_nil) <| And.intro (@outK_two) <| And.intro (@cast_lit) <| And.intro (@d_load) <| And.intro (@d_nilck) <| And.intro (@d_fad) <| And.intro (@d_iad) <| And.intro (@d_len) <| And.intro (@d_b2s) <| And.intro (@d_bsl) <| And.intro (@d_apz) <| And.intro (@d_mv) <| And.intro (@d_pick) <| And.intro (@d_bld) <| And.intro (@d_cmpnil) <| And.intro (@d_fld) <| And.intro (@d_mkf) <| And.intro (@d_ext) <| And.intro (@d_bin) <| And.intro (@d_not) <| And.intro (@d_neg) <| And.intro (@d_cvi) <| And.intro (@d_slen) <| And.intro (@d_sidx) <| And.intro (@d_idxb) <| And.intro (@d_mm) <| And.intro (@d_sca) <| And.intro (@depL_pt) <| And.intro (@depL_ep) <| And.intro (@depL_pa) <| And.intro (@depP_pt) <| And.intro (@depP_ep) <| And.intro (@depP_fn) <| And.intro (@depP_pa) <| And.intro (@depA_sl) <| And.intro (@depA_sc) <| And.intro (@depA_ar) <| And.intro (@depL_le) <| And.intro (@depP_le) <| And.intro (@depA_le) <| And.intro (@depB_le) <| And.intro (@depP_l3) <| And.intro (@depA_l3) <| And.intro (@okR_z) <| And.intro (@okR_11) <| And.intro (@okR_12) <| And.intro (@okR_21) <| And.intro (@okR_41) <| And.intro (@okR_43) <| And.intro (@depB_sl) <| And.intro (@depB_sc) <| And.intro (@depB_ar) <| And.intro (@depB_vw) <| And.intro (@depA_vw) <| And.intro (@q_aia) <| And.intro (@d_aia) <| And.intro (@Pe.zero_le) <| And.intro (@Nat.zero_add) <| (@Nat.add_zero)
def RUE := And.intro (@true_and) <| (@and_true)
end Go.Proofs.Pe
end

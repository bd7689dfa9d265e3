/- An evaluator over the loaded code, and the proof that what it tells is so: a part of the texts that the claim's proof needs. Conditions: none beside those that its theorems state. -/
import Derived.Test.YtlmfkkbbakaaaaaPeC
set_option linter.unusedSimpArgs false
set_option linter.unusedVariables false

section
set_option linter.unusedVariables false
namespace Go.Proofs.Pe
variable {P : Program}

theorem pureRun_bind2 {α β : Type} {m : Sem α} {f : α → Sem β} {a : α} (h : pureRun P m = some a) : pureRun P (m >>= f) = pureRun P (f a) := by
  show pureRun P (Sem.bind m f) = _
  induction m with
  | pure b => simp only [pureRun, Option.some.injEq] at h; subst h; rfl
  | program k ih => simp only [pureRun] at h; simp only [Sem.bind, pureRun]; exact ih P h
  | _ => simp [pureRun] at h
theorem pr_under {t : TypeId} {d : TypeDesc} (h : P.underlying t = some d) : pureRun P (underlying t) = some d := by
  simp [underlying, program, pureRun, h, Bind.bind, Sem.bind, Pure.pure]
theorem pr_prog : pureRun P program = some P := rfl
theorem pr_pure {α : Type} (a : α) : pureRun P (pure a : Sem α) = some a := rfl
def isI64 (P : Program) (t : TypeId) : Bool := match P.underlying t with
  | some (.int .i64) => true
  | _ => false
def isStr (P : Program) (t : TypeId) : Bool := match P.underlying t with
  | some .string => true
  | _ => false
/-- A struct of a number, a text, a number. -/
def flat3 (P : Program) (t : TypeId) : Bool := match P.underlying t with
  | some (.struct fs) => (match fs.toList with
    | [f0, f1, f2] => !(f0.name == "_") && !(f1.name == "_") && !(f2.name == "_") && f0.offset == 0 && f1.offset == 1 && f2.offset == 2 && isI64 P f0.type && isStr P f1.type && isI64 P f2.type
    | _ => false) && !P.stoodInHeld t && !P.eqGuardType P.depth t
  | _ => false
theorem pr_aggF {t : TypeId} (h : isI64 P t = true ∨ isStr P t = true) : pureRun P (isAgg t) = some false := by
  unfold isAgg
  rcases h with h | h
  · unfold isI64 at h
    split at h
    · rename_i hu; rw [pureRun_bind2 (pr_under hu)]; rfl
    · cases h
  · unfold isStr at h
    split at h
    · rename_i hu; rw [pureRun_bind2 (pr_under hu)]; rfl
    · cases h
theorem pr_part {t : TypeId} {us : Array Value} {off : Nat} {u : Value} (h : isI64 P t = true ∨ isStr P t = true) (hu : us[off]? = some u) : pureRun P (Go.part t us off) = some u := by
  unfold Go.part
  rw [pureRun_bind2 (pr_aggF h)]
  simp [hu, pureRun, Pure.pure]
theorem pr_eqI {t : TypeId} {d : Nat} {a : Int} (h : isI64 P t = true) : pureRun P (Op.equalIn (d + 1) t (.int .i64 a) (.int .i64 a)) = some true := by
  unfold isI64 at h
  split at h
  · rename_i hu; rw [Op.equalIn, pureRun_bind2 (pr_under hu)]; simp [pureRun, Pure.pure]
  · cases h
theorem ba_refl (a : ByteArray) : (a == a) = true := by
  cases a with
  | mk d =>
    show (d == d) = true
    simp
theorem pr_eqS {t : TypeId} {d : Nat} {a : ByteArray} (h : isStr P t = true) : pureRun P (Op.equalIn (d + 1) t (.string a) (.string a)) = some true := by
  unfold isStr at h
  split at h
  · rename_i hu; rw [Op.equalIn, pureRun_bind2 (pr_under hu)]; simp [pureRun, Pure.pure, ba_refl]
  · cases h
theorem pr_eq3 {t : TypeId} {a b : Int} {s : ByteArray} (h : flat3 P t = true) : pureRun P (Op.equal t (.agg #[.int .i64 a, .string s, .int .i64 b]) (.agg #[.int .i64 a, .string s, .int .i64 b])) = some true := by
  unfold flat3 at h
  split at h
  · rename_i fs hu
    split at h
    · rename_i f0 f1 f2 hfs
      simp only [Bool.and_eq_true, Bool.not_eq_true', beq_iff_eq] at h
      obtain ⟨⟨⟨⟨⟨⟨⟨⟨⟨⟨n0, n1⟩, n2⟩, o0⟩, o1⟩, o2⟩, i0⟩, i1⟩, i2⟩, hs⟩, hg⟩ := h
      have hfs' : fs = #[f0, f1, f2] := Array.ext' (by simpa using hfs)
      subst hfs'
      unfold Op.equal Op.maxDepth
      rw [show (10000 : Nat) = 9998 + 1 + 1 from rfl, Op.equalIn, pureRun_bind2 (pr_under hu)]
      dsimp only
      rw [pureRun_bind2 pr_prog, hs]
      rw [if_neg (by simp)]
      have p0 := (pr_part (us := #[Value.int IntKind.i64 a, Value.string s, Value.int IntKind.i64 b]) (off := f0.offset) (u := .int .i64 a) (.inl i0) (by rw [o0]; rfl))
      have p1 := (pr_part (us := #[Value.int IntKind.i64 a, Value.string s, Value.int IntKind.i64 b]) (off := f1.offset) (u := .string s) (.inr i1) (by rw [o1]; rfl))
      have p2 := (pr_part (us := #[Value.int IntKind.i64 a, Value.string s, Value.int IntKind.i64 b]) (off := f2.offset) (u := .int .i64 b) (.inl i2) (by rw [o2]; rfl))
      have hn : ∀ f : Field, (f.name == "_") = false → f.name ≠ "_" := fun f h e => by rw [e] at h; simp at h
      have q : ∀ (f : Field) (u : Value), (f.name == "_") = false → pureRun P (Go.part f.type #[Value.int IntKind.i64 a, Value.string s, Value.int IntKind.i64 b] f.offset) = some u → pureRun P (Op.equalIn (9998 + 1) f.type u u) = some true →
          pureRun P (if f.name ≠ "_" then do
                let __do_lift ← Go.part f.type #[Value.int IntKind.i64 a, Value.string s, Value.int IntKind.i64 b] f.offset
                let __do_lift_1 ← Go.part f.type #[Value.int IntKind.i64 a, Value.string s, Value.int IntKind.i64 b] f.offset
                let __do_lift ← Op.equalIn (9998 + 1) f.type __do_lift __do_lift_1
                if (!__do_lift) = true then pure (ForInStep.done (some false, ()))
                  else pure (ForInStep.yield (none, ()))
              else pure (ForInStep.yield ((none : Option Bool), ()))) = some (ForInStep.yield (none, ())) := fun f u h1 h2 h3 => by
        rw [if_pos (hn f h1), pureRun_bind2 h2, pureRun_bind2 h2, pureRun_bind2 h3]; rfl
      have hf : pureRun P (forIn #[f0, f1, f2] ((none : Option Bool), ()) fun f __s =>
              if f.name ≠ "_" then do
                let __do_lift ← Go.part f.type #[Value.int IntKind.i64 a, Value.string s, Value.int IntKind.i64 b] f.offset
                let __do_lift_1 ← Go.part f.type #[Value.int IntKind.i64 a, Value.string s, Value.int IntKind.i64 b] f.offset
                let __do_lift ← Op.equalIn (9998 + 1) f.type __do_lift __do_lift_1
                if (!__do_lift) = true then pure (ForInStep.done (some false, ()))
                  else pure (ForInStep.yield (none, ()))
              else pure (ForInStep.yield (none, ()))) = some (none, ()) := by
        rw [← Array.forIn_toList]
        show pureRun P (forIn [f0, f1, f2] _ _) = _
        rw [List.forIn_cons, pureRun_bind2 (q f0 _ n0 p0 (pr_eqI i0))]
        dsimp only
        rw [List.forIn_cons, pureRun_bind2 (q f1 _ n1 p1 (pr_eqS i1))]
        dsimp only
        rw [List.forIn_cons, pureRun_bind2 (q f2 _ n2 p2 (pr_eqI i2))]
        rfl
      rw [pureRun_bind2 hf]
      rfl
    · simp at h
  · cases h

theorem vv (a b : Int) (s : ByteArray) : toVal (.agg [iV a, .sc (.string s), iV b]) = some (.agg #[.int .i64 a, .string s, .int .i64 b]) := rfl
/-- Two that are the same are not found to differ. -/
theorem sca_ne3 {t tr : TypeId} {x y : Nat} {op : Oper} {ts : List V} {o : List O} {a b : Int} {s : ByteArray} (h : flat3 P t = true) (ho : op.op = .binOp .neq t (.tmp x) (.tmp y) tr)
    (hx : ts.getD x .dead = .agg [iV a, .sc (.string s), iV b]) (hy : ts.getD y .dead = .agg [iV a, .sc (.string s), iV b]) : step P ⟨ts, o⟩ (.sca op) = some (bV false, o) := by
  have e1 : scEnv ⟨ts, o⟩ (.tmp x) = some (.agg #[.int .i64 a, .string s, .int .i64 b]) := by
    show (some (E.tmp x)).bind _ = _
    simp only [Option.bind_some, E.ev, hx, vv]
  have e2 : scEnv ⟨ts, o⟩ (.tmp y) = some (.agg #[.int .i64 a, .string s, .int .i64 b]) := by
    show (some (E.tmp y)).bind _ = _
    simp only [Option.bind_some, E.ev, hy, vv]
  have hg : P.eqGuardType P.depth t = false := by
    unfold flat3 at h
    split at h
    · simp only [Bool.and_eq_true, Bool.not_eq_true'] at h; exact h.2
    · cases h
  refine sca_of (v := .bool false) (fun z hz => ?_) ?_ rfl
  · rw [ho] at hz
    simp [Op.operands] at hz
    rcases hz with rfl | rfl
    · rw [e1]; rfl
    · rw [e2]; rfl
  · have hq := pr_eq3 (P := P) (a := a) (b := b) (s := s) h
    have h1 : pureRun P (eqGuard .neq t (.tmp x) (.tmp y) (.agg #[.int .i64 a, .string s, .int .i64 b]) (.agg #[.int .i64 a, .string s, .int .i64 b])) = some () := by
      unfold eqGuard
      simp [program, pureRun, Bind.bind, Sem.bind, Pure.pure, hg]
    have h2 : pureRun P (binOp .neq t (.agg #[.int .i64 a, .string s, .int .i64 b]) (.agg #[.int .i64 a, .string s, .int .i64 b])) = some (.bool false) := by
      unfold binOp
      show pureRun P (Op.equal t _ _ >>= fun r => pure (Value.bool !r)) = _
      rw [pureRun_bind2 hq]; rfl
    simp only [execOp, ho, getD_sc e1, getD_sc e2]
    show pureRun P ((eqGuard _ _ _ _ _ _ >>= fun _ => binOp _ _ _ _) >>= fun r => pure (Next.value r)) = _
    have h3 : pureRun P (eqGuard .neq t (.tmp x) (.tmp y) (.agg #[.int .i64 a, .string s, .int .i64 b]) (.agg #[.int .i64 a, .string s, .int .i64 b]) >>= fun _ => binOp .neq t (.agg #[.int .i64 a, .string s, .int .i64 b]) (.agg #[.int .i64 a, .string s, .int .i64 b])) = some (.bool false) := by
      rw [pureRun_bind2 h1]; exact h2
    rw [pureRun_bind2 h3]; rfl
theorem q_sca {T : Tab} {ca : Ca} {yi : Nat → Sem'} {t : List V} {o : List O} {K : V → List O → Prop} {op : Oper} : evK P T ca yi (.sca op) t o K = oK (Pe.step P ⟨t, o⟩ (.sca op)) K := propext Iff.rfl
theorem q_ne3 {T : Tab} {ca : Ca} {yi : Nat → Sem'} {t tr : TypeId} {x y : Nat} {op : Oper} {ts : List V} {o : List O} {K : V → List O → Prop} {a b : Int} {s : ByteArray} (h : flat3 P t = true) (ho : op.op = .binOp .neq t (.tmp x) (.tmp y) tr)
    (hx : ts.getD x .dead = .agg [iV a, .sc (.string s), iV b]) (hy : ts.getD y .dead = .agg [iV a, .sc (.string s), iV b]) : evK P T ca yi (.sca op) ts o K = K (bV false) o := by
  rw [q_sca, sca_ne3 h ho hx hy]; rfl
end Go.Proofs.Pe
end

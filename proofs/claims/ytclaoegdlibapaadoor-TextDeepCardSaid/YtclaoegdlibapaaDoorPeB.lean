/- An evaluator over the loaded code, and the proof that what it tells is so: a part of the texts that the claim's proof needs. Conditions: none beside those that its theorems state. -/
import Derived.Test.YtclaoegdlibapaaDoorPeA
import Derived.OrdersIn
import Derived.RangeFuncCalls
set_option linter.unusedSimpArgs false
set_option linter.unusedVariables false

section
set_option linter.unusedVariables false
namespace Go.Proofs.Pe
variable {P : Program} {w : World} {g : G}

def OpOk (P : Program) (m : Sem Next) (w : World) (g : G) (o : List O) (y : V) (o' : List O) : Prop :=
  ∃ r w' g',(m.run P w = .ok (.value r) w' ∨ (m.run P w = .ok .skip w' ∧ r = undef)) ∧ Tr w g o w' g' o' ∧ Inv w'.heap g' o' ∧ Rep w'.heap g' o' y r

theorem OpOk.of_runs {m : Sem Value} {o o' : List O} {y : V} (h : Runs P m w g o y o') : OpOk P (do pure (.value (← m))) w g o y o' := by
  obtain ⟨r,w',g',h1,h2,h3,h4⟩ := h
  exact ⟨r,w',g',.inl (by simp [h1]),h2,h3,h4⟩
theorem OpOk.of_runsU {m : Sem Unit} {o o' : List O} (h : RunsU P m w g o o') : OpOk P (do m; pure .skip) w g o .dead o' := by
  obtain ⟨w',g',h1,h2,h3⟩ := h
  exact ⟨undef,w',g',.inr ⟨by simp [h1],rfl⟩,h2,h3,.dead⟩

theorem OpOk.behind {m : Sem Next} {o o1 o' : List O} {g1 : G} {y : V} (t : Tr w g o w g1 o1) (h : OpOk P m w g1 o1 y o') : OpOk P m w g o y o' := by
  obtain ⟨r,w',g',h1,h2,h3,h4⟩ := h
  exact ⟨r,w',g',h1,t.trans h2,h3,h4⟩

section
variable {s : St} {a : Act}

theorem trEs_rep {h : Array Obj} (T : Ts h g s a) : ∀ {xs : List Operand} {es : List E},trEs xs = some es → Reps h g s.o (es.map (·.ev s)) (xs.map a.eval)
  | [],es,e => by simp [trEs] at e; subst e; exact Reps.nil _ _ _
  | x :: xs,es,e => by
    simp only [trEs,Option.bind_eq_bind,Option.bind_eq_some_iff] at e
    obtain ⟨e1,h1,es',h2,h3⟩ := e
    simp only [pure,Option.some.injEq] at h3; subst h3
    exact Reps.cons (ev_rep T h1) (trEs_rep T h2)

theorem sca_ok {o : Oper} {y : V} {o' : List O} (I : Inv w.heap g s.o) (T : Ts w.heap g s a) (hns : ∀ cs b,o.op ≠ .select cs b) (hs : step P s (.sca o) = some (y,o')) : OpOk P (execOp a.eval o) w g s.o y o' := by
  simp only [step] at hs
  split at hs
  · rename_i hall
    split at hs
    · rename_i v hv
      simp only [Option.map_eq_some_iff] at hs
      obtain ⟨x,hx,he⟩ := hs
      simp only [Prod.mk.injEq] at he
      obtain ⟨rfl,rfl⟩ := he
      have hc : execOp (fun x => (scEnv s x).getD undef) o = execOp a.eval o := by
        refine execOp_congr o hns fun x hx => ?_
        simp only [List.all_eq_true] at hall
        have h1 := hall x (by simpa using hx)
        obtain ⟨u,hu⟩ := Option.isSome_iff_exists.1 h1
        rw [hu,Option.getD_some]
        simp only [scEnv,Option.bind_eq_some_iff] at hu
        obtain ⟨e,he,hu⟩ := hu
        exact (toVal_rep (ev_rep T he) hu).symm
      rw [hc] at hv
      exact ⟨v,w,g,.inl (pureRun_run hv w),Tr.refl _ _ _,I,ofVal_rep hx⟩
    · cases hs
  · cases hs

theorem mv_ok {x : Operand} {e : E} (o : Oper) (ho : o.op = .move x ∨ o.op = .assign x) (he : trE x = some e) (I : Inv w.heap g s.o) (T : Ts w.heap g s a) : OpOk P (execOp a.eval o) w g s.o (e.ev s) s.o :=
  ⟨a.eval x,w,g,.inl (by rcases ho with ho | ho <;> simp [execOp,ho]),Tr.refl _ _ _,I,ev_rep T he⟩

theorem pick_ok {c x z : Operand} {ec ex ez : E} {y : V} {o' : List O} (o : Oper) (ho : o.op = .pick c x z) (hc : trE c = some ec) (hx : trE x = some ex) (hz : trE z = some ez) (hs : step P s (.pick ec ex ez) = some (y,o'))
    (I : Inv w.heap g s.o) (T : Ts w.heap g s a) : ∃ v,(∀ w,(execOp a.eval o).run P w = .ok (.value v) w) ∧ Rep w.heap g s.o y v ∧ o' = s.o := by
  have hr := ev_rep T hc
  simp only [step] at hs
  split at hs
  · rename_i he
    rw [he] at hr
    generalize hu : a.eval c = u at hr
    cases hr
    simp only [Option.some.injEq,Prod.mk.injEq] at hs; obtain ⟨rfl,rfl⟩ := hs
    exact ⟨a.eval x,fun w => by simp [execOp,ho,hu,asBool],ev_rep T hx,rfl⟩
  · rename_i he
    rw [he] at hr
    generalize hu : a.eval c = u at hr
    cases hr
    simp only [Option.some.injEq,Prod.mk.injEq] at hs; obtain ⟨rfl,rfl⟩ := hs
    exact ⟨a.eval z,fun w => by simp [execOp,ho,hu,asBool],ev_rep T hz,rfl⟩
  · cases hs

theorem load_step {t : TypeId} {x : Operand} {e : E} {ag : Bool} {n : Nat} {y : V} {o' : List O} (he : trE x = some e) (hag : aggOf P t = some ag) (hn : sizeOf' P t = some n) (hs : step P s (.load e ag n) = some (y,o'))
    (I : Inv w.heap g s.o) (T : Ts w.heap g s a) : Runs P (Instr.loadAt t (a.eval x)) w g s.o y o' := by
  have hr := ev_rep T he
  have h1 := aggOf_ok hag w
  have h2 : ag = true → ∃ i,P.info? t = some i ∧ i.size = n := fun _ => by
    simp only [sizeOf',Option.map_eq_some_iff] at hn
    exact hn
  simp only [step] at hs
  split at hs
  · rename_i l off hx
    rw [hx] at hr
    split at hs
    · rename_i cs hl
      simp only [Option.map_eq_some_iff] at hs
      obtain ⟨y',hp,e⟩ := hs
      cases e
      exact load_pt I hr hl h1 h2 hp
    · cases hs
  · rename_i l v i off hx
    rw [hx] at hr
    split at hs
    · rename_i v' wr k xs hl
      split at hs
      · rename_i hv; subst hv
        simp only [Option.bind_eq_some_iff,Option.map_eq_some_iff] at hs
        obtain ⟨x',hx',y',hp,e⟩ := hs
        cases e
        exact load_pa I hr hl hx' h1 h2 hp
      · cases hs
    · cases hs
  · rename_i cs hx
    rw [hx] at hr
    simp only [Option.map_eq_some_iff] at hs
    obtain ⟨y',hp,e⟩ := hs
    cases e
    exact load_ep I hr h1 h2 hp
  · cases hs

theorem putCells_all {k : Nat} {xs ys : List V} (h : xs.length = k) (hy : ys.length = k) : putCells xs 0 ys = ys := by
  apply List.ext_getElem?
  intro j
  rw [putCells_get _ _ _ (by omega)]
  by_cases e : j < ys.length
  · rw [if_pos (by omega)]; simp
  · rw [if_neg (by omega),List.getElem?_eq_none (by omega),List.getElem?_eq_none (by omega)]

theorem store_step {t : TypeId} {x z : Operand} {e f : E} {n : Nat} {y : V} {o' : List O} (he : trE x = some e) (hf : trE z = some f) (hn : sizeOf' P t = some n) (hs : step P s (.store e f n) = some (y,o'))
    (I : Inv w.heap g s.o) (T : Ts w.heap g s a) : y = .dead ∧ RunsU P (Instr.storeAt t (a.eval x) (a.eval z)) w g s.o o' := by
  have hr := ev_rep T he
  have hz := ev_rep T hf
  simp only [sizeOf',Option.map_eq_some_iff] at hn
  obtain ⟨i,hi,hin⟩ := hn
  subst hin
  simp only [step] at hs
  split at hs
  · rename_i hc
    split at hs
    · rename_i l off hx
      rw [hx] at hr
      split at hs
      · rename_i cs hl
        split at hs
        · rename_i hle
          cases hs
          exact ⟨rfl,store_pt I hr hz hl hi hc.1 hc.2 hle⟩
        · cases hs
      · cases hs
    · rename_i l v p off hx
      rw [hx] at hr
      split at hs
      · rename_i v' k xs hl
        split at hs
        · rename_i hv; subst hv
          simp only [Option.bind_eq_some_iff] at hs
          obtain ⟨x',hx',hs⟩ := hs
          split at hs
          · rename_i hle
            cases hs
            refine ⟨rfl,store_pa I hr hz hl hx' hi hc.1 hc.2 hle ?_⟩
            split
            · rename_i h0
              obtain ⟨us,ty,lo,hi',hb,hfr,h3,h4,h5,h6,h7,h8⟩ := I.arr l v' true k xs hl
              have hk := h7 x' (List.mem_of_getElem? hx')
              rw [h0.1,putCells_all hk (by omega)]
            · rfl
          · cases hs
        · cases hs
      · cases hs
    · cases hs
  · cases hs
end
end Go.Proofs.Pe
end

section
set_option linter.unusedVariables false
namespace Go.Proofs.Pe
variable {P : Program} {w : World} {g : G}

theorem equal_slice_nil {t e : TypeId} (h : P.underlying t = some (.slice e)) (a : Option Addr) (n c : Nat) : (Op.equal t (.slice a n c) (.slice none 0 0)).run P w = .ok a.isNone w := by
  unfold Op.equal
  rw [show Op.maxDepth = 9999 + 1 from rfl,Op.equalIn]
  cases a <;> simp [run_underlying h]
theorem equal_ptr_nil {t e : TypeId} (h : P.underlying t = some (.pointer e)) (a : Option Addr) : (Op.equal t (.pointer a) (.pointer none)).run P w = .ok a.isNone w := by
  unfold Op.equal
  rw [show Op.maxDepth = 9999 + 1 from rfl,Op.equalIn]
  cases a <;> simp [run_underlying h]
def nf : Value → Bool
  | .nilFunc => true
  | _ => false
theorem equal_func_nil {t : TypeId} {ps rs : Array TypeId} {v : Bool} (h : P.underlying t = some (.func ps rs v)) (x : Value) (hx : x = .nilFunc ∨ ∃ f a b,x = .func f a b) : (Op.equal t x .nilFunc).run P w = .ok (nf x) w := by
  unfold Op.equal
  rw [show Op.maxDepth = 9999 + 1 from rfl,Op.equalIn]
  rcases hx with rfl | ⟨f,a,b,rfl⟩ <;> simp [run_underlying h,nf]

section
variable {s : St} {a : Act}

theorem cmp_run {o : Oper} {op : BinOp} {t yt : TypeId} {x y : Operand} {v : Bool} {u q : Value} (ho : o.op = .binOp op t x y yt) (hop : op = .eql ∨ op = .neq) (hx : a.eval x = u) (hy : a.eval y = q)
    (hk : (∃ p n c,u = .slice p n c ∧ ∃ n' c',q = .slice none n' c') ∨ (∃ p,u = .pointer p ∧ q = .pointer none) ∨ ((u = .nilFunc ∨ ∃ f a b,u = .func f a b) ∧ q = .nilFunc))
    (he : (Op.equal t u q).run P w = .ok v w) : (execOp a.eval o).run P w = .ok (.value (.bool (if op = .eql then v else !v))) w := by
  simp only [execOp,ho,hx,hy]
  rcases hop with rfl | rfl <;> rcases hk with ⟨p,n,c,rfl,n',c',rfl⟩ | ⟨p,rfl,rfl⟩ | ⟨(rfl | ⟨f,a',b',rfl⟩),rfl⟩ <;> simp [eqGuard,binOp,he]

theorem trNil_ok {o : Oper} {op : BinOp} {t yt : TypeId} {x y : Operand} {k : K} {z : V} {o' : List O} (ho : o.op = .binOp op t x y yt) (hop : op = .eql ∨ op = .neq) (ht : trNil P (op == .neq) t x y = some k)
    (hs : step P s k = some (z,o')) (I : Inv w.heap g s.o) (T : Ts w.heap g s a) : OpOk P (execOp a.eval o) w g s.o z o' := by
  have zz : ∀ (b : Bool),(if op = .eql then b else !b) = (if (op == .neq) = true then !b else b) := by
    intro b; rcases hop with rfl | rfl <;> simp
  have done : ∀ {b : Bool},(execOp a.eval o).run P w = .ok (.value (.bool (if op = .eql then b else !b))) w → z = .sc (.bool (if (op == .neq) = true then !b else b)) → o' = s.o → OpOk P (execOp a.eval o) w g s.o z o' := by
    intro b h1 h2 h3
    subst h2 h3
    rw [zz] at h1
    exact ⟨_,w,g,.inl h1,Tr.refl _ _ _,I,.sc rfl⟩
  unfold trNil at ht
  split at ht
  · rename_i e hu
    simp only [Option.map_eq_some_iff] at ht
    obtain ⟨ex,he,rfl⟩ := ht
    have hr := ev_rep T he
    have hy : a.eval (.const (.slice none 0 0)) = .slice none 0 0 := rfl
    have sl : ∀ p n c,a.eval x = .slice p n c → (execOp a.eval o).run P w = .ok (.value (.bool (if op = .eql then p.isNone else !p.isNone))) w := fun p n c hx =>
      cmp_run ho hop hx hy (.inl ⟨_,_,_,rfl,_,_,rfl⟩) (equal_slice_nil hu p n c)
    cases hx : ex.ev s with
    | sl k f xs =>
      rw [hx] at hr; simp only [step,hx,Option.some.injEq,Prod.mk.injEq] at hs
      generalize hq : a.eval x = q at hr
      cases hr <;> exact done (b := false) (sl _ _ _ hq) (by rw [← hs.1]; cases (op == .neq) <;> rfl) hs.2.symm
    | ar l v =>
      rw [hx] at hr; simp only [step,hx,Option.some.injEq,Prod.mk.injEq] at hs
      generalize hq : a.eval x = q at hr
      cases hr with
      | ar _ hu _ =>
        obtain ⟨p,n,c,rfl⟩ := hu
        exact done (b := false) (sl _ _ _ hq) (by rw [← hs.1]; cases (op == .neq) <;> rfl) hs.2.symm
    | vw l v m1 m2 =>
      rw [hx] at hr; simp only [step,hx,Option.some.injEq,Prod.mk.injEq] at hs
      generalize hq : a.eval x = q at hr
      cases hr with
      | vw _ hu _ =>
        obtain ⟨p,n,c,rfl⟩ := hu
        exact done (b := false) (sl _ _ _ hq) (by rw [← hs.1]; cases (op == .neq) <;> rfl) hs.2.symm
    | sc v =>
      rw [hx] at hr
      generalize hq : a.eval x = q at hr
      cases hr
      simp only [step,hx] at hs
      split at hs <;> rename_i h1 h2 <;> first | (cases hs; done) | (cases h2; done) | (cases h1; done) | skip
      cases h2
      simp only [Option.some.injEq,Prod.mk.injEq] at hs
      exact done (b := true) (sl _ _ _ hq) (by rw [← hs.1]; cases (op == .neq) <;> rfl) hs.2.symm
    | _ => simp [step,hx] at hs
  · rename_i e hu
    simp only [Option.map_eq_some_iff] at ht
    obtain ⟨ex,he,rfl⟩ := ht
    have hr := ev_rep T he
    have hy : a.eval (.const (.pointer none)) = .pointer none := rfl
    have sl : ∀ p,a.eval x = .pointer p → (execOp a.eval o).run P w = .ok (.value (.bool (if op = .eql then p.isNone else !p.isNone))) w := fun p hx =>
      cmp_run ho hop hx hy (.inr (.inl ⟨_,rfl,rfl⟩)) (equal_ptr_nil hu p)
    cases hx : ex.ev s with
    | pt l f =>
      rw [hx] at hr; simp only [step,hx,Option.some.injEq,Prod.mk.injEq] at hs
      generalize hq : a.eval x = q at hr
      cases hr
      exact done (b := false) (sl _ hq) (by rw [← hs.1]; cases (op == .neq) <;> rfl) hs.2.symm
    | sc v =>
      rw [hx] at hr
      generalize hq : a.eval x = q at hr
      cases hr
      simp only [step,hx] at hs
      split at hs <;> rename_i h1 h2 <;> first | (cases hs; done) | (cases h2; done) | (cases h1; done) | skip
      cases h2
      simp only [Option.some.injEq,Prod.mk.injEq] at hs
      exact done (b := true) (sl _ hq) (by rw [← hs.1]; cases (op == .neq) <;> rfl) hs.2.symm
    | _ => simp [step,hx] at hs
  · rename_i p1 p2 p3 hu
    simp only [Option.map_eq_some_iff] at ht
    obtain ⟨ex,he,rfl⟩ := ht
    have hr := ev_rep T he
    have hy : a.eval (.const .nilFunc) = .nilFunc := rfl
    have sl : ∀ q,(q = .nilFunc ∨ ∃ f a b,q = .func f a b) → a.eval x = q → (execOp a.eval o).run P w = .ok (.value (.bool (if op = .eql then nf q else !nf q))) w := fun q hq hx =>
      cmp_run ho hop hx hy (.inr (.inr ⟨hq,rfl⟩)) (equal_func_nil hu q hq)
    cases hx : ex.ev s with
    | fn f as bs =>
      rw [hx] at hr; simp only [step,hx,Option.some.injEq,Prod.mk.injEq] at hs
      generalize hq : a.eval x = q at hr
      cases hr <;> exact done (b := false) (by simpa [nf] using sl _ (.inr ⟨_,_,_,rfl⟩) hq) (by rw [← hs.1]; cases (op == .neq) <;> rfl) hs.2.symm
    | sc v =>
      rw [hx] at hr
      generalize hq : a.eval x = q at hr
      cases hr
      simp only [step,hx] at hs
      split at hs <;> rename_i h1 h2 <;> first | (cases hs; done) | (cases h2; done) | (cases h1; done) | skip
      cases h2
      simp only [Option.some.injEq,Prod.mk.injEq] at hs
      exact done (b := true) (by simpa [nf] using sl _ (.inl rfl) hq) (by rw [← hs.1]; cases (op == .neq) <;> rfl) hs.2.symm
    | _ => simp [step,hx] at hs
  · cases ht
end
end Go.Proofs.Pe
end

section
set_option linter.unusedVariables false
namespace Go.Proofs.Pe
variable {P : Program} {w : World} {g : G}
section
variable {s : St} {a : Act}

theorem trParts_rep {h : Array Obj} (T : Ts h g s a) : ∀ {xs : List (Nat × Operand)} {es : List (Nat × E)},trParts xs = some es →
    Reps h g s.o (es.map fun (_,e) => e.ev s) ((xs.map fun (i,x) => (i,a.eval x)).map (·.2)) ∧ es.map (·.1) = (xs.map fun (i,x) => (i,a.eval x)).map (·.1)
  | [],es,e => by simp [trParts] at e; subst e; exact ⟨Reps.nil _ _ _,rfl⟩
  | (i,x) :: xs,es,e => by
    simp only [trParts,Option.bind_eq_bind,Option.bind_eq_some_iff] at e
    obtain ⟨e1,h1,es',h2,h3⟩ := e
    simp only [pure,Option.some.injEq] at h3; subst h3
    obtain ⟨r1,r2⟩ := trParts_rep T h2
    exact ⟨Reps.cons (ev_rep T h1) r1,by simp [r2]⟩

theorem trFields_rep {h : Array Obj} (T : Ts h g s a) {pl : List (Nat × Nat)} : ∀ {xs : List (Nat × Operand)} {es : List (Nat × Nat × E)},trFields pl xs = some es →
    xs.length = es.length ∧ ∀ (i : Nat) (p : Nat × Operand) (q : Nat × Nat × E),xs[i]? = some p → es[i]? = some q → pl[p.1]? = some (q.1,q.2.1) ∧ Rep h g s.o (q.2.2.ev s) (a.eval p.2)
  | [],es,e => by simp [trFields] at e; subst e; exact ⟨rfl,fun i p q hp => by simp at hp⟩
  | (j,x) :: xs,es,e => by
    simp only [trFields,Option.bind_eq_bind,Option.bind_eq_some_iff] at e
    obtain ⟨e1,h1,⟨off,n⟩,h2,es',h3,h4⟩ := e
    simp only [pure,Option.some.injEq] at h4; subst h4
    obtain ⟨r1,r2⟩ := trFields_rep T h3
    refine ⟨by simp [r1],fun i p q hp hq => ?_⟩
    cases i with
    | zero => simp at hp hq; subst hp hq; exact ⟨h2,ev_rep T h1⟩
    | succ i => exact r2 i p q (by simpa using hp) (by simpa using hq)

theorem bld_step {o : Oper} {t : TypeId} {ps : Array (Nat × Operand)} {k : K} {y : V} {o' : List O} (ho : o.op = .build t ps) (hk : trBld P t ps.toList = some k) (hs : step P s k = some (y,o')) (I : Inv w.heap g s.o) (T : Ts w.heap g s a) :
    OpOk P (execOp a.eval o) w g s.o y o' := by
  unfold trBld at hk
  split at hk
  · rename_i fs hu
    simp only [Option.bind_eq_bind,Option.bind_eq_some_iff] at hk
    obtain ⟨z,h1,zs,h2,qs,h3,h4⟩ := hk
    split at h4
    · rename_i hall
      simp only [pure,Option.some.injEq] at h4; subst h4
      simp only [step] at hs
      split at hs
      · rename_i hsol
        simp only [Option.map_eq_some_iff] at hs
        obtain ⟨cs,hf,e⟩ := hs
        cases e
        simp only [zeroOf,Option.bind_eq_some_iff] at h1
        obtain ⟨i,hi,hz⟩ := h1
        obtain ⟨r1,r2⟩ := trFields_rep T h3
        have hb := build_ok (P := P) (ps := (ps.toList.map fun (i,x) => (i,a.eval x))) (qs := qs.map fun (off,n,e) => (off,n,e.ev s)) (zs := zs) I hu hi hz (sclist_rep h2) rfl
          (fun f hf => by simp only [List.all_eq_true] at hall; exact hall f hf) (by simpa using r1)
          (fun j p q hp hq => by
            simp only [List.getElem?_map,Option.map_eq_some_iff] at hp hq
            obtain ⟨p',hp',rfl⟩ := hp
            obtain ⟨q',hq',rfl⟩ := hq
            obtain ⟨a1,a2⟩ := r2 j p' q' hp' hq'
            simp only [List.all_eq_true] at hsol
            exact ⟨a1,hsol q' (List.mem_of_getElem? hq'),a2⟩) hf
        have := OpOk.of_runs hb
        have hps : (ps.toList.map fun (i,x) => (i,a.eval x)).toArray = ps.map fun (i,x) => (i,a.eval x) := by
          apply Array.ext'; simp
        rw [hps] at this
        simpa only [execOp,ho] using this
      · cases hs
    · cases h4
  · rename_i n e hu
    simp only [Option.bind_eq_bind,Option.bind_eq_some_iff] at hk
    obtain ⟨z,h1,zs,h2,j,hj,qs,h3,h4⟩ := hk
    simp only [pure,Option.some.injEq] at h4; subst h4
    simp only [step] at hs
    split at hs
    · rename_i hsol
      simp only [Option.map_eq_some_iff] at hs
      obtain ⟨cs,hf,e⟩ := hs
      cases e
      simp only [zeroOf,Option.bind_eq_some_iff] at h1
      obtain ⟨i,hi,hz⟩ := h1
      obtain ⟨r1,r2⟩ := trFields_rep T h3
      have hb := build_arr_ok (P := P) (ps := (ps.toList.map fun (i,x) => (i,a.eval x))) (qs := qs.map fun (off,n,e) => (off,n,e.ev s)) (zs := zs) I hu hi hz (sclist_rep h2) hj
        (by simpa using r1)
        (fun j p q hp hq => by
          simp only [List.getElem?_map,Option.map_eq_some_iff] at hp hq
          obtain ⟨p',hp',rfl⟩ := hp
          obtain ⟨q',hq',rfl⟩ := hq
          obtain ⟨a1,a2⟩ := r2 j p' q' hp' hq'
          simp only [List.all_eq_true] at hsol
          exact ⟨a1,hsol q' (List.mem_of_getElem? hq'),a2⟩) hf
      have := OpOk.of_runs hb
      have hps : (ps.toList.map fun (i,x) => (i,a.eval x)).toArray = ps.map fun (i,x) => (i,a.eval x) := by
        apply Array.ext'; simp
      rw [hps] at this
      simpa only [execOp,ho] using this
    · cases hs
  · cases hk

theorem bsa_step {o : Oper} {t e : TypeId} {k' b len : Nat} {z : Value} {zs : List V} {qs : List (Nat × E)} {ps : Array (Nat × Operand)} {y : V} {o' : List O} (ho : o.op = .buildSlice t len ps) (h1 : rowInfo P t = some (e,k',b,z)) (h2 : sclist z.cells.toList = some zs) (h3 : trParts ps.toList = some qs)
    (hs : step P s (.bsa k' len zs qs) = some (y,o')) (I : Inv w.heap g s.o) (T : Ts w.heap g s a) :
    OpOk P (execOp a.eval o) w g s.o y o' := by
    simp only [step] at hs
    split at hs
    · rename_i hc
      obtain ⟨⟨c1,c2,c3,c4,c5⟩,c6,c7⟩ := hc
      cases hs
      obtain ⟨r1,r2⟩ := trParts_rep T h3
      have L := rowInfo_ok h1
      have hlen : (ps.toList.map fun (i,x) => (i,a.eval x)).length = qs.length := by
        have := congrArg List.length r2
        simpa using this.symm
      have c8 : ∀ p,p ∈ qs → (p.2.ev s).solid = true ∧ (p.2.ev s).cells.length = k' := by
        simp only [Bool.or_eq_true,List.all_eq_true,Bool.and_eq_true,decide_eq_true_eq] at c6
        rcases c6 with c6 | c6
        · exact fun p hp => ⟨free_solid (c6 p hp).1,(c6 p hp).2⟩
        · exact fun p hp => c6 p hp
      have hb := bsa_ok (P := P) (len := len) (ps := (ps.toList.map fun (i,x) => (i,a.eval x))) I L (sclist_rep h2) c7 c3 r1 (by
        simp only [List.all_eq_true]
        intro x hx
        obtain ⟨p,hp,rfl⟩ := List.mem_map.1 hx
        exact (c8 p hp).1) (fun x hx => by
        obtain ⟨p,hp,rfl⟩ := List.mem_map.1 hx
        exact (c8 p hp).2) (by rw [← r2,c1,hlen]) (by rw [hlen]; exact c2) c4
      have := OpOk.of_runs hb
      have hps : (ps.toList.map fun (i,x) => (i,a.eval x)).toArray = ps.map fun (i,x) => (i,a.eval x) := by
        apply Array.ext'; simp
      rw [hps] at this
      simpa only [execOp,ho] using this
    · cases hs

theorem bsl_step {o : Oper} {t : TypeId} {len : Nat} {ps : Array (Nat × Operand)} {k : K} {y : V} {o' : List O} (ho : o.op = .buildSlice t len ps) (hk : trBsl P t len ps.toList = some k) (hs : step P s k = some (y,o')) (I : Inv w.heap g s.o) (T : Ts w.heap g s a) :
    OpOk P (execOp a.eval o) w g s.o y o' := by
  simp only [trBsl,Option.bind_eq_bind,Option.bind_eq_some_iff] at hk
  obtain ⟨⟨e,k',b,z⟩,h1,zs,h2,qs,h3,h4⟩ := hk
  simp only [pure,Option.some.injEq] at h4
  split at h4
  · subst h4
    exact bsa_step ho h1 h2 h3 hs I T
  subst h4
  simp only [step,Option.bind_eq_bind,Option.bind_eq_some_iff] at hs
  obtain ⟨⟨xs,o1⟩,h5,h6⟩ := hs
  split at h6
  · rename_i hc
    obtain ⟨⟨c1,c2,c3,c4,c5⟩,c6,c7⟩ := hc
    simp only [pure,Option.some.injEq,Prod.mk.injEq] at h6
    obtain ⟨rfl,rfl⟩ := h6
    obtain ⟨r1,r2⟩ := trParts_rep T h3
    obtain ⟨g1,t1,i1,f1,l1,rr⟩ := freezes'_tr I h5
    have L := rowInfo_ok h1
    have hlen : (ps.toList.map fun (i,x) => (i,a.eval x)).length = qs.length := by
      have := congrArg List.length r2
      simpa using this.symm
    refine OpOk.behind t1 ?_
    have hb := bsl_ok (P := P) (len := len) (ps := (ps.toList.map fun (i,x) => (i,a.eval x))) i1 L (sclist_rep h2) c7 c3 (rr _ r1) f1 (fun x hx => by
      simp only [List.all_eq_true,decide_eq_true_eq] at c6; exact c6 x hx) (by rw [← r2,c1,hlen]) (by rw [hlen]; exact c2) c4
    have := OpOk.of_runs hb
    have hps : (ps.toList.map fun (i,x) => (i,a.eval x)).toArray = ps.map fun (i,x) => (i,a.eval x) := by
      apply Array.ext'; simp
    rw [hps] at this
    simpa only [execOp,ho] using this
  · cases h6

theorem app_step {t rt : TypeId} {k b : Nat} {e f : E} {x z : Operand} {ty : TypeId} {zv : Value} {y : V} {o' : List O} (h1 : rowInfo P t = some (ty,k,b,zv)) (he : trE x = some e) (hf : trE z = some f)
    (hs : step P s (.app e f k b) = some (y,o')) (I : Inv w.heap g s.o) (T : Ts w.heap g s a) : Runs P (Builtin.append_ #[t,t] rt #[a.eval x,a.eval z]) w g s.o y o' := by
  have L := rowInfo_ok h1
  have rx := ev_rep T he
  have rz := ev_rep T hf
  simp only [step,Option.bind_eq_some_iff] at hs
  obtain ⟨ys,hy,hs⟩ := hs
  obtain ⟨hys,hall⟩ : rowOf s.o (f.ev s) = some ys ∧ ∀ q,q ∈ ys → q.solid = true ∧ q.cells.length = k := by
    obtain ⟨ys',h2,h3⟩ := hy
    split at h3
    · rename_i hc
      cases h3
      refine ⟨h2,fun q hq => ?_⟩
      simp only [List.all_eq_true,Bool.and_eq_true,decide_eq_true_eq] at hc
      exact ⟨free_solid (hc q hq).1,(hc q hq).2⟩
    · split at h3
      · rename_i hc
        cases h3
        refine ⟨h2,fun q hq => ?_⟩
        simp only [List.all_eq_true,Bool.and_eq_true,decide_eq_true_eq] at hc
        exact hc q hq
      · cases h3
  have hfr : ∀ q,q ∈ ys → q.solid = true := fun q hq => (hall q hq).1
  have hk : ∀ q,q ∈ ys → q.cells.length = k := fun q hq => (hall q hq).2
  split at hs
  · rename_i hne
    subst hne
    split at hs
    · rename_i k' fl xs hx
      split at hs
      · cases hs
        rw [hx] at rx
        exact app_none I L rx rfl rz hys
      · cases hs
    · rename_i l v hx
      simp only [Option.map_eq_some_iff] at hs
      obtain ⟨xs,h2,h3⟩ := hs
      cases h3
      rw [hx] at rx
      exact app_none I L rx h2 rz hys
    · rename_i hx
      cases hs
      rw [hx] at rx
      exact app_none I L rx rfl rz hys
    · cases hs
  · rename_i hne
    split at hs
    · rename_i hx
      split at hs
      · rename_i hrm
        cases hs
        rw [hx] at rx
        generalize a.eval x = q at rx
        cases rx
        exact app_nil I L rz hys hk hne hrm
      · cases hs
    · rename_i k' xs hx
      split at hs
      · rename_i hrm
        obtain ⟨rfl,hrm⟩ := hrm
        cases hs
        rw [hx] at rx
        exact app_full I L rx rz hys hk hne hrm
      · cases hs
    · rename_i l v hx
      rw [hx] at rx
      split at hs
      · rename_i v' wr k' xs hl
        split at hs
        · rename_i hc
          obtain ⟨rfl,rfl,hrm⟩ := hc
          cases hs
          exact app_ar I L rx hl rz hys hfr hk hne hrm
        · cases hs
      · cases hs
    · cases hs

theorem apz_step {t tn rt : TypeId} {kn : IntKind} {k b : Nat} {e f : E} {x z : Operand} {ty : TypeId} {zv : Value} {zz : V} {y : V} {o' : List O} (h1 : rowInfo P t = some (ty,k,b,zv)) (hz : ofVal zv = some zz) (hkn : P.underlying tn = some (.int kn)) (he : trE x = some e) (hf : trE z = some f)
    (hs : step P s (.apz e f k b zz) = some (y,o')) (I : Inv w.heap g s.o) (T : Ts w.heap g s a) : Runs P (Builtin.append_ #[t,tn] rt #[a.eval x,a.eval z]) w g s.o y o' := by
  have L := rowInfo_ok h1
  have rx := ev_rep T he
  have rz := ev_rep T hf
  simp only [step,Option.bind_eq_some_iff] at hs
  obtain ⟨n,hn,hs⟩ := hs
  split at hs
  case isFalse => cases hs
  rename_i hc0
  obtain ⟨hn0,hfr,hk⟩ := hc0
  obtain ⟨kq,hq⟩ := intOf_rep rz hn
  rw [hq]
  obtain ⟨m,rfl⟩ := Int.eq_ofNat_of_zero_le hn0
  have hsol := free_solid hfr
  simp only [Int.toNat_natCast] at hs
  split at hs
  · rename_i hm
    subst hm
    split at hs
    · rename_i k' fl xs hx
      split at hs
      · cases hs
        rw [hx] at rx
        exact apz_none I L hkn rx rfl
      · cases hs
    · rename_i l v hx
      simp only [Option.map_eq_some_iff] at hs
      obtain ⟨xs,h2,h3⟩ := hs
      cases h3
      rw [hx] at rx
      exact apz_none I L hkn rx h2
    · rename_i hx
      cases hs
      rw [hx] at rx
      exact apz_none I L hkn rx rfl
    · cases hs
  · rename_i hm
    have hm0 : 0 < m := by omega
    split at hs
    · rename_i hx
      split at hs
      · rename_i hrm
        cases hs
        rw [hx] at rx
        generalize a.eval x = q at rx
        cases rx
        exact apz_nil I L hkn hz hsol hk hm0 hrm
      · cases hs
    · rename_i k' xs hx
      split at hs
      · rename_i hrm
        obtain ⟨rfl,hrm⟩ := hrm
        cases hs
        rw [hx] at rx
        exact apz_full I L rx hkn hz hsol hk hm0 hrm
      · cases hs
    · rename_i l v hx
      rw [hx] at rx
      split at hs
      · rename_i v' wr k' xs hl
        split at hs
        · rename_i hc
          obtain ⟨rfl,rfl,hrm⟩ := hc
          cases hs
          exact apz_ar I L rx hl hkn hz hsol hk hm0 hrm
        · cases hs
      · cases hs
    · cases hs

theorem sliceBounds_ok {h : Array Obj} {x : List V} {n cap hh ll : Nat} {lo hi mx : Option Operand} {lo' hi' mx' : Option E} (T : Ts h g s a) (h1 : trO lo = some lo') (h2 : trO hi = some hi') (h3 : trO mx = some mx') (hn : n ≤ cap)
    (bh : bound s n hi' = some hh) (bl : bound s hh (some (lo'.getD (.lit (.sc (.int .i64 0))))) = some ll) (bm : ∀ m,mx' = some m → hi' ≠ none → ∃ m',bound s n (some m) = some m' ∧ hh ≤ m') (hm : mx' ≠ none → hi' ≠ none) :
    ∃ m',(Instr.sliceBounds true n cap (lo.map a.eval) (hi.map a.eval) (mx.map a.eval)).run P w = .ok (ll,hh,m') w ∧ hh ≤ m' ∧ (∀ m,mx' = some m → bound s n (some m) = some m') ∧ (mx' = none → m' = cap) ∧ hh ≤ n ∧ ll ≤ hh := by
  have o2 : ∀ {x : Option Operand} {e : Option E},trO x = some e → (x = none ∧ e = none) ∨ ∃ y f,x = some y ∧ e = some f ∧ trE y = some f := fun {x e} hx => by
    cases x with
    | none => simp [trO] at hx; exact .inl ⟨rfl,hx.symm⟩
    | some y =>
      simp only [trO,Option.map_eq_some_iff] at hx
      obtain ⟨f,hf,rfl⟩ := hx
      exact .inr ⟨y,f,rfl,rfl,hf⟩
  have hhn : hh ≤ n := by
    rcases o2 h2 with ⟨rfl,rfl⟩ | ⟨y,f,rfl,rfl,hf⟩
    · simp [bound] at bh; omega
    · exact (bound_ok (P := P) (w := w) (code := .index) bh (ev_rep T hf) (Nat.le_refl n)).2
  have hlh : ll ≤ hh := by
    rcases o2 h1 with ⟨rfl,rfl⟩ | ⟨y,f,rfl,rfl,hf⟩
    · simp only [Option.getD_none,bound,intOf,E.ev] at bl
      split at bl
      · cases bl; omega
      · cases bl
    · exact (bound_ok (P := P) (w := w) (code := .index) bl (ev_rep T hf) (Nat.le_refl hh)).2
  have l0 : (lo.map a.eval = none ∧ ll = 0) ∨ ∃ v,lo.map a.eval = some v ∧ ∀ code,(Instr.sliceBound v hh code).run P w = .ok ll w := by
    rcases o2 h1 with ⟨rfl,rfl⟩ | ⟨y,f,rfl,rfl,hf⟩
    · simp only [Option.getD_none,bound,intOf,E.ev] at bl
      split at bl
      · cases bl; exact .inl ⟨rfl,rfl⟩
      · cases bl
    · exact .inr ⟨_,rfl,fun code => (bound_ok (P := P) (w := w) (code := code) bl (ev_rep T hf) (Nat.le_refl hh)).1⟩
  rcases o2 h3 with ⟨rfl,rfl⟩ | ⟨ym,fm,rfl,rfl,hfm⟩
  · refine ⟨cap, ?_,by omega,fun m e => by (cases e),fun _ => rfl,hhn,hlh⟩
    rcases o2 h2 with ⟨rfl,rfl⟩ | ⟨y,f,rfl,rfl,hf⟩
    · simp [bound] at bh; subst bh
      rcases l0 with ⟨e,rfl⟩ | ⟨v,e,hl⟩
      · simp [Instr.sliceBounds,e]
      · simp [Instr.sliceBounds,e,hl]
    · have hb := fun code => (bound_ok (P := P) (w := w) (code := code) bh (ev_rep T hf) hn).1
      rcases l0 with ⟨e,rfl⟩ | ⟨v,e,hl⟩
      · simp [Instr.sliceBounds,e,hb]
      · simp [Instr.sliceBounds,e,hl,hb]
  · obtain ⟨y,f,rfl,rfl,hf⟩ : ∃ y f,hi = some y ∧ hi' = some f ∧ trE y = some f := by
      rcases o2 h2 with ⟨rfl,rfl⟩ | h
      · exact absurd rfl (hm (by simp))
      · exact h
    obtain ⟨m',hm1,hm2⟩ := bm fm rfl (by simp)
    have hbm := fun code => (bound_ok (P := P) (w := w) (code := code) hm1 (ev_rep T hfm) hn).1
    have bh' : bound s hh (some f) = some hh := by
      simp only [bound] at bh ⊢
      split at bh
      · rename_i i hi
        split at bh
        · rename_i hc; cases bh
          rw [if_pos ⟨hc.1,by omega⟩]
        · cases bh
      · cases bh
    have hb := fun code => (bound_ok (P := P) (w := w) (code := code) bh' (ev_rep T hf) hm2).1
    refine ⟨m', ?_,hm2,fun m e => by cases e; exact hm1,fun e => by (cases e),hhn,hlh⟩
    rcases l0 with ⟨e,rfl⟩ | ⟨v,e,hl⟩
    · simp [Instr.sliceBounds,e,hb,hbm]
    · simp [Instr.sliceBounds,e,hl,hb,hbm]

theorem viewOf_ok {t e0 : TypeId} {i : TypeInfo} {k b : Nat} {zv : Value} {lo' hi' mx' : Option E} {lo hi mx : Option Operand} {y : V} {u : Value} {la va a0 m : Nat} {wr : Bool} {xs : List V} (L : El P t e0 k b zv) (hi1 : P.info? e0 = some i) (hi3 : i.size = k)
    (hlo : trO lo = some lo') (hhi : trO hi = some hi') (hmx : trO mx = some mx') (hla : s.o[la]? = some (.arr va wr k xs))
    (hr : (∃ u',u = u' ∧ Rep w.heap g s.o (.ar la va) u' ∧ a0 = 0 ∧ m = xs.length) ∨ Rep w.heap g s.o (.vw la va a0 m) u)
    (hs : viewOf s k la va a0 m lo' hi' mx' = some y) (I : Inv w.heap g s.o) (T : Ts w.heap g s a) :
    Runs P (Instr.sliceAt t u (lo.map a.eval) (hi.map a.eval) (mx.map a.eval)) w g s.o y s.o := by
  simp only [viewOf,Option.bind_eq_bind,Option.bind_eq_some_iff] at hs
  obtain ⟨hh,hb1,ll,hb2,hs⟩ := hs
  have hxl : (List.replicate m V.dead).length = m := by simp
  split at hs
  · simp only [pure,Option.some.injEq] at hs
    subst hs
    have hmc : mx = none := by
      cases mx with
      | none => rfl
      | some q => simp [trO] at hmx
    subst hmc
    have sb := fun cap (hcap : m ≤ cap) => sliceBounds_ok (P := P) (w := w) (mx := none) (mx' := none) (x := List.replicate m V.dead) T hlo hhi rfl (cap := cap) (by simpa using hcap) (by simpa using hb1) hb2 (fun m e => by cases e) (fun e => absurd rfl e)
    obtain ⟨m0,_,_,_,_,p,q⟩ := sb m (Nat.le_refl _)
    have := slice_vw (P := P) (z0 := false) (w := w) (lo := lo.map a.eval) (hi := hi.map a.eval) (mx := none) I hla hr L.ht hi1 hi3 (l := ll) (h := hh) (fun cap hcap => by
      obtain ⟨m',p1,p2,_,p4,_,_⟩ := sb cap hcap
      exact ⟨m',by simpa using p1,p2,by rw [p4 rfl]; exact Nat.le_refl _,fun h => by cases h⟩) q (by simpa using p)
    simpa using this
  · rename_i fm
    simp only [Option.bind_eq_bind,Option.bind_eq_some_iff] at hs
    obtain ⟨m1,hb3,hs⟩ := hs
    split at hs
    · rename_i hc
      simp only [pure,Option.some.injEq] at hs
      subst hs
      have hne : hi' ≠ none := by intro e; rw [e] at hc; simp at hc
      have sb := fun cap (hcap : m ≤ cap) => sliceBounds_ok (P := P) (w := w) (mx := mx) (mx' := some fm) (x := List.replicate m V.dead) T hlo hhi hmx (cap := cap) (by simpa using hcap) (by simpa using hb1) hb2 (fun m2 e _ => by cases e; exact ⟨m1,by simpa using hb3,hc.2⟩) (fun _ => hne)
      obtain ⟨m0,_,_,_,_,p,q⟩ := sb m (Nat.le_refl _)
      have hm1 : m1 ≤ m := by
        simp only [bound] at hb3
        split at hb3
        · split at hb3
          · rename_i hcc; cases hb3; omega
          · cases hb3
        · cases hb3
      have := slice_vw (P := P) (z0 := decide (m1 = ll)) (w := w) (lo := lo.map a.eval) (hi := hi.map a.eval) (mx := mx.map a.eval) I hla hr L.ht hi1 hi3 (l := ll) (h := hh) (fun cap hcap => by
        obtain ⟨m',p1,p2,p3,_,_,_⟩ := sb cap hcap
        have hq := p3 _ rfl
        have : m' = m1 := by
          rw [hb3] at hq; cases hq; rfl
        subst this
        exact ⟨m',by simpa using p1,p2,by omega,fun h => by simpa using h⟩) q (by simpa using p)
      simpa using this
    · cases hs

theorem slcv_step {t e0 : TypeId} {i : TypeInfo} {k b : Nat} {zv : Value} {e : E} {lo' hi' mx' : Option E} {x : Operand} {lo hi mx : Option Operand} {y : V} {o' : List O} (L : El P t e0 k b zv) (hi1 : P.info? e0 = some i) (hi3 : i.size = k)
    (rx : Rep w.heap g s.o (e.ev s) (a.eval x)) (hlo : trO lo = some lo') (hhi : trO hi = some hi') (hmx : trO mx = some mx')
    (hs : (match e.ev s with
      | .ar l v => match s.o[l]? with
        | some (.arr v' _ k' xs) => if v' = v ∧ k' = k then (viewOf s k' l v 0 xs.length lo' hi' mx').map fun y => (y,s.o) else none
        | _ => none
      | .vw l v a n => match s.o[l]? with
        | some (.arr v' _ k' xs) => if v' = v ∧ k' = k then (viewOf s k' l v a n lo' hi' mx').map fun y => (y,s.o) else none
        | _ => none
      | _ => none) = some (y,o')) (I : Inv w.heap g s.o) (T : Ts w.heap g s a) :
    Runs P (Instr.sliceAt t (a.eval x) (lo.map a.eval) (hi.map a.eval) (mx.map a.eval)) w g s.o y o' := by
  split at hs
  · rename_i l v hx
    rw [hx] at rx
    split at hs
    · rename_i v' wr k' xs hl
      split at hs
      · rename_i hc
        obtain ⟨rfl,rfl⟩ := hc
        simp only [Option.map_eq_some_iff,Prod.mk.injEq] at hs
        obtain ⟨y',h1,rfl,rfl⟩ := hs
        exact viewOf_ok L hi1 hi3 hlo hhi hmx hl (.inl ⟨_,rfl,rx,rfl,rfl⟩) h1 I T
      · cases hs
    · cases hs
  · rename_i l v a0 n hx
    rw [hx] at rx
    split at hs
    · rename_i v' wr k' xs hl
      split at hs
      · rename_i hc
        obtain ⟨rfl,rfl⟩ := hc
        simp only [Option.map_eq_some_iff,Prod.mk.injEq] at hs
        obtain ⟨y',h1,rfl,rfl⟩ := hs
        exact viewOf_ok L hi1 hi3 hlo hhi hmx hl (.inr rx) h1 I T
      · cases hs
    · cases hs
  · cases hs

theorem slc_step {t ty : TypeId} {k b : Nat} {zv : Value} {e : E} {lo' hi' mx' : Option E} {x : Operand} {lo hi mx : Option Operand} {y : V} {o' : List O} (h1 : rowInfo P t = some (ty,k,b,zv)) (he : trE x = some e) (hlo : trO lo = some lo') (hhi : trO hi = some hi') (hmx : trO mx = some mx')
    (hs : step P s (.slc e lo' hi' mx' k) = some (y,o')) (I : Inv w.heap g s.o) (T : Ts w.heap g s a) : Runs P (Instr.sliceAt t (a.eval x) (lo.map a.eval) (hi.map a.eval) (mx.map a.eval)) w g s.o y o' := by
  have L := rowInfo_ok h1
  obtain ⟨i,hi1,hi2,hi3,hi4⟩ := L.hi
  have rx := ev_rep T he
  simp only [step] at hs
  split at hs
  case h_2 hnf => exact slcv_step L hi1 hi3 rx hlo hhi hmx hs I T
  rename_i q o1 hf
  obtain ⟨g1,t1,i1,f1,r1⟩ := freeze1_tr I hf
  have rq := r1 _ rx
  have back : ∀ {m : Sem Value} {z : V},Runs P m w g1 o1 z o1 → Runs P m w g s.o z o1 := fun ⟨r,w',g',a1,a2,a3,a4⟩ => ⟨r,w',g',a1,t1.trans a2,a3,a4⟩
  skip
  split at hs
  · rename_i k' full xs
    split at hs
    · cases hs
    rename_i hkk
    have hkk : k' = k := by simpa using hkk
    simp only [Option.bind_eq_bind,Option.bind_eq_some_iff] at hs
    obtain ⟨hh,hb1,ll,hb2,hs⟩ := hs
    subst hkk
    split at hs
    · rename_i hm0
      simp only [pure,Option.some.injEq,Prod.mk.injEq] at hs
      obtain ⟨rfl,rfl⟩ := hs
      refine back ?_
      have hle : hh ≤ xs.length ∧ ll ≤ hh := by
        obtain ⟨m',_,_,_,_,p,q⟩ := sliceBounds_ok (P := P) (w := w) (mx := none) (mx' := none) (x := xs) T hlo hhi rfl (Nat.le_refl xs.length) hb1 hb2 (fun m e => by cases e) (fun e => absurd rfl e)
        exact ⟨p,q⟩
      refine slice_sl (m := 0) i1 rq L.ht hi1 hi3 (fun cap hcap hfull => ?_) hle.2 hle.1
      obtain ⟨m',p1,p2,_,p4,_,_⟩ := sliceBounds_ok (P := P) (w := w) (mx := mx) (mx' := none) (x := xs) T hlo hhi (by rw [hmx]) hcap hb1 hb2 (fun m e => by cases e) (fun e => absurd rfl e)
      refine ⟨m',p1,p2,by rw [p4 rfl]; exact Nat.le_refl _,fun e => ?_⟩
      simp only [Bool.and_eq_true,decide_eq_true_eq] at e
      rw [p4 rfl,hfull e.1,e.2]
    · rename_i m hm0
      simp only [Option.bind_eq_bind,Option.bind_eq_some_iff] at hs
      obtain ⟨m1,hb3,hs⟩ := hs
      split at hs
      · rename_i hc
        simp only [pure,Option.some.injEq,Prod.mk.injEq] at hs
        obtain ⟨rfl,rfl⟩ := hs
        refine back ?_
        have hne : hi' ≠ none := by intro e; rw [e] at hc; simp at hc
        have sb := fun cap (hcap : xs.length ≤ cap) => sliceBounds_ok (P := P) (w := w) (mx := mx) (x := xs) T hlo hhi hmx hcap hb1 hb2 (fun m2 e _ => by cases e; exact ⟨m1,hb3,hc.2⟩) (fun _ => hne)
        obtain ⟨_,_,_,_,_,p,q⟩ := sb _ (Nat.le_refl _)
        refine slice_sl (m := 0) i1 rq L.ht hi1 hi3 (fun cap hcap hfull => ?_) q p
        obtain ⟨m',p1,p2,p3,_,_,_⟩ := sb cap hcap
        have hq := p3 _ rfl
        rw [hb3] at hq; cases hq
        have hmle : m1 ≤ xs.length := by
          simp only [bound] at hb3
          split at hb3
          · split at hb3
            · rename_i hcc; cases hb3; omega
            · cases hb3
          · cases hb3
        refine ⟨m1,p1,p2,by omega,fun e => ?_⟩
        simp only [decide_eq_true_eq] at e; omega
      · cases hs
  · simp only [Option.bind_eq_bind,Option.bind_eq_some_iff] at hs
    obtain ⟨hh,hb1,ll,hb2,m1,hb3,hs⟩ := hs
    split at hs
    · rename_i hc
      simp only [pure,Option.some.injEq,Prod.mk.injEq] at hs
      obtain ⟨rfl,rfl⟩ := hs
      refine back ?_
      generalize a.eval x = v at rq
      cases rq
      have hz : hh = 0 ∧ ll = 0 ∧ ∃ m',(Instr.sliceBounds true 0 0 (lo.map a.eval) (hi.map a.eval) (mx.map a.eval)).run P w = .ok (ll,hh,m') w ∧ m' = 0 := by
        by_cases hmn : mx' = none
        · obtain ⟨m',p1,p2,_,p4,p5,p6⟩ := sliceBounds_ok (P := P) (w := w) (x := []) T hlo hhi hmx (Nat.le_refl 0) hb1 hb2 (fun m e => by rw [hmn] at e; cases e) (fun e => absurd hmn e)
          exact ⟨by omega,by omega,m',p1,p4 hmn⟩
        · obtain ⟨mm,hmm⟩ := Option.ne_none_iff_exists'.1 hmn
          have hne : hi' ≠ none := by
            intro e; rw [hmm,e] at hc; simp at hc
          rw [hmm] at hb3
          have hm1 : m1 = 0 := by
            simp only [bound] at hb3
            split at hb3
            · split at hb3
              · cases hb3; omega
              · cases hb3
            · cases hb3
          have hh0 : hh = 0 := by
            obtain ⟨ff,hff⟩ := Option.ne_none_iff_exists'.1 hne
            rw [hff] at hb1
            simp only [bound] at hb1
            split at hb1
            · split at hb1
              · cases hb1; omega
              · cases hb1
            · cases hb1
          obtain ⟨m',p1,p2,p3,_,p5,p6⟩ := sliceBounds_ok (P := P) (w := w) (x := []) T hlo hhi hmx (Nat.le_refl 0) hb1 hb2 (fun m e _ => by rw [hmm] at e; cases e; exact ⟨m1,hb3,by omega⟩) (fun _ => hne)
          have := p3 mm hmm
          rw [hb3] at this; cases this
          exact ⟨hh0,by omega,m1,p1,hm1⟩
      obtain ⟨rfl,rfl,m',p1,rfl⟩ := hz
      refine .same (r := .slice none 0 0) i1 ?_ (.sc rfl)
      simp [Instr.sliceAt,Instr.slice,run_underlying L.ht,p1,sizeOf,typeInfo,hi1]
    · cases hs
  · cases hs
end
end Go.Proofs.Pe
end

section
set_option linter.unusedVariables false
namespace Go.Proofs.Pe
variable {P : Program} {w : World} {g : G}

theorem nilck_step {s : St} {a : Act} {o : Oper} {x : Operand} {e : E} {y : V} {o' : List O} (ho : o.op = .nilCheck x) (he : trE x = some e) (hs : step P s (.nilck e) = some (y,o')) (I : Inv w.heap g s.o) (T : Ts w.heap g s a) :
    OpOk P (execOp a.eval o) w g s.o y o' := by
  have rx := ev_rep T he
  simp only [step] at hs
  split at hs
  · rename_i l f hx
    cases hs; rw [hx] at rx
    exact ⟨_,w,g,.inl (nilck_free rx (.inl ⟨_,_,rfl⟩) o x a.eval ho rfl),Tr.refl _ _ _,I,rx⟩
  · rename_i l v i f hx
    split at hs
    · rename_i v' wr k xs hl
      split at hs
      · rename_i hv; subst hv
        cases hs; rw [hx] at rx
        exact ⟨_,w,g,.inl (nilck_pa rx hl o x a.eval ho rfl),Tr.refl _ _ _,I,rx⟩
      · cases hs
    · cases hs
  · rename_i cs hx
    cases hs; rw [hx] at rx
    exact ⟨_,w,g,.inl (nilck_free rx (.inr (.inl ⟨_,rfl⟩)) o x a.eval ho rfl),Tr.refl _ _ _,I,rx⟩
  · rename_i f as bs hx
    cases hs; rw [hx] at rx
    exact ⟨_,w,g,.inl (nilck_free rx (.inr (.inr (.inl ⟨_,_,_,rfl⟩))) o x a.eval ho rfl),Tr.refl _ _ _,I,rx⟩
  · rename_i f as bs hx
    cases hs; rw [hx] at rx
    exact ⟨_,w,g,.inl (nilck_free rx (.inr (.inr (.inr ⟨_,_,_,rfl⟩))) o x a.eval ho rfl),Tr.refl _ _ _,I,rx⟩
  · cases hs

theorem fad_step {s : St} {a : Act} {st : TypeId} {fi off : Nat} {x : Operand} {e : E} {y : V} {o' : List O} (hk : trFad P st fi = some off) (he : trE x = some e) (hs : step P s (.fad e off) = some (y,o')) (I : Inv w.heap g s.o) (T : Ts w.heap g s a) :
    Runs P (Instr.fieldAt st (a.eval x) fi) w g s.o y o' := by
  have rx := ev_rep T he
  unfold trFad at hk
  split at hk
  · rename_i fs hu
    simp only [Option.bind_eq_some_iff] at hk
    obtain ⟨f,hf,n,hn,hk⟩ := hk
    split at hk
    · rename_i hn0
      cases hk
      simp only [sizeOf',Option.map_eq_some_iff] at hn
      obtain ⟨i,hi,rfl⟩ := hn
      simp only [step] at hs
      split at hs
      · rename_i l b hx
        cases hs; rw [hx] at rx
        exact fad_pt I rx hu hf hi hn0
      · rename_i l v j b hx
        rw [hx] at rx
        split at hs
        · rename_i v' wr k xs hl
          split at hs
          · rename_i hv; subst hv
            cases hs
            exact fad_pa I rx hl hu hf hi hn0
          · cases hs
        · cases hs
      · rename_i cs hx
        rw [hx] at rx
        split at hs
        · rename_i hle; cases hs
          exact fad_ep I rx hu hf hi hn0 hle
        · cases hs
      · cases hs
    · cases hk
  · cases hk

theorem fld_step {s : St} {a : Act} {st : TypeId} {fi off n : Nat} {ag : Bool} {x : Operand} {e : E} {y : V} {o' : List O} (hk : trFld P st fi = some (off,n,ag)) (he : trE x = some e) (hs : step P s (.fld e off n ag) = some (y,o')) (I : Inv w.heap g s.o) (T : Ts w.heap g s a) :
    Runs P (Instr.field st (a.eval x) fi) w g s.o y o' := by
  have rx := ev_rep T he
  unfold trFld at hk
  split at hk
  · rename_i fs hu
    simp only [Option.bind_eq_bind,Option.bind_eq_some_iff] at hk
    obtain ⟨f,hf,n',hn,ag',hag,hk⟩ := hk
    simp only [pure,Option.some.injEq,Prod.mk.injEq] at hk
    obtain ⟨rfl,rfl,rfl⟩ := hk
    simp only [step] at hs
    split at hs
    · rename_i cs hx
      rw [hx] at rx
      simp only [Option.map_eq_some_iff] at hs
      obtain ⟨y',hp,e⟩ := hs
      cases e
      exact fld_ok I rx hu hf (aggOf_ok hag w) (fun _ => by simpa only [sizeOf',Option.map_eq_some_iff] using hn) hp
    · cases hs
  · cases hk

theorem iad_step {s : St} {a : Act} {t ty : TypeId} {k b : Nat} {z : Value} {x i : Operand} {e f : E} {y : V} {o' : List O} (hk : rowInfo P t = some (ty,k,b,z)) (he : trE x = some e) (hf : trE i = some f) (hs : step P s (.iad e f k) = some (y,o')) (I : Inv w.heap g s.o) (T : Ts w.heap g s a) :
    Runs P (Instr.indexAt t (a.eval x) (a.eval i)) w g s.o y o' := by
  have rx := ev_rep T he
  have ri := ev_rep T hf
  have L := rowInfo_ok hk
  obtain ⟨j,hj1,hj2,hj3,hj4⟩ := L.hi
  simp only [step,Option.bind_eq_some_iff] at hs
  obtain ⟨n,hn,hs⟩ := hs
  obtain ⟨ik,hi⟩ := intOf_rep ri hn
  rw [hi]
  split at hs
  · rename_i h0
    split at hs
    · rename_i k' fl xs hx
      rw [hx] at rx
      split at hs
      · rename_i hk'; subst hk'
        simp only [Option.map_eq_some_iff] at hs
        obtain ⟨x',hx',e'⟩ := hs
        cases e'
        exact iad_sl I rx L.ht hj1 hj3 h0 hx'
      · cases hs
    · rename_i l v hx
      rw [hx] at rx
      split at hs
      · rename_i v' wr k' xs hl
        split at hs
        · rename_i hc
          obtain ⟨rfl,rfl,hlt⟩ := hc
          cases hs
          exact iad_ar I rx hl L.ht hj1 hj3 h0 hlt
        · cases hs
      · cases hs
    · rename_i l v a0 m hx
      rw [hx] at rx
      split at hs
      · rename_i v' wr k' xs hl
        split at hs
        · rename_i hc
          obtain ⟨rfl,rfl,hlt⟩ := hc
          cases hs
          exact iad_vw I rx hl L.ht hj1 hj3 h0 hlt
        · cases hs
      · cases hs
    · cases hs
  · cases hs

theorem aia_step {s : St} {a : Act} {t ty : TypeId} {j : TypeInfo} {m : Nat} {x i : Operand} {e f : E} {y : V} {o' : List O} (ht : P.underlying t = some (.array m ty)) (hj : P.info? ty = some j) (he : trE x = some e) (hf : trE i = some f) (hs : step P s (.aia e f j.size m) = some (y,o')) (I : Inv w.heap g s.o) (T : Ts w.heap g s a) :
    Runs P (Instr.indexAt t (a.eval x) (a.eval i)) w g s.o y o' := by
  have rx := ev_rep T he
  have ri := ev_rep T hf
  simp only [step,Option.bind_eq_some_iff] at hs
  obtain ⟨n,hn,hs⟩ := hs
  obtain ⟨ik,hi⟩ := intOf_rep ri hn
  rw [hi]
  split at hs
  · rename_i h0
    split at hs
    · rename_i l off hx
      rw [hx] at rx
      cases hs
      exact aia_ok I rx ht hj rfl h0.1 h0.2
    · cases hs
  · cases hs

theorem OpOk.of_value {o : List O} {m : Sem Next} {y : V} {r : Value} (I : Inv w.heap g o) (h : m.run P w = .ok (.value r) w) (hr : Rep w.heap g o y r) : OpOk P m w g o y o :=
  ⟨r,w,g,.inl h,Tr.refl _ _ _,I,hr⟩

theorem step_ok {s : St} {a : Act} {o : Oper} {k : K} {y : V} {o' : List O} (ht : trK P o = some k) (hs : step P s k = some (y,o')) (I : Inv w.heap g s.o) (T : Ts w.heap g s a) : OpOk P (execOp a.eval o) w g s.o y o' := by
  unfold trK at ht
  split at ht
  case h_1 x ho =>
    simp only [Option.map_eq_some_iff] at ht; obtain ⟨e,he,rfl⟩ := ht
    simp only [step,Option.some.injEq,Prod.mk.injEq] at hs; obtain ⟨rfl,rfl⟩ := hs
    exact mv_ok o (.inl ho) he I T
  case h_2 x ho =>
    simp only [Option.map_eq_some_iff] at ht; obtain ⟨e,he,rfl⟩ := ht
    simp only [step,Option.some.injEq,Prod.mk.injEq] at hs; obtain ⟨rfl,rfl⟩ := hs
    exact mv_ok o (.inr ho) he I T
  case h_3 t x ho =>
    simp only [Option.map_eq_some_iff] at ht; obtain ⟨e,he,rfl⟩ := ht
    simp only [step] at hs
    split at hs
    · rename_i hsol
      cases hs
      have := OpOk.of_runs (box_ok (P := P) (t := t) I hsol (ev_rep T he))
      simpa only [execOp,ho] using this
    · cases hs
  case h_4 t ho =>
    simp only [Option.map_eq_some_iff,Option.bind_eq_some_iff,zeroOf] at ht
    obtain ⟨z,⟨u,⟨i,hi,hz⟩,hv⟩,rfl⟩ := ht
    simp only [step] at hs
    split at hs
    · rename_i hsol
      cases hs
      have := OpOk.of_runs (alloc_ok (P := P) (t := t) (old := .tuple #[]) I hi hz hv hsol)
      simpa only [execOp,ho] using this
    · cases hs
  case h_5 t ps ho => exact bld_step ho ht hs I T
  case h_6 t len ps ho => exact bsl_step ho ht hs I T
  case h_7 t x ho =>
    simp only [Option.bind_eq_bind,Option.bind_eq_some_iff] at ht
    obtain ⟨e,he,ag,hag,n,hn,h4⟩ := ht
    simp only [pure,Option.some.injEq] at h4; subst h4
    have := OpOk.of_runs (load_step he hag hn hs I T)
    simpa only [execOp,ho] using this
  case h_8 t x z ho =>
    simp only [Option.bind_eq_bind,Option.bind_eq_some_iff] at ht
    obtain ⟨e,he,f,hf,n,hn,h4⟩ := ht
    simp only [pure,Option.some.injEq] at h4; subst h4
    obtain ⟨rfl,hr⟩ := store_step he hf hn hs I T
    have := OpOk.of_runsU hr
    simpa only [execOp,ho] using this
  case h_9 x ho =>
    simp only [Option.map_eq_some_iff] at ht; obtain ⟨e,he,rfl⟩ := ht
    exact nilck_step ho he hs I T
  case h_10 op t x z yt ho =>
    split at ht
    · rename_i k' hn
      cases ht
      exact trNil_ok ho (.inl rfl) hn hs I T
    · rename_i k' hn
      cases ht
      exact trNil_ok ho (.inr rfl) hn hs I T
    · cases ht
      exact sca_ok I T (by simp [ho]) hs
  case h_11 src dst x ho =>
    split at ht
    · rename_i k' hc
      cases ht
      unfold trConv at hc
      split at hc
      · rename_i e hu1 hu2
        split at hc
        · rename_i hu3
          simp only [Option.map_eq_some_iff] at hc; obtain ⟨e',he,rfl⟩ := hc
          have rx := ev_rep T he
          simp only [step] at hs
          split at hs
          · rename_i b hx
            rw [hx] at rx
            split at hs
            · cases hs
              generalize hq : a.eval x = q at rx
              cases rx
              have := OpOk.of_runs (s2b_ok (P := P) (s := b) I hu1 hu2 hu3)
              simpa only [execOp,ho,hq] using this
            · cases hs
          · cases hs
        · cases hc
      · rename_i e hu1 hu2
        split at hc
        · rename_i hu3
          simp only [Option.map_eq_some_iff] at hc; obtain ⟨e',he,rfl⟩ := hc
          have rx := ev_rep T he
          simp only [step,Option.bind_eq_some_iff,Option.map_eq_some_iff] at hs
          obtain ⟨xs,hx,bs,hb,e2⟩ := hs
          cases e2
          have := OpOk.of_runs (b2s_ok (P := P) I rx hx hb hu1 hu3 hu2)
          simpa only [execOp,ho] using this
        · cases hc
      · rename_i e0 e1 hu1 hu2
        split at hc
        · rename_i hu3
          split at hc
          · rename_i hsd; subst hsd
            simp only [Option.map_eq_some_iff] at hc; obtain ⟨e',he,rfl⟩ := hc
            have rx := ev_rep T he
            simp only [step] at hs
            split at hs
            · rename_i l v hx
              rw [hx] at rx
              split at hs
              · rename_i v' k xs hl
                split at hs
                · rename_i hv; subst hv
                  cases hs
                  have := OpOk.of_runs (mks_ok (P := P) I rx hl hu1 hu3)
                  simpa only [execOp,ho] using this
                · cases hs
              · cases hs
            · cases hs
          · cases hc
        · cases hc
      · cases hc
    · cases ht
      exact sca_ok I T (by simp [ho]) hs
  case h_12 f0 as bs ho =>
    split at ht
    case h_2 => cases ht
    rename_i f
    simp only [Option.bind_eq_bind,Option.bind_eq_some_iff] at ht
    obtain ⟨xs,hx,ys,hy,h3⟩ := ht
    simp only [pure,Option.some.injEq] at h3; subst h3
    simp only [step,Option.some.injEq,Prod.mk.injEq] at hs; obtain ⟨rfl,rfl⟩ := hs
    have r1 := trEs_rep T hx
    have r2 := trEs_rep T hy
    refine ⟨.func (.func f) (as.map a.eval) (bs.map a.eval),w,g,.inl (by simp [execOp,ho,Instr.makeFunc]),Tr.refl _ _ _,I,.fn (by simp) (by simpa using r1.1) (fun j y hy u hu => r1.2 j y hy u (by simpa using hu)) (by simpa using r2.1) (fun j y hy u hu => r2.2 j y hy u (by simpa using hu))⟩
  case h_13 t n c ho =>
    simp only [Option.bind_eq_bind,Option.bind_eq_some_iff] at ht
    obtain ⟨⟨ty,k',b,z⟩,h1,zv,hz,en,hen,ec,hec,h4⟩ := ht
    simp only [pure,Option.some.injEq] at h4; subst h4
    simp only [step,Option.bind_eq_some_iff] at hs
    obtain ⟨n',hn',c',hc',hs⟩ := hs
    split at hs
    · rename_i hcond
      obtain ⟨c1,c2,c3,c4,c5,c6,c7⟩ := hcond
      cases hs
      obtain ⟨kn,e1⟩ := intOf_rep (ev_rep T hen) hn'
      obtain ⟨kc,e2⟩ := intOf_rep (ev_rep T hec) hc'
      have := OpOk.of_runs (make_ok (P := P) (kn := kn) (kc := kc) I (rowInfo_ok h1) hz c5 c4 c1 c2 c3)
      simpa only [execOp,ho,e1,e2] using this
    · cases hs
  case h_14 t x lo hi mx ho =>
    split at ht
    · rename_i e0 hel
      simp only [Option.bind_eq_bind,Option.bind_eq_some_iff] at ht
      obtain ⟨⟨ty,k',b,z⟩,h1,ex,hex,l,hl,h,hh,m,hm,h5⟩ := ht
      simp only [pure,Option.some.injEq] at h5; subst h5
      have := OpOk.of_runs (slc_step h1 hex hl hh hm hs I T)
      simpa only [execOp,ho] using this
    · cases ht
      exact sca_ok I T (by simp [ho]) hs
  case h_15 st x fi ho =>
    simp only [Option.bind_eq_bind,Option.bind_eq_some_iff] at ht
    obtain ⟨off,h1,e,he,h3⟩ := ht
    simp only [pure,Option.some.injEq] at h3; subst h3
    have := OpOk.of_runs (fad_step h1 he hs I T)
    simpa only [execOp,ho] using this
  case h_16 st x fi ho =>
    simp only [Option.bind_eq_bind,Option.bind_eq_some_iff] at ht
    obtain ⟨⟨off,n,ag⟩,h1,e,he,h3⟩ := ht
    simp only [pure,Option.some.injEq] at h3; subst h3
    have := OpOk.of_runs (fld_step h1 he hs I T)
    simpa only [execOp,ho] using this
  case h_17 t x i ho =>
    split at ht
    · rename_i m ety hu
      simp only [Option.bind_eq_bind,Option.bind_eq_some_iff] at ht
      obtain ⟨j,hj,e,he,f,hf,h3⟩ := ht
      simp only [pure,Option.some.injEq] at h3; subst h3
      have := OpOk.of_runs (aia_step hu hj he hf hs I T)
      simpa only [execOp,ho] using this
    · simp only [Option.bind_eq_bind,Option.bind_eq_some_iff] at ht
      obtain ⟨⟨ty,k',b,z⟩,h1,e,he,f,hf,h3⟩ := ht
      simp only [pure,Option.some.injEq] at h3; subst h3
      have := OpOk.of_runs (iad_step h1 he hf hs I T)
      simpa only [execOp,ho] using this
  case h_18 x i ho =>
    simp only [Option.map_eq_some_iff] at ht; obtain ⟨e,he,rfl⟩ := ht
    have rx := ev_rep T he
    simp only [step] at hs
    split at hs
    · rename_i xs hx
      rw [hx] at rx
      simp only [Option.map_eq_some_iff] at hs
      obtain ⟨y',hy,e2⟩ := hs
      cases e2
      have := OpOk.of_runs (ext_ok (P := P) I rx hy)
      simpa only [execOp,ho] using this
    · cases hs
  case h_19 c ho =>
    split at ht
    · rename_i hcal
      split at ht
      · rename_i t x h1 h2
        split at ht
        · rename_i e0 hel
          simp only [Option.map_eq_some_iff] at ht; obtain ⟨e,he,rfl⟩ := ht
          simp only [step,Option.map_eq_some_iff] at hs
          obtain ⟨xs,hx,e2⟩ := hs
          cases e2
          have := OpOk.of_runs (len_ok (P := P) (rt := o.type) I (ev_rep T he) hx (elemOf'_ok hel))
          have ha : c.args = #[x] := Array.ext' (by simpa using h2)
          have hb : c.argTypes = #[t] := Array.ext' (by simpa using h1)
          simpa [execOp,ho,resolve,invoke,builtin,hcal,ha,hb] using this
        · cases ht
          exact sca_ok I T (by simp [ho]) hs
      · cases ht
    · rename_i hcal
      split at ht
      · rename_i t t' x z h1 h2
        split at ht
        · rename_i htt; subst htt
          simp only [Option.bind_eq_bind,Option.bind_eq_some_iff] at ht
          obtain ⟨⟨ty,k',b,zv⟩,h3,e,he,f,hf,h4⟩ := ht
          simp only [pure,Option.some.injEq] at h4; subst h4
          have := OpOk.of_runs (app_step (P := P) (rt := o.type) h3 he hf hs I T)
          have ha : c.args = #[x,z] := Array.ext' (by simpa using h2)
          have hb : c.argTypes = #[t,t] := Array.ext' (by simpa using h1)
          simpa [execOp,ho,resolve,invoke,builtin,hcal,ha,hb] using this
        · split at ht
          · rename_i kn hkn
            simp only [Option.bind_eq_bind,Option.bind_eq_some_iff] at ht
            obtain ⟨⟨ty,k',b,zv⟩,h3,zz,hz,e,he,f,hf,h4⟩ := ht
            simp only [pure,Option.some.injEq] at h4; subst h4
            have := OpOk.of_runs (apz_step (P := P) (rt := o.type) h3 hz hkn he hf hs I T)
            have ha : c.args = #[x,z] := Array.ext' (by simpa using h2)
            have hb : c.argTypes = #[t,t'] := Array.ext' (by simpa using h1)
            simpa [execOp,ho,resolve,invoke,builtin,hcal,ha,hb] using this
          · cases ht
      · cases ht
    · cases ht
      exact sca_ok I T (by simp [ho]) hs
    · rename_i f0 hcal
      split at ht
      · rename_i k' hx
        cases ht
        unfold trExt at hx
        split at hx
        · rename_i f x z hargs
          split at hx
          · rename_i fn hfn
            split at hx
            · rename_i hcond
              simp only [Bool.and_eq_true,beq_iff_eq] at hcond
              obtain ⟨⟨hb,hnm⟩,hnx⟩ := hcond
              simp only [Option.bind_eq_bind,Option.bind_eq_some_iff] at hx
              obtain ⟨e,he,f',hf',h4⟩ := hx
              simp only [pure,Option.some.injEq] at h4; subst h4
              have rx := ev_rep T he
              have rz := ev_rep T hf'
              simp only [step] at hs
              split at hs
              · rename_i b cc h1 h2
                rw [h1] at rx
                rw [h2] at rz
                cases hs
                generalize hq : a.eval x = q at rx
                generalize hq2 : a.eval z = q2 at rz
                cases rx
                cases rz
                have hex : Extern.find fn = some Extern.BytealgIndexByte.indexByte := by
                  unfold Extern.find
                  rw [hnm]
                  have e1 : Extern.allGenericRows.lookup "internal/bytealg.IndexByteString" = none := by kernel_rfl
                  have e2 : Extern.allTypedRows.lookup "internal/bytealg.IndexByteString" = none := by kernel_rfl
                  have e3 : Extern.allRows.lookup "internal/bytealg.IndexByteString" = some Extern.BytealgIndexByte.indexByte := by kernel_rfl
                  simp only [e1,e2,e3]
                  rfl
                have hnn : (fn.name == "runtime.NumGoroutine") = false := by rw [hnm]; decide
                have hrun := run_callFunc_indexByte hfn hnn hb (by simpa using hnx) hex #[.string b,.int .u8 cc] w
                rw [Lib.run_indexByteString] at hrun
                have ha : c.args = #[x,z] := Array.ext' (by simpa using hargs)
                have := OpOk.of_value (P := P) (w := w) (g := g) (o := s.o) (y := .sc (.int .i64 (Lib.indexByte b.data.toList cc.toNat.toUInt8))) (r := .int .i64 (Lib.indexByte b.data.toList cc.toNat.toUInt8)) I hrun (.sc rfl)
                have hf3 : a.eval (.func f) = .func (.func f) #[] #[] := rfl
                simpa [execOp,ho,resolve,hcal,ha,hq,hq2,hf3,Deferred.ofValue,invoke] using this
              · cases hs
            · cases hx
          · cases hx
        · cases hx
      simp only [Option.bind_eq_bind,Option.bind_eq_some_iff] at ht
      obtain ⟨ef,hef,es,hes,h4⟩ := ht
      simp only [pure,Option.some.injEq] at h4; subst h4
      simp [step] at hs
    · cases ht
  case h_20 ho =>
    cases ht
    exact sca_ok I T (by intro cs b e; simp_all) hs
  case h_21 ho =>
    cases ht
    exact sca_ok I T (by intro cs b e; simp_all) hs
  case h_22 c x z ho =>
    simp only [Option.bind_eq_bind,Option.bind_eq_some_iff] at ht
    obtain ⟨ec,hc,ex,hx,ez,hz,h4⟩ := ht
    simp only [pure,Option.some.injEq] at h4; subst h4
    obtain ⟨v,h1,h2,rfl⟩ := pick_ok o ho hc hx hz hs I T
    exact ⟨v,w,g,.inl (h1 w),Tr.refl _ _ _,I,h2⟩
  case h_23 t x ho =>
    split at ht
    · rename_i htt
      simp only [Option.map_eq_some_iff] at ht; obtain ⟨e,he,rfl⟩ := ht
      have rx := ev_rep T he
      simp only [step] at hs
      split at hs
      · rename_i b hx
        rw [hx] at rx
        cases hs
        generalize hq : a.eval x = q at rx
        cases rx
        have := OpOk.of_runs (srng_ok (P := P) (b := b) I htt)
        simpa only [execOp,ho,hq] using this
      · cases hs
    · cases ht
  case h_24 x ho =>
    simp only [Option.map_eq_some_iff] at ht; obtain ⟨e,he,rfl⟩ := ht
    have rx := ev_rep T he
    simp only [step] at hs
    split at hs
    · rename_i l hx
      rw [hx] at rx
      split at hs
      · rename_i b p hl
        split at hs
        · rename_i hp
          cases hs
          have := OpOk.of_runs (snxt_in (P := P) (ty := o.type) I rx hl hp)
          simpa only [execOp,ho] using this
        · rename_i hp
          cases hs
          have := OpOk.of_runs (snxt_end (P := P) (ty := o.type) I rx hl hp)
          simpa only [execOp,ho] using this
      · cases hs
    · cases hs
  case h_25 => cases ht

def looseK (fl : Bool) (k : K) : K := match fl,k with
  | true,.bsl k len z ps => .bsa k len z ps
  | _,k => k

theorem trK_bsl {oper : Oper} {kk len : Nat} {zs : List V} {qs : List (Nat × E)} (h : trK P oper = some (.bsl kk len zs qs)) :
    ∃ t ps e b z,oper.op = .buildSlice t len ps ∧ rowInfo P t = some (e,kk,b,z) ∧ sclist z.cells.toList = some zs ∧ trParts ps.toList = some qs := by
  unfold trK at h
  split at h
  case h_6 t l ps ho =>
    simp only [trBsl,Option.bind_eq_bind,Option.bind_eq_some_iff] at h
    obtain ⟨⟨e,k',b,z⟩,h1,zs',h2,qs',h3,h4⟩ := h
    simp only [pure,Option.some.injEq] at h4
    split at h4
    · cases h4
    · cases h4
      exact ⟨t,ps,e,b,z,ho,h1,h2,h3⟩
  all_goals (exfalso; revert h)
  case h_10 =>
    split <;> intro hk
    · rename_i hh; unfold trNil at hh; split at hh <;> first | (cases hh; done) | (simp only [Option.map_eq_some_iff] at hh; obtain ⟨_,_,hh⟩ := hh; cases hh; cases hk)
    · rename_i hh; unfold trNil at hh; split at hh <;> first | (cases hh; done) | (simp only [Option.map_eq_some_iff] at hh; obtain ⟨_,_,hh⟩ := hh; cases hh; cases hk)
    · cases hk
  case h_11 =>
    split <;> intro hk
    · rename_i hh; unfold trConv at hh; split at hh <;> (try (split at hh)) <;> (try (split at hh)) <;> first | (cases hh; done) | (simp only [Option.map_eq_some_iff] at hh; obtain ⟨_,_,hh⟩ := hh; cases hh; cases hk)
    · cases hk
  case h_5 => intro hk; unfold trBld at hk; split at hk <;> simp_all [Option.bind_eq_some_iff]
  case h_12 => split <;> simp [Option.bind_eq_some_iff]
  case h_14 => split <;> simp [Option.bind_eq_some_iff]
  case h_17 => split <;> simp [Option.bind_eq_some_iff]
  all_goals (try (split <;> (try split) <;> (try split) <;> (try split)))
  all_goals (try (rename_i hx; obtain ⟨_,_,rfl⟩ := trExt_k hx))
  all_goals simp [Option.bind_eq_some_iff]

theorem loose_ok {fl : Bool} {s : St} {a : Act} {o : Oper} {k : K} {y : V} {o' : List O} (ht : trK P o = some k) (hs : step P s (looseK fl k) = some (y,o')) (I : Inv w.heap g s.o) (T : Ts w.heap g s a) : OpOk P (execOp a.eval o) w g s.o y o' := by
  unfold looseK at hs
  split at hs
  · obtain ⟨t,ps,e,b,z,ho,h1,h2,h3⟩ := trK_bsl ht
    exact bsa_step ho h1 h2 h3 hs I T
  · exact step_ok ht hs I T
theorem loose_call {fl : Bool} {k : K} {f : E} {xs : List E} (h : looseK fl k = .call f xs) : k = .call f xs := by
  unfold looseK at h
  split at h
  · cases h
  · exact h
end Go.Proofs.Pe
end

section
set_option linter.unusedVariables false
namespace Go.Proofs.Pe
variable {P : Program}

/-! ### Plain operations, said plainly -/
def plainBin : BinOp → Bool
  | .add | .sub | .mul | .quo | .rem | .eql | .neq | .lss | .leq | .gtr | .geq => true
  | _ => false

def isB (r : Option Value) (v : Bool) : Bool := match r with
  | some (.bool c) => c == v
  | _ => false
def boolOk (P : Program) (t : TypeId) : Bool := [true,false].all fun a => [true,false].all fun b =>
  isB (pureRun P (binOp .eql t (.bool a) (.bool b))) (a == b) && isB (pureRun P (binOp .neq t (.bool a) (.bool b))) !(a == b)

def optB (P : Program) (t : TypeId) (op : BinOp) (ex ey : E) (o : Oper) : K := match op with
  | .eql => if boolOk P t = true then .beq false ex ey else .sca o
  | .neq => if boolOk P t = true then .beq true ex ey else .sca o
  | _ => .sca o

def optS (P : Program) (o : Oper) : K :=
  match o.op with
  | .binOp op t x y _ => match trE x,trE y with
    | some ex,some ey => match P.underlying t with
      | some (.int _) => if plainBin op = true then .bin op ex ey else .sca o
      | some .string => if plainBin op = true then .bin op ex ey else .sca o
      | some .bool => optB P t op ex ey o
      | _ => .sca o
    | _,_ => .sca o
  | .unOp .not _ x => match trE x with
    | some e => .noT e
    | none => .sca o
  | .unOp .neg t x => match trE x,P.underlying t with
    | some e,some (.int _) => .neg e
    | _,_ => .sca o
  | .convert src dst x => match trE x,P.underlying src,P.underlying dst with
    | some e,some (.int _),some (.int k) => .cvi k e
    | _,_,_ => .sca o
  | .index t x i => match trE x,trE i,P.underlying t with
    | some e,some f,some .string => .sidx e f
    | _,_,_ => .sca o
  | .slice t x lo hi none => match trE x,trO lo,trO hi,P.underlying t with
    | some e,some l,some h,some .string => .ssl e l h
    | _,_,_,_ => .sca o
  | .call c => match c.callee,c.argTypes.toList,c.args.toList with
    | .builtin .len,[t],[x] => match trE x,P.underlying t with
      | some e,some .string => .slen e
      | _,_ => .sca o
    | .builtin .min,_,[x,y] => match trE x,trE y with
      | some e,some f => .mm false e f
      | _,_ => .sca o
    | .builtin .max,_,[x,y] => match trE x,trE y with
      | some e,some f => .mm true e f
      | _,_ => .sca o
    | _,_,_ => .sca o
  | _ => .sca o

def opt (P : Program) : K → K
  | .sca o => optS P o
  | k => k

theorem sc1 {s : St} {x : Operand} {e : E} {v : Value} (hx : trE x = some e) (hv : e.ev s = .sc v) : scEnv s x = some v := by
  simp [scEnv,hx,hv,toVal]

theorem sca_of {s : St} {o : Oper} {v : Value} {y : V} (h1 : ∀ x,x ∈ o.op.operands.toList → (scEnv s x).isSome = true)
    (h2 : pureRun P (execOp (fun x => (scEnv s x).getD undef) o) = some (.value v)) (h3 : ofVal v = some y) : step P s (.sca o) = some (y,s.o) := by
  have h1' : (o.op.operands.toList.all fun x => (scEnv s x).isSome) = true := List.all_eq_true.2 h1
  simp only [step,h1',if_true,h2,h3,Option.map_some]

theorem iop_run {op : BinOp} {k : IntKind} {a b : Int} {v : Value} {t : TypeId} (h : iop op k a b = some v) (hp : plainBin op = true) : pureRun P (binOp op t (.int k a) (.int k b)) = some v ∧ ofVal v = some (.sc v) := by
  cases op <;> first | (cases hp; done) | skip
  all_goals
    simp only [iop] at h
    first
      | (split at h
         · cases h
         · rename_i hb; cases h; simp [binOp,Op.intDiv,hb,pureRun,ofVal,plain,Pure.pure])
      | (cases h; simp [binOp,Op.intArith,Op.intCmp,pureRun,ofVal,plain,Pure.pure,BEq.beq,bne])
theorem sop_run {op : BinOp} {a b : ByteArray} {v : Value} {t : TypeId} (h : sop op a b = some v) (hp : plainBin op = true) : pureRun P (binOp op t (.string a) (.string b)) = some v ∧ ofVal v = some (.sc v) := by
  cases op <;> first | (cases hp; done) | skip
  all_goals
    simp only [sop] at h
    first
      | (cases h; done)
      | (split at h
         · cases h
         · rename_i hb; cases h; simp only [binOp,Op.stringOp,if_neg hb]; exact ⟨rfl,rfl⟩)
      | (cases h; exact ⟨rfl,rfl⟩)

theorem beq_run {n a b : Bool} {t : TypeId} (hk : boolOk P t = true) : pureRun P (binOp (if n = true then .neq else .eql) t (.bool a) (.bool b)) = some (.bool (if n = true then !(a == b) else (a == b))) := by
  have key : ∀ op v,isB (pureRun P (binOp op t (.bool a) (.bool b))) v = true → pureRun P (binOp op t (.bool a) (.bool b)) = some (.bool v) := fun op v h => by
    unfold isB at h
    split at h
    · rename_i c hc; rw [hc]; simp at h; rw [h]
    · cases h
  simp only [boolOk,List.all_cons,List.all_nil,Bool.and_true,Bool.and_eq_true] at hk
  cases n
  · refine key _ _ ?_
    cases a <;> cases b <;> simp_all
  · refine key _ _ ?_
    cases a <;> cases b <;> simp_all

theorem eqGuard_sc {op : BinOp} {t : TypeId} {x y : Operand} {a b : Value} (h : (∃ k n,a = .int k n) ∨ (∃ s,a = .string s)) : eqGuard op t x y a b = pure () := by
  unfold eqGuard
  rcases h with ⟨k,n,rfl⟩ | ⟨s,rfl⟩ <;> (split <;> rfl)

theorem pureRun_bind {α β : Type} {m : Sem α} {f : α → Sem β} {a : α} (h : pureRun P m = some a) : pureRun P (m >>= f) = pureRun P (f a) := by
  show pureRun P (Sem.bind m f) = _
  induction m with
  | pure b => simp only [pureRun,Option.some.injEq] at h; subst h; rfl
  | program k ih => simp only [pureRun] at h; simp only [Sem.bind,pureRun]; exact ih P h
  | _ => simp [pureRun] at h

theorem getD_sc {s : St} {x : Operand} {v : Value} (h : scEnv s x = some v) : (scEnv s x).getD undef = v := by rw [h]; rfl

theorem bound_sc {s : St} {n m : Nat} {x : Operand} {e : E} (hx : trE x = some e) (hb : bound s n (some e) = some m) : ∃ k i,scEnv s x = some (.int k i) ∧ 0 ≤ i ∧ i ≤ (n : Int) ∧ m = i.toNat := by
  simp only [bound] at hb
  split at hb
  · rename_i i hi
    split at hb
    · rename_i hc
      cases hb
      cases he : e.ev s with
      | sc v =>
        rw [he] at hi
        cases v <;> simp [intOf] at hi
        subst hi
        exact ⟨_,_,sc1 hx he,hc.1,hc.2,rfl⟩
      | _ => rw [he] at hi; simp [intOf] at hi
    · cases hb
  · cases hb
theorem optS_ok {s : St} {o : Oper} {r : V × List O} (h : step P s (optS P o) = some r) : step P s (.sca o) = some r := by
  unfold optS at h
  split at h
  · rename_i op t x y yt ho
    split at h
    · rename_i ex ey hx hy
      have key : plainBin op = true → step P s (.bin op ex ey) = some r → step P s (.sca o) = some r := fun hp h => by
        simp only [step] at h
        split at h
        · rename_i k a k' b h1 h2
          split at h
          · rename_i hk; subst hk
            simp only [Option.map_eq_some_iff] at h
            obtain ⟨v,hv,rfl⟩ := h
            have e1 := sc1 hx h1
            have e2 := sc1 hy h2
            obtain ⟨h3,h4⟩ := iop_run (P := P) (t := t) hv hp
            refine sca_of (fun z hz => ?_) ?_ h4
            · rw [ho] at hz
              simp [Op.operands] at hz
              rcases hz with rfl | rfl
              · rw [e1]; rfl
              · rw [e2]; rfl
            · simp only [execOp,ho,getD_sc e1,getD_sc e2,eqGuard_sc (.inl ⟨k,a,rfl⟩)]
              have h5 : pureRun P ((pure () : Sem Unit) >>= fun _ => binOp op t (.int k a) (.int k b)) = some v := (pureRun_bind rfl).trans h3
              exact (pureRun_bind h5).trans rfl
          · cases h
        · rename_i a b h1 h2
          simp only [Option.map_eq_some_iff] at h
          obtain ⟨v,hv,rfl⟩ := h
          have e1 := sc1 hx h1
          have e2 := sc1 hy h2
          obtain ⟨h3,h4⟩ := sop_run (P := P) (t := t) hv hp
          refine sca_of (fun z hz => ?_) ?_ h4
          · rw [ho] at hz
            simp [Op.operands] at hz
            rcases hz with rfl | rfl
            · rw [e1]; rfl
            · rw [e2]; rfl
          · simp only [execOp,ho,getD_sc e1,getD_sc e2,eqGuard_sc (.inr ⟨a,rfl⟩)]
            have h5 : pureRun P ((pure () : Sem Unit) >>= fun _ => binOp op t (.string a) (.string b)) = some v := (pureRun_bind rfl).trans h3
            exact (pureRun_bind h5).trans rfl
        · cases h
      have keyB : ∀ n,boolOk P t = true → op = (if n = true then .neq else .eql) → step P s (.beq n ex ey) = some r → step P s (.sca o) = some r := fun n hp hop h => by
        simp only [step] at h
        split at h
        · rename_i a b h1 h2
          cases h
          have e1 := sc1 hx h1
          have e2 := sc1 hy h2
          refine sca_of (v := .bool (if n = true then !(a == b) else (a == b))) (fun z hz => ?_) ?_ (by simp [ofVal,plain])
          · rw [ho] at hz
            simp [Op.operands] at hz
            rcases hz with rfl | rfl
            · rw [e1]; rfl
            · rw [e2]; rfl
          · have hg : eqGuard op t x y (.bool a) (.bool b) = pure () := by unfold eqGuard; split <;> rfl
            simp only [execOp,ho,getD_sc e1,getD_sc e2,hg]
            have h5 : pureRun P ((pure () : Sem Unit) >>= fun _ => binOp op t (.bool a) (.bool b)) = some (.bool (if n = true then !(a == b) else (a == b))) := (pureRun_bind rfl).trans (by rw [hop]; exact beq_run hp)
            exact (pureRun_bind h5).trans rfl
        · cases h
      split at h
      · split at h
        · rename_i hp; exact key hp h
        · exact h
      · split at h
        · rename_i hp; exact key hp h
        · exact h
      · unfold optB at h
        split at h
        · split at h
          · rename_i hp; exact keyB false hp rfl h
          · exact h
        · split at h
          · rename_i hp; exact keyB true hp rfl h
          · exact h
        · exact h
      · exact h
    · exact h
  · rename_i t x ho
    split at h
    · rename_i e hx
      simp only [step] at h
      split at h
      · rename_i b h1
        cases h
        have e1 := sc1 hx h1
        refine sca_of (v := .bool !b) (fun z hz => ?_) ?_ rfl
        · rw [ho] at hz
          simp [Op.operands] at hz
          subst hz; rw [e1]; rfl
        · simp only [execOp,ho,getD_sc e1]; rfl
      · cases h
    · exact h
  · rename_i t x ho
    split at h
    · rename_i e k hx hk
      simp only [step] at h
      split at h
      · rename_i k n h1
        cases h
        have e1 := sc1 hx h1
        refine sca_of (v := .int k (k.wrap (0 - n))) (fun z hz => ?_) ?_ rfl
        · rw [ho] at hz
          simp [Op.operands] at hz
          subst hz; rw [e1]; rfl
        · simp only [execOp,ho,getD_sc e1]; rfl
      · cases h
    · exact h
  · rename_i src dst x ho
    split at h
    · rename_i e k0 k hx hs hd
      simp only [step] at h
      split at h
      · rename_i k' n h1
        cases h
        have e1 := sc1 hx h1
        refine sca_of (v := .int k (k.wrap n)) (fun z hz => ?_) ?_ rfl
        · rw [ho] at hz
          simp [Op.operands] at hz
          subst hz; rw [e1]; rfl
        · simp only [execOp,ho,getD_sc e1]
          simp [convert,underlying,program,hs,hd,Conv.intToInt,pureRun,Bind.bind,Sem.bind,Pure.pure]
      · cases h
    · exact h
  · rename_i t x i ho
    split at h
    · rename_i e f hx hi ht
      simp only [step] at h
      split at h
      · rename_i b k n h1 h2
        split at h
        · rename_i hn
          simp only [Option.map_eq_some_iff] at h
          obtain ⟨c,hc,rfl⟩ := h
          have e1 := sc1 hx h1
          have e2 := sc1 hi h2
          refine sca_of (v := .int .u8 c.toNat) (fun z hz => ?_) ?_ rfl
          · rw [ho] at hz
            simp [Op.operands] at hz
            rcases hz with rfl | rfl
            · rw [e1]; rfl
            · rw [e2]; rfl
          · simp only [execOp,ho,getD_sc e1,getD_sc e2]
            simp [Instr.index,asIntOf,underlying,program,ht,hn,hc,pureRun,Bind.bind,Sem.bind,Pure.pure]
        · cases h
      · cases h
    · exact h
  · rename_i t x lo hi ho
    split at h
    · rename_i e l hh hx hl hhi ht
      simp only [step] at h
      split at h
      · rename_i b h1
        simp only [Option.bind_eq_some_iff,Option.map_eq_some_iff] at h
        obtain ⟨m,hb1,q,hb2,h⟩ := h
        cases h
        have e1 := sc1 hx h1
        have hlo : (lo = none ∧ q = 0) ∨ ∃ z k n,lo = some z ∧ scEnv s z = some (.int k n) ∧ 0 ≤ n ∧ n ≤ (m : Int) ∧ q = n.toNat := by
          cases lo with
          | none =>
            simp only [trO,Option.some.injEq] at hl; subst hl
            simp [bound,E.ev,intOf] at hb2
            exact .inl ⟨rfl,hb2.symm⟩
          | some z =>
            simp only [trO,Option.map_eq_some_iff] at hl
            obtain ⟨ez,hz,rfl⟩ := hl
            obtain ⟨k,n,b1,b2,b3,b4⟩ := bound_sc hz hb2
            exact .inr ⟨z,k,n,rfl,b1,b2,b3,b4⟩
        have hhi2 : (hi = none ∧ m = b.size) ∨ ∃ z k n,hi = some z ∧ scEnv s z = some (.int k n) ∧ 0 ≤ n ∧ n ≤ (b.size : Int) ∧ m = n.toNat := by
          cases hi with
          | none =>
            simp only [trO,Option.some.injEq] at hhi; subst hhi
            simp [bound] at hb1
            exact .inl ⟨rfl,hb1.symm⟩
          | some z =>
            simp only [trO,Option.map_eq_some_iff] at hhi
            obtain ⟨ez,hz,rfl⟩ := hhi
            obtain ⟨k,n,b1,b2,b3,b4⟩ := bound_sc hz hb1
            exact .inr ⟨z,k,n,rfl,b1,b2,b3,b4⟩
        refine sca_of (v := .string (b.extract q m)) (fun z hz => ?_) ?_ (by simp [ofVal,plain])
        · rw [ho] at hz
          simp [Op.operands] at hz
          rcases hz with rfl | hz
          · rw [e1]; rfl
          · rcases hlo with ⟨rfl,_⟩ | ⟨z1,k1,n1,rfl,c1,_⟩ <;> rcases hhi2 with ⟨rfl,_⟩ | ⟨z2,k2,n2,rfl,c2,_⟩ <;> simp at hz
            · subst hz; rw [c2]; rfl
            · subst hz; rw [c1]; rfl
            · rcases hz with rfl | rfl
              · rw [c1]; rfl
              · rw [c2]; rfl
        · simp only [execOp,ho,getD_sc e1]
          rcases hlo with ⟨rfl,rfl⟩ | ⟨z1,k1,n1,rfl,c1,d1,d2,rfl⟩ <;> rcases hhi2 with ⟨rfl,rfl⟩ | ⟨z2,k2,n2,rfl,c2,d3,d4,rfl⟩
          · simp [Instr.sliceAt,Instr.slice,Instr.sliceBounds,Instr.sliceBound,asIntOf,underlying,program,ht,pureRun,Bind.bind,Sem.bind,Pure.pure, *]
          · simp [Instr.sliceAt,Instr.slice,Instr.sliceBounds,Instr.sliceBound,asIntOf,underlying,program,ht,pureRun,Bind.bind,Sem.bind,Pure.pure, *]
          · simp [Instr.sliceAt,Instr.slice,Instr.sliceBounds,Instr.sliceBound,asIntOf,underlying,program,ht,pureRun,Bind.bind,Sem.bind,Pure.pure, *]
          · have hmx : n1 ≤ max n2 0 := by omega
            simp [Instr.sliceAt,Instr.slice,Instr.sliceBounds,Instr.sliceBound,asIntOf,underlying,program,ht,pureRun,Bind.bind,Sem.bind,Pure.pure, *]
      · cases h
    · exact h
  · rename_i c ho
    split at h
    · rename_i t x hc hts has
      split at h
      · rename_i e hx ht
        simp only [step] at h
        split at h
        · rename_i b h1
          cases h
          have e1 := sc1 hx h1
          have ha : c.args = #[x] := Array.ext' (by simpa using has)
          have hb : c.argTypes = #[t] := Array.ext' (by simpa using hts)
          refine sca_of (v := .int .i64 b.size) (fun z hz => ?_) ?_ rfl
          · rw [ho] at hz
            simp [Op.operands,Call.operands,ha,hc] at hz
            subst hz; rw [e1]; rfl
          · simp [execOp,ho,resolve,invoke,builtin,hc,ha,hb,getD_sc e1,Builtin.len_,underlying,program,ht,goInt,pureRun,Bind.bind,Sem.bind,Pure.pure]
        · cases h
      · exact h
    · rename_i ts x y hc has
      split at h
      · rename_i e f hx hy
        simp only [step] at h
        split at h
        · rename_i k a k' b h1 h2
          cases h
          have e1 := sc1 hx h1
          have e2 := sc1 hy h2
          have ha : c.args = #[x,y] := Array.ext' (by simpa using has)
          refine sca_of (v := .int k (if b < a then b else a)) (fun z hz => ?_) ?_ (by simp [ofVal,plain])
          · rw [ho] at hz
            simp [Op.operands,Call.operands,ha,hc] at hz
            rcases hz with rfl | rfl
            · rw [e1]; rfl
            · rw [e2]; rfl
          · simp [execOp,ho,resolve,invoke,builtin,hc,ha,getD_sc e1,getD_sc e2,Builtin.min_,Builtin.min2,pureRun,Bind.bind,Sem.bind,Pure.pure,List.foldlM]
        · cases h
      · exact h
    · rename_i ts x y hc has
      split at h
      · rename_i e f hx hy
        simp only [step] at h
        split at h
        · rename_i k a k' b h1 h2
          cases h
          have e1 := sc1 hx h1
          have e2 := sc1 hy h2
          have ha : c.args = #[x,y] := Array.ext' (by simpa using has)
          refine sca_of (v := .int k (if b > a then b else a)) (fun z hz => ?_) ?_ (by simp [ofVal,plain])
          · rw [ho] at hz
            simp [Op.operands,Call.operands,ha,hc] at hz
            rcases hz with rfl | rfl
            · rw [e1]; rfl
            · rw [e2]; rfl
          · simp [execOp,ho,resolve,invoke,builtin,hc,ha,getD_sc e1,getD_sc e2,Builtin.max_,Builtin.max2,pureRun,Bind.bind,Sem.bind,Pure.pure,List.foldlM]
        · cases h
      · exact h
    · exact h
  · exact h

theorem opt_ok {s : St} {k : K} {r : V × List O} (h : step P s (opt P k) = some r) : step P s k = some r := by
  cases k <;> first | exact optS_ok h | exact h
theorem optS_call (o : Oper) (f : E) (xs : List E) : optS P o ≠ .call f xs := by
  unfold optS optB
  repeat' split
  all_goals (intro h; cases h)
theorem opt_call {k : K} {f : E} {xs : List E} (h : opt P k = .call f xs) : k = .call f xs := by
  cases k <;> first | exact absurd h (optS_call _ _ _) | exact h
end Go.Proofs.Pe
end

section
set_option linter.unusedVariables false
namespace Go.Proofs.Pe

/-! ### Code -/
structure KO where
  dst : Option Nat
  g : Option (Nat × Bool)
  k : K

inductive R where
  | nil
  | op (i : Nat) (ko : KO) (r : R)
  | rd (i : Nat) (ko : KO) (m : Nat) (r : R)
  | alt (rs : List R)

def E.uses : E → List Nat
  | .tmp t => [t]
  | .lit _ => []
def opUses (o : Oper) : List Nat := o.op.operands.toList.flatMap fun x => match trE x with | some e => e.uses | none => []
def optUses : Option E → List Nat
  | none => []
  | some e => e.uses
def K.uses : K → List Nat
  | .sca o => opUses o
  | .mv x | .box x | .load x _ _ | .nilck x | .cmpnil _ _ x | .fad x _ | .fld x _ _ _ | .len x | .s2b x | .b2s x | .ext x _ | .noT x | .neg x | .cvi _ x | .slen x | .mks x | .srng x | .snxt x => x.uses
  | .pick c x y => c.uses ++ x.uses ++ y.uses
  | .alloc _ => []
  | .bld _ ps => ps.flatMap fun p => p.2.2.uses
  | .bsl _ _ _ ps => ps.flatMap fun p => p.2.uses
  | .bsa _ _ _ ps => ps.flatMap fun p => p.2.uses
  | .bad => []
  | .ssl x lo hi => x.uses ++ optUses lo ++ optUses hi
  | .store x y _ | .iad x y _ | .aia x y _ _ | .app x y _ _ | .apz x y _ _ _ | .bin _ x y | .beq _ x y | .idxb x y | .sidx x y | .mm _ x y => x.uses ++ y.uses
  | .slc x lo hi mx _ => x.uses ++ optUses lo ++ optUses hi ++ optUses mx
  | .msl n c _ _ _ => n.uses ++ c.uses
  | .mkf _ as bs => as.flatMap E.uses ++ bs.flatMap E.uses
  | .call f xs => f.uses ++ xs.flatMap E.uses
def gUses : Option (Nat × Bool) → List Nat
  | none => []
  | some (t,_) => [t]
def KO.uses (k : KO) : List Nat := gUses k.g ++ k.k.uses

def V.nilSl : V → Bool
  | .sc (.slice none 0 0) => true
  | _ => false
def K.eff (md : FuncId → Nat) : K → Nat
  | .box _ | .alloc _ | .msl .. | .s2b _ | .slc .. | .bsa .. | .mks _ | .srng _ => 1
  | .bsl _ _ z _ => if z.any V.nilSl = true then 1 else 0
  | .app .. | .apz .. => 2
  | .store .. => 3
  | .snxt _ => 4
  | .call (.lit (.fn (.func g) _ _)) _ => if md g < 2 ∨ md g = 3 then 1 else 4
  | .call .. => 4
  | _ => 0

def okR (d m : Nat) : Bool := d == 0 || (d == 1 && decide (m ≤ 2)) || (d == 2 && decide (m ≤ 1)) || (d == 4 && (decide (m ≤ 1) || m == 3))
def combR (x y : Nat) : Nat := if x ≤ 1 then (if y = 0 then 1 else y) else if y ≤ 1 then x else if x = y then x else 4
def K.dep (s : St) : K → Nat
  | .load x _ _ => match x.ev s with
    | .pa .. => 2
    | .ep .. => 0
    | _ => 1
  | .nilck x | .fad x _ => match x.ev s with
    | .pa .. => 4
    | _ => 0
  | .iad x _ _ => match x.ev s with
    | .ar .. => 4
    | .vw .. => 4
    | _ => 0
  | .len x => match x.ev s with
    | .ar .. => 4
    | .vw .. => 4
    | _ => 0
  | .b2s x => match x.ev s with
    | .ar .. => 2
    | .vw .. => 2
    | _ => 0
  | .bsl _ _ _ ps => if (ps.all fun p => (p.2.ev s).free) = true then 0 else 3
  | _ => 0

def dstIn (d : Option Nat) (l : List Nat) : Bool := match d with
  | none => false
  | some d => l.contains d
def apartK (a b : KO) : Bool := !dstIn a.dst b.uses && !dstIn b.dst a.uses && (match a.dst,b.dst with | some x,some y => x != y | _,_ => true)

inductive C where
  | skip
  | regs (ks : List KO)
  | regd (r : R)
  | seq (a b : C)
  | cond (x : E) (a b : C)
  | block (id : Nat) (c : C)
  | loop (c : C)
  | kill (l : List Nat) (c : C)
  | rfun (x : E) (ps : Array Tmp) (assign body : Code) (ca cb : C)
  | exit (id : Nat)
  | scope (c : C)
  | scopeG (l : Nat) (c r : C)
  | label (l : Nat)
  | goto (l : Nat)
  | ret

inductive Rv where
  | tmp (t : Nat)
  | cell (a : Nat) (ag : Bool) (n : Nat)

structure CF where
  ntmps : Nat
  res : List Rv
  body : C

def trKO (P : Program) (fl : Bool) (ops : Array Oper) (o : Oper) : Option KO := do
  let k ← some (looseK fl ((trK P o).getD .bad))
  match o.guard with
  | none => pure { dst := o.dst,g := none,k := opt P k }
  | some (j,b) => do
    let oj ← ops[j]?
    let d ← oj.dst
    pure { dst := o.dst,g := some (d,b),k := opt P k }

def noDefer (ops : Array Oper) : Bool := ops.all fun o => match o.op with | .defer _ => false | .select .. => false | _ => true

def behind (ops : Array Oper) (i : Nat) : List Nat → List Nat → List Nat
  | [],acc => acc
  | j :: js,acc => match ops[j]? with
    | none => behind ops i js acc
    | some oj => if (oj.after.any fun e => Region.binds .any e && (e.on == i || acc.contains e.on)) = true then behind ops i js (j :: acc) else behind ops i js acc

def freeM (P : Program) (fl : Bool) (md : FuncId → Nat) (ops : Array Oper) (listed : Array Bool) (B : List Nat) (i : Nat) (ko : KO) : List Nat → Option Nat
  | [] => some 1
  | j :: js => match freeM P fl md ops listed B i ko js with
    | none => none
    | some m => if j = i ∨ listed.getD j true = true then some m else match ops[j]? with
      | none => some m
      | some oj => if B.contains j = true then some m else match trKO P fl ops oj with
        | none => none
        | some kj => if apartK ko kj = true then some (combR m (kj.k.eff md)) else none

def K.isLoad : K → Bool
  | .load .. => true
  | _ => false
def keepM (md : FuncId → Nat) (k : K) (m : Nat) : Option (KO × Nat) → Option (KO × Nat) := fun p => if (md 1000001 == 7 && decide (3 ≤ m) && k.isLoad) = true then none else p
def takeM (P : Program) (fl : Bool) (md : FuncId → Nat) (ops : Array Oper) (listed : Array Bool) (i : Nat) : Option (KO × Nat) :=
  match ops[i]? with
  | none => none
  | some o => match trKO P fl ops o with
    | none => none
    | some ko => if ko.k.eff md = 0 then (freeM P fl md ops listed (behind ops i (List.range ops.size) []) i ko (List.range ops.size)).bind fun m => keepM md ko.k m (some (ko,m)) else none

mutual
def treeR (P : Program) (fl : Bool) (md : FuncId → Nat) (ops : Array Oper) : Nat → Array Bool → Option R
  | 0,_ => none
  | n + 1,listed =>
    match Region.ready .any ops listed with
    | [] => some .nil
    | rs =>
      match rs.findSome? (fun i => (takeM P fl md ops listed i).map fun p => (i,p)) with
      | some (i,ko,m) => match treeR P fl md ops n (listed.setIfInBounds i true) with
        | some r => some (.rd i ko m r)
        | none => none
      | none => match treeL P fl md ops n listed rs with
          | some l => some (.alt l)
          | none => none
def treeL (P : Program) (fl : Bool) (md : FuncId → Nat) (ops : Array Oper) : Nat → Array Bool → List Nat → Option (List R)
  | 0,_,_ => none
  | _ + 1,_,[] => some []
  | n + 1,listed,i :: rs => match ops[i]? with
    | none => none
    | some o => match trKO P fl ops o,treeR P fl md ops n (listed.setIfInBounds i true),treeL P fl md ops n listed rs with
      | some ko,some r,some l => some (.op i ko r :: l)
      | _,_,_ => none
end

def seqR (P : Program) (fl : Bool) (ops : Array Oper) : List Oper → Option (List KO)
  | [] => some []
  | o :: os => do
    let ko ← trKO P fl ops o
    let l ← seqR P fl ops os
    pure (ko :: l)

def flag (an : Nat → List Nat) : Bool := !(an 1000000).isEmpty

def restC : C → Nat → Option C
  | .seq a b,l =>
    match restC a l with
    | some r => some (.seq r b)
    | none => restC b l
  | .label l',l => if l' == l then some .skip else none
  | _,_ => none
def gotoC : C → Option Nat
  | .seq a b => (gotoC a).or (gotoC b)
  | .cond _ a b => (gotoC a).or (gotoC b)
  | .block _ c => gotoC c
  | .loop c => gotoC c
  | .kill _ c => gotoC c
  | .goto l => some l
  | _ => none
def mkScope (x : C) : C := match gotoC x with
  | some l => match restC x l with
    | some r => .scopeG l x r
    | none => .scope x
  | none => .scope x
def comp (P : Program) (md : FuncId → Nat) (an : Nat → List Nat) (bk : Nat) : Code → Option C
  | .skip => some .skip
  | .region _ ops false => if noDefer ops = true then (seqR P (flag an) ops ops.toList).map .regs else none
  | .region _ ops true => if noDefer ops = true then (treeR P (flag an) md ops (ops.size * ops.size + 2 * ops.size + 2) (Array.replicate ops.size false)).map .regd else none
  | .seq a b => do
    let x ← comp P md an bk a
    let y ← comp P md an bk b
    pure (.seq x y)
  | .cond c a b => do
    let e ← trE c
    let x ← comp P md an bk a
    let y ← comp P md an bk b
    pure (.cond e x y)
  | .block id c => (comp P md an id c).map (.block id)
  | .loop c => (comp P md an bk c).map fun x => .loop (.kill (an bk) x)
  | .rangeFunc f ps a b => do
    let e ← trE f
    let x ← comp P md an bk a
    let y ← comp P md an bk b
    pure (.rfun e ps a b x y)
  | .exit id => some (.exit id)
  | .scope c => (comp P md an bk c).map mkScope
  | .label l => some (.label l)
  | .goto l => some (.goto l)
  | .ret => some .ret
  | .refuse _ => none

def compRes (P : Program) : List ResultVar → Option (List Rv)
  | [] => some []
  | .tmp t :: rs => (compRes P rs).map (.tmp t :: ·)
  | .cell a t :: rs => do
    let ag ← aggOf P t
    let n ← sizeOf' P t
    let l ← compRes P rs
    pure (.cell a ag n :: l)

def compF (P : Program) (md : FuncId → Nat) (an : FuncId → Nat → List Nat) (f : FuncId) : Option CF := do
  let fn ← P.funcs[f]?
  let c ← fn.body
  if (fn.name == "runtime.NumGoroutine") = true then none else do
    let b ← comp P md (an f) 0 c
    let r ← compRes P fn.results.toList
    pure { ntmps := fn.ntmps,res := r,body := b }

/-! ### The evaluator -/
inductive X where
  | normal
  | exit (id : Nat)
  | goto (l : Nat)
  | ret

structure Fr where
  s : St
  m : List Nat

abbrev Sem' := List V → List O → (V → List O → Prop) → Prop

structure Tab where
  cf : FuncId → Option CF
  mode : FuncId → Nat      -- 0: pure,what comes back is written no more; 1: pure,an array that comes back may be written; 2: the store goes along; 3: what lay in the store is as it was
  an : FuncId → Nat → List Nat      -- what a loop's round needs no more
  ext : FuncId → List V → Option V := fun _ _ => none      -- what functions tell whose law is known,not run

def putT (d : Option Nat) (y : V) (t : List V) : List V :=
  match d with
  | some d => t.set d y
  | none => t

def V.bare1 : V → Bool
  | .sc _ => true
  | .fn (.func _) [] [] => true
  | _ => false
def V.bare : V → Bool
  | .agg cs => cs.all V.bare1
  | .tup cs => cs.all fun c => match c with | .agg ds => ds.all V.bare1 | c => c.bare1
  | v => v.bare1

def commits (o : List O) : List V → Option (List V × List O) := step.freezes' o

def freezeD (o : List O) : V → Option (V × List O)
  | .ar l v => match o[l]? with
    | some (.arr v' wr k xs) => if v' = v then
        if xs.all V.free = true then some (.sl k false xs,o.set l (.arr v false k xs)) else match step.freezes' o xs with
        | some (ys,o1) => (match o1[l]? with
          | some (.arr v2 true k2 xs2) => if v2 = v ∧ k2 = k ∧ (ys.all fun y => decide (y.cells.length = k)) = true then some (.sl k false ys,(o1.set l (.arr v true k ys)).set l (.arr v false k ys)) else none
          | _ => none)
        | none => none
      else none
    | _ => none
  | x => freeze o x
def freezeDs (o : List O) : List V → Option (List V × List O)
  | [] => some ([],o)
  | x :: xs => match freezeD o x with
    | none => none
    | some (y,o1) => match freezeDs o1 xs with
      | none => none
      | some (ys,o2) => some (y :: ys,o2)
def freezeT (o : List O) : V → Option (V × List O)
  | .tup xs => (freezeDs o xs).map fun (ys,o1) => (.tup ys,o1)
  | x => freezeD o x

def rets (s : St) : List Rv → Option (List V)
  | [] => some []
  | .tmp t :: rs => (rets s rs).map (s.t.getD t .dead :: ·)
  | .cell a ag n :: rs => match s.t.getD a .dead with
    | .pt l off => match s.o[l]? with
      | some (.cells cs) => do
        let y ← part ag n cs off
        let ys ← rets s rs
        pure (y :: ys)
      | _ => none
    | _ => none

def shut (o : List O) : List Nat → Option (List O)
  | [] => some o
  | l :: ls => match o[l]? with
    | some (.dfd (.sh false)) => shut (o.set l (.dfd (.sh true))) ls
    | _ => none

def Shp (o o' : List O) : Prop := ∀ (l v : Nat) (wr : Bool) (k : Nat) (xs : List V),o[l]? = some (O.arr v wr k xs) → ∃ wr' xs',o'[l]? = some (O.arr v wr' k xs') ∧ xs'.length = xs.length
def Sim (d : Nat) (o o' : List O) : Prop := (1 ≤ d → ∀ (l : Nat) (cs : List V),o[l]? = some (O.cells cs) → o'[l]? = some (O.cells cs)) ∧
  (2 ≤ d → ∀ (l v : Nat) (wr : Bool) (k : Nat) (xs : List V),o[l]? = some (O.arr v wr k xs) → ∃ wr',o'[l]? = some (O.arr v wr' k xs))

/-! ### Objects that are handed over -/
def mapO {α β : Type} (f : α → Option β) : List α → Option (List β)
  | [] => some []
  | x :: xs => match f x with
    | none => none
    | some y => match mapO f xs with
      | none => none
      | some ys => some (y :: ys)
def V.mv0 (ρ : Nat → Option Nat) : V → Option V
  | .pt l a => (ρ l).map fun l' => .pt l' a
  | .ar l v => (ρ l).map fun l' => .ar l' v
  | x => if x.free1 = true then some x else none
def V.mv1 (ρ : Nat → Option Nat) : V → Option V
  | .fn (.func f) as bs => match mapO (V.mv0 ρ) as,mapO (V.mv0 ρ) bs with
    | some as',some bs' => some (.fn (.func f) as' bs')
    | _,_ => none
  | x => x.mv0 ρ
def V.mv2 (ρ : Nat → Option Nat) : V → Option V
  | .agg cs => (mapO (V.mv1 ρ) cs).map .agg
  | x => x.mv1 ρ
def V.mv (ρ : Nat → Option Nat) : V → Option V
  | .tup xs => (mapO (V.mv2 ρ) xs).map .tup
  | x => x.mv2 ρ
def mvO (ρ : Nat → Option Nat) : O → Option O
  | .cells cs => (mapO (V.mv1 ρ) cs).map .cells
  | .arr v wr k xs => (mapO (V.mv2 ρ) xs).map (.arr v wr k)
  | _ => none
def inS (S : List Nat) (l : Nat) : Option Nat := if l ∈ S then some (S.idxOf l) else none
def outS (S N : List Nat) (m i : Nat) : Option Nat := if i < S.length then S[i]? else if i ∈ N then some (m + N.idxOf i) else none
def putS : List O → List Nat → List O → List O
  | o,l :: ls,v :: vs => putS (o.set l v) ls vs
  | o,_,_ => o
def backEnd (S : List Nat) (o1 : List O) (K : V → List O → Prop) (y : V) (o' : List O) : Prop :=
  ∃ z o2 N z' os,(freezeT o' y = some (z,o2) ∨ (y = z ∧ o' = o2)) ∧ N.Nodup ∧ (∀ i ∈ N,S.length ≤ i) ∧ z.mv (outS S N o1.length) = some z' ∧
    mapO (fun i => (o2[i]?).bind (mvO (outS S N o1.length))) (List.range S.length ++ N) = some os ∧ K z' (putS o1 S os ++ os.drop S.length)

def pureEnd (m : Nat) (o o1 : List O) (K : V → List O → Prop) (y : V) (o' : List O) : Prop :=
  match m,y with
  | 1,.ar l v => match o'[l]? with
    | some (.arr v' wr k ws) => if v' = v ∧ ws.all V.free = true then K (.ar o1.length 0) (o1 ++ [.arr 0 wr k ws]) else False
    | _ => False
  | _,y => match freezeT o' y with
    | none => False
    | some (z,_) => if z.bare = true then K z o else K z o1

section
variable (P : Program) (T : Tab)

def evCallV (ca : (Nat → Sem') → FuncId → Sem') (yi : Nat → Sem') (f : V) (xs : List V) (o : List O) (K : V → List O → Prop) : Prop :=
  match f with
  | .fn (.func g) as bs =>
    if T.mode g < 2 then
      match commits o (as ++ xs ++ bs) with
      | none => False
      | some (ys,o1) => ca (fun _ _ _ _ => False) g ys [] fun y o' => pureEnd (T.mode g) o o1 K y o'
    else if T.mode g = 3 then
      match commits' o (as ++ xs ++ bs) with
      | none => False
      | some (ys,o1) => ca (fun _ _ _ _ => False) g ys o1 fun y o' => Sim 2 o1 o' ∧ K y o'
    else if T.mode g = 2 then
      match commits' o (as ++ xs ++ bs) with
      | none => False
      | some (ys,o1) => ca yi g ys o1 K
    else if T.mode g = 5 ∨ T.mode g = 6 then
      match hand (T.mode g) o (as ++ xs ++ bs) with
      | none => False
      | some (ys,o1) => ∃ S zs os,S.Nodup ∧ mapO (V.mv2 (inS S)) ys = some zs ∧ mapO (fun l => (o1[l]?).bind (mvO (inS S))) S = some os ∧
          ca (fun _ _ _ _ => False) g zs os fun y o' => backEnd S o1 K y o'
    else ca yi g (as ++ xs ++ bs) o K
  | .fn (.yield l) [] [] => match commits' o xs with
      | none => False
      | some (ys,o1) => yi l ys o1 K
  | _ => False
where
  /-- arrays are frozen, all else goes along. -/
  commits' (o : List O) : List V → Option (List V × List O)
    | [] => some ([],o)
    | x :: xs => match commits' ((freeze o x).getD (x,o)).2 xs with
      | none => none
      | some (ys,o2) => some (((freeze o x).getD (x,o)).1 :: ys,o2)
  /-- What is handed over to a call that sees it alone: arrays are frozen, or (6) go along. -/
  hand (m : Nat) (o : List O) (xs : List V) : Option (List V × List O) := if m = 6 then some (xs,o) else commits' o xs

def guardOk (s : St) : Option (Nat × Bool) → Option Bool
  | none => some true
  | some (t,b) => match s.t.getD t .dead with
    | .sc (.bool b') => some (b' == b)
    | .tup [] => some false
    | _ => none

def evOp (ca : (Nat → Sem') → FuncId → Sem') (yi : Nat → Sem') (ko : KO) (s : St) (K : St → Prop) : Prop :=
  match guardOk s ko.g with
  | none => False
  | some false => K { s with t := putT ko.dst (.tup []) s.t }
  | some true => match ko.k with
    | .call f xs => evCallV T ca yi (f.ev s) (xs.map (·.ev s)) s.o fun y o' => K { t := putT ko.dst y s.t,o := o' }
    | k => match step P s k with
      | none => False
      | some (y,o') => K { t := putT ko.dst y s.t,o := o' }

def evOps (ca : (Nat → Sem') → FuncId → Sem') (yi : Nat → Sem') : List KO → St → (St → Prop) → Prop
  | [],s,K => K s
  | ko :: ks,s,K => evOp P T ca yi ko s fun s' => evOps ca yi ks s' K

mutual
def evR (ca : (Nat → Sem') → FuncId → Sem') (yi : Nat → Sem') : R → St → (St → Prop) → Prop
  | .nil,s,K => K s
  | .op _ ko r,s,K => evOp P T ca yi ko s fun s' => evR ca yi r s' K
  | .rd _ ko m r,s,K => okR (ko.k.dep s) m = true ∧ evOp P T ca yi ko s fun s' => evR ca yi r s' K
  | .alt rs,s,K => evRs ca yi rs s K
def evRs (ca : (Nat → Sem') → FuncId → Sem') (yi : Nat → Sem') : List R → St → (St → Prop) → Prop
  | [],_,_ => True
  | r :: rs,s,K => evR ca yi r s K ∧ evRs ca yi rs s K
end

def jumpOf : X → Option Code
  | .normal => none
  | .exit id => some (.exit id)
  | .goto l => some (.goto l)
  | .ret => some .ret
def xOf : Option Code → Option X
  | none => some .normal
  | some (.exit id) => some (.exit id)
  | some (.goto l) => some (.goto l)
  | some .ret => some .ret
  | _ => none

def killTs (l : List Nat) (ts : List V) : List V := l.foldl (fun ts i => ts.set i .dead) ts

def setTs (ts : List V) : List (Tmp × V) → List V
  | [] => ts
  | (t,x) :: ps => setTs (ts.set t x) ps

def gBody (l : Nat) (b : Fr → (X → Fr → Prop) → Prop) (f : Fr) (Φ : X → Fr → Prop) : Prop := b f fun x f' => match x with
  | .normal => Φ (.goto l) f'
  | .goto l2 => if l2 = l then Φ .normal f' else False
  | x => Φ x f'
def ev (ca : (Nat → Sem') → FuncId → Sem') (lp : (Fr → (X → Fr → Prop) → Prop) → Fr → (X → Fr → Prop) → Prop) : C → Option Nat → (Nat → Sem') → Fr → (X → Fr → Prop) → Prop
  | .skip,_,_,f,Φ => Φ .normal f
  | .regs ks,_,yi,f,Φ => evOps P T ca yi ks f.s fun s' => Φ .normal { f with s := s' }
  | .regd r,_,yi,f,Φ => evR P T ca yi r f.s fun s' => Φ .normal { f with s := s' }
  | .seq a b,rd,yi,f,Φ => ev ca lp a rd yi f fun x f' => match x with
    | .normal => ev ca lp b rd yi f' Φ
    | x => Φ x f'
  | .cond x a b,rd,yi,f,Φ => match x.ev f.s with
    | .sc (.bool true) => ev ca lp a rd yi f Φ
    | .sc (.bool false) => ev ca lp b rd yi f Φ
    | _ => False
  | .block id c,rd,yi,f,Φ => ev ca lp c rd yi f fun x f' => match x with
    | .exit i => if i = id then Φ .normal f' else Φ (.exit i) f'
    | x => Φ x f'
  | .loop c,rd,yi,f,Φ => lp (ev ca lp c rd yi) f Φ
  | .kill l c,rd,yi,f,Φ => ev ca lp c rd yi { f with s := { f.s with t := killTs l f.s.t } } Φ
  | .rfun x ps assign body cass cb,rd,yi,f,Φ =>
    let base : Option (List O × Nat × List Nat) := match rd with
      | none => some (f.s.o ++ [.dfd (.sh false)],f.s.o.length,[f.s.o.length])
      | some l => match f.s.o[l]? with
        | some (.loop _ _ _ _ _ _ dl) => some (f.s.o,dl,[])
        | _ => none
    match base with
    | none => False
    | some (o0,dl,mk) =>
      let l := o0.length
      let o1 := o0 ++ [O.loop .ready none f.s.t ps assign body dl]
      let y : Sem' := fun xs o K => match o[l]? with
        | some (.loop .ready pend ts ps' a' b' dl') => (ps' = ps ∧ a' = assign ∧ b' = body ∧ xs.length = ps.size) ∧
          ev ca lp cass (some l) yi { s := { t := setTs ts (ps.toList.zip xs),o := o },m := [] } fun x f1 => match x with
            | .normal => match f1.s.o[l]? with
              | some (.loop .ready p1 ts1 ps1 a1 b1 dl1) =>
                ev ca lp cb (some l) yi { f1 with s := { f1.s with o := f1.s.o.set l (.loop .busy p1 ts1 ps1 a1 b1 dl1) } } fun x2 f2 => match f2.s.o[l]? with
                  | some (.loop st2 p2 ts2 ps2 a2 b2 dl2) => K (.sc (.bool (jumpOf x2).isNone)) (f2.s.o.set l (.loop (if (jumpOf x2).isNone then .ready else .done) (jumpOf x2) ts2 ps2 a2 b2 dl2))
                  | _ => False
              | _ => False
            | _ => False
        | _ => False
      match x.ev f.s with
      | .fn (.func fn) as bs => evCallV T ca (fun l' => if l' = l then y else yi l') (.fn (.func fn) as bs) [.fn (.yield l) [] []] o1 fun _ o3 => match o3[l]? with
        | some (.loop st3 p3 ts3 ps3 a3 b3 dl3) => if st3 = .busy then False else
          match xOf p3 with
          | none => False
          | some x3 => Φ x3 { s := { t := f.s.t,o := o3.set l (.loop .exhausted p3 ts3 ps3 a3 b3 dl3) },m := mk ++ f.m }
        | _ => False
      | _ => False
  | .exit id,_,_,f,Φ => Φ (.exit id) f
  | .scope c,rd,yi,f,Φ => ev ca lp c rd yi f fun x f' => match x with
    | .goto _ => False
    | x => Φ x f'
  | .scopeG l c r,rd,yi,f,Φ => ev ca lp c rd yi f fun x f' => match x with
    | .goto l' => if l' = l then lp (gBody l (ev ca lp r rd yi)) f' (fun x3 f3 => match x3 with
      | .goto _ => Φ .normal f3
      | x => Φ x f3) else False
    | x => Φ x f'
  | .label _,_,_,f,Φ => Φ .normal f
  | .goto l,_,_,f,Φ => Φ (.goto l) f
  | .ret,_,_,f,Φ => Φ .ret f

def Lfp (body : Fr → (X → Fr → Prop) → Prop) (f : Fr) (Φ : X → Fr → Prop) : Prop :=
  ∀ I : Fr → Prop,(∀ f,body f (fun x f' => match x with
    | .normal => I f'
    | x => Φ x f') → I f) → I f

def evBody (ca : (Nat → Sem') → FuncId → Sem') (lp : (Fr → (X → Fr → Prop) → Prop) → Fr → (X → Fr → Prop) → Prop) (yi : Nat → Sem') (f : FuncId) : Sem' := fun xs o K => match T.cf f with
  | none => match T.ext f xs with
    | none => False
    | some y => K y o
  | some cf => ev P T ca lp cf.body none yi { s := { t := xs ++ List.replicate (cf.ntmps - xs.length) .dead,o := o },m := [] } fun x f' => match x with
    | .normal | .ret => match shut f'.s.o f'.m with
      | none => False
      | some o1 => match rets { f'.s with o := o1 } cf.res with
        | some [y] => K y o1
        | some ys => K (.tup ys) o1
        | none => False
    | _ => False

def Call (yi : Nat → Sem') (f : FuncId) : Sem' := fun xs o K =>
  ∀ ca : (Nat → Sem') → FuncId → Sem',(∀ yi f xs o K,evBody P T ca Lfp yi f xs o K → ca yi f xs o K) → ca yi f xs o K
end
end Go.Proofs.Pe
end

section
set_option linter.unusedVariables false
namespace Go.Proofs.Pe
variable {P : Program} {T : Tab}

/-! ### Monotone -/
abbrev Ca := (Nat → Sem') → FuncId → Sem'
abbrev Bd := Fr → (X → Fr → Prop) → Prop
def SLe (s s' : Sem') : Prop := ∀ xs o (K K' : V → List O → Prop),(∀ y o,K y o → K' y o) → s xs o K → s' xs o K'
def YLe (yi yi' : Nat → Sem') : Prop := ∀ l,SLe (yi l) (yi' l)
def CLe (ca ca' : Ca) : Prop := ∀ yi yi' f,YLe yi yi' → SLe (ca yi f) (ca' yi' f)
def BLe (b b' : Bd) : Prop := ∀ f (Φ Φ' : X → Fr → Prop),(∀ x f,Φ x f → Φ' x f) → b f Φ → b' f Φ'
def LLe (lp lp' : Bd → Bd) : Prop := ∀ b b',BLe b b' → BLe (lp b) (lp' b')

section
variable {ca ca' : Ca} {yi yi' : Nat → Sem'} {lp lp' : Bd → Bd}

theorem gBody_mono {l : Nat} {b b' : Bd} (h : BLe b b') : BLe (gBody l b) (gBody l b') := by
  intro f Φ Φ' hΦ hb
  unfold gBody at hb ⊢
  refine h f _ _ (fun x f' h => ?_) hb
  cases x with
  | goto l2 =>
    dsimp only at h ⊢
    split at h
    · rename_i e; rw [if_pos e]; exact hΦ _ _ h
    · exact h.elim
  | _ => exact hΦ _ _ h
theorem pureEnd_mono {m : Nat} {o o1 : List O} {K K' : V → List O → Prop} {y : V} {o' : List O} (hK : ∀ y o,K y o → K' y o) (h : pureEnd m o o1 K y o') : pureEnd m o o1 K' y o' := by
  unfold pureEnd at h ⊢
  split at h
  · split at h
    · split at h
      · rename_i hc; rw [if_pos hc]; exact hK _ _ h
      · exact h.elim
    · exact h.elim
  · split at h
    · exact h.elim
    · split at h
      · rename_i hc; rw [if_pos hc]; exact hK _ _ h
      · rename_i hc; rw [if_neg hc]; exact hK _ _ h

theorem backEnd_mono {S : List Nat} {o1 : List O} {K K' : V → List O → Prop} {y : V} {o' : List O} (hK : ∀ y o,K y o → K' y o) (h : backEnd S o1 K y o') : backEnd S o1 K' y o' := by
  obtain ⟨z,o2,N,z',os,h1,h2,h3,h4,h5,h6⟩ := h
  exact ⟨z,o2,N,z',os,h1,h2,h3,h4,h5,hK _ _ h6⟩
theorem evCallV_mono (hc : CLe ca ca') (hy : YLe yi yi') (f : V) : SLe (fun xs o K => evCallV T ca yi f xs o K) (fun xs o K => evCallV T ca' yi' f xs o K) := by
  intro xs o K K' hK h
  simp only [evCallV] at h ⊢
  split at h
  · rename_i g as bs
    split at h
    · rename_i hm
      simp only [hm,if_true]
      split at h
      · exact h.elim
      · rename_i ys o1 hcm
        exact hc _ _ g (fun _ _ _ _ _ _ h => h) _ _ _ _ (fun y o' h => pureEnd_mono hK h) h
    · rename_i hm
      rw [if_neg hm]
      split at h
      · rename_i hm3
        rw [if_pos hm3]
        split at h
        · exact h.elim
        · exact hc _ _ g (fun _ _ _ _ _ _ h => h) _ _ _ _ (fun y o' h => ⟨h.1,hK _ _ h.2⟩) h
      rename_i hm3
      rw [if_neg hm3]
      split at h
      · rename_i hm2
        rw [if_pos hm2]
        split at h
        · exact h.elim
        · exact hc _ _ g hy _ _ _ _ hK h
      · rename_i hm2
        rw [if_neg hm2]
        split at h
        · rename_i hm5
          rw [if_pos hm5]
          split at h
          · exact h.elim
          · obtain ⟨S,zs,os,h1,h2,h3,h4⟩ := h
            exact ⟨S,zs,os,h1,h2,h3,hc _ _ g (fun _ _ _ _ _ _ h => h) _ _ _ _ (fun y o' h => backEnd_mono hK h) h4⟩
        · rename_i hm5
          rw [if_neg hm5]
          exact hc _ _ g hy _ _ _ _ hK h
  · split at h
    · exact h.elim
    · exact hy _ _ _ _ _ hK h
  · exact h.elim

theorem evOp_mono (hc : CLe ca ca') (hy : YLe yi yi') (ko : KO) (s : St) (K K' : St → Prop) (hK : ∀ s,K s → K' s) (h : evOp P T ca yi ko s K) : evOp P T ca' yi' ko s K' := by
  unfold evOp at h ⊢
  split at h
  · exact h.elim
  · exact hK _ h
  · split at h
    · exact evCallV_mono hc hy _ _ _ _ _ (fun y o h => hK _ h) h
    · rename_i k hk
      split at h
      · exact h.elim
      · exact hK _ h

theorem evOps_mono (hc : CLe ca ca') (hy : YLe yi yi') : ∀ (ks : List KO) (s : St) (K K' : St → Prop),(∀ s,K s → K' s) → evOps P T ca yi ks s K → evOps P T ca' yi' ks s K'
  | [],s,K,K',hK,h => hK _ h
  | ko :: ks,s,K,K',hK,h => evOp_mono hc hy ko s _ _ (fun s h => evOps_mono hc hy ks s K K' hK h) h

mutual
theorem evR_mono (hc : CLe ca ca') (hy : YLe yi yi') : ∀ (r : R) (s : St) (K K' : St → Prop),(∀ s,K s → K' s) → evR P T ca yi r s K → evR P T ca' yi' r s K'
  | .nil,s,K,K',hK,h => hK _ h
  | .op i ko r,s,K,K',hK,h => evOp_mono hc hy ko s _ _ (fun s h => evR_mono hc hy r s K K' hK h) h
  | .rd i ko m r,s,K,K',hK,h => ⟨h.1,evOp_mono hc hy ko s _ _ (fun s h => evR_mono hc hy r s K K' hK h) h.2⟩
  | .alt rs,s,K,K',hK,h => evRs_mono hc hy rs s K K' hK h
theorem evRs_mono (hc : CLe ca ca') (hy : YLe yi yi') : ∀ (rs : List R) (s : St) (K K' : St → Prop),(∀ s,K s → K' s) → evRs P T ca yi rs s K → evRs P T ca' yi' rs s K'
  | [],s,K,K',hK,h => trivial
  | r :: rs,s,K,K',hK,h => ⟨evR_mono hc hy r s K K' hK h.1,evRs_mono hc hy rs s K K' hK h.2⟩
end

theorem ev_mono (hc : CLe ca ca') (hl : LLe lp lp') : ∀ (c : C) (rd : Option Nat) (yi yi' : Nat → Sem'),YLe yi yi' → BLe (ev P T ca lp c rd yi) (ev P T ca' lp' c rd yi')
  | .skip,rd,yi,yi',hy,f,Φ,Φ',hΦ,h => hΦ _ _ h
  | .regs ks,rd,yi,yi',hy,f,Φ,Φ',hΦ,h => evOps_mono hc hy ks _ _ _ (fun s h => hΦ _ _ h) h
  | .regd r,rd,yi,yi',hy,f,Φ,Φ',hΦ,h => evR_mono hc hy r _ _ _ (fun s h => hΦ _ _ h) h
  | .seq a b,rd,yi,yi',hy,f,Φ,Φ',hΦ,h => by
    simp only [ev] at h ⊢
    refine ev_mono hc hl a rd yi yi' hy f _ _ (fun x f' h => ?_) h
    cases x with
    | normal => exact ev_mono hc hl b rd yi yi' hy f' _ _ hΦ h
    | _ => exact hΦ _ _ h
  | .cond x a b,rd,yi,yi',hy,f,Φ,Φ',hΦ,h => by
    simp only [ev] at h ⊢
    split at h
    · exact ev_mono hc hl a rd yi yi' hy f _ _ hΦ h
    · exact ev_mono hc hl b rd yi yi' hy f _ _ hΦ h
    · exact h.elim
  | .block id c,rd,yi,yi',hy,f,Φ,Φ',hΦ,h => by
    simp only [ev] at h ⊢
    refine ev_mono hc hl c rd yi yi' hy f _ _ (fun x f' h => ?_) h
    cases x with
    | exit i =>
      dsimp only at h ⊢
      split at h
      · rename_i e; rw [if_pos e]; exact hΦ _ _ h
      · rename_i e; rw [if_neg e]; exact hΦ _ _ h
    | _ => exact hΦ _ _ h
  | .loop c,rd,yi,yi',hy,f,Φ,Φ',hΦ,h => by
    simp only [ev] at h ⊢
    exact hl _ _ (ev_mono hc hl c rd yi yi' hy) f _ _ hΦ h
  | .kill l c,rd,yi,yi',hy,f,Φ,Φ',hΦ,h => by
    simp only [ev] at h ⊢
    exact ev_mono hc hl c rd yi yi' hy _ _ _ hΦ h
  | .rfun x ps assign body cass cb,rd,yi,yi',hy,f,Φ,Φ',hΦ,h => by
    simp only [ev] at h ⊢
    split at h
    · exact h.elim
    · rename_i o0 dl mk hb
      split at h
      · rename_i fn as bs hx
        refine evCallV_mono hc (fun l' => ?_) _ _ _ _ _ (fun y o3 h => ?_) h
        · split
          · rename_i e
            intro xs o K K' hK h
            split at h
            · refine ⟨h.1,ev_mono hc hl cass _ yi yi' hy _ _ _ (fun x f1 h => ?_) h.2⟩
              cases x with
              | normal =>
                dsimp only at h ⊢
                split at h
                · refine ev_mono hc hl cb _ yi yi' hy _ _ _ (fun x2 f2 h => ?_) h
                  split at h
                  · exact hK _ _ h
                  · exact h.elim
                · exact h.elim
              | _ => exact h.elim
            · exact h.elim
          · exact hy l'
        · split at h
          · split at h
            · exact h.elim
            · rename_i hbz
              rw [if_neg hbz]
              split at h
              · exact h.elim
              · exact hΦ _ _ h
          · exact h.elim
      · exact h.elim
  | .exit id,rd,yi,yi',hy,f,Φ,Φ',hΦ,h => hΦ _ _ h
  | .scope c,rd,yi,yi',hy,f,Φ,Φ',hΦ,h => by
    simp only [ev] at h ⊢
    refine ev_mono hc hl c rd yi yi' hy f _ _ (fun x f' h => ?_) h
    cases x with
    | goto l => exact h.elim
    | _ => exact hΦ _ _ h
  | .scopeG l c r,rd,yi,yi',hy,f,Φ,Φ',hΦ,h => by
    simp only [ev] at h ⊢
    refine ev_mono hc hl c rd yi yi' hy f _ _ (fun x f' h => ?_) h
    cases x with
    | goto l' =>
      dsimp only at h ⊢
      split at h
      · rename_i e
        rw [if_pos e]
        refine hl _ _ (gBody_mono (ev_mono hc hl r rd yi yi' hy)) f' _ _ (fun x3 f3 h => ?_) h
        cases x3 with
        | goto _ => exact hΦ _ _ h
        | _ => exact hΦ _ _ h
      · exact h.elim
    | _ => exact hΦ _ _ h
  | .label l,rd,yi,yi',hy,f,Φ,Φ',hΦ,h => hΦ _ _ h
  | .goto l,rd,yi,yi',hy,f,Φ,Φ',hΦ,h => hΦ _ _ h
  | .ret,rd,yi,yi',hy,f,Φ,Φ',hΦ,h => hΦ _ _ h

theorem evBody_mono (hc : CLe ca ca') (hl : LLe lp lp') : CLe (evBody P T ca lp) (evBody P T ca' lp') := by
  intro yi yi' f hy xs o K K' hK h
  unfold evBody at h ⊢
  split at h
  · split at h
    · exact h.elim
    · exact hK _ _ h
  · refine ev_mono hc hl _ none yi yi' hy _ _ _ (fun x f' h => ?_) h
    have key : ∀ o1 cf,(match rets { f'.s with o := o1 } cf with
          | some [y] => K y o1
          | some ys => K (.tup ys) o1
          | none => False) → (match rets { f'.s with o := o1 } cf with
          | some [y] => K' y o1
          | some ys => K' (.tup ys) o1
          | none => False) := fun o1 cf h => by
      split at h
      · exact hK _ _ h
      · exact hK _ _ h
      · exact h.elim
    cases x with
    | exit i => exact h.elim
    | goto i => exact h.elim
    | normal =>
      dsimp only at h ⊢
      split at h
      · exact h.elim
      · exact key _ _ h
    | ret =>
      dsimp only at h ⊢
      split at h
      · exact h.elim
      · exact key _ _ h
end

theorem lfp_le : LLe Lfp Lfp := by
  intro b b' hb f Φ Φ' hΦ h I' hI'
  refine h I' fun f1 h1 => hI' f1 (hb f1 _ _ (fun x f' h => ?_) h1)
  cases x with
  | normal => exact h
  | _ => exact hΦ _ _ h

theorem Lfp.step {b : Bd} (hb : BLe b b) {f : Fr} {Φ : X → Fr → Prop} (h : b f (fun x f' => match x with
    | .normal => Lfp b f' Φ
    | x => Φ x f')) : Lfp b f Φ := fun I hI => hI f (hb f _ _ (fun x f' h => by
  cases x with
  | normal => exact h I hI
  | _ => exact h) h)

theorem call_le : CLe (Call P T) (Call P T) := by
  intro yi yi' f hy xs o K K' hK h
  refine h (fun yi f xs o K => ∀ yi' K',YLe yi yi' → (∀ y o,K y o → K' y o) → Call P T yi' f xs o K') (fun yi f xs o K hb yi' K' hy hK => ?_) yi' K' hy hK
  intro ca hca
  refine hca _ _ _ _ _ (evBody_mono (ca := fun yi f xs o K => ∀ yi' K',YLe yi yi' → (∀ y o,K y o → K' y o) → Call P T yi' f xs o K') (ca' := ca) ?_ lfp_le yi yi' f hy xs o K K' hK hb)
  intro y1 y2 g hy12 xs o K1 K2 hK12 h1
  exact h1 y2 K2 hy12 hK12 ca hca

theorem Call.step {yi : Nat → Sem'} (hy : YLe yi yi) {f : FuncId} {xs : List V} {o : List O} {K : V → List O → Prop} (h : evBody P T (Call P T) Lfp yi f xs o K) : Call P T yi f xs o K := by
  intro ca hca
  refine hca _ _ _ _ _ (evBody_mono (ca := Call P T) (ca' := ca) ?_ lfp_le yi yi f hy xs o K K (fun _ _ h => h) h)
  intro y1 y2 g hy12 xs o K1 K2 hK12 h1
  exact call_le y1 y2 g hy12 xs o K1 K2 hK12 h1 ca hca
end Go.Proofs.Pe
end

section
set_option linter.unusedVariables false
namespace Go.Proofs.Pe
variable {P : Program} {w : World} {g : G} {o : List O}

/-! ### Values that lead to no object -/
theorem Rep.free1 {h : Array Obj} {g g' : G} {o o' : List O} (hc : ∀ b,g.com b ≤ g'.com b) {x : V} {u : Value} (r : Rep h g o x u) : x.free1 = true → Rep h g' o' x u := by
  induction r with
  | sc hp => exact fun _ => .sc hp
  | sl0 => exact fun _ => .sl0
  | @sl k full xs b off cap cs ty fr hcc hsz hcap hfull hb hk hx ih =>
    intro _
    refine .sl (Nat.le_trans hcc (hc b)) hsz hcap hfull hb hk fun i x hi j y hj u hu => ih i x hi j y hj u hu ?_
    have hf := (hk i x hi).2
    cases x with
    | agg cs' => simp only [V.free,List.all_eq_true] at hf; exact hf y (List.mem_of_getElem? hj)
    | _ => simp only [V.cells] at hj; cases j with
      | zero => simp at hj; subst hj; exact hf
      | succ j => simp at hj
  | ep hcc hsz hb hf hx ih => exact fun _ => .ep (Nat.le_trans hcc (hc _)) hsz hb hf fun j y hj u hu => ih j y hj u hu (hf j y hj)
  | @fn f as bs us ws hf hs hx ht hy ih1 ih2 =>
    intro h
    cases f <;> cases as <;> cases bs <;> simp [V.free1] at h
    exact .fn hf hs (by simp) ht (by simp)
  | yl => intro h; simp [V.free1] at h
  | it => intro h; simp [V.free1] at h
  | ar => intro h; simp [V.free1] at h
  | vw => intro h; simp [V.free1] at h
  | pt => intro h; simp [V.free1] at h
  | pa => intro h; simp [V.free1] at h
  | agg => intro h; simp [V.free1] at h
  | tup => intro h; simp [V.free1] at h
  | dead => intro h; simp [V.free1] at h

theorem Rep.freeV {h : Array Obj} {g g' : G} {o o' : List O} (hc : ∀ b,g.com b ≤ g'.com b) {x : V} {u : Value} (r : Rep h g o x u) (hf : x.free = true) : Rep h g' o' x u := by
  cases x with
  | agg cs =>
    simp only [V.free,List.all_eq_true] at hf
    cases r with
    | agg hs hx => exact .agg hs fun j y hy u hu => (hx j y hy u hu).free1 hc (hf y (List.mem_of_getElem? hy))
  | _ => exact r.free1 hc hf
theorem Reps.freeV {h : Array Obj} {g g' : G} {o o' : List O} (hc : ∀ b,g.com b ≤ g'.com b) {xs : List V} {us : List Value} (r : Reps h g o xs us) (hf : xs.all V.free = true) : Reps h g' o' xs us :=
  ⟨r.1,fun j y hy u hu => (r.2 j y hy u hu).freeV hc (by simp only [List.all_eq_true] at hf; exact hf y (List.mem_of_getElem? hy))⟩

def V.freeT : V → Bool
  | .tup xs => xs.all V.free
  | x => x.free
theorem Rep.freeT {h : Array Obj} {g g' : G} {o o' : List O} (hc : ∀ b,g.com b ≤ g'.com b) {x : V} {u : Value} (r : Rep h g o x u) (hf : x.freeT = true) : Rep h g' o' x u := by
  cases x with
  | tup xs =>
    simp only [V.freeT,List.all_eq_true] at hf
    cases r with
    | tup hs hx => exact .tup hs fun j y hy u hu => (hx j y hy u hu).freeV hc (hf y (List.mem_of_getElem? hy))
  | _ => exact r.freeV hc hf

theorem Rep.bare1 {h h' : Array Obj} {g g' : G} {o o' : List O} {x : V} {u : Value} (r : Rep h g o x u) (hf : x.bare1 = true) : Rep h' g' o' x u := by
  cases r with
  | sc hp => exact .sc hp
  | @fn f as bs us ws hff hs hx ht hy =>
    cases f <;> cases as <;> cases bs <;> simp [V.bare1] at hf
    exact .fn hff hs (by simp) ht (by simp)
  | _ => simp [V.bare1] at hf
theorem Rep.bareA {h h' : Array Obj} {g g' : G} {o o' : List O} {cs : List V} {us : Array Value} (hs : us.size = cs.length) (hx : ∀ (j : Nat) (y : V),cs[j]? = some y → ∀ u,us[j]? = some u → Rep h g o y u) (hf : cs.all V.bare1 = true) : Rep h' g' o' (.agg cs) (.agg us) :=
  .agg hs fun j y hy u hu => (hx j y hy u hu).bare1 (by simp only [List.all_eq_true] at hf; exact hf y (List.mem_of_getElem? hy))
theorem Rep.bare {h h' : Array Obj} {g g' : G} {o o' : List O} {x : V} {u : Value} (r : Rep h g o x u) (hf : x.bare = true) : Rep h' g' o' x u := by
  cases x with
  | agg cs =>
    cases r with
    | agg hs hx => exact Rep.bareA hs hx hf
  | tup cs =>
    cases r with
    | tup hs hx =>
      refine .tup hs fun j y hy u hu => ?_
      simp only [V.bare,List.all_eq_true] at hf
      have h1 := hf y (List.mem_of_getElem? hy)
      have h2 := hx j y hy u hu
      cases y with
      | agg ds =>
        cases h2 with
        | agg hs' hx' => exact Rep.bareA hs' hx' h1
      | _ => exact h2.bare1 h1
  | _ => exact r.bare1 hf

theorem freeze_kind {x y : V} {o o' : List O} (h : freeze o x = some (y,o')) : (∃ cs ds,x = .agg cs ∧ y = .agg ds) ∨ (x.one = true ∧ y.one = true) := by
  unfold freeze at h
  split at h
  · simp only [Option.map_eq_some_iff] at h
    obtain ⟨⟨ys,o1⟩,h1,h2⟩ := h
    cases h2; exact .inl ⟨_,_,rfl,rfl⟩
  · refine .inr ?_
    unfold freeze1 at h
    split at h
    · split at h
      · split at h
        · cases h; exact ⟨rfl,rfl⟩
        · cases h
      · cases h
    · split at h
      · rename_i hf; cases h; exact ⟨free1_one hf,free1_one hf⟩
      · cases h
theorem freezes'_kind : ∀ {xs ys : List V} {o o' : List O},step.freezes' o xs = some (ys,o') → ∀ (i : Nat) (y : V),ys[i]? = some y → ∃ x,xs[i]? = some x ∧ ((∃ cs ds,x = .agg cs ∧ y = .agg ds) ∨ (x.one = true ∧ y.one = true))
  | [],ys,o,o',h,i,y,hy => by simp [step.freezes'] at h; obtain ⟨rfl,rfl⟩ := h; simp at hy
  | x :: xs,ys,o,o',h,i,y,hy => by
    simp only [step.freezes',Option.bind_eq_bind,Option.bind_eq_some_iff] at h
    obtain ⟨⟨y0,o1⟩,h1,⟨ys',o2⟩,h2,h3⟩ := h
    simp only [pure,Option.some.injEq,Prod.mk.injEq] at h3
    obtain ⟨rfl,rfl⟩ := h3
    cases i with
    | zero => simp at hy; subst hy; exact ⟨x,rfl,freeze_kind h1⟩
    | succ i => simp at hy; exact freezes'_kind h2 i y hy

theorem elem_vals {h : Array Obj} {xs : List V} {k : Nat} {us : Array Value} (hk : ∀ x,x ∈ xs → x.cells.length = k) (hsz : xs.length * k ≤ us.size)
    (hx : ∀ (i : Nat) (x : V),xs[i]? = some x → ∀ (j : Nat) (y : V),x.cells[j]? = some y → ∀ u,us[i * k + j]? = some u → Rep h g o y u) :
    ∃ ws : List Value,Reps h g o xs ws ∧ ∀ (i : Nat) (x : V),xs[i]? = some x → ∃ w',ws[i]? = some w' ∧ (∀ cs,x = .agg cs → w' = .agg (us.extract (i * k) (i * k + k))) ∧ ((∀ cs,x ≠ .agg cs) → k = 1 ∧ us[i]? = some w') := by
  have key : ∀ (i : Nat) (x : V),xs[i]? = some x → ((∀ cs,x ≠ .agg cs) → k = 1 ∧ x.cells = [x]) ∧ (i + 1) * k ≤ us.size := fun i x hi => by
    have hlt := (List.getElem?_eq_some_iff.1 hi).1
    have hm := hk x (List.mem_of_getElem? hi)
    refine ⟨fun hn => ?_,Nat.le_trans (Nat.mul_le_mul_right k hlt) hsz⟩
    cases x with
    | agg cs => exact absurd rfl (hn cs)
    | _ => exact ⟨by simpa [V.cells] using hm.symm,rfl⟩
  let f : Nat → Value := fun i => match xs[i]? with
    | some (.agg _) => .agg (us.extract (i * k) (i * k + k))
    | _ => us.getD i undef
  have fa : ∀ (i : Nat) (cs : List V),xs[i]? = some (.agg cs) → f i = .agg (us.extract (i * k) (i * k + k)) := fun i cs h => by simp only [f,h]
  have fb : ∀ (i : Nat) (x : V),xs[i]? = some x → (∀ cs,x ≠ .agg cs) → f i = us.getD i undef := fun i x h hn => by
    simp only [f,h]
    cases x with
    | agg cs => exact absurd rfl (hn cs)
    | _ => rfl
  have hw : ∀ (i : Nat) (x : V),xs[i]? = some x → ((List.range xs.length).map f)[i]? = some (f i) := fun i x hi => by
    have hlt := (List.getElem?_eq_some_iff.1 hi).1
    simp [List.getElem?_range hlt]
  have hg : ∀ (i : Nat) (x : V),xs[i]? = some x → (∀ cs,x ≠ .agg cs) → us[i]? = some (us.getD i undef) := fun i x hi hn => by
    obtain ⟨a,b⟩ := key i x hi
    have := (a hn).1; subst this
    simp at b
    simp [Array.getD,show i < us.size by omega]
  refine ⟨(List.range xs.length).map f,⟨by simp,fun i x hi u hu => ?_⟩,fun i x hi => ⟨f i,hw i x hi,fun cs e => ?_,fun hn => ?_⟩⟩
  · rw [hw i x hi] at hu; cases hu
    obtain ⟨a,b⟩ := key i x hi
    rw [Nat.succ_mul] at b
    by_cases hn : ∀ cs,x ≠ .agg cs
    · obtain ⟨rfl,e⟩ := a hn
      rw [fb i x hi hn]
      exact hx i x hi 0 x (by rw [e]; rfl) _ (by simpa using hg i x hi hn)
    · obtain ⟨cs,rfl⟩ := Classical.not_forall_not.1 hn
      rw [fa i cs hi]
      have hm := hk _ (List.mem_of_getElem? hi)
      refine .agg (by simp; have : cs.length = k := hm; omega) fun j y hj u hu => ?_
      have hjl : j < k := by have := (List.getElem?_eq_some_iff.1 hj).1; have e : cs.length = k := hm; omega
      rw [Array.getElem?_extract,if_pos (by omega)] at hu
      exact hx i _ hi j y hj u hu
  · subst e; exact fa i cs hi
  · exact ⟨((key i x hi).1 hn).1,by rw [fb i x hi hn]; exact hg i x hi hn⟩

theorem freezeD_tr {x y : V} {o' : List O} {w : World} (I : Inv w.heap g o) (h : freezeD o x = some (y,o')) :
    ∃ g',Tr w g o w g' o' ∧ Inv w.heap g' o' ∧ y.free = true ∧ (∀ u,Rep w.heap g o x u → Rep w.heap g' o' y u) := by
  unfold freezeD at h
  split at h
  · rename_i l v
    split at h
    · rename_i v' wr k xs hl
      split at h
      · rename_i hv
        subst hv
        split at h
        · rename_i hf
          obtain ⟨g1,t1,i1,f1,r1⟩ := freeze1_tr (x := .ar l v') (y := y) (o' := o') I (by simp only [freeze1,hl,hf,and_self,if_true]; exact h)
          refine ⟨g1,t1,i1, ?_,r1⟩
          cases h; rfl
        · split at h
          · rename_i ys o1 hfz
            split at h
            · rename_i v2 k2 xs2 hl1
              split at h
              · rename_i hc
                obtain ⟨rfl,rfl,hall⟩ := hc
                cases h
                obtain ⟨g1,t1,i1,f1,len1,r1⟩ := freezes'_tr I hfz
                have hll : l < o.length := (List.getElem?_eq_some_iff.1 hl).1
                obtain ⟨us,ty,lo,hi,hb,hfr,h3,h4,h5,h6,h7,h8⟩ := I.arr l v2 wr k2 xs hl
                obtain ⟨v0,wr0,xs0,e0,_,e1⟩ := t1.ev.arr l v2 true k2 xs2 hll hl1
                rw [hl] at e0; cases e0
                obtain ⟨e2,e3,e4⟩ := e1 rfl
                obtain ⟨us',ty',lo',hi',hb',hfr',a3,a4,a5,a6,a7,a8⟩ := i1.arr l v2 true k2 xs2 hl1
                rw [e3,hb] at hb'; cases hb'
                have hle : xs.length * k2 ≤ g.cap l * k2 := Nat.mul_le_mul_right k2 h3
                obtain ⟨ws,hws,hwi⟩ := elem_vals h7 (by omega) h8
                have hys := r1 ws hws
                have hcom : g1.com (g1.blk l) = 0 := by simpa using a5
                have hb1 : w.heap[g1.blk l]? = some (.cells us ty (lo,hi)) := by rw [e3]; exact hb
                have T2 : Tr w g1 o1 w g1 (o1.set l (.arr v2 true k2 ys)) :=
                  tr_cells i1 hl1 rfl rfl (fun _ e => by cases e) (fun hn => absurd rfl (hn _ _ _ _)) (fun _ _ _ _ e => by cases e; exact ⟨_,_,rfl,by omega⟩) hcom hb1 hb1 rfl (fun _ _ => rfl) rfl rfl rfl rfl
                have hkl : ∀ z,z ∈ ys → z.cells.length = k2 := fun z hz => by
                  simp only [List.all_eq_true,decide_eq_true_eq] at hall; exact hall z hz
                have hcell : ∀ (i : Nat) (y : V),ys[i]? = some y → ∀ (j : Nat) (z : V),y.cells[j]? = some z → ∀ u,us[i * k2 + j]? = some u → Rep w.heap g1 o1 z u := fun i y hy j z hz u hu => by
                  obtain ⟨x,hx,hk⟩ := freezes'_kind hfz i y hy
                  obtain ⟨w',hw1,hw2,hw3⟩ := hwi i x hx
                  have hry := hys.2 i y hy w' hw1
                  have hfy : y.free = true := by simp only [List.all_eq_true] at f1; exact f1 y (List.mem_of_getElem? hy)
                  have hrc := hry.cells (free_solid hfy)
                  have hjl : j < k2 := by have := (List.getElem?_eq_some_iff.1 hz).1; rw [hkl y (List.mem_of_getElem? hy)] at this; exact this
                  rcases hk with ⟨cs,ds,rfl,rfl⟩ | ⟨ox,oy⟩
                  · have := hw2 cs rfl
                    subst this
                    refine hrc.2 j z hz u ?_
                    simp only [Value.cells,Array.getElem?_toList,Array.getElem?_extract]
                    rw [if_pos (by have := (Array.getElem?_eq_some_iff.1 hu).1; omega)]; exact hu
                  · obtain ⟨rfl,he⟩ := hw3 (fun cs e => by subst e; cases ox)
                    have : j = 0 := by omega
                    subst this
                    have hoc := (hry.oneCell oy).1
                    refine hrc.2 0 z hz u ?_
                    rw [hoc]
                    simp at hu
                    rw [he] at hu; cases hu; rfl
                have I2 : Inv w.heap g1 (o1.set l (.arr v2 true k2 ys)) := by
                  refine inv_cells i1 hl1 rfl rfl T2 (fun _ _ => rfl) rfl (fun _ e => by cases e) (fun v' wr' k' xs' e => ?_) (fun _ _ _ _ _ _ _ e => by cases e) (fun _ e => by cases e) (fun _ e => by cases e)
                  cases e
                  exact ⟨us,ty,lo,hi,hb1,hfr,by rw [e4]; omega,by rw [e4]; exact h4,by simpa using hcom,h6,hkl,fun i y hy j z hz u hu => (hcell i y hy j z hz u hu).ev T2.ev⟩
                have hll1 : l < o1.length := (List.getElem?_eq_some_iff.1 hl1).1
                obtain ⟨g3,t3,i3,f3,r3⟩ := freeze1_tr (x := .ar l v2) (y := .sl k2 false ys) (o' := (o1.set l (.arr v2 true k2 ys)).set l (.arr v2 false k2 ys)) I2 (by
                  simp only [freeze1,set_get hll1,if_true,f1,and_self])
                exact ⟨g3,t1.trans (T2.trans t3),i3,rfl,fun u hu => r3 u (hu.ev (t1.ev.trans T2.ev))⟩
              · cases h
            · cases h
          · cases h
      · cases h
    · cases h
  · exact freeze_tr I h

theorem freezeDs_tr : ∀ {xs ys : List V} {o o' : List O} {g : G} {w : World},Inv w.heap g o → freezeDs o xs = some (ys,o') →
    ∃ g',Tr w g o w g' o' ∧ Inv w.heap g' o' ∧ ys.all V.free = true ∧ ys.length = xs.length ∧ (∀ us,Reps w.heap g o xs us → Reps w.heap g' o' ys us)
  | [],ys,o,o',g,w,I,h => by
    simp [freezeDs] at h; obtain ⟨rfl,rfl⟩ := h
    exact ⟨g,Tr.refl _ _ _,I,rfl,rfl,fun us hr => hr⟩
  | x :: xs,ys,o,o',g,w,I,h => by
    simp only [freezeDs] at h
    split at h
    · cases h
    · rename_i y o1 h1
      split at h
      · cases h
      · rename_i ys' o2 h2
        cases h
        obtain ⟨g1,t1,i1,f1,r1⟩ := freezeD_tr I h1
        obtain ⟨g2,t2,i2,f2,l2,r2⟩ := freezeDs_tr i1 h2
        refine ⟨g2,t1.trans t2,i2,by simp only [List.all_cons,f1,f2]; rfl,by simp [l2],fun us hr => ?_⟩
        obtain ⟨u,us',rfl,hu,hr'⟩ := hr.tail
        exact Reps.cons ((r1 u hu).ev t2.ev) (r2 us' (hr'.ev t1.ev))

theorem freezeT_tr {x y : V} {o' : List O} {w : World} (I : Inv w.heap g o) (h : freezeT o x = some (y,o')) :
    ∃ g',Tr w g o w g' o' ∧ Inv w.heap g' o' ∧ y.freeT = true ∧ (∀ u,Rep w.heap g o x u → Rep w.heap g' o' y u) := by
  unfold freezeT at h
  split at h
  · rename_i xs
    simp only [Option.map_eq_some_iff] at h
    obtain ⟨⟨ys,o1⟩,h1,h2⟩ := h
    cases h2
    obtain ⟨g1,t1,i1,f1,_,r1⟩ := freezeDs_tr I h1
    refine ⟨g1,t1,i1,f1,fun u hr => ?_⟩
    cases hr with
    | @tup _ us hs hx =>
      have := r1 us.toList ⟨by simpa using hs,fun j y hy u hu => hx j y hy u (by simpa using hu)⟩
      exact .tup (by simpa using this.1) fun j y hy u hu => this.2 j y hy u (by simpa using hu)
  · obtain ⟨g1,t1,i1,f1,r1⟩ := freezeD_tr I h
    refine ⟨g1,t1,i1, ?_,r1⟩
    cases y <;> first | exact f1 | (exfalso; simp [V.free,V.free1] at f1)

/-! ### A pure call leaves the store as it was -/
def G.mix (g g' : G) (n : Nat) : G := { g with com := fun b => if b < n then g.com b else g'.com b }

theorem pure_back {w w' : World} {g1 g' gb : G} {o' ob : List O} (T : Tr w g1 [] w' g' o') (I' : Inv w'.heap g' o') (I : Inv w.heap gb ob) :
    Tr w gb ob w' (gb.mix g' w.heap.size) ob ∧ Inv w'.heap (gb.mix g' w.heap.size) ob := by
  have hk : ∀ b,b < w.heap.size → w'.heap[b]? = w.heap[b]? := fun b hb => (T.keep b hb (fun l ob h => by simp at h)).1
  have hc : ∀ b,(gb.mix g' w.heap.size).com b = if b < w.heap.size then gb.com b else g'.com b := fun b => rfl
  have E : Ev w.heap gb ob w'.heap (gb.mix g' w.heap.size) ob := Ev.same_o T.ev.size (fun b => by
    rw [hc]; split
    · exact Nat.le_refl _
    · rw [I.fresh b (by omega)]; exact Nat.zero_le _) hk rfl rfl
  refine withTab I ?_
  refine ⟨⟨E,T.os,T.tape,T.output,fun b hb _ => ⟨hk b hb,by rw [hc,if_pos hb]⟩,fun l ob' hl hv _ => ⟨l,ob',hl,hv,rfl⟩⟩,⟨fun l cs hl => ?_,fun l v wr k xs hl => ?_,fun l st pend ts ps assign body dl hl => ?_,fun l shut hl => ?_,I.inj,fun b hb => ?_⟩⟩
  · obtain ⟨us,ty,hb,hc',hr⟩ := I.cells l cs hl
    exact ⟨us,ty,(hk _ (some_lt hb)).trans hb,by show (gb.mix g' _).com (gb.blk l) = 0; rw [hc,if_pos (some_lt hb)]; exact hc',hr.ev E⟩
  · obtain ⟨us,ty,lo,hi,hb,a1,a2,a3,a4,a5,a6,a7⟩ := I.arr l v wr k xs hl
    exact ⟨us,ty,lo,hi,(hk _ (some_lt hb)).trans hb,a1,a2,a3,by show (gb.mix g' _).com (gb.blk l) = _; rw [hc,if_pos (some_lt hb)]; exact a4,a5,a6,fun i x hx j y hy u hu => (a7 i x hx j y hy u hu).ev E⟩
  · obtain ⟨fn,us,hb,hr,hd⟩ := I.loop l st pend ts ps assign body dl hl
    exact ⟨fn,us,(hk _ (some_lt hb)).trans hb,hr.ev E,hd⟩
  · have hb := I.dfd l shut hl
    exact (hk _ (some_lt hb)).trans hb
  · rw [hc]
    have := T.ev.size
    rw [if_neg (by omega)]; exact I'.fresh b hb

theorem pure_keep {w w' : World} {g1 g' : G} {o' o1 : List O} {l v k : Nat} {wr : Bool} {ws : List V} {u : Value} (T : Tr w g1 [] w' g' o') (I' : Inv w'.heap g' o') (I : Inv w.heap g1 o1) (hl : o'[l]? = some (.arr v wr k ws)) (hf : ws.all V.free = true)
    (hr : Rep w'.heap g' o' (.ar l v) u) :
    ∃ g2,Tr w g1 o1 w' g2 (o1 ++ [.arr 0 wr k ws]) ∧ Inv w'.heap g2 (o1 ++ [.arr 0 wr k ws]) ∧ Rep w'.heap g2 (o1 ++ [.arr 0 wr k ws]) (.ar o1.length 0) u := by
  obtain ⟨T0,I0⟩ := pure_back T I' I
  have hnew : w.heap.size ≤ g'.blk l := by
    rcases Nat.lt_or_ge (g'.blk l) w.heap.size with h | h
    · obtain ⟨l0,ob0,h0,_⟩ := T.own l _ hl rfl h
      simp at h0
    · exact h
  obtain ⟨us,ty,lo,hi,hb,a1,a2,a3,a4,a5,a6,a7⟩ := I'.arr l v wr k ws hl
  have hcm : ∀ b,g'.com b ≤ (g1.mix g' w.heap.size).com b := fun b => by
    show _ ≤ if b < w.heap.size then g1.com b else g'.com b
    split
    · rename_i h; rw [(T.keep b h (fun l ob h => by simp at h)).2]; exact Nat.le_refl _
    · exact Nat.le_refl _
  let gm := g1.mix g' w.heap.size
  let g2 : G := gm.at o1.length (g'.blk l) (g'.cap l)
  have hold : ∀ l',l' < o1.length → g2.blk l' = g1.blk l' ∧ g2.cap l' = g1.cap l' := fun l' h => ⟨G.at_blk_ne _ _ _ _ _ (by omega),G.at_cap_ne _ _ _ _ _ (by omega)⟩
  have E : Ev w'.heap gm o1 w'.heap g2 (o1 ++ [.arr 0 wr k ws]) := {
    size := Nat.le_refl _
    com := fun _ => Nat.le_refl _
    cell := fun b cs ty fr hb => ⟨cs,fr,hb,rfl,fun _ _ => rfl⟩
    len := by simp
    blk := fun l' cs hl' => by
      have h := (List.getElem?_eq_some_iff.1 hl').1
      exact ⟨(hold l' h).1,cs,by rw [getElem?_snoc_lt h]; exact hl'⟩
    fix := fun l' ob hl' hn => by
      have h := (List.getElem?_eq_some_iff.1 hl').1
      exact ⟨(hold l' h).1,ob,by rw [getElem?_snoc_lt h]; exact hl',hn⟩
    arr := fun l' v' wr' k' xs' hlt hl' => by
      rw [getElem?_snoc_lt hlt] at hl'
      exact ⟨v',wr',xs',hl',Nat.le_refl _,fun _ => ⟨rfl,hold l' hlt⟩⟩ }
  have hfree : ∀ (x : V),x ∈ ws → x.free = true := fun x hx => by simp only [List.all_eq_true] at hf; exact hf x hx
  suffices hh : (Tr w g1 o1 w' g2 (o1 ++ [.arr 0 wr k ws]) ∧ InvC w'.heap g2 (o1 ++ [.arr 0 wr k ws])) ∧ Rep w'.heap g2 (o1 ++ [.arr 0 wr k ws]) (.ar o1.length 0) u from ⟨g2,(withTab I hh.1).1,(withTab I hh.1).2,hh.2⟩
  refine ⟨⟨⟨T0.ev.trans E,T0.os,T0.tape,T0.output,fun b hb hn => T0.keep b hb hn,fun l' ob hl' hv hlt => ?_⟩,⟨fun l' cs hl' => ?_,fun l' v' wr' k' xs' hl' => ?_,fun l' st pend ts ps assign body dl hl' => ?_,fun l' shut hl' => ?_,fun l1 l2 x y h1 h2 vx vy e => ?_,fun b hb => I0.fresh b hb⟩⟩, ?_⟩
  · rcases getElem?_snoc_inv hl' with ⟨h1,h2⟩ | ⟨h1,h2⟩
    · exact ⟨l',ob,h2,hv,(hold l' h1).1.symm⟩
    · subst h1
      have : g2.blk o1.length = g'.blk l := G.at_blk _ _ _ _
      omega
  · rcases getElem?_snoc_inv hl' with ⟨h1,h2⟩ | ⟨h1,h2⟩
    · obtain ⟨us',ty',hb',hc',hr'⟩ := I0.cells l' cs h2
      refine ⟨us',ty', ?_, ?_,hr'.ev E⟩
      · rw [(hold l' h1).1]; exact hb'
      · show gm.com (g2.blk l') = 0; rw [(hold l' h1).1]; exact hc'
    · cases h2
  · rcases getElem?_snoc_inv hl' with ⟨h1,h2⟩ | ⟨h1,h2⟩
    · obtain ⟨us',ty',lo',hi',hb',b1,b2,b3,b4,b5,b6,b7⟩ := I0.arr l' v' wr' k' xs' h2
      refine ⟨us',ty',lo',hi', ?_,b1, ?_, ?_, ?_,b5,b6,fun i x hx j y hy u hu => (b7 i x hx j y hy u hu).ev E⟩
      · rw [(hold l' h1).1]; exact hb'
      · rw [(hold l' h1).2]; exact b2
      · rw [(hold l' h1).2]; exact b3
      · show gm.com (g2.blk l') = _; rw [(hold l' h1).1]; exact b4
    · subst h1; cases h2
      have e1 : g2.blk o1.length = g'.blk l := G.at_blk _ _ _ _
      have e2 : g2.cap o1.length = g'.cap l := G.at_cap _ _ _ _
      refine ⟨us,ty,lo,hi,by rw [e1]; exact hb,a1,by rw [e2]; exact a2,by rw [e2]; exact a3, ?_,a5,a6,fun i x hx j y hy u hu => ?_⟩
      · rw [e1]; show (if g'.blk l < w.heap.size then _ else g'.com (g'.blk l)) = _
        rw [if_neg (by omega)]; exact a4
      · have hfx := hfree x (List.mem_of_getElem? hx)
        refine Rep.free1 (g := g') (g' := g2) hcm (a7 i x hx j y hy u hu) ?_
        cases x with
        | agg cs => simp only [V.free,List.all_eq_true] at hfx; exact hfx y (List.mem_of_getElem? hy)
        | _ => simp only [V.cells] at hy; cases j with
          | zero => simp at hy; subst hy; exact hfx
          | succ j => simp at hy
  · rcases getElem?_snoc_inv hl' with ⟨h1,h2⟩ | ⟨h1,h2⟩
    · obtain ⟨fn,us',hb',hr',sh,hsh⟩ := I0.loop l' st pend ts ps assign body dl h2
      have hdl := (List.getElem?_eq_some_iff.1 hsh).1
      refine ⟨fn,us', ?_,hr'.ev E,sh,by rw [getElem?_snoc_lt hdl]; exact hsh⟩
      rw [(hold l' h1).1,(hold dl hdl).1]; exact hb'
    · cases h2
  · rcases getElem?_snoc_inv hl' with ⟨h1,h2⟩ | ⟨h1,h2⟩
    · rw [(hold l' h1).1]; exact I0.dfd l' shut h2
    · cases h2
  · have key : ∀ l' (x : O),(o1 ++ [O.arr 0 wr k ws])[l']? = some x → x.live = true → (l' < o1.length ∧ o1[l']? = some x ∧ g2.blk l' < w.heap.size ∧ g2.blk l' = g1.blk l') ∨ (l' = o1.length ∧ g2.blk l' = g'.blk l) := fun l' x h hv => by
      rcases getElem?_snoc_inv h with ⟨h1,h2⟩ | ⟨h1,h2⟩
      · exact .inl ⟨h1,h2,by rw [(hold l' h1).1]; exact I.lt h2 hv,(hold l' h1).1⟩
      · subst h1; exact .inr ⟨rfl,G.at_blk _ _ _ _⟩
    rcases key l1 x h1 vx with ⟨p1,p2,p3,p4⟩ | ⟨p1,p2⟩ <;> rcases key l2 y h2 vy with ⟨q1,q2,q3,q4⟩ | ⟨q1,q2⟩
    · exact I.inj l1 l2 x y p2 q2 vx vy (by omega)
    · omega
    · omega
    · omega
  · cases hr with
    | ar _ hu ha =>
      have e := (ha v wr k ws hl).2 rfl
      subst e
      refine .ar (by simp) ⟨_,_,_,rfl⟩ fun v0 wr' k' xs' h => ?_
      simp at h
      obtain ⟨rfl,rfl,rfl,rfl⟩ := h
      exact ⟨Nat.le_refl _,fun _ => by
        have e1 : g2.blk o1.length = g'.blk l := G.at_blk _ _ _ _
        have e2 : g2.cap o1.length = g'.cap l := G.at_cap _ _ _ _
        rw [e1,e2]⟩
end Go.Proofs.Pe
end

section
set_option linter.unusedVariables false
namespace Go.Proofs.Pe

/-! ### Objects that are handed over: a call sees them alone -/
theorem mapO_len {α β : Type} {f : α → Option β} : ∀ {xs : List α} {ys : List β},mapO f xs = some ys → ys.length = xs.length
  | [],ys,h => by simp [mapO] at h; subst h; rfl
  | x :: xs,ys,h => by
    simp only [mapO] at h
    split at h
    · cases h
    · split at h
      · cases h
      · rename_i h2; cases h; simp [mapO_len h2]
theorem mapO_get {α β : Type} {f : α → Option β} : ∀ {xs : List α} {ys : List β},mapO f xs = some ys → ∀ {j : Nat} {y : β},ys[j]? = some y → ∃ x,xs[j]? = some x ∧ f x = some y
  | [],ys,h,j,y,hy => by simp [mapO] at h; subst h; simp at hy
  | x :: xs,ys,h,j,y,hy => by
    simp only [mapO] at h
    split at h
    · cases h
    · rename_i y0 h1
      split at h
      · cases h
      · rename_i ys' h2; cases h
        cases j with
        | zero => simp at hy; subst hy; exact ⟨x,rfl,h1⟩
        | succ j => simp at hy; simpa using mapO_get h2 hy
theorem mapO_at {α β : Type} {f : α → Option β} {xs : List α} {ys : List β} (h : mapO f xs = some ys) {j : Nat} {x : α} (hx : xs[j]? = some x) : ∃ y,ys[j]? = some y ∧ f x = some y := by
  have hlt : j < ys.length := by rw [mapO_len h]; exact (List.getElem?_eq_some_iff.1 hx).1
  obtain ⟨x',h1,h2⟩ := mapO_get h (List.getElem?_eq_getElem hlt)
  rw [hx] at h1; cases h1
  exact ⟨_,List.getElem?_eq_getElem hlt,h2⟩

theorem mvO_live {ρ : Nat → Option Nat} {ob ob' : O} (h : mvO ρ ob = some ob') : ob.live = true ∧ ob'.live = true := by
  cases ob <;> simp only [mvO,Option.map_eq_some_iff] at h
  case cells => obtain ⟨_,_,rfl⟩ := h; exact ⟨rfl,rfl⟩
  case arr => obtain ⟨_,_,rfl⟩ := h; exact ⟨rfl,rfl⟩
  all_goals cases h
theorem mvO_cells {ρ : Nat → Option Nat} {ob : O} {cs : List V} (h : mvO ρ ob = some (.cells cs)) : ∃ cs0,ob = .cells cs0 ∧ mapO (V.mv1 ρ) cs0 = some cs := by
  cases ob <;> simp only [mvO,Option.map_eq_some_iff] at h
  case cells => obtain ⟨_,h,e⟩ := h; cases e; exact ⟨_,rfl,h⟩
  case arr => obtain ⟨_,_,e⟩ := h; cases e
  all_goals cases h
theorem mvO_arr {ρ : Nat → Option Nat} {ob : O} {v k : Nat} {wr : Bool} {xs : List V} (h : mvO ρ ob = some (.arr v wr k xs)) : ∃ xs0,ob = .arr v wr k xs0 ∧ mapO (V.mv2 ρ) xs0 = some xs := by
  cases ob <;> simp only [mvO,Option.map_eq_some_iff] at h
  case cells => obtain ⟨_,_,e⟩ := h; cases e
  case arr => obtain ⟨_,h,e⟩ := h; cases e; exact ⟨_,rfl,h⟩
  all_goals cases h

structure Mv (g : G) (o : List O) (g' : G) (o' : List O) (ρ : Nat → Option Nat) : Prop where
  at' : ∀ l l',ρ l = some l' → ∃ ob ob',o[l]? = some ob ∧ o'[l']? = some ob' ∧ mvO ρ ob = some ob' ∧ g'.blk l' = g.blk l ∧ g'.cap l' = g.cap l
  com : ∀ b,g.com b ≤ g'.com b

section
variable {h : Array Obj} {g g' : G} {o o' : List O} {ρ : Nat → Option Nat}
theorem Rep.mv0 (M : Mv g o g' o' ρ) {x y : V} {u : Value} (r : Rep h g o x u) (hm : x.mv0 ρ = some y) : Rep h g' o' y u := by
  cases r with
  | pt hl =>
    simp only [V.mv0,Option.map_eq_some_iff] at hm
    obtain ⟨l',h1,rfl⟩ := hm
    obtain ⟨ob,ob',e1,e2,e3,e4,e5⟩ := M.at' _ _ h1
    rw [hl] at e1; cases e1
    simp only [mvO,Option.map_eq_some_iff] at e3
    obtain ⟨cs',_,rfl⟩ := e3
    rw [← e4]; exact .pt e2
  | ar hl hu ha =>
    simp only [V.mv0,Option.map_eq_some_iff] at hm
    obtain ⟨l',h1,rfl⟩ := hm
    obtain ⟨ob,ob',e1,e2,e3,e4,e5⟩ := M.at' _ _ h1
    refine .ar (List.getElem?_eq_some_iff.1 e2).1 hu fun v0 wr k xs hx => ?_
    rw [e2] at hx; cases hx
    obtain ⟨xs0,rfl,hxs⟩ := mvO_arr e3
    obtain ⟨a1,a2⟩ := ha _ _ _ _ e1
    exact ⟨a1,fun e => by rw [a2 e,e4,e5,mapO_len hxs]⟩
  | sc hp => simp only [V.mv0] at hm; split at hm <;> cases hm; exact .sc hp
  | sl0 => simp only [V.mv0] at hm; split at hm <;> cases hm; exact .sl0
  | sl hc hsz hcap hfull hb hk hx =>
    simp only [V.mv0] at hm; split at hm <;> cases hm
    exact Rep.free1 M.com (.sl hc hsz hcap hfull hb hk hx) rfl
  | ep hc hsz hb hf hx =>
    simp only [V.mv0] at hm; split at hm <;> cases hm
    exact Rep.free1 M.com (.ep hc hsz hb hf hx) rfl
  | fn hf hs hx ht hy =>
    simp only [V.mv0] at hm; split at hm
    · rename_i h1; cases hm; exact Rep.free1 M.com (.fn hf hs hx ht hy) h1
    · cases hm
  | yl => simp [V.mv0,V.free1] at hm
  | it => simp [V.mv0,V.free1] at hm
  | vw => simp [V.mv0,V.free1] at hm
  | pa => simp [V.mv0,V.free1] at hm
  | agg => simp [V.mv0,V.free1] at hm
  | tup => simp [V.mv0,V.free1] at hm
  | dead => simp only [V.mv0] at hm; split at hm <;> cases hm; exact .dead
theorem Rep.mv1 (M : Mv g o g' o' ρ) {x y : V} {u : Value} (r : Rep h g o x u) (hm : x.mv1 ρ = some y) : Rep h g' o' y u := by
  unfold V.mv1 at hm
  split at hm
  · rename_i f as bs
    split at hm
    · rename_i as' bs' h1 h2
      cases hm
      cases r with
      | fn hf hs hx ht hy =>
        refine .fn hf (hs.trans (mapO_len h1).symm) (fun j z hz u hu => ?_) (ht.trans (mapO_len h2).symm) fun j z hz u hu => ?_
        · obtain ⟨x,e1,e2⟩ := mapO_get h1 hz; exact (hx j x e1 u hu).mv0 M e2
        · obtain ⟨x,e1,e2⟩ := mapO_get h2 hz; exact (hy j x e1 u hu).mv0 M e2
    · cases hm
  · exact r.mv0 M hm
theorem Rep.mv2 (M : Mv g o g' o' ρ) {x y : V} {u : Value} (r : Rep h g o x u) (hm : x.mv2 ρ = some y) : Rep h g' o' y u := by
  unfold V.mv2 at hm
  split at hm
  · simp only [Option.map_eq_some_iff] at hm
    obtain ⟨ds,h1,rfl⟩ := hm
    cases r with
    | agg hs hx =>
      refine .agg (hs.trans (mapO_len h1).symm) fun j z hz u hu => ?_
      obtain ⟨x,e1,e2⟩ := mapO_get h1 hz
      exact (hx j x e1 u hu).mv1 M e2
  · exact r.mv1 M hm
theorem Rep.mv (M : Mv g o g' o' ρ) {x y : V} {u : Value} (r : Rep h g o x u) (hm : x.mv ρ = some y) : Rep h g' o' y u := by
  unfold V.mv at hm
  split at hm
  · simp only [Option.map_eq_some_iff] at hm
    obtain ⟨ds,h1,rfl⟩ := hm
    cases r with
    | tup hs hx =>
      refine .tup (hs.trans (mapO_len h1).symm) fun j z hz u hu => ?_
      obtain ⟨x,e1,e2⟩ := mapO_get h1 hz
      exact (hx j x e1 u hu).mv2 M e2
  · exact r.mv2 M hm
theorem Reps.mv (M : Mv g o g' o' ρ) {xs ys : List V} {us : List Value} (r : Reps h g o xs us) (hm : mapO (V.mv2 ρ) xs = some ys) : Reps h g' o' ys us :=
  ⟨r.1.trans (mapO_len hm).symm,fun j y hy u hu => by obtain ⟨x,e1,e2⟩ := mapO_get hm hy; exact (r.2 j x e1 u hu).mv2 M e2⟩
theorem Reps.mv1 (M : Mv g o g' o' ρ) {xs ys : List V} {us : List Value} (r : Reps h g o xs us) (hm : mapO (V.mv1 ρ) xs = some ys) : Reps h g' o' ys us :=
  ⟨r.1.trans (mapO_len hm).symm,fun j y hy u hu => by obtain ⟨x,e1,e2⟩ := mapO_get hm hy; exact (r.2 j x e1 u hu).mv1 M e2⟩

theorem mv1_one {x y : V} (h : x.mv1 ρ = some y) : x.one = true ∧ y.one = true := by
  unfold V.mv1 at h
  split at h
  · split at h
    · cases h; exact ⟨rfl,rfl⟩
    · cases h
  · cases x <;> simp only [V.mv0,Option.map_eq_some_iff] at h
    case pt => obtain ⟨_,_,rfl⟩ := h; exact ⟨rfl,rfl⟩
    case ar => obtain ⟨_,_,rfl⟩ := h; exact ⟨rfl,rfl⟩
    all_goals
      split at h
      · rename_i hf; cases h; exact ⟨free1_one hf,free1_one hf⟩
      · cases h
theorem one_cells' {x : V} (h : x.one = true) : x.cells = [x] := by cases x <;> first | rfl | cases h
theorem mv2_cells {x y : V} (h : x.mv2 ρ = some y) : mapO (V.mv1 ρ) x.cells = some y.cells := by
  unfold V.mv2 at h
  split at h
  · simp only [Option.map_eq_some_iff] at h
    obtain ⟨ds,h1,rfl⟩ := h
    exact h1
  · obtain ⟨a,b⟩ := mv1_one h
    rw [one_cells' a,one_cells' b]
    simp [mapO,h]
end

/-! ### Going in -/
def G.sub (g : G) (S : List Nat) : G := { com := g.com,blk := fun i => g.blk (S.getD i 0),cap := fun i => g.cap (S.getD i 0) }
theorem inS_spec {S : List Nat} {l l' : Nat} (h : inS S l = some l') : S[l']? = some l := by
  unfold inS at h
  split at h
  · rename_i hm; cases h; exact (List.getElem?_eq_some_iff).2 ⟨List.idxOf_lt_length_iff.2 hm,List.getElem_idxOf (List.idxOf_lt_length_iff.2 hm)⟩
  · cases h
theorem inS_mk {S : List Nat} (hn : S.Nodup) {i l : Nat} (h : S[i]? = some l) : inS S l = some i := by
  obtain ⟨hlt,he⟩ := List.getElem?_eq_some_iff.1 h
  have hm : l ∈ S := he ▸ List.getElem_mem hlt
  unfold inS
  rw [if_pos hm]
  congr 1
  subst he
  exact hn.idxOf_getElem i hlt
theorem mv_in {g : G} {o os : List O} {S : List Nat} (hos : mapO (fun l => (o[l]?).bind (mvO (inS S))) S = some os) : Mv g o (g.sub S) os (inS S) where
  at' := fun l l' hl => by
    have h1 := inS_spec hl
    obtain ⟨ob',h2,h3⟩ := mapO_at hos h1
    simp only [Option.bind_eq_some_iff] at h3
    obtain ⟨ob,h4,h5⟩ := h3
    have e : S.getD l' 0 = l := by rw [List.getD_eq_getElem?_getD,h1]; rfl
    exact ⟨ob,ob',h4,h2,h5,by show g.blk (S.getD l' 0) = _; rw [e],by show g.cap (S.getD l' 0) = _; rw [e]⟩
  com := fun _ => Nat.le_refl _
theorem os_at {o os : List O} {S : List Nat} (hos : mapO (fun l => (o[l]?).bind (mvO (inS S))) S = some os) {i : Nat} {ob' : O} (h : os[i]? = some ob') :
    ∃ l ob,S[i]? = some l ∧ o[l]? = some ob ∧ mvO (inS S) ob = some ob' := by
  obtain ⟨l,h1,h2⟩ := mapO_get hos h
  simp only [Option.bind_eq_some_iff] at h2
  obtain ⟨ob,h3,h4⟩ := h2
  exact ⟨l,ob,h1,h3,h4⟩
theorem sub_blk {g : G} {S : List Nat} {i l : Nat} (h : S[i]? = some l) : (g.sub S).blk i = g.blk l ∧ (g.sub S).cap i = g.cap l := by
  have e : S.getD i 0 = l := by rw [List.getD_eq_getElem?_getD,h]; rfl
  exact ⟨by show g.blk (S.getD i 0) = _; rw [e],by show g.cap (S.getD i 0) = _; rw [e]⟩
theorem inv_in {h : Array Obj} {g : G} {o os : List O} {S : List Nat} (I : Inv h g o) (hn : S.Nodup) (hos : mapO (fun l => (o[l]?).bind (mvO (inS S))) S = some os) : Inv h (g.sub S) os where
  cells := fun i cs hi => by
    obtain ⟨l,ob,h1,h2,h3⟩ := os_at hos hi
    obtain ⟨cs0,rfl,h4⟩ := mvO_cells h3
    obtain ⟨us,ty,hb,hc,hr⟩ := I.cells l cs0 h2
    rw [(sub_blk h1).1]
    exact ⟨us,ty,hb,hc,hr.mv1 (mv_in hos) h4⟩
  arr := fun i v wr k xs hi => by
    obtain ⟨l,ob,h1,h2,h3⟩ := os_at hos hi
    obtain ⟨xs0,rfl,h4⟩ := mvO_arr h3
    obtain ⟨us,ty,lo,hi',hb,a1,a2,a3,a4,a5,a6,a7⟩ := I.arr l v wr k xs0 h2
    rw [(sub_blk h1).1,(sub_blk h1).2]
    have hl := mapO_len h4
    refine ⟨us,ty,lo,hi',hb,a1,by omega,a3,by rw [hl]; exact a4,a5,fun x hx => ?_,fun i x hx j y hy u hu => ?_⟩
    · obtain ⟨j,hj⟩ := List.getElem?_of_mem hx
      obtain ⟨x0,h5,h6⟩ := mapO_get h4 hj
      rw [mapO_len (mv2_cells h6)]; exact a6 x0 (List.mem_of_getElem? h5)
    · obtain ⟨x0,h5,h6⟩ := mapO_get h4 hx
      obtain ⟨y0,h7,h8⟩ := mapO_get (mv2_cells h6) hy
      exact (a7 i x0 h5 j y0 h7 u hu).mv1 (mv_in hos) h8
  loop := fun i st pend ts ps a b dl hi => by
    obtain ⟨l,ob,h1,h2,h3⟩ := os_at hos hi
    cases ob <;> simp [mvO] at h3
  dfd := fun i d hi => by
    obtain ⟨l,ob,h1,h2,h3⟩ := os_at hos hi
    cases ob <;> simp [mvO] at h3
  inj := fun i j a b ha hb va vb e => by
    obtain ⟨l,ob,h1,h2,h3⟩ := os_at hos ha
    obtain ⟨l',ob',h1',h2',h3'⟩ := os_at hos hb
    rw [(sub_blk h1).1,(sub_blk h1').1] at e
    have := I.inj l l' _ _ h2 h2' (mvO_live h3).1 (mvO_live h3').1 e
    subst this
    have e1 := inS_mk hn h1
    have e2 := inS_mk hn h1'
    rw [e1] at e2; exact Option.some.inj e2
  fresh := I.fresh
  tab := ⟨I.tab.1,fun i ob hi hv => by
    obtain ⟨l,ob0,h1,h2,h3⟩ := os_at hos hi
    rw [(sub_blk h1).1]
    exact I.tab.2 l ob0 h2 (mvO_live h3).1⟩

/-! ### Coming back -/
theorem putS_len : ∀ {S : List Nat} {vs o : List O},(putS o S vs).length = o.length
  | [],vs,o => by cases vs <;> rfl
  | l :: S,[],o => rfl
  | l :: S,v :: vs,o => by simp [putS,putS_len]
theorem putS_ne : ∀ {S : List Nat} {vs o : List O} {l : Nat},l ∉ S → (putS o S vs)[l]? = o[l]?
  | [],vs,o,l,h => by cases vs <;> rfl
  | k :: S,[],o,l,h => rfl
  | k :: S,v :: vs,o,l,h => by
    simp only [List.mem_cons,not_or] at h
    simp only [putS]
    rw [putS_ne h.2,List.getElem?_set,if_neg (Ne.symm h.1)]
theorem putS_eq : ∀ {S : List Nat} {vs o : List O},S.Nodup → (∀ l ∈ S,l < o.length) → ∀ {i l : Nat} {v : O},S[i]? = some l → vs[i]? = some v → (putS o S vs)[l]? = some v
  | [],vs,o,hn,hl,i,l,v,h1,h2 => by simp at h1
  | k :: S,[],o,hn,hl,i,l,v,h1,h2 => by simp at h2
  | k :: S,w :: vs,o,hn,hl,i,l,v,h1,h2 => by
    rw [List.nodup_cons] at hn
    simp only [putS]
    cases i with
    | zero =>
      simp at h1 h2; subst h1 h2
      rw [putS_ne hn.1]
      simp [List.getElem?_set,hl k (by simp)]
    | succ i =>
      simp at h1 h2
      exact putS_eq hn.2 (fun x hx => by simpa using hl x (by simp [hx])) h1 h2

theorem move_back {w w' : World} {g1 g2 : G} {o1 os o2 os' : List O} {S N : List Nat} (I1 : Inv w.heap g1 o1) (hn : S.Nodup) (hos : mapO (fun l => (o1[l]?).bind (mvO (inS S))) S = some os)
    (T : Tr w (g1.sub S) os w' g2 o2) (I2 : Inv w'.heap g2 o2) (hN : N.Nodup) (hge : ∀ i ∈ N,S.length ≤ i)
    (hos' : mapO (fun i => (o2[i]?).bind (mvO (outS S N o1.length))) (List.range S.length ++ N) = some os') :
    ∃ g3,Tr w g1 o1 w' g3 (putS o1 S os' ++ os'.drop S.length) ∧ Inv w'.heap g3 (putS o1 S os' ++ os'.drop S.length) ∧ Mv g2 o2 g3 (putS o1 S os' ++ os'.drop S.length) (outS S N o1.length) := by
  -- which objects of the later store are which
  let ρ := outS S N o1.length
  have hSl : ∀ l ∈ S,l < o1.length := fun l hl => by
    obtain ⟨i,hi⟩ := List.getElem?_of_mem hl
    obtain ⟨ob',_,h⟩ := mapO_at hos hi
    simp only [Option.bind_eq_some_iff] at h
    obtain ⟨ob,h,_⟩ := h
    exact (List.getElem?_eq_some_iff.1 h).1
  have hlen' : os'.length = S.length + N.length := by rw [mapO_len hos']; simp
  let o3 := putS o1 S os' ++ os'.drop S.length
  have h3len : o3.length = o1.length + N.length := by simp [o3,putS_len,hlen']
  have old : ∀ l,l < o1.length → l ∉ S → o3[l]? = o1[l]? := fun l hl hm => by
    show (putS o1 S os' ++ _)[l]? = _
    rw [List.getElem?_append_left (by rw [putS_len]; exact hl),putS_ne hm]
  have hρ : ∀ i l',ρ i = some l' → ∃ ob ob',o2[i]? = some ob ∧ o3[l']? = some ob' ∧ mvO ρ ob = some ob' ∧ ((i < S.length ∧ S[i]? = some l') ∨ (S.length ≤ i ∧ ∃ j,N[j]? = some i ∧ l' = o1.length + j)) := fun i l' h => by
    have h' := h
    simp only [ρ,outS] at h
    split at h
    · rename_i hi
      have hr : (List.range S.length ++ N)[i]? = some i := by rw [List.getElem?_append_left (by simpa using hi)]; simp [hi]
      obtain ⟨ob',e1,e2⟩ := mapO_at hos' hr
      simp only [Option.bind_eq_some_iff] at e2
      obtain ⟨ob,e3,e4⟩ := e2
      refine ⟨ob,ob',e3, ?_,e4,.inl ⟨hi,h⟩⟩
      have hm : l' ∈ S := List.mem_of_getElem? h
      show (putS o1 S os' ++ _)[l']? = _
      rw [List.getElem?_append_left (by rw [putS_len]; exact hSl _ hm)]
      exact putS_eq hn hSl h e1
    · split at h
      · rename_i hi hm
        cases h
        have hj : N.idxOf i < N.length := List.idxOf_lt_length_iff.2 hm
        have hr : (List.range S.length ++ N)[S.length + N.idxOf i]? = some i := by
          rw [List.getElem?_append_right (by simp)]
          simp only [List.length_range,Nat.add_sub_cancel_left]
          exact List.getElem?_eq_some_iff.2 ⟨hj,List.getElem_idxOf hj⟩
        obtain ⟨ob',e1,e2⟩ := mapO_at hos' hr
        simp only [Option.bind_eq_some_iff] at e2
        obtain ⟨ob,e3,e4⟩ := e2
        refine ⟨ob,ob',e3, ?_,e4,.inr ⟨hge i hm,N.idxOf i,List.getElem?_eq_some_iff.2 ⟨hj,List.getElem_idxOf hj⟩,rfl⟩⟩
        show (putS o1 S os' ++ _)[_]? = _
        rw [List.getElem?_append_right (by rw [putS_len]; omega),putS_len,List.getElem?_drop,Nat.add_sub_cancel_left]
        exact e1
      · cases h
  have hall : ∀ l ob',o3[l]? = some ob' → (l < o1.length ∧ l ∉ S ∧ o1[l]? = some ob') ∨ ∃ i,ρ i = some l := fun l ob' h => by
    by_cases hl : l < o1.length
    · by_cases hm : l ∈ S
      · refine .inr ?_
        obtain ⟨i,hi⟩ := List.getElem?_of_mem hm
        have hlt := (List.getElem?_eq_some_iff.1 hi).1
        exact ⟨i,by simp only [ρ,outS,if_pos hlt]; exact hi⟩
      · exact .inl ⟨hl,hm,by rw [← old l hl hm]; exact h⟩
    · refine .inr ?_
      have hlt : l < o3.length := (List.getElem?_eq_some_iff.1 h).1
      have hj : l - o1.length < N.length := by omega
      have hmem : N[l - o1.length] ∈ N := List.getElem_mem hj
      have hg := hge _ hmem
      refine ⟨N[l - o1.length], ?_⟩
      simp only [ρ,outS]
      rw [if_neg (by omega),if_pos hmem,hN.idxOf_getElem]
      congr 1; omega
  have hinj : ∀ i i' l,ρ i = some l → ρ i' = some l → i = i' := fun i i' l h h' => by
    obtain ⟨_,_,_,_,_,h⟩ := hρ i l h
    obtain ⟨_,_,_,_,_,h'⟩ := hρ i' l h'
    rcases h with ⟨a1,a2⟩ | ⟨a1,j,a2,a3⟩ <;> rcases h' with ⟨b1,b2⟩ | ⟨b1,j',b2,b3⟩
    · have e1 := inS_mk hn a2
      have e2 := inS_mk hn b2
      rw [e1] at e2; exact Option.some.inj e2
    · have := hSl l (List.mem_of_getElem? a2); omega
    · have := hSl l (List.mem_of_getElem? b2); omega
    · have : j = j' := by omega
      subst this; rw [a2] at b2; exact Option.some.inj b2
  -- the ghost
  let g3 : G := { com := g2.com
                  blk := fun l => if l < o1.length ∧ l ∉ S then g1.blk l else g2.blk (if l < o1.length then S.idxOf l else N.getD (l - o1.length) 0)
                  cap := fun l => if l < o1.length ∧ l ∉ S then g1.cap l else g2.cap (if l < o1.length then S.idxOf l else N.getD (l - o1.length) 0) }
  have gold : ∀ l,l < o1.length → l ∉ S → g3.blk l = g1.blk l ∧ g3.cap l = g1.cap l := fun l h1 h2 => ⟨if_pos ⟨h1,h2⟩,if_pos ⟨h1,h2⟩⟩
  have gnew : ∀ i l,ρ i = some l → g3.blk l = g2.blk i ∧ g3.cap l = g2.cap i := fun i l h => by
    obtain ⟨_,_,_,_,_,h⟩ := hρ i l h
    rcases h with ⟨a1,a2⟩ | ⟨a1,j,a2,a3⟩
    · have hm := List.mem_of_getElem? a2
      have hl := hSl l hm
      have e1 := inS_mk hn a2
      simp only [inS,if_pos hm,Option.some.injEq] at e1
      simp only [g3,hl,hm,not_true_eq_false,and_false,if_false,if_true,e1,and_self]
    · subst a3
      have e : N.getD (o1.length + j - o1.length) 0 = i := by rw [Nat.add_sub_cancel_left,List.getD_eq_getElem?_getD,a2]; rfl
      have hl : ¬ (o1.length + j < o1.length) := by omega
      simp only [g3,hl,false_and,if_false,e,and_self]
  have M : Mv g2 o2 g3 o3 ρ := ⟨fun l l' h => by
    obtain ⟨ob,ob',h1,h2,h3,_⟩ := hρ l l' h
    exact ⟨ob,ob',h1,h2,h3,(gnew l l' h).1,(gnew l l' h).2⟩,fun _ => Nat.le_refl _⟩
  -- blocks of what stays behind
  have hown : ∀ l ob,o1[l]? = some ob → ob.live = true → l ∉ S → ∀ i ob',os[i]? = some ob' → (g1.sub S).blk i ≠ g1.blk l := fun l ob hl hv hm i ob' hi e => by
    obtain ⟨l',ob0,h1,h2,h3⟩ := os_at hos hi
    rw [(sub_blk h1).1] at e
    have := I1.inj l' l _ _ h2 hl (mvO_live h3).1 hv e
    subst this
    exact hm (List.mem_of_getElem? h1)
  have keepO : ∀ l ob,o1[l]? = some ob → ob.live = true → l ∉ S → w'.heap[g1.blk l]? = w.heap[g1.blk l]? ∧ g2.com (g1.blk l) = g1.com (g1.blk l) := fun l ob hl hv hm =>
    T.keep _ (I1.lt hl hv) fun i ob' hi _ => hown l ob hl hv hm i ob' hi
  have E : Ev w.heap g1 o1 w'.heap g3 o3 := {
    size := T.ev.size
    com := T.ev.com
    cell := T.ev.cell
    len := by omega
    blk := fun l cs hl => by
      have hlt := (List.getElem?_eq_some_iff.1 hl).1
      by_cases hm : l ∈ S
      · obtain ⟨i,hi⟩ := List.getElem?_of_mem hm
        obtain ⟨ob',e1,e2⟩ := mapO_at hos hi
        simp only [hl,Option.bind_some] at e2
        have e3 := e2
        simp only [mvO,Option.map_eq_some_iff] at e3
        obtain ⟨cs1,_,rfl⟩ := e3
        obtain ⟨e4,cs2,e5⟩ := T.ev.blk i cs1 e1
        have hil := (List.getElem?_eq_some_iff.1 hi).1
        have hr : ρ i = some l := by simp only [ρ,outS,if_pos hil]; exact hi
        obtain ⟨ob,ob',f1,f2,f3,_⟩ := hρ i l hr
        rw [e5] at f1; cases f1
        simp only [mvO,Option.map_eq_some_iff] at f3
        obtain ⟨cs3,_,rfl⟩ := f3
        exact ⟨by rw [(gnew i l hr).1,e4,(sub_blk hi).1],cs3,f2⟩
      · exact ⟨(gold l hlt hm).1,cs,by rw [old l hlt hm]; exact hl⟩
    fix := fun l ob hl hna => by
      have hlt := (List.getElem?_eq_some_iff.1 hl).1
      by_cases hm : l ∈ S
      · obtain ⟨i,hi⟩ := List.getElem?_of_mem hm
        obtain ⟨ob',e1,e2⟩ := mapO_at hos hi
        simp only [hl,Option.bind_some] at e2
        have hna' : ∀ v wr k xs,ob' ≠ .arr v wr k xs := fun v wr k xs e => by
          subst e
          obtain ⟨xs0,rfl,_⟩ := mvO_arr e2
          exact hna _ _ _ _ rfl
        obtain ⟨e4,ob2,e5,e6⟩ := T.ev.fix i ob' e1 hna'
        have hil := (List.getElem?_eq_some_iff.1 hi).1
        have hr : ρ i = some l := by simp only [ρ,outS,if_pos hil]; exact hi
        obtain ⟨ob3,ob4,f1,f2,f3,_⟩ := hρ i l hr
        rw [e5] at f1; cases f1
        refine ⟨by rw [(gnew i l hr).1,e4,(sub_blk hi).1],ob4,f2,fun v wr k xs e => ?_⟩
        subst e
        obtain ⟨xs0,rfl,_⟩ := mvO_arr f3
        exact e6 _ _ _ _ rfl
      · exact ⟨(gold l hlt hm).1,ob,by rw [old l hlt hm]; exact hl,hna⟩
    arr := fun l v wr k xs hlt hl => by
      by_cases hm : l ∈ S
      · obtain ⟨i,hi⟩ := List.getElem?_of_mem hm
        have hil := (List.getElem?_eq_some_iff.1 hi).1
        have hr : ρ i = some l := by simp only [ρ,outS,if_pos hil]; exact hi
        obtain ⟨ob3,ob4,f1,f2,f3,_⟩ := hρ i l hr
        rw [hl] at f2; cases f2
        obtain ⟨xs0,rfl,f4⟩ := mvO_arr f3
        have hil2 : i < os.length := by rw [mapO_len hos]; exact hil
        obtain ⟨v0,wr0,xs1,e1,e2,e3⟩ := T.ev.arr i v wr k xs0 hil2 f1
        obtain ⟨l',ob0,h1,h2,h3⟩ := os_at hos e1
        rw [hi] at h1; cases h1
        obtain ⟨xs2,rfl,h4⟩ := mvO_arr h3
        refine ⟨v0,wr0,xs2,h2,e2,fun e => ?_⟩
        obtain ⟨a1,a2,a3⟩ := e3 e
        exact ⟨by rw [← mapO_len h4,a1,mapO_len f4],by rw [(gnew i l hr).1,a2,(sub_blk hi).1],by rw [(gnew i l hr).2,a3,(sub_blk hi).2]⟩
      · rw [old l hlt hm] at hl
        exact ⟨v,wr,xs,hl,Nat.le_refl _,fun _ => ⟨rfl,(gold l hlt hm).1,(gold l hlt hm).2⟩⟩ }
  suffices hh : Tr w g1 o1 w' g3 (putS o1 S os' ++ os'.drop S.length) ∧ InvC w'.heap g3 (putS o1 S os' ++ os'.drop S.length) from ⟨g3,hh.1,⟨hh.2,tab_tr I1 hh.1⟩,M⟩
  refine ⟨⟨E,T.os,T.tape,T.output,fun b hb hnb => ?_,fun l ob hl hv hlt => ?_⟩,⟨fun l cs hl => ?_,fun l v wr k xs hl => ?_,fun l st pend ts ps a b dl hl => ?_,fun l d hl => ?_,fun l l' a b ha hb va vb e => ?_,I2.fresh⟩⟩
  · exact T.keep b hb fun i ob' hi _ e => by
      obtain ⟨l,ob0,h1,h2,h3⟩ := os_at hos hi
      rw [(sub_blk h1).1] at e
      exact hnb l ob0 h2 (mvO_live h3).1 e
  · rcases hall l ob hl with ⟨h1,h2,h3⟩ | ⟨i,hi⟩
    · exact ⟨l,ob,h3,hv,(gold l h1 h2).1.symm⟩
    · obtain ⟨ob2,ob3,f1,f2,f3,_⟩ := hρ i l hi
      rw [(gnew i l hi).1] at hlt ⊢
      obtain ⟨l0,ob0,e1,e2,e3⟩ := T.own i ob2 f1 (mvO_live f3).1 hlt
      obtain ⟨l',ob4,h1,h2,h3⟩ := os_at hos e1
      exact ⟨l',ob4,h2,(mvO_live h3).1,by rw [← e3,(sub_blk h1).1]⟩
  · rcases hall l _ hl with ⟨h1,h2,h3⟩ | ⟨i,hi⟩
    · obtain ⟨us,ty,hb,hc,hr⟩ := I1.cells l cs h3
      obtain ⟨k1,k2⟩ := keepO l _ h3 rfl h2
      rw [(gold l h1 h2).1]
      exact ⟨us,ty,by rw [k1]; exact hb,by show g2.com _ = 0; rw [k2]; exact hc,hr.ev E⟩
    · obtain ⟨ob2,ob3,f1,f2,f3,_⟩ := hρ i l hi
      rw [hl] at f2; cases f2
      obtain ⟨cs0,rfl,h4⟩ := mvO_cells f3
      obtain ⟨us,ty,hb,hc,hr⟩ := I2.cells i cs0 f1
      rw [(gnew i l hi).1]
      exact ⟨us,ty,hb,hc,hr.mv1 M h4⟩
  · rcases hall l _ hl with ⟨h1,h2,h3⟩ | ⟨i,hi⟩
    · obtain ⟨us,ty,lo,hi',hb,a1,a2,a3,a4,a5,a6,a7⟩ := I1.arr l v wr k xs h3
      obtain ⟨k1,k2⟩ := keepO l _ h3 rfl h2
      rw [(gold l h1 h2).1,(gold l h1 h2).2]
      exact ⟨us,ty,lo,hi',by rw [k1]; exact hb,a1,a2,a3,by show g2.com _ = _; rw [k2]; exact a4,a5,a6,fun i x hx j y hy u hu => (a7 i x hx j y hy u hu).ev E⟩
    · obtain ⟨ob2,ob3,f1,f2,f3,_⟩ := hρ i l hi
      rw [hl] at f2; cases f2
      obtain ⟨xs0,rfl,h4⟩ := mvO_arr f3
      obtain ⟨us,ty,lo,hi',hb,a1,a2,a3,a4,a5,a6,a7⟩ := I2.arr i v wr k xs0 f1
      have hln := mapO_len h4
      rw [(gnew i l hi).1,(gnew i l hi).2]
      refine ⟨us,ty,lo,hi',hb,a1,by omega,a3,by rw [hln]; exact a4,a5,fun x hx => ?_,fun j x hx j' y hy u hu => ?_⟩
      · obtain ⟨j,hj⟩ := List.getElem?_of_mem hx
        obtain ⟨x0,h5,h6⟩ := mapO_get h4 hj
        rw [mapO_len (mv2_cells h6)]; exact a6 x0 (List.mem_of_getElem? h5)
      · obtain ⟨x0,h5,h6⟩ := mapO_get h4 hx
        obtain ⟨y0,h7,h8⟩ := mapO_get (mv2_cells h6) hy
        exact (a7 j x0 h5 j' y0 h7 u hu).mv1 M h8
  · rcases hall l _ hl with ⟨h1,h2,h3⟩ | ⟨i,hi⟩
    · obtain ⟨fn,us,hb,hr,sh,hsh⟩ := I1.loop l st pend ts ps a b dl h3
      obtain ⟨k1,k2⟩ := keepO l _ h3 rfl h2
      have hdl := (List.getElem?_eq_some_iff.1 hsh).1
      have hdm : dl ∉ S := fun hm => by
        obtain ⟨i,hi⟩ := List.getElem?_of_mem hm
        obtain ⟨ob',_,e2⟩ := mapO_at hos hi
        simp [hsh,mvO] at e2
      rw [(gold l h1 h2).1,(gold dl hdl hdm).1]
      exact ⟨fn,us,by rw [k1]; exact hb,hr.ev E,sh,by rw [old dl hdl hdm]; exact hsh⟩
    · obtain ⟨ob2,ob3,f1,f2,f3,_⟩ := hρ i l hi
      rw [hl] at f2; cases f2
      cases ob2 <;> simp [mvO] at f3
  · rcases hall l _ hl with ⟨h1,h2,h3⟩ | ⟨i,hi⟩
    · have hb := I1.dfd l d h3
      have hv : O.live (.dfd d) = true := rfl
      obtain ⟨k1,k2⟩ := keepO l _ h3 hv h2
      rw [(gold l h1 h2).1,k1]; exact hb
    · obtain ⟨ob2,ob3,f1,f2,f3,_⟩ := hρ i l hi
      rw [hl] at f2; cases f2
      cases ob2 <;> simp [mvO] at f3
  · have mixed : ∀ l ob l' i,l < o1.length → l ∉ S → o1[l]? = some ob → ob.live = true → ρ i = some l' → g1.blk l = g2.blk i → False := fun l ob l' i h1 h2 h3 hv hi e => by
      obtain ⟨ob2,ob3,f1,f2,f3,_⟩ := hρ i l' hi
      have hlt := I1.lt h3 hv
      obtain ⟨l0,ob0,e1,e2,e3⟩ := T.own i ob2 f1 (mvO_live f3).1 (by omega)
      exact hown l ob h3 hv h2 l0 ob0 e1 (by omega)
    rcases hall l a ha with ⟨h1,h2,h3⟩ | ⟨i,hi⟩ <;> rcases hall l' b hb with ⟨h1',h2',h3'⟩ | ⟨i',hi'⟩
    · rw [(gold l h1 h2).1,(gold l' h1' h2').1] at e
      exact I1.inj l l' a b h3 h3' va vb e
    · rw [(gold l h1 h2).1,(gnew i' l' hi').1] at e
      exact (mixed l a l' i' h1 h2 h3 va hi' e).elim
    · rw [(gold l' h1' h2').1,(gnew i l hi).1] at e
      exact (mixed l' b l i h1' h2' h3' vb hi e.symm).elim
    · rw [(gnew i l hi).1,(gnew i' l' hi').1] at e
      obtain ⟨ob2,ob3,f1,f2,f3,_⟩ := hρ i l hi
      obtain ⟨ob2',ob3',f1',f2',f3',_⟩ := hρ i' l' hi'
      have := I2.inj i i' _ _ f1 f1' (mvO_live f3).1 (mvO_live f3').1 e
      subst this
      rw [hi] at hi'; exact Option.some.inj hi'
end Go.Proofs.Pe
end

section
set_option linter.unusedVariables false
namespace Go.Proofs.Pe
variable {fl : Bool} {P : Program} {w : World} {g : G} {o : List O} {T : Tab}

/-! ### What a call, a round must do -/
def FR (rb : Option Nat) : Fence := { Fence.wide with round := rb }
def EndOk (P : Program) (w : World) (g : G) (o : List O) (K : V → List O → Prop) : Ending → World → Prop := fun e w' =>
  ∃ r y o' g',e = .returned r ∧ Tr w g o w' g' o' ∧ Inv w'.heap g' o' ∧ Rep w'.heap g' o' y r ∧ K y o'
def Known (P : Program) (f : FuncId) : Prop := ∃ fn, P.funcs[f]? = some fn ∧ fn.body.isSome = true ∧ (fn.name == "runtime.NumGoroutine") = false
def YOk0 (P : Program) (yi : Nat → Sem') : Prop := ∀ l xs o K,yi l xs o K → ∀ (w : World) (g : G) (us : Array Value),Inv w.heap g o → Reps w.heap g o xs us.toList →
  ∃ fn ts assign body,(Instr.yield (g.blk l) us).run P w = .ok (.round (g.blk l) fn ts assign body) w ∧ RoundIn Fence.wide 0 P (g.blk l) fn ts assign body w (EndOk P w g o K)
structure YOk (P : Program) (yi : Nat → Sem') : Prop where
  ok : YOk0 P yi
  le : YLe yi yi
def CaOk (P : Program) (ca : (Nat → Sem') → FuncId → Sem') : Prop := ∀ yi f xs o K,ca yi f xs o K → YOk P yi → Known P f ∧ ∀ (w : World) (g : G) (us : Array Value),Inv w.heap g o → Reps w.heap g o xs us.toList →
  CallsIn Fence.wide 0 P f us w (EndOk P w g o K)

theorem EndOk.behind {w1 : World} {g1 : G} {o1 : List O} {K : V → List O → Prop} {e : Ending} {w' : World} (t : Tr w g o w1 g1 o1) (h : EndOk P w1 g1 o1 K e w') : EndOk P w g o K e w' := by
  obtain ⟨r,y,o',g',h1,h2,h3⟩ := h
  exact ⟨r,y,o',g',h1,t.trans h2,h3⟩

theorem inv_none {h : Array Obj} {g : G} {o : List O} (I : Inv h g o) : Inv h g [] :=
  ⟨⟨fun l cs h => by simp at h,fun l v wr k xs h => by simp at h,fun l st pend ts ps a b dl h => by simp at h,fun l s h => by simp at h,fun l l' a b h => by simp at h,I.fresh⟩,I.tab.1,fun l ob h => by simp at h⟩

theorem commits'_tr : ∀ {xs ys : List V} {o o' : List O} {g : G} {w : World},Inv w.heap g o → evCallV.commits' o xs = some (ys,o') →
    ∃ g',Tr w g o w g' o' ∧ Inv w.heap g' o' ∧ (∀ us,Reps w.heap g o xs us → Reps w.heap g' o' ys us)
  | [],ys,o,o',g,w,I,h => by
    simp [evCallV.commits'] at h; obtain ⟨rfl,rfl⟩ := h
    exact ⟨g,Tr.refl _ _ _,I,fun us hr => hr⟩
  | x :: xs,ys,o,o',g,w,I,h => by
    obtain ⟨g1,t1,i1,r1⟩ : ∃ g',Tr w g o w g' ((freeze o x).getD (x,o)).2 ∧ Inv w.heap g' ((freeze o x).getD (x,o)).2 ∧ (∀ u,Rep w.heap g o x u → Rep w.heap g' ((freeze o x).getD (x,o)).2 ((freeze o x).getD (x,o)).1 u) := by
      cases hp : freeze o x with
      | some p =>
        obtain ⟨g1,t1,i1,_,r1⟩ := freeze_tr I hp
        exact ⟨g1,t1,i1,r1⟩
      | none => exact ⟨g,Tr.refl _ _ _,I,fun u hr => hr⟩
    simp only [evCallV.commits'] at h
    split at h
    · cases h
    rename_i ys' o2 h2
    simp only [Option.some.injEq,Prod.mk.injEq] at h
    obtain ⟨rfl,rfl⟩ := h
    obtain ⟨g2,t2,i2,r2⟩ := commits'_tr i1 h2
    refine ⟨g2,t1.trans t2,i2,fun us hr => ?_⟩
    obtain ⟨u,us',rfl,hu,hr'⟩ := hr.tail
    exact Reps.cons ((r1 u hu).ev t2.ev) (r2 us' (hr'.ev t1.ev))

theorem hand_tr {m : Nat} {xs ys : List V} {o o' : List O} {g : G} {w : World} (I : Inv w.heap g o) (h : evCallV.hand m o xs = some (ys,o')) :
    ∃ g',Tr w g o w g' o' ∧ Inv w.heap g' o' ∧ (∀ us,Reps w.heap g o xs us → Reps w.heap g' o' ys us) := by
  unfold evCallV.hand at h
  split at h
  · cases h; exact ⟨g,Tr.refl _ _ _,I,fun us hr => hr⟩
  · exact commits'_tr I h
theorem Reps.append {h : Array Obj} {g : G} {o : List O} {xs ys : List V} {us vs : List Value} (a : Reps h g o xs us) (b : Reps h g o ys vs) : Reps h g o (xs ++ ys) (us ++ vs) := by
  refine ⟨by simp [a.1,b.1],fun j y hy u hu => ?_⟩
  by_cases hj : j < xs.length
  · rw [List.getElem?_append_left hj] at hy
    rw [List.getElem?_append_left (by rw [a.1]; exact hj)] at hu
    exact a.2 j y hy u hu
  · rw [List.getElem?_append_right (by omega)] at hy
    rw [List.getElem?_append_right (by rw [a.1]; omega),a.1] at hu
    exact b.2 _ y hy u hu

theorem evCallV_ok {ca : (Nat → Sem') → FuncId → Sem'} {yi : Nat → Sem'} (hca : CaOk P ca) (hyi : YOk P yi) {f : V} {xs : List V} {K : V → List O → Prop} (h : evCallV T ca yi f xs o K) {u : Value} {us : Array Value}
    (I : Inv w.heap g o) (hf : Rep w.heap g o f u) (hx : Reps w.heap g o xs us.toList) :
    ∃ fn first cap,u = .func fn first cap ∧
      ((∃ gg,fn = .func gg ∧ Known P gg ∧ CallsIn Fence.wide 0 P gg (first ++ us ++ cap) w (EndOk P w g o K)) ∨
       (∃ b rfn ts ass body,fn = .yield b ∧ first = #[] ∧ cap = #[] ∧ (Instr.yield b us).run P w = .ok (.round b rfn ts ass body) w ∧ RoundIn Fence.wide 0 P b rfn ts ass body w (EndOk P w g o K))) := by
  unfold evCallV at h
  split at h
  · rename_i gg as bs
    cases hf with
    | @fn _ _ _ us1 us2 hff hs hx1 ht hx2 =>
      refine ⟨_,_,_,rfl,.inl ⟨gg,rfl, ?_⟩⟩
      have hargs : Reps w.heap g o (as ++ xs ++ bs) (us1 ++ us ++ us2).toList := by
        simp only [Array.toList_append]
        exact ((Reps.append ⟨by simpa using hs,fun j y hy u hu => hx1 j y hy u (by simpa using hu)⟩ hx).append ⟨by simpa using ht,fun j y hy u hu => hx2 j y hy u (by simpa using hu)⟩)
      split at h
      · split at h
        · exact h.elim
        · rename_i ys o1 hc
          obtain ⟨g1,t1,i1,f1,_,r1⟩ := freezes'_tr I hc
          obtain ⟨hk,hcall⟩ := hca _ _ _ _ _ h ⟨fun l xs o K h => h.elim,fun l xs o K K' hK h => h.elim⟩
          refine ⟨hk,(hcall w g1 _ (inv_none i1) ((r1 _ hargs).freeV (fun _ => Nat.le_refl _) f1)).mono fun e w' he => ?_⟩
          obtain ⟨r,y,o',g',rfl,T0,I',hr,hK⟩ := he
          unfold pureEnd at hK
          split at hK
          · rename_i l v hm
            split at hK
            · rename_i v' wr k ws hl
              split at hK
              · rename_i hcond
                obtain ⟨rfl,hfr⟩ := hcond
                obtain ⟨g2,T2,I2,R2⟩ := pure_keep T0 I' i1 hl hfr hr
                exact ⟨r,_,_,g2,rfl,t1.trans T2,I2,R2,hK⟩
              · exact hK.elim
            · exact hK.elim
          · split at hK
            · exact hK.elim
            · rename_i z o2 hz
              obtain ⟨g2,t2,i2,f2,r2⟩ := freezeT_tr I' hz
              have T2 := T0.trans t2
              split at hK
              · rename_i hb
                obtain ⟨T3,I3⟩ := pure_back T2 i2 I
                exact ⟨r,z,_,_,rfl,T3,I3,(r2 _ hr).bare hb,hK⟩
              · obtain ⟨T3,I3⟩ := pure_back T2 i2 i1
                refine ⟨r,z,_,_,rfl,t1.trans T3,I3,Rep.freeT (fun b => ?_) (r2 _ hr) f2,hK⟩
                show _ ≤ if b < w.heap.size then g1.com b else g2.com b
                split
                · rename_i hb; rw [(T2.keep b hb (fun l ob h => by simp at h)).2]; exact Nat.le_refl _
                · exact Nat.le_refl _
      split at h
      · split at h
        · exact h.elim
        · rename_i ys o1 hc
          obtain ⟨g1,t1,i1,r1⟩ := commits'_tr I hc
          obtain ⟨hk,hcall⟩ := hca _ _ _ _ _ h ⟨fun l xs o K h => h.elim,fun l xs o K K' hK h => h.elim⟩
          refine ⟨hk,(hcall w g1 _ i1 (r1 _ hargs)).mono fun e w' he => ?_⟩
          obtain ⟨r,y,o',g',h1,h2,h3,h4,h5⟩ := he.behind t1
          exact ⟨r,y,o',g',h1,h2,h3,h4,h5.2⟩
      · split at h
        · split at h
          · exact h.elim
          · rename_i ys o1 hc
            obtain ⟨g1,t1,i1,r1⟩ := commits'_tr I hc
            obtain ⟨hk,hcall⟩ := hca _ _ _ _ _ h hyi
            exact ⟨hk,(hcall w g1 _ i1 (r1 _ hargs)).mono fun e w' he => he.behind t1⟩
        · split at h
          · split at h
            · exact h.elim
            · rename_i ys o1 hc
              obtain ⟨g1,t1,i1,r1⟩ := hand_tr I hc
              obtain ⟨S,zs,os,hn,hzs,hos,h⟩ := h
              obtain ⟨hk,hcall⟩ := hca _ _ _ _ _ h ⟨fun l xs o K h => h.elim,fun l xs o K K' hK h => h.elim⟩
              refine ⟨hk,(hcall w (g1.sub S) _ (inv_in i1 hn hos) ((r1 _ hargs).mv (mv_in hos) hzs)).mono fun e w' he => ?_⟩
              obtain ⟨r,y,o',g',rfl,T0,I',hr,z,o2,N,z',os',hz,hN,hge,hz',hos',hK⟩ := he
              obtain ⟨g2,T2,I2,R2⟩ : ∃ g2,Tr w (g1.sub S) os w' g2 o2 ∧ Inv w'.heap g2 o2 ∧ Rep w'.heap g2 o2 z r := by
                rcases hz with hz | ⟨rfl,rfl⟩
                · obtain ⟨g2,t2,i2,_,r2⟩ := freezeT_tr I' hz
                  exact ⟨g2,T0.trans t2,i2,r2 _ hr⟩
                · exact ⟨g',T0,I',hr⟩
              obtain ⟨g3,T3,I3,M⟩ := move_back i1 hn hos T2 I2 hN hge hos'
              exact ⟨r,z',_,g3,rfl,t1.trans T3,I3,R2.mv M hz',hK⟩
          obtain ⟨hk,hcall⟩ := hca _ _ _ _ _ h hyi
          exact ⟨hk,hcall w g _ I hargs⟩
  · rename_i l
    split at h
    · exact h.elim
    · rename_i ys o1 hc
      obtain ⟨g1,t1,i1,r1⟩ := commits'_tr I hc
      cases hf with
      | yl hl hn =>
        obtain ⟨fn,ts,ass,body,h1,h2⟩ := hyi.ok _ _ _ _ h w g1 us i1 (r1 _ hx)
        rw [(t1.ev.fix _ _ hl hn).1] at h1 h2
        exact ⟨_,_,_,rfl,.inr ⟨_,fn,ts,ass,body,rfl,rfl,rfl,h1,h2.mono fun e w' he => he.behind t1⟩⟩
      | fn hff => exact absurd rfl (hff l)
  · exact h.elim

/-! ### One operation -/
theorem put_rep {h : Array Obj} {xs : List V} {a : Act} {y : V} {r : Value} (hr : Reps h g o xs a.tmps.toList) (hy : Rep h g o y r) (d : Option Nat) : Reps h g o (putT d y xs) (a.put d r).tmps.toList := by
  cases d with
  | none => exact hr
  | some d =>
    refine ⟨by simpa [putT,Act.put] using hr.1,fun j z hz v hv => ?_⟩
    simp only [putT,Act.put,Array.toList_setIfInBounds] at hz hv
    rw [List.getElem?_set] at hz hv
    by_cases e : d = j
    · subst e
      rw [if_pos rfl] at hz hv
      split at hz <;> split at hv <;> first | cases hz | cases hv | skip
      · cases hv; exact hy
      · cases hv
    · rw [if_neg e] at hz hv
      exact hr.2 j z hz v hv
theorem put_defers (a : Act) (d : Option Nat) (r : Value) : (a.put d r).defers = a.defers := by cases d <;> rfl

theorem guard_ok {s : St} {a : Act} {ops : Array Oper} {oper : Oper} {ko : KO} {b : Bool} {h : Array Obj} (hop : trKO P fl ops oper = some ko) (T : Ts h g s a) (hg : guardOk s ko.g = some b) : Region.wanted oper (yielded ops a.tmps) = b := by
  simp only [trKO,Option.bind_eq_bind,Option.bind_eq_some_iff] at hop
  obtain ⟨k,hk,hop⟩ := hop
  split at hop
  · rename_i hgd
    simp only [pure,Option.some.injEq] at hop; subst hop
    simp only [guardOk,Option.some.injEq] at hg
    simp [Region.wanted,hgd,hg]
  · rename_i j want hgd
    simp only [Option.bind_eq_some_iff] at hop
    obtain ⟨oj,hoj,d,hd,hop⟩ := hop
    simp only [pure,Option.some.injEq] at hop; subst hop
    simp only [guardOk] at hg
    simp only [Region.wanted,hgd,yielded,hoj,Option.bind_some,hd]
    cases hx : s.t[d]? with
    | none => rw [List.getD_eq_getElem?_getD,hx] at hg; simp at hg
    | some x =>
      obtain ⟨u,hu,hr⟩ := T.rep.at hx
      have e : s.t.getD d .dead = x := by rw [List.getD_eq_getElem?_getD,hx]; rfl
      rw [e] at hg
      have hu' : a.tmps[d]? = some u := by simpa using hu
      rw [hu']
      split at hg
      · rename_i b'
        cases hr
        simpa using hg
      · cases hr with
        | tup hs _ =>
          simp only [Option.some.injEq] at hg; subst hg
          simp
      · cases hg

theorem evOp_ok {ca : (Nat → Sem') → FuncId → Sem'} {yi : Nat → Sem'} (hca : CaOk P ca) (hyi : YOk P yi) {s : St} {a : Act} {ops : Array Oper} {oper : Oper} {ko : KO} {K : St → Prop} {rb : Option Nat} {next : Act → World → Prop} {Q : Exit → Act → World → Prop}
    (hop : trKO P fl ops oper = some ko) (hnd : ∀ c,oper.op ≠ .defer c) (h : evOp P T ca yi ko s K) (I : Inv w.heap g s.o) (Tt : Ts w.heap g s a)
    (hn : ∀ a' w' g' s',a'.defers = a.defers → Tr w g s.o w' g' s'.o → Inv w'.heap g' s'.o → Ts w'.heap g' s' a' → K s' → next a' w') :
    if Region.wanted oper (yielded ops a.tmps) = true then oper.wpIn (FR rb) 0 P a w next Q else (∀ f,oper.about P w a.eval = some f → (FR rb).fn f) ∧ next (a.put oper.dst undef) w := by
  have hd : ko.dst = oper.dst ∧ ((trK P oper = none ∧ ko.k = .bad) ∨ ∃ k,trK P oper = some k ∧ ko.k = opt P (looseK fl k)) := by
    simp only [trKO,Option.bind_eq_bind,Option.bind_eq_some_iff] at hop
    obtain ⟨k,hk,hop⟩ := hop
    have hk' : (trK P oper = none ∧ opt P k = .bad) ∨ ∃ k1,trK P oper = some k1 ∧ opt P k = opt P (looseK fl k1) := by
      cases ht : trK P oper with
      | none => rw [ht] at hk; cases hk; exact .inl ⟨rfl,by cases fl <;> rfl⟩
      | some k1 => rw [ht] at hk; cases hk; exact .inr ⟨_,rfl,rfl⟩
    split at hop
    · simp only [pure,Option.some.injEq] at hop; subst hop; exact ⟨rfl,hk'⟩
    · simp only [Option.bind_eq_some_iff] at hop
      obtain ⟨oj,hoj,d,hd,hop⟩ := hop
      simp only [pure,Option.some.injEq] at hop; subst hop; exact ⟨rfl,hk'⟩
  obtain ⟨hd,hcase⟩ := hd
  unfold evOp at h
  split at h
  · exact h.elim
  · rename_i hg
    rw [guard_ok hop Tt hg]
    have hr : Reps w.heap g s.o (putT ko.dst (.tup []) s.t) (a.put ko.dst undef).tmps.toList := put_rep Tt.rep (.tup rfl (by simp)) ko.dst
    exact ⟨fun _ _ => trivial,hn _ _ g { s with t := putT ko.dst (.tup []) s.t } (put_defers _ _ _) (Tr.refl _ _ _) I ⟨hd ▸ hr⟩ h⟩
  · rename_i hg
    rw [guard_ok hop Tt hg,if_pos rfl]
    rcases hcase with ⟨_,hbad⟩ | ⟨k0,hk,hkk0⟩
    · rw [hbad] at h; exact h.elim
    refine ⟨fun _ _ => trivial, ?_⟩
    rw [Oper.semAt_eq _ _ _ hnd]
    split at h
    · rename_i f xs hkk
      -- a call
      have hkk1 := loose_call (opt_call (hkk0.symm.trans hkk))
      subst hkk1
      have hcallee : ∃ c f0,oper.op = .call c ∧ c.callee = .value f0 ∧ trE f0 = some f ∧ trEs c.args.toList = some xs := by
        unfold trK at hk
        split at hk
        case h_19 c ho =>
          split at hk
          · split at hk
            · split at hk
              · simp only [Option.map_eq_some_iff] at hk; obtain ⟨_,_,hk⟩ := hk; cases hk
              · cases hk
            · cases hk
          · split at hk
            · split at hk
              · simp only [Option.bind_eq_bind,Option.bind_eq_some_iff] at hk
                obtain ⟨_,_,_,_,_,_,hk⟩ := hk; cases hk
              · split at hk
                · simp only [Option.bind_eq_bind,Option.bind_eq_some_iff] at hk
                  obtain ⟨_,_,_,_,_,_,_,_,hk⟩ := hk; cases hk
                · cases hk
            · cases hk
          · cases hk
          · rename_i f0 hc
            split at hk
            · rename_i hx
              cases hk
              unfold trExt at hx
              split at hx
              · split at hx
                · split at hx
                  · simp only [Option.bind_eq_bind,Option.bind_eq_some_iff] at hx
                    obtain ⟨_,_,_,_,hx⟩ := hx; cases hx
                  · cases hx
                · cases hx
              · cases hx
            simp only [Option.bind_eq_bind,Option.bind_eq_some_iff] at hk
            obtain ⟨ef,h1,es,h2,h3⟩ := hk
            simp only [pure,Option.some.injEq,Pe.K.call.injEq] at h3
            obtain ⟨rfl,rfl⟩ := h3
            exact ⟨c,f0,ho,hc,h1,h2⟩
          · cases hk
        all_goals (exfalso; revert hk)
        case h_10 =>
          split <;> intro hk
          · rename_i hh; unfold trNil at hh; split at hh <;> first | (cases hh; done) | (simp only [Option.map_eq_some_iff] at hh; obtain ⟨_,_,hh⟩ := hh; cases hh; cases hk)
          · rename_i hh; unfold trNil at hh; split at hh <;> first | (cases hh; done) | (simp only [Option.map_eq_some_iff] at hh; obtain ⟨_,_,hh⟩ := hh; cases hh; cases hk)
          · cases hk
        case h_11 =>
          split <;> intro hk
          · rename_i hh; unfold trConv at hh; split at hh <;> (try (split at hh)) <;> (try (split at hh)) <;> first | (cases hh; done) | (simp only [Option.map_eq_some_iff] at hh; obtain ⟨_,_,hh⟩ := hh; cases hh; cases hk)
          · cases hk
        case h_5 => intro hk; unfold trBld at hk; split at hk <;> simp_all [Option.bind_eq_some_iff]
        case h_6 => intro hk; simp [trBsl,Option.bind_eq_some_iff] at hk; obtain ⟨_,_,_,_,_,_,_,_,_,hk⟩ := hk; split at hk <;> cases hk
        case h_12 => split <;> simp [Option.bind_eq_some_iff]
        case h_14 => split <;> simp [Option.bind_eq_some_iff]
        case h_17 => split <;> simp [Option.bind_eq_some_iff]
        case h_23 => split <;> simp
        all_goals simp [Option.bind_eq_some_iff]
      obtain ⟨c,f0,ho,hc,hf0,hxs⟩ := hcallee
      obtain ⟨fn,first,cap,hu,hh⟩ := evCallV_ok (us := c.args.map a.eval) hca hyi h I (ev_rep Tt hf0) (by simpa using trEs_rep Tt hxs)
      have hend : ∀ e w',EndOk P w g s.o (fun y o' => K { t := putT ko.dst y s.t,o := o' }) e w' → (match e,w' with
          | .returned v,w'' => next (a.put oper.dst v) w''
          | .panicked chain,w'' => Q (.panic chain) a w''
          | .outgrown,_ => LetsOut Q : Prop) := fun e w' he => by
        obtain ⟨r,y,o',g',rfl,T1,I1,R1,hK⟩ := he
        refine hn _ _ g' _ (put_defers _ _ _) T1 I1 ⟨?_⟩ hK
        rw [← hd]
        exact put_rep (Tt.rep.ev T1.ev) R1 ko.dst
      rcases hh with ⟨gg,rfl,⟨fnn,hfn,hbody,hname⟩,hcall⟩ | ⟨b,rfn,ts,ass,body,rfl,rfl,rfl,hy,hround⟩
      · have hrun : (execOp a.eval oper).run P w = .ok (.enter gg (first ++ c.args.map a.eval ++ cap)) w := by
          obtain ⟨bd,hbd⟩ := Option.isSome_iff_exists.1 hbody
          have hnm : ¬ (fnn.name = "runtime.NumGoroutine") := by simpa using hname
          simp [execOp,ho,resolve,hc,hu,Deferred.ofValue,invoke,callFunc,program,Sem.run,hfn,hbd,hnm]
        rw [hrun,Oper.uponIn_enter]
        exact ⟨fun hh => by simp [FR,Fence.wide] at hh,(show CallsIn (FR rb) 0 P gg _ w _ from hcall).mono hend⟩
      · have hrun : (execOp a.eval oper).run P w = .ok (.round b rfn ts ass body) w := by
          simp [execOp,ho,resolve,hc,hu,Deferred.ofValue,invoke,hy]
        rw [hrun,Oper.uponIn_round]
        exact ⟨fun hh => by simp [FR,Fence.wide] at hh,(show RoundIn (FR rb) 0 P b rfn ts ass body w _ from hround).mono hend⟩
    · rename_i k hnc
      split at h
      · exact h.elim
      · rename_i y o' hst
        obtain ⟨r,w',g',hrun,T1,I1,R1⟩ := loose_ok hk (opt_ok (hkk0 ▸ hst)) I Tt
        have hfin : next (a.put oper.dst r) w' := by
          refine hn _ _ g' _ (put_defers _ _ _) T1 I1 ⟨?_⟩ h
          rw [← hd]
          exact put_rep (Tt.rep.ev T1.ev) R1 ko.dst
        rcases hrun with hrun | ⟨hrun,rfl⟩
        · rw [hrun,Oper.uponIn_value]; exact hfin
        · rw [hrun,Oper.uponIn_skip]; exact hfin
end Go.Proofs.Pe
end

section
set_option linter.unusedVariables false
namespace Go.Proofs.Pe
variable {P : Program} {T : Tab}

/-! ### Operations that may change places -/
def Agree (us : List Nat) (t t' : List V) : Prop := ∀ x,x ∈ us → t.getD x .dead = t'.getD x .dead
theorem Agree.sub {us vs : List Nat} {t t' : List V} (h : Agree us t t') (hs : ∀ x,x ∈ vs → x ∈ us) : Agree vs t t' := fun x hx => h x (hs x hx)
theorem Agree.symm {us : List Nat} {t t' : List V} (h : Agree us t t') : Agree us t' t := fun x hx => (h x hx).symm

theorem ev_congr {e : E} {s s' : St} (h : Agree e.uses s.t s'.t) : e.ev s = e.ev s' := by
  cases e with
  | tmp t => exact h t (by simp [E.uses])
  | lit x => rfl

def K.okS (k : K) : Prop := ∀ o,k = .sca o → ∀ cs b,o.op ≠ .select cs b

theorem scEnv_congr {o : Oper} {s s' : St} (h : Agree (opUses o) s.t s'.t) {x : Operand} (hx : x ∈ o.op.operands) : scEnv s x = scEnv s' x := by
  unfold scEnv
  cases he : trE x with
  | none => rfl
  | some e =>
    simp only [Option.bind_some]
    rw [ev_congr (h.sub fun t ht => ?_)]
    unfold opUses
    rw [List.mem_flatMap]
    exact ⟨x,by simpa using hx,by rw [he]; exact ht⟩

theorem all_congr' {α : Type} {f g : α → Bool} : ∀ {l : List α},(∀ x,x ∈ l → f x = g x) → l.all f = l.all g
  | [],h => rfl
  | x :: l,h => by
    simp only [List.all_cons]
    rw [h x (by simp),all_congr' fun y hy => h y (by simp [hy])]

theorem bound_congr {s s' : St} {n : Nat} {e : Option E} (h : Agree (optUses e) s.t s'.t) : bound s n e = bound s' n e := by
  cases e with
  | none => rfl
  | some e =>
    have he : e.ev s = e.ev s' := ev_congr h
    simp only [bound,he]

theorem step_congr {k : K} {t t' : List V} {o : List O} (hk : k.okS) (h : Agree k.uses t t') : step P { t := t,o := o } k = step P { t := t',o := o } k := by
  cases k
  case sca op =>
    have hns := hk op rfl
    have h1 : (op.op.operands.toList.all fun x => (scEnv { t := t,o := o } x).isSome) = (op.op.operands.toList.all fun x => (scEnv { t := t',o := o } x).isSome) := by
      refine all_congr' fun x hx => ?_
      rw [scEnv_congr (s := { t := t,o := o }) (s' := { t := t',o := o }) h (by simpa using hx)]
    have h2 : execOp (fun x => (scEnv { t := t,o := o } x).getD undef) op = execOp (fun x => (scEnv { t := t',o := o } x).getD undef) op :=
      execOp_congr op hns fun x hx => by rw [scEnv_congr (s := { t := t,o := o }) (s' := { t := t',o := o }) h (by simpa using hx)]
    simp only [step,h1,h2]
  case bld zs ps =>
    have h1 : ∀ p,p ∈ ps → p.2.2.ev { t := t,o := o } = p.2.2.ev { t := t',o := o } := fun p hp => ev_congr (h.sub fun x hx => by simp only [K.uses,List.mem_flatMap]; exact ⟨p,hp,hx⟩)
    have h2 : (ps.all fun x => match x with | (_,_,e) => (e.ev { t := t,o := o }).solid) = (ps.all fun x => match x with | (_,_,e) => (e.ev { t := t',o := o }).solid) := all_congr' fun p hp => by simp only [h1 p hp]
    have h3 : (ps.map fun x => match x with | (off,n,e) => (off,n,e.ev { t := t,o := o })) = (ps.map fun x => match x with | (off,n,e) => (off,n,e.ev { t := t',o := o })) := List.map_congr_left fun p hp => by simp only [h1 p hp]
    simp only [step,h2,h3]
  case bsl k len z ps =>
    have h1 : ∀ p,p ∈ ps → p.2.ev { t := t,o := o } = p.2.ev { t := t',o := o } := fun p hp => ev_congr (h.sub fun x hx => by simp only [K.uses,List.mem_flatMap]; exact ⟨p,hp,hx⟩)
    have h3 : (ps.map fun x => match x with | (_,e) => e.ev { t := t,o := o }) = (ps.map fun x => match x with | (_,e) => e.ev { t := t',o := o }) := List.map_congr_left fun p hp => by simp only [h1 p hp]
    simp only [step,h3]
  case bsa k len z ps =>
    have h1 : ∀ p,p ∈ ps → p.2.ev { t := t,o := o } = p.2.ev { t := t',o := o } := fun p hp => ev_congr (h.sub fun x hx => by simp only [K.uses,List.mem_flatMap]; exact ⟨p,hp,hx⟩)
    have h2 : (ps.all fun x => match x with | (_,e) => (e.ev { t := t,o := o }).free && decide ((e.ev { t := t,o := o }).cells.length = k)) = (ps.all fun x => match x with | (_,e) => (e.ev { t := t',o := o }).free && decide ((e.ev { t := t',o := o }).cells.length = k)) := all_congr' fun p hp => by simp only [h1 p hp]
    have h2b : (ps.all fun x => match x with | (_,e) => (e.ev { t := t,o := o }).solid && decide ((e.ev { t := t,o := o }).cells.length = k)) = (ps.all fun x => match x with | (_,e) => (e.ev { t := t',o := o }).solid && decide ((e.ev { t := t',o := o }).cells.length = k)) := all_congr' fun p hp => by simp only [h1 p hp]
    have h3 : (ps.map fun x => match x with | (_,e) => e.ev { t := t,o := o }) = (ps.map fun x => match x with | (_,e) => e.ev { t := t',o := o }) := List.map_congr_left fun p hp => by simp only [h1 p hp]
    simp only [step,h2,h2b,h3]
  case mkf f as bs =>
    have h1 : (as.map (·.ev { t := t,o := o })) = as.map (·.ev { t := t',o := o }) := List.map_congr_left fun e he => ev_congr (h.sub fun x hx => by simp only [K.uses,List.mem_append,List.mem_flatMap]; exact .inl ⟨e,he,hx⟩)
    have h2 : (bs.map (·.ev { t := t,o := o })) = bs.map (·.ev { t := t',o := o }) := List.map_congr_left fun e he => ev_congr (h.sub fun x hx => by simp only [K.uses,List.mem_append,List.mem_flatMap]; exact .inr ⟨e,he,hx⟩)
    simp only [step,h1,h2]
  case slc x lo hi mx k0 =>
    have h1 : x.ev { t := t,o := o } = x.ev { t := t',o := o } := ev_congr (h.sub fun y hy => by simp [K.uses,hy])
    have h2 : ∀ n,bound { t := t,o := o } n hi = bound { t := t',o := o } n hi := fun n => bound_congr (h.sub fun y hy => by simp [K.uses,hy])
    have h3 : ∀ n,bound { t := t,o := o } n (some (lo.getD (.lit (.sc (.int .i64 0))))) = bound { t := t',o := o } n (some (lo.getD (.lit (.sc (.int .i64 0))))) := fun n => bound_congr (h.sub fun y hy => by
      cases lo with
      | none => simp [optUses,E.uses] at hy
      | some e => simp only [optUses,Option.getD_some] at hy; simp [K.uses,optUses,hy])
    have h4 : ∀ n,bound { t := t,o := o } n mx = bound { t := t',o := o } n mx := fun n => bound_congr (h.sub fun y hy => by simp [K.uses,hy])
    have h5 : ∀ k l v a n,viewOf { t := t,o := o } k l v a n lo hi mx = viewOf { t := t',o := o } k l v a n lo hi mx := fun k l v a n => by
      unfold viewOf
      cases mx with
      | none => simp only [h2,h3]
      | some m => simp only [h2,h3,h4]
    simp only [step,h1,h2,h3,h5]
    cases mx with
    | none => simp only [h4]
    | some m => simp only [h4]
  case ssl x lo hi =>
    have h1 : x.ev { t := t,o := o } = x.ev { t := t',o := o } := ev_congr (h.sub fun y hy => by simp [K.uses,hy])
    have h2 : ∀ n,bound { t := t,o := o } n hi = bound { t := t',o := o } n hi := fun n => bound_congr (h.sub fun y hy => by simp [K.uses,hy])
    have h3 : ∀ n,bound { t := t,o := o } n (some (lo.getD (.lit (.sc (.int .i64 0))))) = bound { t := t',o := o } n (some (lo.getD (.lit (.sc (.int .i64 0))))) := fun n => bound_congr (h.sub fun y hy => by
      cases lo with
      | none => simp [optUses,E.uses] at hy
      | some e => simp only [optUses,Option.getD_some] at hy; simp [K.uses,optUses,hy])
    simp only [step,h1,h2,h3]
  case pick c x y =>
    have h1 : c.ev { t := t,o := o } = c.ev { t := t',o := o } := ev_congr (h.sub fun z hz => by simp [K.uses,hz])
    have h2 : x.ev { t := t,o := o } = x.ev { t := t',o := o } := ev_congr (h.sub fun z hz => by simp [K.uses,hz])
    have h3 : y.ev { t := t,o := o } = y.ev { t := t',o := o } := ev_congr (h.sub fun z hz => by simp [K.uses,hz])
    simp only [step,h1,h2,h3]
  all_goals first
    | rfl
    | (rename_i x; have h1 : x.ev { t := t,o := o } = x.ev { t := t',o := o } := ev_congr h; simp only [step,h1])
    | (rename_i x _; have h1 : x.ev { t := t,o := o } = x.ev { t := t',o := o } := ev_congr h; simp only [step,h1])
    | (rename_i x _ _; have h1 : x.ev { t := t,o := o } = x.ev { t := t',o := o } := ev_congr h; simp only [step,h1])
    | (rename_i x _ _ _; have h1 : x.ev { t := t,o := o } = x.ev { t := t',o := o } := ev_congr h; simp only [step,h1])
    | (rename_i x y; have h1 : x.ev { t := t,o := o } = x.ev { t := t',o := o } := ev_congr (h.sub fun z hz => by simp [K.uses,hz])
       have h2 : y.ev { t := t,o := o } = y.ev { t := t',o := o } := ev_congr (h.sub fun z hz => by simp [K.uses,hz])
       simp only [step,h1,h2])
    | (rename_i x y _; have h1 : x.ev { t := t,o := o } = x.ev { t := t',o := o } := ev_congr (h.sub fun z hz => by simp [K.uses,hz])
       have h2 : y.ev { t := t,o := o } = y.ev { t := t',o := o } := ev_congr (h.sub fun z hz => by simp [K.uses,hz])
       simp only [step,h1,h2])
    | (rename_i x y _ _; have h1 : x.ev { t := t,o := o } = x.ev { t := t',o := o } := ev_congr (h.sub fun z hz => by simp [K.uses,hz])
       have h2 : y.ev { t := t,o := o } = y.ev { t := t',o := o } := ev_congr (h.sub fun z hz => by simp [K.uses,hz])
       simp only [step,h1,h2])
    | (rename_i x y _ _ _; have h1 : x.ev { t := t,o := o } = x.ev { t := t',o := o } := ev_congr (h.sub fun z hz => by simp [K.uses,hz])
       have h2 : y.ev { t := t,o := o } = y.ev { t := t',o := o } := ev_congr (h.sub fun z hz => by simp [K.uses,hz])
       simp only [step,h1,h2])
    | (rename_i x y z; have h1 : x.ev { t := t,o := o } = x.ev { t := t',o := o } := ev_congr (h.sub fun z hz => by simp [K.uses,hz])
       have h2 : y.ev { t := t,o := o } = y.ev { t := t',o := o } := ev_congr (h.sub fun z hz => by simp [K.uses,hz])
       have h3 : z.ev { t := t,o := o } = z.ev { t := t',o := o } := ev_congr (h.sub fun z hz => by simp [K.uses,hz])
       simp only [step,h1,h2,h3])
    | (rename_i _ _ x; have h1 : x.ev { t := t,o := o } = x.ev { t := t',o := o } := ev_congr h; simp only [step,h1])
    | (rename_i _ x y; have h1 : x.ev { t := t,o := o } = x.ev { t := t',o := o } := ev_congr (h.sub fun z hz => by simp [K.uses,hz])
       have h2 : y.ev { t := t,o := o } = y.ev { t := t',o := o } := ev_congr (h.sub fun z hz => by simp [K.uses,hz])
       simp only [step,h1,h2])
    | (rename_i _ x; have h1 : x.ev { t := t,o := o } = x.ev { t := t',o := o } := ev_congr h; simp only [step,h1])
end Go.Proofs.Pe
end

/- An evaluator over the loaded code, and the proof that what it tells is so: a part of the texts that the claim's proof needs. Conditions: none beside those that its theorems state. -/
import Derived.RangeFuncRecord
import Derived.Lib.Bytealg
import Derived.Laws.StandIn
import Derived.Orders
import Derived.Laws.Append
import Derived.Laws.AppendOwn
import Derived.ArgAppend
import Derived.Laws.MakeOwn
import Derived.Lib.AppendZerosOnto
import Derived.Lib.ConvBytes
import Derived.Laws.BytesArg
import Derived.Laws.Entries
set_option linter.unusedSimpArgs false
set_option linter.unusedVariables false

section
set_option linter.unusedVariables false
namespace Go.Proofs.Pe
/-! ### Blocks of variables that nothing writes, and what lies in them -/
def TBB : Nat → Bool := fun _ => false
def TBP : (Nat → Option Obj) → Prop := fun _ => True
theorem TBP_loc {f f' : Nat → Option Obj} (h : ∀ b,TBB b = true → f' b = f b) (hp : TBP f) : TBP f' := trivial
theorem TBP_lt {h : Array Obj} (hp : TBP fun b => h[b]?) {b : Nat} (hb : TBB b = true) : b < h.size := by cases hb
end Go.Proofs.Pe
end

section
set_option linter.unusedVariables false
namespace Go.Proofs.Pe

/-! ### The evaluator's values -/
inductive V where
  | sc (v : Value)
  | sl (k : Nat) (full : Bool) (xs : List V)
  | ar (l v : Nat)
  | vw (l v a n : Nat)
  | pt (l off : Nat)
  | pa (l v i off : Nat)
  | ep (cs : List V)
  | agg (cs : List V)
  | fn (f : Fn) (a b : List V)
  | tup (vs : List V)
  | it (l : Nat)
  | dead
  deriving Inhabited

def V.cells : V → List V
  | .agg cs => cs
  | v => [v]

def V.free1 : V → Bool
  | .sc _ => true
  | .sl .. => true
  | .ep _ => true
  | .fn (.func _) [] [] => true
  | _ => false
def V.free : V → Bool
  | .agg cs => cs.all V.free1
  | v => v.free1

def V.one : V → Bool
  | .agg _ | .tup _ | .dead => false
  | _ => true
def V.solid : V → Bool
  | .agg cs => cs.all V.one
  | v => v.one

def plain : Value → Bool
  | .bool _ | .int .. | .float .. | .complex .. | .string _ | .nilFunc | .nilIface => true
  | .pointer none | .slice none 0 0 | .map none | .chan none => true
  | _ => false

inductive D where
  | sh (shut : Bool)
  | it (s : ByteArray) (pos : Nat)
def D.obj : D → Obj
  | .sh b => .deferred (if b then none else some [])
  | .it s p => .stringIter s p

inductive O where
  | cells (cs : List V)
  | arr (v : Nat) (wr : Bool) (k : Nat) (xs : List V)
  | loop (st : LoopState) (pend : Option Code) (ts : List V) (ps : Array Tmp) (assign body : Code) (dl : Nat)
  | dfd (d : D)
  | dead
  deriving Inhabited

structure G where
  com : Nat → Nat
  blk : Nat → Nat
  cap : Nat → Nat

inductive Rep (h : Array Obj) (g : G) (o : List O) : V → Value → Prop where
  | sc {v : Value} (hp : plain v = true) : Rep h g o (.sc v) v
  | sl {k : Nat} {full : Bool} {xs : List V} {b off cap : Nat} {cs : Array Value} {ty : TypeId} {fr : Nat × Nat}
      (hc : off + xs.length * k ≤ g.com b) (hsz : off + xs.length * k ≤ cs.size) (hcap : xs.length ≤ cap) (hfull : full = true → cap = xs.length) (hb : h[b]? = some (.cells cs ty fr))
      (hk : ∀ (i : Nat) (x : V),xs[i]? = some x → x.cells.length = k ∧ x.free = true)
      (hx : ∀ (i : Nat) (x : V),xs[i]? = some x → ∀ (j : Nat) (y : V),x.cells[j]? = some y → ∀ u,cs[off + i * k + j]? = some u → Rep h g o y u) :
      Rep h g o (.sl k full xs) (.slice (some ⟨b,off,none⟩) xs.length cap)
  | sl0 {k : Nat} {full : Bool} {x : Addr} : Rep h g o (.sl k full []) (.slice (some x) 0 0)
  | ar {l v : Nat} {u : Value} (hl : l < o.length) (hu : ∃ a n c,u = .slice (some a) n c)
      (ha : ∀ v0 wr k xs,o[l]? = some (.arr v0 wr k xs) → v ≤ v0 ∧ (v = v0 → u = .slice (some ⟨g.blk l,0,none⟩) xs.length (g.cap l))) : Rep h g o (.ar l v) u
  | vw {l v a n : Nat} {u : Value} (hl : l < o.length) (hu : ∃ a n c,u = .slice (some a) n c)
      (ha : ∀ v0 wr k xs,o[l]? = some (.arr v0 wr k xs) → v ≤ v0 ∧ (v = v0 → a + n ≤ xs.length ∧ ∃ b c,n ≤ c ∧ u = .slice (some b) n c ∧ (0 < n → b = ⟨g.blk l,a * k,none⟩))) : Rep h g o (.vw l v a n) u
  | pt {l off : Nat} {cs : List V} (hl : o[l]? = some (.cells cs)) : Rep h g o (.pt l off) (.pointer (some ⟨g.blk l,off,none⟩))
  | pa {l v i off : Nat} {u : Value} (hl : l < o.length) (hu : ∃ a,u = .pointer a)
      (ha : ∀ v0 wr k xs,o[l]? = some (.arr v0 wr k xs) → v ≤ v0 ∧ (v = v0 → u = .pointer (some ⟨g.blk l,i * k + off,none⟩))) : Rep h g o (.pa l v i off) u
  | ep {xs : List V} {b off : Nat} {cs : Array Value} {ty : TypeId} {fr : Nat × Nat}
      (hc : off + xs.length ≤ g.com b) (hsz : off + xs.length ≤ cs.size) (hb : h[b]? = some (.cells cs ty fr)) (hf : ∀ (j : Nat) (y : V),xs[j]? = some y → y.free1 = true)
      (hx : ∀ (j : Nat) (y : V),xs[j]? = some y → ∀ u,cs[off + j]? = some u → Rep h g o y u) : Rep h g o (.ep xs) (.pointer (some ⟨b,off,none⟩))
  | agg {xs : List V} {us : Array Value} (hs : us.size = xs.length) (hx : ∀ (j : Nat) (y : V),xs[j]? = some y → ∀ u,us[j]? = some u → Rep h g o y u) :
      Rep h g o (.agg xs) (.agg us)
  | yl {l : Nat} {ob : O} (hl : o[l]? = some ob) (hn : ∀ v wr k xs,ob ≠ .arr v wr k xs) : Rep h g o (.fn (.yield l) [] []) (.func (.yield (g.blk l)) #[] #[])
  | it {l : Nat} {ob : O} (hl : o[l]? = some ob) (hn : ∀ v wr k xs,ob ≠ .arr v wr k xs) : Rep h g o (.it l) (.pointer (some ⟨g.blk l,0,none⟩))
  | fn {f : Fn} {as bs : List V} {us ws : Array Value} (hf : ∀ l,f ≠ .yield l) (hs : us.size = as.length) (hx : ∀ (j : Nat) (y : V),as[j]? = some y → ∀ u,us[j]? = some u → Rep h g o y u)
      (ht : ws.size = bs.length) (hy : ∀ (j : Nat) (y : V),bs[j]? = some y → ∀ u,ws[j]? = some u → Rep h g o y u) : Rep h g o (.fn f as bs) (.func f us ws)
  | tup {xs : List V} {us : Array Value} (hs : us.size = xs.length) (hx : ∀ (j : Nat) (y : V),xs[j]? = some y → ∀ u,us[j]? = some u → Rep h g o y u) :
      Rep h g o (.tup xs) (.tuple us)
  | dead {u : Value} : Rep h g o .dead u

def Reps (h : Array Obj) (g : G) (o : List O) (xs : List V) (us : List Value) : Prop :=
  us.length = xs.length ∧ ∀ (j : Nat) (y : V),xs[j]? = some y → ∀ u,us[j]? = some u → Rep h g o y u

structure Ev (h : Array Obj) (g : G) (o : List O) (h' : Array Obj) (g' : G) (o' : List O) : Prop where
  size : h.size ≤ h'.size
  com : ∀ b,g.com b ≤ g'.com b
  cell : ∀ b cs ty fr,h[b]? = some (.cells cs ty fr) → ∃ cs' fr',h'[b]? = some (.cells cs' ty fr') ∧ cs'.size = cs.size ∧ ∀ i,i < g.com b → cs'[i]? = cs[i]?
  len : o.length ≤ o'.length
  blk : ∀ (l : Nat) (cs : List V),o[l]? = some (.cells cs) → g'.blk l = g.blk l ∧ ∃ cs',o'[l]? = some (.cells cs')
  fix : ∀ (l : Nat) (ob : O),o[l]? = some ob → (∀ v wr k xs,ob ≠ .arr v wr k xs) → g'.blk l = g.blk l ∧ ∃ ob',o'[l]? = some ob' ∧ ∀ v wr k xs,ob' ≠ .arr v wr k xs
  arr : ∀ (l v : Nat) (wr : Bool) (k : Nat) (xs : List V),l < o.length → o'[l]? = some (.arr v wr k xs) →
    ∃ v0 wr0 xs0,o[l]? = some (.arr v0 wr0 k xs0) ∧ v0 ≤ v ∧ (v0 = v → xs0.length = xs.length ∧ g'.blk l = g.blk l ∧ g'.cap l = g.cap l)

theorem Ev.refl (h : Array Obj) (g : G) (o : List O) : Ev h g o h g o where
  size := Nat.le_refl _
  com := fun _ => Nat.le_refl _
  cell := fun b cs ty fr hb => ⟨cs,fr,hb,rfl,fun _ _ => rfl⟩
  len := Nat.le_refl _
  blk := fun l cs h => ⟨rfl,cs,h⟩
  fix := fun l ob h hn => ⟨rfl,ob,h,hn⟩
  arr := fun l v wr k xs _ h => ⟨v,wr,xs,h,Nat.le_refl _,fun _ => ⟨rfl,rfl,rfl⟩⟩

theorem Ev.trans {h h' h'' : Array Obj} {g g' g'' : G} {o o' o'' : List O} (a : Ev h g o h' g' o') (b : Ev h' g' o' h'' g'' o'') : Ev h g o h'' g'' o'' where
  size := Nat.le_trans a.size b.size
  com := fun x => Nat.le_trans (a.com x) (b.com x)
  cell := fun x cs ty fr hb => by
    obtain ⟨cs1,fr1,h1,z1,e1⟩ := a.cell x cs ty fr hb
    obtain ⟨cs2,fr2,h2,z2,e2⟩ := b.cell x cs1 ty fr1 h1
    exact ⟨cs2,fr2,h2,z2.trans z1,fun i hi => (e2 i (Nat.lt_of_lt_of_le hi (a.com x))).trans (e1 i hi)⟩
  len := Nat.le_trans a.len b.len
  blk := fun l cs hl => by
    obtain ⟨e1,cs1,h1⟩ := a.blk l cs hl
    obtain ⟨e2,cs2,h2⟩ := b.blk l cs1 h1
    exact ⟨e2.trans e1,cs2,h2⟩
  fix := fun l ob hl hn => by
    obtain ⟨e1,ob1,h1,n1⟩ := a.fix l ob hl hn
    obtain ⟨e2,ob2,h2,n2⟩ := b.fix l ob1 h1 n1
    exact ⟨e2.trans e1,ob2,h2,n2⟩
  arr := fun l v wr k xs hl hx => by
    obtain ⟨v1,wr1,xs1,h1,l1,e1⟩ := b.arr l v wr k xs (Nat.lt_of_lt_of_le hl a.len) hx
    obtain ⟨v0,wr0,xs0,h0,l0,e0⟩ := a.arr l v1 wr1 k xs1 hl h1
    refine ⟨v0,wr0,xs0,h0,Nat.le_trans l0 l1,fun e => ?_⟩
    have hv1 : v1 = v := by omega
    have hv0 : v0 = v1 := by omega
    obtain ⟨a1,a2,a3⟩ := e1 hv1
    obtain ⟨b1,b2,b3⟩ := e0 hv0
    exact ⟨b1.trans a1,a2.trans b2,a3.trans b3⟩

theorem Rep.ev {h h' : Array Obj} {g g' : G} {o o' : List O} (E : Ev h g o h' g' o') {x : V} {u : Value} (r : Rep h g o x u) : Rep h' g' o' x u := by
  induction r with
  | sc hp => exact .sc hp
  | @sl k full xs b off cap cs ty fr hc hsz hcap hfull hb hk _ ih =>
    obtain ⟨cs',fr',hb',z,e⟩ := E.cell b cs ty fr hb
    refine .sl (Nat.le_trans hc (E.com b)) (by omega) hcap hfull hb' hk fun i x hi j y hj u hu => ih i x hi j y hj u ?_
    rw [e _ ?_] at hu; exact hu
    have h1 : i < xs.length := (List.getElem?_eq_some_iff.1 hi).1
    have h2 : j < k := by have := (List.getElem?_eq_some_iff.1 hj).1; rw [(hk i x hi).1] at this; exact this
    have h3 : (i + 1) * k ≤ xs.length * k := Nat.mul_le_mul_right k h1
    rw [Nat.succ_mul] at h3
    omega
  | sl0 => exact .sl0
  | @ar l v u hl hu ha =>
    refine .ar (Nat.lt_of_lt_of_le hl E.len) hu fun v1 wr k xs hx => ?_
    obtain ⟨v0,wr0,xs0,h0,l0,e0⟩ := E.arr l v1 wr k xs hl hx
    obtain ⟨a1,a2⟩ := ha v0 wr0 k xs0 h0
    refine ⟨Nat.le_trans a1 l0,fun e => ?_⟩
    have : v0 = v1 := by omega
    obtain ⟨b1,b2,b3⟩ := e0 this
    rw [a2 (by omega),b1,b2,b3]
  | @vw l v a n u hl hu ha =>
    refine .vw (Nat.lt_of_lt_of_le hl E.len) hu fun v1 wr k xs hx => ?_
    obtain ⟨v0,wr0,xs0,h0,l0,e0⟩ := E.arr l v1 wr k xs hl hx
    obtain ⟨a1,a2⟩ := ha v0 wr0 k xs0 h0
    refine ⟨Nat.le_trans a1 l0,fun e => ?_⟩
    have : v0 = v1 := by omega
    obtain ⟨b1,b2,b3⟩ := e0 this
    obtain ⟨c1,b,c,c2,c3,c4⟩ := a2 (by omega)
    exact ⟨by omega,b,c,c2,c3,fun h => by rw [b2]; exact c4 h⟩
  | pt hl =>
    obtain ⟨e,cs',h'⟩ := E.blk _ _ hl
    rw [← e]; exact .pt h'
  | @pa l v i off u hl hu ha =>
    refine .pa (Nat.lt_of_lt_of_le hl E.len) hu fun v1 wr k xs hx => ?_
    obtain ⟨v0,wr0,xs0,h0,l0,e0⟩ := E.arr l v1 wr k xs hl hx
    obtain ⟨a1,a2⟩ := ha v0 wr0 k xs0 h0
    refine ⟨Nat.le_trans a1 l0,fun e => ?_⟩
    have : v0 = v1 := by omega
    obtain ⟨b1,b2,b3⟩ := e0 this
    rw [a2 (by omega),b2]
  | @ep xs b off cs ty fr hc hsz hb hf _ ih =>
    obtain ⟨cs',fr',hb',z,e⟩ := E.cell b cs ty fr hb
    refine .ep (Nat.le_trans hc (E.com b)) (by omega) hb' hf fun j y hj u hu => ih j y hj u ?_
    rw [e _ ?_] at hu; exact hu
    have := (List.getElem?_eq_some_iff.1 hj).1
    omega
  | agg hs _ ih => exact .agg hs ih
  | yl hl hn =>
    obtain ⟨e,ob',h',n'⟩ := E.fix _ _ hl hn
    rw [← e]; exact .yl h' n'
  | it hl hn =>
    obtain ⟨e,ob',h',n'⟩ := E.fix _ _ hl hn
    rw [← e]; exact .it h' n'
  | fn hf hs _ ht _ ih1 ih2 => exact .fn hf hs ih1 ht ih2
  | tup hs _ ih => exact .tup hs ih
  | dead => exact .dead

theorem Rep.oneCell {h : Array Obj} {g : G} {o : List O} {x : V} {u : Value} (r : Rep h g o x u) (hx : x.one = true) : u.cells = #[u] ∧ (∀ cs,u ≠ .agg cs) ∧ (∀ cs,u ≠ .tuple cs) := by
  cases r with
  | sc hp => cases u <;> simp_all [plain,Value.cells]
  | ar hl hu ha => obtain ⟨a,n,c,rfl⟩ := hu; simp [Value.cells]
  | vw hl hu ha => obtain ⟨a,n,c,rfl⟩ := hu; simp [Value.cells]
  | pa hl hu ha => obtain ⟨a,rfl⟩ := hu; simp [Value.cells]
  | sl => simp [Value.cells]
  | sl0 => simp [Value.cells]
  | pt => simp [Value.cells]
  | ep => simp [Value.cells]
  | fn => simp [Value.cells]
  | yl => simp [Value.cells]
  | it => simp [Value.cells]
  | agg => simp [V.one] at hx
  | tup => simp [V.one] at hx
  | dead => simp [V.one] at hx

theorem Reps.nil (h : Array Obj) (g : G) (o : List O) : Reps h g o [] [] := ⟨rfl,fun j y hy => by simp at hy⟩
theorem Reps.cons {h : Array Obj} {g : G} {o : List O} {x : V} {u : Value} {xs : List V} {us : List Value} (r : Rep h g o x u) (rs : Reps h g o xs us) : Reps h g o (x :: xs) (u :: us) := by
  refine ⟨by simp [rs.1],fun j y hy v hv => ?_⟩
  cases j with
  | zero => simp at hy hv; subst hy hv; exact r
  | succ j => simp at hy hv; exact rs.2 j y hy v hv
theorem Reps.tail {h : Array Obj} {g : G} {o : List O} {x : V} {xs : List V} {us : List Value} (rs : Reps h g o (x :: xs) us) : ∃ u us',us = u :: us' ∧ Rep h g o x u ∧ Reps h g o xs us' := by
  cases us with
  | nil => have := rs.1; simp at this
  | cons u us => exact ⟨u,us,rfl,rs.2 0 x rfl u rfl,by have := rs.1; simpa using this,fun j y hy v hv => rs.2 (j + 1) y hy v hv⟩
theorem Reps.at {h : Array Obj} {g : G} {o : List O} {xs : List V} {us : List Value} (rs : Reps h g o xs us) {j : Nat} {y : V} (hy : xs[j]? = some y) : ∃ u,us[j]? = some u ∧ Rep h g o y u := by
  have hlt : j < us.length := by rw [rs.1]; exact (List.getElem?_eq_some_iff.1 hy).1
  exact ⟨us[j],List.getElem?_eq_getElem hlt,rs.2 j y hy _ (List.getElem?_eq_getElem hlt)⟩

theorem Rep.cells {h : Array Obj} {g : G} {o : List O} {x : V} {u : Value} (r : Rep h g o x u) (hx : x.solid = true) : Reps h g o x.cells u.cells.toList := by
  by_cases ho : x.one = true
  · have e := (r.oneCell ho).1
    have e2 : x.cells = [x] := by cases x <;> simp_all [V.one,V.cells]
    rw [e,e2]; exact Reps.cons r (Reps.nil _ _ _)
  · cases r with
    | agg hs hx' => exact ⟨by simpa [Value.cells,V.cells] using hs,fun j y hy v hv => hx' j y hy v (by simpa [Value.cells] using hv)⟩
    | _ => simp_all [V.solid,V.one]
end Go.Proofs.Pe
end

section
set_option linter.unusedVariables false
namespace Go.Proofs.Pe

/-! ### Operations -/
structure St where
  t : List V
  o : List O

inductive E where
  | tmp (t : Nat)
  | lit (x : V)

def sclist : List Value → Option (List V)
  | [] => some []
  | v :: vs => if plain v then (sclist vs).map (.sc v :: ·) else none
def ofVal : Value → Option V
  | .agg us => (sclist us.toList).map .agg
  | v => if plain v then some (.sc v) else none
def vallist : List V → Option (List Value)
  | [] => some []
  | .sc v :: xs => (vallist xs).map (v :: ·)
  | _ :: _ => none
def toVal : V → Option Value
  | .sc v => some v
  | .agg cs => (vallist cs).map fun us => .agg us.toArray
  | _ => none

def E.ev (s : St) : E → V
  | .tmp t => s.t.getD t .dead
  | .lit x => x

def trE : Operand → Option E
  | .tmp t => some (.tmp t)
  | .const v => (ofVal v).map .lit
  | .func f => some (.lit (.fn (.func f) [] []))
  | .global _ => none

def pureRun {α : Type} (P : Program) : Sem α → Option α
  | .pure a => some a
  | .program k => pureRun P (k P)
  | _ => none

theorem pureRun_run {α : Type} {P : Program} {s : Sem α} {a : α} (h : pureRun P s = some a) (w : World) : s.run P w = .ok a w := by
  induction s with
  | pure b => simp only [pureRun,Option.some.injEq] at h; subst h; rfl
  | program k ih => simp only [pureRun] at h; simp only [Sem.run]; exact ih P h
  | _ => simp [pureRun] at h

def freeze1 (o : List O) : V → Option (V × List O)
  | .ar l v => match o[l]? with
    | some (.arr v' wr k xs) => if v' = v ∧ xs.all V.free = true then some (.sl k false xs,o.set l (.arr v false k xs)) else none
    | _ => none
  | x => if x.free1 then some (x,o) else none
def freezes (o : List O) : List V → Option (List V × List O)
  | [] => some ([],o)
  | x :: xs => do
    let (y,o1) ← freeze1 o x
    let (ys,o2) ← freezes o1 xs
    pure (y :: ys,o2)
def freeze (o : List O) : V → Option (V × List O)
  | .agg cs => (freezes o cs).map fun (ys,o1) => (.agg ys,o1)
  | x => freeze1 o x

def rowOf (o : List O) : V → Option (List V)
  | .sl _ _ xs => some xs
  | .ar l v => match o[l]? with
    | some (.arr v' _ _ xs) => if v' = v then some xs else none
    | _ => none
  | .vw l v a n => match o[l]? with
    | some (.arr v' _ _ xs) => if v' = v then some ((xs.drop a).take n) else none
    | _ => none
  | .sc (.slice none 0 0) => some []
  | _ => none

def intOf : V → Option Int
  | .sc (.int _ n) => some n
  | _ => none

def part (ag : Bool) (n : Nat) (cs : List V) (off : Nat) : Option V :=
  if ag then (if off + n ≤ cs.length then some (.agg ((cs.drop off).take n)) else none) else cs[off]?

def putCells (cs : List V) (off : Nat) : List V → List V
  | [] => cs
  | y :: ys => putCells (cs.set off y) (off + 1) ys

def fillC : List V → List (Nat × Nat × V) → Option (List V)
  | cs,[] => some cs
  | cs,(off,n,x) :: ps => if x.cells.length = n ∧ off + n ≤ cs.length then fillC (putCells cs off x.cells) ps else none

def iop (op : BinOp) (k : IntKind) (a b : Int) : Option Value :=
  match op with
  | .add => some (.int k (k.wrap (a + b)))
  | .sub => some (.int k (k.wrap (a - b)))
  | .mul => some (.int k (k.wrap (a * b)))
  | .quo => if b = 0 then none else some (.int k (k.wrap (a.tdiv b)))
  | .rem => if b = 0 then none else some (.int k (a.tmod b))
  | .eql => some (.bool (decide (a = b)))
  | .neq => some (.bool (!decide (a = b)))
  | .lss => some (.bool (decide (a < b)))
  | .leq => some (.bool (decide (a ≤ b)))
  | .gtr => some (.bool (decide (b < a)))
  | .geq => some (.bool (decide (b ≤ a)))
  | _ => none
def sop (op : BinOp) (a b : ByteArray) : Option Value :=
  match op with
  | .add => if ((a.size + b.size : Nat) : Int) > IntKind.i64.max then none else some (.string (a ++ b))
  | .eql => some (.bool (a.toList == b.toList))
  | .neq => some (.bool !(a.toList == b.toList))
  | .lss => some (.bool (Op.bytesLess a.toList b.toList))
  | .leq => some (.bool (Op.bytesLess a.toList b.toList || a.toList == b.toList))
  | .gtr => some (.bool !(Op.bytesLess a.toList b.toList || a.toList == b.toList))
  | .geq => some (.bool !(Op.bytesLess a.toList b.toList))
  | _ => none

def room : Nat := 140737488355328

inductive K where
  | sca (o : Oper)
  | mv (x : E)
  | pick (c x y : E)
  | box (x : E)
  | alloc (z : V)
  | bld (zs : List V) (ps : List (Nat × Nat × E))
  | bsl (k len : Nat) (z : List V) (ps : List (Nat × E))
  | bsa (k len : Nat) (z : List V) (ps : List (Nat × E))
  | mks (x : E)
  | load (x : E) (ag : Bool) (n : Nat)
  | store (x y : E) (n : Nat)
  | nilck (x : E)
  | cmpnil (kind : Nat) (neg : Bool) (x : E)
  | fad (x : E) (off : Nat)
  | fld (x : E) (off n : Nat) (ag : Bool)
  | iad (x i : E) (k : Nat)
  | slc (x : E) (lo hi mx : Option E) (k : Nat)
  | aia (x i : E) (k n : Nat)
  | bad
  | len (x : E)
  | app (x y : E) (k bytes : Nat)
  | apz (x n : E) (k bytes : Nat) (z : V)
  | msl (n c : E) (k bytes : Nat) (z : V)
  | s2b (x : E)
  | b2s (x : E)
  | mkf (f : Fn) (as bs : List E)
  | ext (x : E) (i : Nat)
  | call (f : E) (xs : List E)
  | bin (op : BinOp) (x y : E)
  | beq (n : Bool) (x y : E)
  | noT (x : E)
  | neg (x : E)
  | cvi (k : IntKind) (x : E)
  | slen (x : E)
  | sidx (x i : E)
  | ssl (x : E) (lo hi : Option E)
  | mm (mx : Bool) (x y : E)
  | srng (x : E)
  | idxb (x y : E)
  | snxt (x : E)

def scEnv (s : St) (x : Operand) : Option Value := (trE x).bind fun e => toVal (e.ev s)

def elems (k : Nat) : List V → Nat → List V → List V   -- 'len' elements of k cells,the first ones given
  | _,0,_ => []
  | z,n + 1,[] => (if k = 1 then z.getD 0 .dead else .agg z) :: elems k z n []
  | z,n + 1,x :: xs => x :: elems k z n xs

def bytesV (s : ByteArray) : List V := s.data.toList.map fun b => .sc (.int .u8 b.toNat)
def bytesOf : List V → Option (List UInt8)
  | [] => some []
  | .sc (.int .u8 n) :: xs => (bytesOf xs).map (UInt8.ofNat n.toNat :: ·)
  | _ => none

def bound (s : St) (n : Nat) : Option E → Option Nat
  | none => some n
  | some e => match intOf (e.ev s) with
    | some i => if 0 ≤ i ∧ i ≤ (n : Int) then some i.toNat else none
    | none => none

def viewOf (s : St) (k l v a n : Nat) (lo hi mx : Option E) : Option V := do
  let h ← bound s n hi
  let l0 ← bound s h (some (lo.getD (.lit (.sc (.int .i64 0)))))
  match mx with
  | none => pure (.vw l v (a + l0) (h - l0))
  | some m => do
    let m' ← bound s n (some m)
    if hi.isSome = true ∧ h ≤ m' then pure (if m' = l0 then .sl k true [] else .vw l v (a + l0) (h - l0)) else none

def step (P : Program) (s : St) : K → Option (V × List O)
  | .sca o => if (o.op.operands.toList.all fun x => (scEnv s x).isSome) = true then
      match pureRun P (execOp (fun x => (scEnv s x).getD undef) o) with
      | some (.value v) => (ofVal v).map fun x => (x,s.o)
      | _ => none
    else none
  | .mv x => some (x.ev s,s.o)
  | .pick c x y => match c.ev s with
    | .sc (.bool true) => some (x.ev s,s.o)
    | .sc (.bool false) => some (y.ev s,s.o)
    | _ => none
  | .box x => if (x.ev s).solid = true then some (.pt s.o.length 0,s.o ++ [O.cells (x.ev s).cells]) else none
  | .alloc z => if z.solid = true then some (.pt s.o.length 0,s.o ++ [O.cells z.cells]) else none
  | .bld zs ps => if (ps.all fun (_,_,e) => (e.ev s).solid) = true then (fillC zs (ps.map fun (off,n,e) => (off,n,e.ev s))).map fun cs => (.agg cs,s.o) else none
  | .bsl k len z ps => do
      let (xs,o1) ← freezes' s.o (ps.map fun (_,e) => e.ev s)
      if (ps.map (·.1) = List.range ps.length ∧ ps.length ≤ len ∧ z.length = k ∧ len * k ≤ 16777216 ∧ 0 < k) ∧ (xs.all fun x => decide (x.cells.length = k)) = true ∧ z.all V.free1 = true then
        pure (.sl k true (elems k z len xs),o1)
      else none
  | .bsa k len z ps =>
      if (ps.map (·.1) = List.range ps.length ∧ ps.length ≤ len ∧ z.length = k ∧ len * k ≤ 16777216 ∧ 0 < k) ∧ ((ps.all fun (_,e) => (e.ev s).free && decide ((e.ev s).cells.length = k)) || (ps.all fun (_,e) => (e.ev s).solid && decide ((e.ev s).cells.length = k))) = true ∧ z.all V.free1 = true then
        some (.ar s.o.length 0,s.o ++ [O.arr 0 true k (elems k z len (ps.map fun (_,e) => e.ev s))])
      else none
  | .mks x => match x.ev s with
    | .ar l v => match s.o[l]? with
      | some (.arr v' true k xs) => if v' = v then some (.ar l v,s.o) else none
      | _ => none
    | _ => none
  | .load x ag n => match x.ev s with
    | .pt l off => match s.o[l]? with
      | some (.cells cs) => (part ag n cs off).map fun y => (y,s.o)
      | _ => none
    | .pa l v i off => match s.o[l]? with
      | some (.arr v' _ _ xs) => if v' = v then (xs[i]?).bind fun x => (part ag n x.cells off).map fun y => (y,s.o) else none
      | _ => none
    | .ep cs => (part ag n cs 0).map fun y => (y,s.o)
    | _ => none
  | .store x y n => if (y.ev s).cells.length = n ∧ (y.ev s).solid = true then match x.ev s with
    | .pt l off => match s.o[l]? with
      | some (.cells cs) => if off + n ≤ cs.length then some (.dead,s.o.set l (O.cells (putCells cs off (y.ev s).cells))) else none
      | _ => none
    | .pa l v i off => match s.o[l]? with
      | some (.arr v' true k xs) => if v' = v then (xs[i]?).bind fun x =>
          if off + n ≤ x.cells.length then some (.dead,s.o.set l (O.arr v true k (xs.set i (if off = 0 ∧ n = k then y.ev s else .agg (putCells x.cells off (y.ev s).cells))))) else none
        else none
      | _ => none
    | _ => none else none
  | .nilck x => match x.ev s with
    | .pt l off => some (.pt l off,s.o)
    | .pa l v i off => match s.o[l]? with
      | some (.arr v' _ _ _) => if v' = v then some (.pa l v i off,s.o) else none
      | _ => none
    | .ep cs => some (.ep cs,s.o)
    | .fn (.func f) as bs => some (.fn (.func f) as bs,s.o)
    | .fn (.yield f) as bs => some (.fn (.yield f) as bs,s.o)
    | _ => none
  | .cmpnil kind neg x => match kind,x.ev s with
    | 0,.sl .. | 0,.ar .. | 0,.vw .. | 1,.pt .. | 2,.fn .. => some (.sc (.bool neg),s.o)
    | 0,.sc (.slice none 0 0) | 1,.sc (.pointer none) | 2,.sc .nilFunc => some (.sc (.bool !neg),s.o)
    | _,_ => none
  | .fad x off => match x.ev s with
    | .pt l a => some (.pt l (a + off),s.o)
    | .pa l v i a => match s.o[l]? with
      | some (.arr v' _ _ _) => if v' = v then some (.pa l v i (a + off),s.o) else none
      | _ => none
    | .ep cs => if off ≤ cs.length then some (.ep (cs.drop off),s.o) else none
    | _ => none
  | .fld x off n ag => match x.ev s with
    | .agg cs => (part ag n cs off).map fun y => (y,s.o)
    | _ => none
  | .iad x i k => (intOf (i.ev s)).bind fun i => if 0 ≤ i then match x.ev s with
    | .sl k' _ xs => if k' = k then (xs[i.toNat]?).map fun x => (.ep x.cells,s.o) else none
    | .ar l v => match s.o[l]? with
      | some (.arr v' _ k' xs) => if v' = v ∧ k' = k ∧ i < xs.length then some (.pa l v i.toNat 0,s.o) else none
      | _ => none
    | .vw l v a n => match s.o[l]? with
      | some (.arr v' _ k' xs) => if v' = v ∧ k' = k ∧ i < n then some (.pa l v (a + i.toNat) 0,s.o) else none
      | _ => none
    | _ => none else none
  | .aia x i k n => (intOf (i.ev s)).bind fun i => if 0 ≤ i ∧ i < n then match x.ev s with
    | .pt l off => some (.pt l (off + i.toNat * k),s.o)
    | _ => none else none
  | .bad => none
  | .slc x lo hi mx k0 => match freeze1 s.o (x.ev s) with
    | some (y,o1) => (match y with
      | .sl k full xs => if k ≠ k0 then none else do
        let h ← bound s xs.length hi
        let l ← bound s h (some (lo.getD (.lit (.sc (.int .i64 0)))))
        match mx with
        | none => pure (.sl k (full && h = xs.length) ((xs.take h).drop l),o1)
        | some m => do
          let m' ← bound s xs.length (some m)
          if hi.isSome = true ∧ h ≤ m' then pure (.sl k (decide (h = m')) ((xs.take h).drop l),o1) else none
      | .sc (.slice none 0 0) => do
        let h ← bound s 0 hi
        let l ← bound s h (some (lo.getD (.lit (.sc (.int .i64 0)))))
        let m ← bound s 0 mx
        if mx.isSome = true → hi.isSome = true then pure (.sc (.slice none 0 0),o1) else none
      | _ => none)
    | none => (match x.ev s with
      | .ar l v => match s.o[l]? with
        | some (.arr v' _ k xs) => if v' = v ∧ k = k0 then (viewOf s k l v 0 xs.length lo hi mx).map fun y => (y,s.o) else none
        | _ => none
      | .vw l v a n => match s.o[l]? with
        | some (.arr v' _ k xs) => if v' = v ∧ k = k0 then (viewOf s k l v a n lo hi mx).map fun y => (y,s.o) else none
        | _ => none
      | _ => none)
  | .len x => (rowOf s.o (x.ev s)).map fun xs => (.sc (.int .i64 xs.length),s.o)
  | .app x y k bytes => ((rowOf s.o (y.ev s)).bind fun ys => if (ys.all fun y => y.free && decide (y.cells.length = k)) = true then some ys else if (ys.all fun y => y.solid && decide (y.cells.length = k)) = true then some ys else none).bind fun ys =>
    if ys = [] then (match x.ev s with
      | .sl k' f xs => if k' = k then some (.sl k' f xs,s.o) else none
      | .ar l v => (rowOf s.o (.ar l v)).map fun _ => (.ar l v,s.o)
      | .sc (.slice none 0 0) => some (.sc (.slice none 0 0),s.o)
      | _ => none)
    else match x.ev s with
      | .sc (.slice none 0 0) => if ys.length * bytes ≤ room then some (.ar s.o.length 0,s.o ++ [O.arr 0 true k ys]) else none
      | .sl k' true xs => if k' = k ∧ (xs.length + ys.length) * bytes ≤ room then some (.ar s.o.length 0,s.o ++ [O.arr 0 true k (xs ++ ys)]) else none
      | .ar l v => match s.o[l]? with
        | some (.arr v' wr k' xs) => if v' = v ∧ k' = k ∧ (xs.length + ys.length) * bytes ≤ room then some (.ar l (v + 1),s.o.set l (O.arr (v + 1) wr k (xs ++ ys))) else none
        | _ => none
      | _ => none
  | .apz x n k bytes z => (intOf (n.ev s)).bind fun n => if 0 ≤ n ∧ z.free = true ∧ z.cells.length = k then
      (if n.toNat = 0 then (match x.ev s with
        | .sl k' f xs => if k' = k then some (.sl k' f xs,s.o) else none
        | .ar l v => (rowOf s.o (.ar l v)).map fun _ => (.ar l v,s.o)
        | .sc (.slice none 0 0) => some (.sc (.slice none 0 0),s.o)
        | _ => none)
      else match x.ev s with
        | .sc (.slice none 0 0) => if n.toNat * bytes ≤ room then some (.ar s.o.length 0,s.o ++ [O.arr 0 true k (List.replicate n.toNat z)]) else none
        | .sl k' true xs => if k' = k ∧ (xs.length + n.toNat) * bytes ≤ room then some (.ar s.o.length 0,s.o ++ [O.arr 0 true k (xs ++ List.replicate n.toNat z)]) else none
        | .ar l v => match s.o[l]? with
          | some (.arr v' wr k' xs) => if v' = v ∧ k' = k ∧ (xs.length + n.toNat) * bytes ≤ room then some (.ar l (v + 1),s.o.set l (O.arr (v + 1) wr k (xs ++ List.replicate n.toNat z))) else none
          | _ => none
        | _ => none) else none
  | .msl n c k bytes z => (intOf (n.ev s)).bind fun n => (intOf (c.ev s)).bind fun c =>
      if 0 ≤ n ∧ n ≤ c ∧ c * bytes ≤ room ∧ z.cells.length = k ∧ z.solid = true ∧ 0 < k ∧ 0 < bytes then some (.ar s.o.length 0,s.o ++ [O.arr 0 true k (List.replicate n.toNat z)]) else none
  | .s2b x => match x.ev s with
    | .sc (.string b) => if b.size ≤ room then some (.ar s.o.length 0,s.o ++ [O.arr 0 true 1 (bytesV b)]) else none
    | _ => none
  | .b2s x => (rowOf s.o (x.ev s)).bind fun xs => (bytesOf xs).map fun bs => (.sc (.string ⟨bs.toArray⟩),s.o)
  | .mkf f as bs => some (.fn f (as.map (·.ev s)) (bs.map (·.ev s)),s.o)
  | .ext x i => match x.ev s with
    | .tup xs => (xs[i]?).map fun y => (y,s.o)
    | _ => none
  | .call .. => none
  | .bin op x y => match x.ev s,y.ev s with
    | .sc (.int k a),.sc (.int k' b) => if k = k' then (iop op k a b).map fun v => (.sc v,s.o) else none
    | .sc (.string a),.sc (.string b) => (sop op a b).map fun v => (.sc v,s.o)
    | _,_ => none
  | .beq n x y => match x.ev s,y.ev s with
    | .sc (.bool a),.sc (.bool b) => some (.sc (.bool (if n = true then !(a == b) else (a == b))),s.o)
    | _,_ => none
  | .noT x => match x.ev s with
    | .sc (.bool b) => some (.sc (.bool !b),s.o)
    | _ => none
  | .neg x => match x.ev s with
    | .sc (.int k n) => some (.sc (.int k (k.wrap (0 - n))),s.o)
    | _ => none
  | .cvi k x => match x.ev s with
    | .sc (.int _ n) => some (.sc (.int k (k.wrap n)),s.o)
    | _ => none
  | .slen x => match x.ev s with
    | .sc (.string b) => some (.sc (.int .i64 b.size),s.o)
    | _ => none
  | .ssl x lo hi => match x.ev s with
    | .sc (.string b) => (bound s b.size hi).bind fun h => (bound s h (some (lo.getD (.lit (.sc (.int .i64 0)))))).map fun l => (.sc (.string (b.extract l h)),s.o)
    | _ => none
  | .sidx x i => match x.ev s,i.ev s with
    | .sc (.string b),.sc (.int _ n) => if 0 ≤ n then (b[n.toNat]?).map fun c => (.sc (.int .u8 c.toNat),s.o) else none
    | _,_ => none
  | .mm mx x y => match x.ev s,y.ev s with
    | .sc (.int k a),.sc (.int _ b) => some (.sc (.int k (if mx then (if b > a then b else a) else (if b < a then b else a))),s.o)
    | _,_ => none
  | .srng x => match x.ev s with
    | .sc (.string b) => some (.it s.o.length,s.o ++ [O.dfd (.it b 0)])
    | _ => none
  | .idxb x y => match x.ev s,y.ev s with
    | .sc (.string b),.sc (.int .u8 c) => some (.sc (.int .i64 (Lib.indexByte b.data.toList c.toNat.toUInt8)),s.o)
    | _,_ => none
  | .snxt x => match x.ev s with
    | .it l => match s.o[l]? with
      | some (.dfd (.it b p)) => if p < b.size then
          some (.tup [.sc (.bool true),.sc (.int .i64 p),.sc (.int .i32 (Utf8.decode b p).1)],s.o.set l (O.dfd (.it b (p + (Utf8.decode b p).2))))
        else some (.tup [.sc (.bool false)],s.o)
      | _ => none
    | _ => none
where
  freezes' (o : List O) : List V → Option (List V × List O)
    | [] => some ([],o)
    | x :: xs => do
      let (y,o1) ← freeze o x
      let (ys,o2) ← freezes' o1 xs
      pure (y :: ys,o2)
end Go.Proofs.Pe
end

section
set_option linter.unusedVariables false
namespace Go.Proofs.Pe

/-! ### The store and the machine's memory -/
def O.live : O → Bool
  | .dead => false
  | _ => true

def FrB (n lo hi : Nat) : Prop := n ≤ lo ∨ lo = hi
theorem FrB.all {n lo hi : Nat} (h : FrB n lo hi) (i : Nat) (hi' : i < n) : ¬(lo ≤ i ∧ i < hi) := by
  unfold FrB at h; omega

structure InvC (h : Array Obj) (g : G) (o : List O) : Prop where
  cells : ∀ (l : Nat) (cs : List V),o[l]? = some (.cells cs) → ∃ us ty,h[g.blk l]? = some (.cells us ty (0,0)) ∧ g.com (g.blk l) = 0 ∧ Reps h g o cs us.toList
  arr : ∀ (l v : Nat) (wr : Bool) (k : Nat) (xs : List V),o[l]? = some (.arr v wr k xs) → ∃ us ty lo hi,h[g.blk l]? = some (.cells us ty (lo,hi)) ∧ FrB us.size lo hi ∧
    xs.length ≤ g.cap l ∧ g.cap l * k ≤ us.size ∧ g.com (g.blk l) = (if wr then 0 else xs.length * k) ∧ 0 < k ∧ (∀ x,x ∈ xs → x.cells.length = k) ∧
    ∀ (i : Nat) (x : V),xs[i]? = some x → ∀ (j : Nat) (y : V),x.cells[j]? = some y → ∀ u,us[i * k + j]? = some u → Rep h g o y u
  loop : ∀ (l : Nat) st pend ts ps assign body dl,o[l]? = some (.loop st pend ts ps assign body dl) →
    ∃ (fn : FuncId) (us : Array Value),h[g.blk l]? = some (.loop { state := st,pending := pend,fn,tmps := us,params := ps,assign,body,defers := g.blk dl }) ∧ Reps h g o ts us.toList ∧ ∃ shut,o[dl]? = some (.dfd (.sh shut))
  dfd : ∀ (l : Nat) (d : D),o[l]? = some (.dfd d) → h[g.blk l]? = some d.obj
  inj : ∀ (l l' : Nat) (ob ob' : O),o[l]? = some ob → o[l']? = some ob' → ob.live = true → ob'.live = true → g.blk l = g.blk l' → l = l'
  fresh : ∀ b,h.size ≤ b → g.com b = 0

def TabOk (h : Array Obj) (g : G) (o : List O) : Prop := TBP (fun b => h[b]?) ∧ ∀ (l : Nat) (ob : O),o[l]? = some ob → ob.live = true → TBB (g.blk l) = false
structure Inv (h : Array Obj) (g : G) (o : List O) : Prop extends InvC h g o where
  tab : TabOk h g o

theorem Inv.lt {h : Array Obj} {g : G} {o : List O} (I : Inv h g o) {l : Nat} {ob : O} (hl : o[l]? = some ob) (hv : ob.live = true) : g.blk l < h.size := by
  have key : ∀ x,h[g.blk l]? = some x → g.blk l < h.size := fun x hx => (Array.getElem?_eq_some_iff.1 hx).1
  cases ob with
  | cells cs => obtain ⟨us,ty,hb,_⟩ := I.cells l cs hl; exact key _ hb
  | arr v wr k xs => obtain ⟨us,ty,lo,hi,hb,_⟩ := I.arr l v wr k xs hl; exact key _ hb
  | loop st pend ts ps assign body dl => obtain ⟨fn,us,hb,_,_⟩ := I.loop l st pend ts ps assign body dl hl; exact key _ hb
  | dfd shut => exact key _ (I.dfd l shut hl)
  | dead => cases hv

structure Tr (w : World) (g : G) (o : List O) (w' : World) (g' : G) (o' : List O) : Prop where
  ev : Ev w.heap g o w'.heap g' o'
  os : w'.os = w.os
  tape : w'.tape = w.tape
  output : w'.output = w.output
  keep : ∀ b,b < w.heap.size → (∀ (l : Nat) (ob : O),o[l]? = some ob → ob.live = true → g.blk l ≠ b) → w'.heap[b]? = w.heap[b]? ∧ g'.com b = g.com b
  own : ∀ (l : Nat) (ob : O),o'[l]? = some ob → ob.live = true → g'.blk l < w.heap.size → ∃ l0 ob0,o[l0]? = some ob0 ∧ ob0.live = true ∧ g.blk l0 = g'.blk l

theorem tab_tr {w w' : World} {g g' : G} {o o' : List O} (I : Inv w.heap g o) (T : Tr w g o w' g' o') : TabOk w'.heap g' o' := by
  obtain ⟨h1,h2⟩ := I.tab
  have hlt : ∀ b,TBB b = true → b < w.heap.size := fun b hb => TBP_lt h1 hb
  refine ⟨TBP_loc (fun b hb => ?_) h1,fun l ob hl hv => ?_⟩
  · exact (T.keep b (hlt b hb) fun l ob hl hv e => by
      have := h2 l ob hl hv
      rw [e,hb] at this; cases this).1
  · cases hb : TBB (g'.blk l) with
    | false => rfl
    | true =>
      obtain ⟨l0,ob0,q1,q2,q3⟩ := T.own l ob hl hv (hlt _ hb)
      have := h2 l0 ob0 q1 q2
      rw [q3,hb] at this; cases this
theorem withTab {w w' : World} {g g' : G} {o o' : List O} (I : Inv w.heap g o) (h : Tr w g o w' g' o' ∧ InvC w'.heap g' o') : Tr w g o w' g' o' ∧ Inv w'.heap g' o' := ⟨h.1,⟨h.2,tab_tr I h.1⟩⟩

theorem Tr.refl (w : World) (g : G) (o : List O) : Tr w g o w g o :=
  ⟨Ev.refl _ _ _,rfl,rfl,rfl,fun _ _ _ => ⟨rfl,rfl⟩,fun l ob h hv _ => ⟨l,ob,h,hv,rfl⟩⟩

theorem Tr.trans {w w1 w2 : World} {g g1 g2 : G} {o o1 o2 : List O} (a : Tr w g o w1 g1 o1) (b : Tr w1 g1 o1 w2 g2 o2) : Tr w g o w2 g2 o2 where
  ev := a.ev.trans b.ev
  os := b.os.trans a.os
  tape := b.tape.trans a.tape
  output := b.output.trans a.output
  keep := fun x hx hn => by
    obtain ⟨h1,c1⟩ := a.keep x hx hn
    obtain ⟨h2,c2⟩ := b.keep x (Nat.lt_of_lt_of_le hx a.ev.size) fun l ob hl hv e => by
      obtain ⟨l0,ob0,h0,v0,e0⟩ := a.own l ob hl hv (by omega)
      exact hn l0 ob0 h0 v0 (by omega)
    exact ⟨h2.trans h1,c2.trans c1⟩
  own := fun l ob hl hv hlt => by
    obtain ⟨l1,ob1,h1,v1,e1⟩ := b.own l ob hl hv (Nat.lt_of_lt_of_le hlt a.ev.size)
    obtain ⟨l0,ob0,h0,v0,e0⟩ := a.own l1 ob1 h1 v1 (by omega)
    exact ⟨l0,ob0,h0,v0,by omega⟩

theorem Tr.drawn (w : World) (g : G) (o : List O) (n : Nat) : Tr w g o { w with drawn := n } g o :=
  ⟨Ev.refl _ _ _,rfl,rfl,rfl,fun _ _ _ => ⟨rfl,rfl⟩,fun l ob h hv _ => ⟨l,ob,h,hv,rfl⟩⟩

def G.at (g : G) (l b c : Nat) : G := { g with blk := fun l' => if l' = l then b else g.blk l',cap := fun l' => if l' = l then c else g.cap l' }
def G.commit (g : G) (b n : Nat) : G := { g with com := fun b' => if b' = b then n else g.com b' }
@[simp] theorem G.at_com (g : G) (l b c : Nat) : (g.at l b c).com = g.com := rfl
@[simp] theorem G.at_blk (g : G) (l b c : Nat) : (g.at l b c).blk l = b := by simp [G.at]
@[simp] theorem G.at_cap (g : G) (l b c : Nat) : (g.at l b c).cap l = c := by simp [G.at]
theorem G.at_blk_ne (g : G) (l b c l' : Nat) (h : l' ≠ l) : (g.at l b c).blk l' = g.blk l' := by simp [G.at,h]
theorem G.at_cap_ne (g : G) (l b c l' : Nat) (h : l' ≠ l) : (g.at l b c).cap l' = g.cap l' := by simp [G.at,h]
@[simp] theorem G.commit_blk (g : G) (b n : Nat) : (g.commit b n).blk = g.blk := rfl
@[simp] theorem G.commit_cap (g : G) (b n : Nat) : (g.commit b n).cap = g.cap := rfl

theorem getElem?_snoc_lt {α : Type} {xs : List α} {x : α} {i : Nat} (h : i < xs.length) : (xs ++ [x])[i]? = xs[i]? := List.getElem?_append_left h
theorem getElem?_snoc_inv {α : Type} {xs : List α} {x y : α} {i : Nat} (h : (xs ++ [x])[i]? = some y) : (i < xs.length ∧ xs[i]? = some y) ∨ (i = xs.length ∧ x = y) := by
  rcases Nat.lt_trichotomy i xs.length with h1 | h1 | h1
  · rw [getElem?_snoc_lt h1] at h; exact .inl ⟨h1,h⟩
  · subst h1; simp at h; exact .inr ⟨rfl,h⟩
  · rw [List.getElem?_eq_none (by simp; omega)] at h; cases h

theorem push_old {h : Array Obj} {x : Obj} {b : Nat} (hb : b < h.size) : (h.push x)[b]? = h[b]? := by rw [Array.getElem?_push,if_neg (by omega)]
theorem some_lt {h : Array Obj} {b : Nat} {x : Obj} (hb : h[b]? = some x) : b < h.size := (Array.getElem?_eq_some_iff.1 hb).1

theorem ev_push {h : Array Obj} {g : G} {o : List O} (I : Inv h g o) (x : Obj) (ob : O) (c : Nat) : Ev h g o (h.push x) (g.at o.length h.size c) (o ++ [ob]) where
  size := by simp
  com := fun _ => Nat.le_refl _
  cell := fun b cs ty fr hb => ⟨cs,fr,by rw [push_old (some_lt hb)]; exact hb,rfl,fun _ _ => rfl⟩
  len := by simp
  blk := fun l cs hl => by
    have hlt : l < o.length := (List.getElem?_eq_some_iff.1 hl).1
    exact ⟨G.at_blk_ne _ _ _ _ _ (by omega),cs,by rw [getElem?_snoc_lt hlt]; exact hl⟩
  fix := fun l ob' hl hn => by
    have hlt : l < o.length := (List.getElem?_eq_some_iff.1 hl).1
    exact ⟨G.at_blk_ne _ _ _ _ _ (by omega),ob',by rw [getElem?_snoc_lt hlt]; exact hl,hn⟩
  arr := fun l v wr k xs hlt hl => by
    rw [getElem?_snoc_lt hlt] at hl
    exact ⟨v,wr,xs,hl,Nat.le_refl _,fun _ => ⟨rfl,G.at_blk_ne _ _ _ _ _ (by omega),G.at_cap_ne _ _ _ _ _ (by omega)⟩⟩

theorem Reps.ev {h h' : Array Obj} {g g' : G} {o o' : List O} (E : Ev h g o h' g' o') {xs : List V} {us : List Value} (r : Reps h g o xs us) : Reps h' g' o' xs us :=
  ⟨r.1,fun j y hy u hu => (r.2 j y hy u hu).ev E⟩

theorem tr_push {w : World} {g : G} {o : List O} (I : Inv w.heap g o) (x : Obj) (ob : O) (c : Nat) : Tr w g o (w.alloc x) (g.at o.length w.heap.size c) (o ++ [ob]) where
  ev := ev_push I x ob c
  os := rfl
  tape := rfl
  output := rfl
  keep := fun b hb _ => ⟨push_old hb,rfl⟩
  own := fun l ob' hl hv hlt => by
    rcases getElem?_snoc_inv hl with ⟨h1,h2⟩ | ⟨h1,h2⟩
    · exact ⟨l,ob',h2,hv,(G.at_blk_ne _ _ _ _ _ (by omega)).symm⟩
    · subst h1; simp at hlt

theorem inv_push {h : Array Obj} {g : G} {o : List O} (I : Inv h g o) (x : Obj) (ob : O) (c : Nat)
    (hn : ∀ cs,ob = .cells cs → ∃ us ty,x = .cells us ty (0,0) ∧ Reps (h.push x) (g.at o.length h.size c) (o ++ [ob]) cs us.toList)
    (ha : ∀ v wr k xs,ob = .arr v wr k xs → ∃ us ty lo hi,x = .cells us ty (lo,hi) ∧ FrB us.size lo hi ∧ xs.length ≤ c ∧ c * k ≤ us.size ∧ wr = true ∧ 0 < k ∧
      (∀ x,x ∈ xs → x.cells.length = k) ∧
      ∀ (i : Nat) (y : V),xs[i]? = some y → ∀ (j : Nat) (z : V),y.cells[j]? = some z → ∀ u,us[i * k + j]? = some u → Rep (h.push x) (g.at o.length h.size c) (o ++ [ob]) z u)
    (hl : ∀ st pend ts ps assign body dl,ob = .loop st pend ts ps assign body dl → ∃ (fn : FuncId) (us : Array Value),
      x = .loop { state := st,pending := pend,fn,tmps := us,params := ps,assign,body,defers := g.blk dl } ∧ Reps (h.push x) (g.at o.length h.size c) (o ++ [ob]) ts us.toList ∧ ∃ shut,o[dl]? = some (.dfd (.sh shut)))
    (hd : ∀ d,ob = .dfd d → x = D.obj d) :
    Inv (h.push x) (g.at o.length h.size c) (o ++ [ob]) where
  cells := fun l cs hl' => by
    have E := ev_push I x ob c
    rcases getElem?_snoc_inv hl' with ⟨h1,h2⟩ | ⟨h1,h2⟩
    · obtain ⟨us,ty,hb,hc,hr⟩ := I.cells l cs h2
      rw [G.at_blk_ne _ _ _ _ _ (by omega)]
      exact ⟨us,ty,by rw [push_old (some_lt hb)]; exact hb,hc,hr.ev E⟩
    · subst h1
      obtain ⟨us,ty,e,hr⟩ := hn cs h2
      exact ⟨us,ty,by rw [G.at_blk]; simp [← e],by rw [G.at_blk]; exact I.fresh _ (Nat.le_refl _),hr⟩
  arr := fun l v wr k xs hl' => by
    have E := ev_push I x ob c
    rcases getElem?_snoc_inv hl' with ⟨h1,h2⟩ | ⟨h1,h2⟩
    · obtain ⟨us,ty,lo,hi,hb,hf,h3,h4,h5,h6,h7,h8⟩ := I.arr l v wr k xs h2
      rw [G.at_blk_ne _ _ _ _ _ (by omega),G.at_cap_ne _ _ _ _ _ (by omega)]
      exact ⟨us,ty,lo,hi,by rw [push_old (some_lt hb)]; exact hb,hf,h3,h4,h5,h6,h7,fun i y hy j z hz u hu => (h8 i y hy j z hz u hu).ev E⟩
    · subst h1
      obtain ⟨us,ty,lo,hi,e,hf,h3,h4,h5,h6,h7,h8⟩ := ha v wr k xs h2
      refine ⟨us,ty,lo,hi,by rw [G.at_blk]; simp [← e],hf,by rw [G.at_cap]; exact h3,by rw [G.at_cap]; exact h4, ?_,h6,h7,h8⟩
      rw [G.at_blk,h5]; exact I.fresh _ (Nat.le_refl _)
  loop := fun l st pend ts ps assign body dl hl' => by
    have E := ev_push I x ob c
    rcases getElem?_snoc_inv hl' with ⟨h1,h2⟩ | ⟨h1,h2⟩
    · obtain ⟨fn,us,hb,hr,sh,hsh⟩ := I.loop l st pend ts ps assign body dl h2
      have hdl : dl < o.length := (List.getElem?_eq_some_iff.1 hsh).1
      rw [G.at_blk_ne _ _ _ _ l (by omega),G.at_blk_ne _ _ _ _ dl (by omega)]
      exact ⟨fn,us,by rw [push_old (some_lt hb)]; exact hb,hr.ev E,sh,by rw [getElem?_snoc_lt hdl]; exact hsh⟩
    · subst h1
      obtain ⟨fn,us,e,hr,sh,hsh⟩ := hl st pend ts ps assign body dl h2
      have hdl : dl < o.length := (List.getElem?_eq_some_iff.1 hsh).1
      exact ⟨fn,us,by rw [G.at_blk,G.at_blk_ne _ _ _ _ dl (by omega)]; simp [← e],hr,sh,by rw [getElem?_snoc_lt hdl]; exact hsh⟩
  dfd := fun l shut hl' => by
    rcases getElem?_snoc_inv hl' with ⟨h1,h2⟩ | ⟨h1,h2⟩
    · have hb := I.dfd l shut h2
      rw [G.at_blk_ne _ _ _ _ _ (by omega),push_old (some_lt hb)]; exact hb
    · subst h1; rw [G.at_blk,hd shut h2]; simp
  inj := fun l l' a b h1 h2 va vb e => by
    rcases getElem?_snoc_inv h1 with ⟨p1,p2⟩ | ⟨p1,p2⟩ <;> rcases getElem?_snoc_inv h2 with ⟨q1,q2⟩ | ⟨q1,q2⟩
    · rw [G.at_blk_ne _ _ _ _ _ (by omega),G.at_blk_ne _ _ _ _ _ (by omega)] at e
      exact I.inj l l' a b p2 q2 va vb e
    · subst q1; rw [G.at_blk_ne _ _ _ _ _ (by omega),G.at_blk] at e
      have := I.lt p2 va; omega
    · subst p1; rw [G.at_blk_ne _ _ _ _ l' (by omega),G.at_blk] at e
      have := I.lt q2 vb; omega
    · omega
  fresh := fun b hb => I.fresh b (by simp at hb; omega)
  tab := ⟨TBP_loc (fun b hb => push_old (TBP_lt I.tab.1 hb)) I.tab.1,fun l ob' hl' hv => by
    rcases getElem?_snoc_inv hl' with ⟨h1,h2⟩ | ⟨h1,h2⟩
    · rw [G.at_blk_ne _ _ _ _ _ (by omega)]; exact I.tab.2 l ob' h2 hv
    · subst h1
      rw [G.at_blk]
      cases hb : TBB h.size with
      | false => rfl
      | true => exact absurd (TBP_lt I.tab.1 hb) (by omega)⟩
end Go.Proofs.Pe
end

section
set_option linter.unusedVariables false
namespace Go.Proofs.Pe
variable {P : Program} {w : World} {g : G} {o : List O}

def Runs (P : Program) (m : Sem Value) (w : World) (g : G) (o : List O) (y : V) (o' : List O) : Prop :=
  ∃ r w' g',m.run P w = .ok r w' ∧ Tr w g o w' g' o' ∧ Inv w'.heap g' o' ∧ Rep w'.heap g' o' y r

theorem Runs.same {m : Sem Value} {y : V} {r : Value} (I : Inv w.heap g o) (h : m.run P w = .ok r w) (hr : Rep w.heap g o y r) : Runs P m w g o y o :=
  ⟨r,w,g,h,Tr.refl _ _ _,I,hr⟩

/-! ### Scalars -/
theorem sclist_rep {h : Array Obj} : ∀ {us : List Value} {xs : List V},sclist us = some xs → Reps h g o xs us
  | [],xs,e => by simp [sclist] at e; subst e; exact Reps.nil _ _ _
  | u :: us,xs,e => by
    simp only [sclist] at e
    split at e
    · rename_i hp
      cases hs : sclist us with
      | none => simp [hs] at e
      | some ys => simp [hs] at e; subst e; exact Reps.cons (.sc hp) (sclist_rep hs)
    · cases e
theorem ofVal_rep {h : Array Obj} {v : Value} {x : V} (e : ofVal v = some x) : Rep h g o x v := by
  unfold ofVal at e
  split at e
  · rename_i us
    cases hs : sclist us.toList with
    | none => simp [hs] at e
    | some ys =>
      simp [hs] at e; subst e
      have r := sclist_rep (g := g) (o := o) (h := h) hs
      exact .agg (by simpa using r.1) fun j y hy u hu => r.2 j y hy u (by simpa using hu)
  · split at e
    · rename_i hp; cases e; exact .sc hp
    · cases e
theorem vallist_rep {h : Array Obj} : ∀ {xs : List V} {us vs : List Value},Reps h g o xs us → vallist xs = some vs → us = vs
  | [],us,vs,r,e => by simp [vallist] at e; subst e; exact List.eq_nil_of_length_eq_zero (by simpa using r.1)
  | x :: xs,us,vs,r,e => by
    obtain ⟨u,us',rfl,hu,hr⟩ := r.tail
    cases x with
    | sc v =>
      simp only [vallist] at e
      cases hs : vallist xs with
      | none => simp [hs] at e
      | some ys =>
        simp [hs] at e; subst e
        cases hu with
        | sc hp => rw [vallist_rep hr hs]
    | _ => simp [vallist] at e
theorem toVal_rep {h : Array Obj} {x : V} {u v : Value} (r : Rep h g o x u) (e : toVal x = some v) : u = v := by
  cases r with
  | sc hp => simpa [toVal] using e
  | agg hs hx =>
    rename_i xs us
    simp only [toVal] at e
    cases hv : vallist xs with
    | none => simp [hv] at e
    | some vs =>
      simp [hv] at e; subst e
      have := vallist_rep (us := us.toList) ⟨by simpa using hs,fun j y hy u hu => hx j y hy u (by simpa using hu)⟩ hv
      rw [← this]
  | _ => simp [toVal] at e

/-! ### Operands -/
structure Ts (h : Array Obj) (g : G) (s : St) (a : Act) : Prop where
  rep : Reps h g s.o s.t a.tmps.toList

theorem getD_rep {h : Array Obj} {xs : List V} {us : Array Value} (r : Reps h g o xs us.toList) (t : Nat) : Rep h g o (xs.getD t .dead) (us.getD t undef) := by
  cases hx : xs[t]? with
  | none => rw [List.getD_eq_getElem?_getD,hx]; exact .dead
  | some x =>
    obtain ⟨u,hu,hr⟩ := r.at hx
    have e1 : xs.getD t .dead = x := by rw [List.getD_eq_getElem?_getD,hx]; rfl
    have e2 : us.getD t undef = u := by
      have : us[t]? = some u := by simpa using hu
      obtain ⟨hl,he⟩ := Array.getElem?_eq_some_iff.1 this
      simp [Array.getD,hl,he]
    rw [e1,e2]; exact hr

theorem ev_rep {h : Array Obj} {s : St} {a : Act} (T : Ts h g s a) {x : Operand} {e : E} (ht : trE x = some e) : Rep h g s.o (e.ev s) (a.eval x) := by
  cases x with
  | tmp t => simp [trE] at ht; subst ht; exact getD_rep T.rep t
  | const v =>
    simp only [trE] at ht
    cases hv : ofVal v with
    | none => simp [hv] at ht
    | some y => simp [hv] at ht; subst ht; exact ofVal_rep hv
  | func f => simp [trE] at ht; subst ht; exact .fn (by simp) rfl (by simp) rfl (by simp)
  | global k => simp [trE] at ht

/-! ### Memory: a new box -/
theorem box_ok {t : TypeId} {x : V} {u : Value} (I : Inv w.heap g o) (hx : x.solid = true) (r : Rep w.heap g o x u) : Runs P (Instr.box t u) w g o (.pt o.length 0) (o ++ [.cells x.cells]) := by
  refine ⟨.pointer (some ⟨w.heap.size,0,none⟩),w.alloc (.cells u.cells t),g.at o.length w.heap.size 0, ?_,tr_push I _ _ _, ?_, ?_⟩
  · simp [Instr.box,newVar,newRow]
  · refine inv_push I _ _ _ (fun cs e => ?_) (fun v wr k xs e => by cases e) (fun _ _ _ _ _ _ _ e => by cases e) (fun _ e => by cases e)
    cases e
    exact ⟨u.cells,t,rfl,(r.cells hx).ev (ev_push I _ _ _)⟩
  · have : (w.alloc (.cells u.cells t)).heap = w.heap.push (.cells u.cells t) := rfl
    have hp : Rep (w.alloc (.cells u.cells t)).heap (g.at o.length w.heap.size 0) (o ++ [.cells x.cells]) (.pt o.length 0) (.pointer (some ⟨(g.at o.length w.heap.size 0).blk o.length,0,none⟩)) :=
      .pt (cs := x.cells) (by simp)
    simpa using hp

theorem alloc_ok {t : TypeId} {i : TypeInfo} {x : V} {u old : Value} (I : Inv w.heap g o) (hi : P.info? t = some i) (hz : i.zero = some u) (hv : ofVal u = some x) (hx : x.solid = true) :
    Runs P (Instr.alloc t true old) w g o (.pt o.length 0) (o ++ [.cells x.cells]) := by
  obtain ⟨r,w',g',h1,h2⟩ := box_ok (P := P) (t := t) I hx (ofVal_rep (h := w.heap) (g := g) (o := o) hv)
  refine ⟨r,w',g', ?_,h2⟩
  rw [← h1]
  simp [Instr.alloc,Instr.box,zeroValue,typeInfo,hi,hz]

/-! ### Reading cells -/
theorem cell_of {w : World} {b off : Nat} {us : Array Value} {ty : TypeId} {fr : Nat × Nat} (hb : w.heap[b]? = some (.cells us ty fr)) : w.cell? ⟨b,off,none⟩ = us[off]? := by
  simp [World.cell?,hb]
theorem add_none (b off n : Nat) : (⟨b,off,none⟩ : Addr).add n = ⟨b,off + n,none⟩ := by unfold Addr.add; split <;> simp_all

theorem load_rowS {t : TypeId} {b off n : Nat} {ag : Bool} {us : Array Value} {ty : TypeId} {fr : Nat × Nat} {cs : List V} {y : V} {p : Nat}
    (hb : w.heap[b]? = some (.cells us ty fr)) (hag : (isAgg t).run P w = .ok ag w) (hn : ag = true → ∃ i,P.info? t = some i ∧ i.size = n)
    (hp : part ag n cs p = some y) (hsz : off + cs.length ≤ us.size) (hr : ∀ (j : Nat) (z : V),cs[j]? = some z → ∀ u,us[off + j]? = some u → Rep w.heap g o z u) :
    ∃ r,(loadVar t ⟨b,off + p,none⟩).run P w = .ok r w ∧ Rep w.heap g o y r := by
  cases ag with
  | false =>
    simp only [part,Bool.false_eq_true,if_false] at hp
    have hlt : p < cs.length := (List.getElem?_eq_some_iff.1 hp).1
    have hus : us[off + p]? = some us[off + p] := Array.getElem?_eq_getElem (by omega)
    refine ⟨us[off + p], ?_,hr p y hp _ hus⟩
    simp [loadVar,hag,cell_of hb,hus]
  | true =>
    obtain ⟨i,hi,hin⟩ := hn rfl
    simp only [part,if_true] at hp
    split at hp
    · rename_i hle
      cases hp
      refine ⟨.agg (us.extract (off + p) (off + p + n)), ?_,(.agg (by simp; omega) fun j z hz u hu => ?_)⟩
      · have hl : (loadCells ⟨b,off + p,none⟩ (us.extract (off + p) (off + p + n)).toList.length).run P w = .ok (us.extract (off + p) (off + p + n)).toList.toArray w := by
          refine run_loadCells_list w _ _ fun j v hv => ?_
          rw [add_none,cell_of hb]
          have hj := (List.getElem?_eq_some_iff.1 hv).1
          simp only [Array.length_toList,Array.size_extract] at hj
          rw [← hv]
          simp only [Array.getElem?_toList,Array.getElem?_extract]
          rw [if_pos (by omega)]
        have hlen : (us.extract (off + p) (off + p + n)).toList.length = n := by simp; omega
        rw [hlen,Array.toArray_toList] at hl
        simp [loadVar,hag,sizeOf,typeInfo,hi,hin,hl]
      · have hj := (List.getElem?_eq_some_iff.1 hz).1
        simp only [List.length_take,List.length_drop] at hj
        rw [List.getElem?_take_of_lt (by omega),List.getElem?_drop] at hz
        refine hr (p + j) z hz u ?_
        rw [← hu,Array.getElem?_extract,if_pos (by omega)]
        congr 1; omega
    · cases hp

theorem load_row {t : TypeId} {b off n : Nat} {ag : Bool} {us : Array Value} {ty : TypeId} {fr : Nat × Nat} {cs : List V} {y : V} {p : Nat} (I : Inv w.heap g o)
    (hb : w.heap[b]? = some (.cells us ty fr)) (hag : (isAgg t).run P w = .ok ag w) (hn : ag = true → ∃ i,P.info? t = some i ∧ i.size = n)
    (hp : part ag n cs p = some y) (hsz : off + cs.length ≤ us.size) (hr : ∀ (j : Nat) (z : V),cs[j]? = some z → ∀ u,us[off + j]? = some u → Rep w.heap g o z u) :
    Runs P (loadVar t ⟨b,off + p,none⟩) w g o y o := by
  obtain ⟨r,h1,h2⟩ := load_rowS hb hag hn hp hsz hr
  exact .same I h1 h2

theorem load_pt {t : TypeId} {l off n : Nat} {ag : Bool} {cs : List V} {y : V} {u : Value} (I : Inv w.heap g o) (hr : Rep w.heap g o (.pt l off) u) (hl : o[l]? = some (.cells cs))
    (hag : (isAgg t).run P w = .ok ag w) (hn : ag = true → ∃ i,P.info? t = some i ∧ i.size = n) (hp : part ag n cs off = some y) : Runs P (Instr.loadAt t u) w g o y o := by
  cases hr with
  | pt _ =>
    obtain ⟨us,ty,hb,_,hs,hx⟩ := I.cells l cs hl
    have := load_row (P := P) (t := t) (off := 0) (p := off) I hb hag hn hp (by simp at hs; omega) (fun j z hz u hu => hx j z hz u (by simpa using hu))
    simpa [Instr.loadAt,Instr.sureAddr,Runs] using this

theorem load_pa {t : TypeId} {l v i off n k : Nat} {wr ag : Bool} {xs : List V} {x y : V} {u : Value} (I : Inv w.heap g o) (hr : Rep w.heap g o (.pa l v i off) u) (hl : o[l]? = some (.arr v wr k xs)) (hx : xs[i]? = some x)
    (hag : (isAgg t).run P w = .ok ag w) (hn : ag = true → ∃ i,P.info? t = some i ∧ i.size = n) (hp : part ag n x.cells off = some y) : Runs P (Instr.loadAt t u) w g o y o := by
  cases hr with
  | pa _ _ ha =>
    obtain ⟨_,e⟩ := ha v wr k xs hl
    rw [e rfl]
    obtain ⟨us,ty,lo,hi,hb,_,h3,h4,_,h6,h7,h8⟩ := I.arr l v wr k xs hl
    have hlt : i < xs.length := (List.getElem?_eq_some_iff.1 hx).1
    have hk : x.cells.length = k := h7 x (List.mem_of_getElem? hx)
    have hle : (i + 1) * k ≤ g.cap l * k := Nat.mul_le_mul_right k (by omega)
    rw [Nat.succ_mul] at hle
    have := load_row (P := P) (t := t) (off := i * k) (p := off) I hb hag hn hp (by omega) (fun j z hz u hu => h8 i x hx j z hz u hu)
    simpa [Instr.loadAt,Instr.sureAddr,Runs] using this

theorem load_ep {t : TypeId} {n : Nat} {ag : Bool} {cs : List V} {y : V} {u : Value} (I : Inv w.heap g o) (hr : Rep w.heap g o (.ep cs) u)
    (hag : (isAgg t).run P w = .ok ag w) (hn : ag = true → ∃ i,P.info? t = some i ∧ i.size = n) (hp : part ag n cs 0 = some y) : Runs P (Instr.loadAt t u) w g o y o := by
  cases hr with
  | ep hc hsz hb hf hx =>
    have := load_row (P := P) (t := t) (p := 0) I hb hag hn hp hsz hx
    simpa [Instr.loadAt,Instr.sureAddr,Runs] using this

/-! ### Addresses, aggregates -/
theorem fad_pt {st : TypeId} {fs : Array Field} {f : Field} {i : TypeInfo} {l off fi : Nat} {u : Value} (I : Inv w.heap g o) (hr : Rep w.heap g o (.pt l off) u)
    (hs : P.underlying st = some (.struct fs)) (hf : fs[fi]? = some f) (hi : P.info? f.type = some i) (hz : i.size ≠ 0) : Runs P (Instr.fieldAt st u fi) w g o (.pt l (off + f.offset)) o := by
  cases hr with
  | pt hl =>
    refine .same (r := .pointer (some ⟨g.blk l,off + f.offset,none⟩)) I ?_ (.pt hl)
    simp [Instr.fieldAt,run_underlying hs,hf,Instr.sureAddr,fieldPlace,sizeOf,typeInfo,hi,hz,add_none]
theorem fad_pa {st : TypeId} {fs : Array Field} {f : Field} {i : TypeInfo} {l v j off fi : Nat} {u : Value} (I : Inv w.heap g o) (hr : Rep w.heap g o (.pa l v j off) u)
    {wr : Bool} {k : Nat} {xs : List V} (hl : o[l]? = some (.arr v wr k xs))
    (hs : P.underlying st = some (.struct fs)) (hf : fs[fi]? = some f) (hi : P.info? f.type = some i) (hz : i.size ≠ 0) : Runs P (Instr.fieldAt st u fi) w g o (.pa l v j (off + f.offset)) o := by
  cases hr with
  | pa hlt hu ha =>
    have e := (ha v wr k xs hl).2 rfl
    subst e
    refine .same (r := .pointer (some ⟨g.blk l,j * k + (off + f.offset),none⟩)) I ?_ (.pa hlt ⟨_,rfl⟩ fun v0 wr' k' xs' h => ?_)
    · simp [Instr.fieldAt,run_underlying hs,hf,Instr.sureAddr,fieldPlace,sizeOf,typeInfo,hi,hz,add_none,Nat.add_assoc]
    · rw [hl] at h; cases h; exact ⟨Nat.le_refl _,fun _ => rfl⟩
theorem fad_ep {st : TypeId} {fs : Array Field} {f : Field} {i : TypeInfo} {fi : Nat} {cs : List V} {u : Value} (I : Inv w.heap g o) (hr : Rep w.heap g o (.ep cs) u)
    (hs : P.underlying st = some (.struct fs)) (hf : fs[fi]? = some f) (hi : P.info? f.type = some i) (hz : i.size ≠ 0) (hle : f.offset ≤ cs.length) : Runs P (Instr.fieldAt st u fi) w g o (.ep (cs.drop f.offset)) o := by
  cases hr with
  | @ep _ b off us ty fr hc hsz hb hfr hx =>
    refine .same (r := .pointer (some ⟨b,off + f.offset,none⟩)) I ?_ (.ep (cs := us) (by simp; omega) (by simp; omega) hb (fun j y hy => ?_) fun j y hy u hu => ?_)
    · simp [Instr.fieldAt,run_underlying hs,hf,Instr.sureAddr,fieldPlace,sizeOf,typeInfo,hi,hz,add_none]
    · rw [List.getElem?_drop] at hy; exact hfr _ y hy
    · rw [List.getElem?_drop] at hy
      exact hx _ y hy u (by rw [← hu]; congr 1; omega)

theorem iad_sl {t e : TypeId} {i : TypeInfo} {k : Nat} {full : Bool} {xs : List V} {x : V} {u : Value} {ik : IntKind} {n : Int} (I : Inv w.heap g o) (hr : Rep w.heap g o (.sl k full xs) u)
    (ht : P.underlying t = some (.slice e)) (hi : P.info? e = some i) (hk : i.size = k) (h0 : 0 ≤ n) (hx : xs[n.toNat]? = some x) : Runs P (Instr.indexAt t u (.int ik n)) w g o (.ep x.cells) o := by
  cases hr with
  | sl0 => simp at hx
  | @sl _ _ _ b off cap us ty fr hc hsz hcap hfull hb hkk hxx =>
    have hlt : n.toNat < xs.length := (List.getElem?_eq_some_iff.1 hx).1
    have hle : (n.toNat + 1) * k ≤ xs.length * k := Nat.mul_le_mul_right k (by omega)
    rw [Nat.succ_mul] at hle
    have hl := (hkk _ x hx).1
    refine .same (r := .pointer (some ⟨b,off + n.toNat * k,none⟩)) I ?_ (.ep (cs := us) (by omega) (by omega) hb (fun j y hy => ?_) fun j y hy u hu => hxx _ x hx j y hy u hu)
    · simp [Instr.indexAt,asIntOf,run_underlying ht,sizeOf,typeInfo,hi,hk,add_none,h0,show n < (xs.length : Int) by omega]
    · have hf := (hkk _ x hx).2
      cases x with
      | agg cs => simp only [V.free,List.all_eq_true] at hf; exact hf y (List.mem_of_getElem? hy)
      | _ => simp only [V.cells] at hy; cases j with
        | zero => simp at hy; subst hy; exact hf
        | succ j => simp at hy

theorem iad_ar {t e : TypeId} {i : TypeInfo} {l v k : Nat} {wr : Bool} {xs : List V} {u : Value} {ik : IntKind} {n : Int} (I : Inv w.heap g o) (hr : Rep w.heap g o (.ar l v) u) (hl : o[l]? = some (.arr v wr k xs))
    (ht : P.underlying t = some (.slice e)) (hi : P.info? e = some i) (hk : i.size = k) (h0 : 0 ≤ n) (hn : n < xs.length) : Runs P (Instr.indexAt t u (.int ik n)) w g o (.pa l v n.toNat 0) o := by
  cases hr with
  | ar hlt hu ha =>
    have ee := (ha v wr k xs hl).2 rfl
    subst ee
    refine .same (r := .pointer (some ⟨g.blk l,n.toNat * k,none⟩)) I ?_ (.pa hlt ⟨_,rfl⟩ fun v0 wr' k' xs' h => ?_)
    · simp [Instr.indexAt,asIntOf,run_underlying ht,sizeOf,typeInfo,hi,hk,add_none,h0,hn]
    · rw [hl] at h; cases h; exact ⟨Nat.le_refl _,fun _ => rfl⟩

theorem part_ok {t : TypeId} {off n : Nat} {ag : Bool} {us : Array Value} {cs : List V} {y : V} (I : Inv w.heap g o) (hr : Rep w.heap g o (.agg cs) (.agg us))
    (hag : (isAgg t).run P w = .ok ag w) (hn : ag = true → ∃ i,P.info? t = some i ∧ i.size = n) (hp : part ag n cs off = some y) : Runs P (Go.part t us off) w g o y o := by
  cases hr with
  | agg hs hx =>
    cases ag with
    | false =>
      simp only [part,Bool.false_eq_true,if_false] at hp
      have hlt : off < cs.length := (List.getElem?_eq_some_iff.1 hp).1
      have hus : us[off]? = some us[off] := Array.getElem?_eq_getElem (by omega)
      exact .same (r := us[off]) I (by simp [Go.part,hag,hus]) (hx off y hp _ hus)
    | true =>
      obtain ⟨i,hi,hin⟩ := hn rfl
      simp only [part,if_true] at hp
      split at hp
      · rename_i hle
        cases hp
        refine .same (r := .agg (us.extract off (off + n))) I (by simp [Go.part,hag,sizeOf,typeInfo,hi,hin]) (.agg (by simp; omega) fun j z hz u hu => ?_)
        have hj := (List.getElem?_eq_some_iff.1 hz).1
        simp only [List.length_take,List.length_drop] at hj
        rw [List.getElem?_take_of_lt (by omega),List.getElem?_drop] at hz
        refine hx (off + j) z hz u ?_
        rw [← hu,Array.getElem?_extract,if_pos (by omega)]
      · cases hp

theorem fld_ok {st : TypeId} {fs : Array Field} {f : Field} {fi n : Nat} {ag : Bool} {cs : List V} {y : V} {u : Value} (I : Inv w.heap g o) (hr : Rep w.heap g o (.agg cs) u)
    (hs : P.underlying st = some (.struct fs)) (hf : fs[fi]? = some f) (hag : (isAgg f.type).run P w = .ok ag w) (hn : ag = true → ∃ i,P.info? f.type = some i ∧ i.size = n)
    (hp : part ag n cs f.offset = some y) : Runs P (Instr.field st u fi) w g o y o := by
  cases hr with
  | agg hsz hx =>
    have := part_ok (P := P) (t := f.type) I (.agg hsz hx) hag hn hp
    simpa [Runs,Instr.field,run_underlying hs,hf,asAgg] using this

theorem ext_ok {i : Nat} {xs : List V} {y : V} {u : Value} (I : Inv w.heap g o) (hr : Rep w.heap g o (.tup xs) u) (hx : xs[i]? = some y) : Runs P (Instr.extract u i) w g o y o := by
  cases hr with
  | @tup _ us hs hxx =>
    have hlt : i < xs.length := (List.getElem?_eq_some_iff.1 hx).1
    have hus : us[i]? = some us[i] := Array.getElem?_eq_getElem (by omega)
    exact .same (r := us[i]) I (by simp [Instr.extract,hus]) (hxx i y hx _ hus)

theorem row_len {x : V} {u : Value} {xs : List V} (hr : Rep w.heap g o x u) (h : rowOf o x = some xs) : ∃ a c,u = .slice a xs.length c := by
  cases hr with
  | sl => simp [rowOf] at h; subst h; exact ⟨_,_,rfl⟩
  | sl0 => simp [rowOf] at h; subst h; exact ⟨_,_,rfl⟩
  | @ar l v _ hl hu ha =>
    simp only [rowOf] at h
    split at h
    · rename_i v' wr k xs' hl'
      split at h
      · rename_i hv; subst hv; cases h; exact ⟨_,_,(ha _ _ _ _ hl').2 rfl⟩
      · cases h
    · cases h
  | @vw l v a n _ hl hu ha =>
    simp only [rowOf] at h
    split at h
    · rename_i v' wr k xs' hl'
      split at h
      · rename_i hv; subst hv; cases h
        obtain ⟨h1,b,c,h2,h3,_⟩ := (ha _ _ _ _ hl').2 rfl
        exact ⟨_,c,by rw [h3]; congr 1; simp; omega⟩
      · cases h
    · cases h
  | sc hp =>
    unfold rowOf at h
    split at h <;> simp_all
  | _ => simp [rowOf] at h

theorem iad_vw {t e : TypeId} {i : TypeInfo} {l v a m k : Nat} {wr : Bool} {xs : List V} {u : Value} {ik : IntKind} {n : Int} (I : Inv w.heap g o) (hr : Rep w.heap g o (.vw l v a m) u) (hl : o[l]? = some (.arr v wr k xs))
    (ht : P.underlying t = some (.slice e)) (hi : P.info? e = some i) (hk : i.size = k) (h0 : 0 ≤ n) (hn : n < m) : Runs P (Instr.indexAt t u (.int ik n)) w g o (.pa l v (a + n.toNat) 0) o := by
  cases hr with
  | vw hlt hu ha =>
    obtain ⟨h1,b,c,h2,ee,h3⟩ := (ha v wr k xs hl).2 rfl
    subst ee
    have h3 := h3 (by omega)
    subst h3
    refine .same (r := .pointer (some ⟨g.blk l,(a + n.toNat) * k,none⟩)) I ?_ (.pa hlt ⟨_,rfl⟩ fun v0 wr' k' xs' h => ?_)
    · simp [Instr.indexAt,asIntOf,run_underlying ht,sizeOf,typeInfo,hi,hk,add_none,h0,hn,Nat.add_mul]
    · rw [hl] at h; cases h; exact ⟨Nat.le_refl _,fun _ => rfl⟩

theorem aia_ok {t e : TypeId} {i : TypeInfo} {l off k m : Nat} {u : Value} {ik : IntKind} {n : Int} (I : Inv w.heap g o) (hr : Rep w.heap g o (.pt l off) u)
    (ht : P.underlying t = some (.array m e)) (hi : P.info? e = some i) (hk : i.size = k) (h0 : 0 ≤ n) (hn : n < m) : Runs P (Instr.indexAt t u (.int ik n)) w g o (.pt l (off + n.toNat * k)) o := by
  cases hr with
  | pt hl =>
    refine .same (r := .pointer (some ⟨g.blk l,off + n.toNat * k,none⟩)) I ?_ (.pt hl)
    simp [Instr.indexAt,asIntOf,run_underlying ht,Instr.sureAddr,sizeOf,typeInfo,hi,hk,add_none,h0,hn]

theorem len_ok {t e rt : TypeId} {x : V} {u : Value} {xs : List V} (I : Inv w.heap g o) (hr : Rep w.heap g o x u) (h : rowOf o x = some xs) (ht : P.underlying t = some (.slice e)) :
    Runs P (Builtin.len_ #[t] rt #[u]) w g o (.sc (.int .i64 xs.length)) o := by
  obtain ⟨a,c,rfl⟩ := row_len hr h
  exact .same (r := .int .i64 xs.length) I (by simp [Builtin.len_,run_underlying ht,goInt]) (.sc rfl)
end Go.Proofs.Pe
end

section
set_option linter.unusedVariables false
namespace Go.Proofs.Pe
variable {P : Program} {w : World} {g : G} {o : List O}

theorem set_get {α : Type} {xs : List α} {l : Nat} (h : l < xs.length) (x : α) (l' : Nat) : (xs.set l x)[l']? = if l' = l then some x else xs[l']? := by
  rw [List.getElem?_set]
  by_cases e : l = l'
  · subst e; simp [h]
  · rw [if_neg e,if_neg (fun h => e h.symm)]

/-! ### An array is written no more -/
theorem freeze1_tr {x y : V} {o' : List O} {w : World} (I : Inv w.heap g o) (h : freeze1 o x = some (y,o')) :
    ∃ g',Tr w g o w g' o' ∧ Inv w.heap g' o' ∧ y.free1 = true ∧ (∀ u,Rep w.heap g o x u → Rep w.heap g' o' y u) := by
  unfold freeze1 at h
  split at h
  · rename_i l v
    split at h
    · rename_i v' wr k xs hl
      split at h
      · rename_i hv
        obtain ⟨rfl,hfree⟩ := hv
        cases h
        have hlt : l < o.length := (List.getElem?_eq_some_iff.1 hl).1
        obtain ⟨us,ty,lo,hi,hb,hfr,h3,h4,h5,h6,h7,h8⟩ := I.arr l v' wr k xs hl
        have hle : xs.length * k ≤ g.cap l * k := Nat.mul_le_mul_right k h3
        have hcom : g.com (g.blk l) ≤ xs.length * k := by rw [h5]; split <;> omega
        have hset : ∀ l',(o.set l (O.arr v' false k xs))[l']? = if l' = l then some (O.arr v' false k xs) else o[l']? := set_get hlt _
        let g' := g.commit (g.blk l) (xs.length * k)
        have hcb : ∀ b,g'.com b = if b = g.blk l then xs.length * k else g.com b := fun b => rfl
        have E : Ev w.heap g o w.heap g' (o.set l (O.arr v' false k xs)) := {
          size := Nat.le_refl _
          com := fun b => by rw [hcb]; split <;> rename_i e <;> first | (subst e; exact hcom) | exact Nat.le_refl _
          cell := fun b cs ty fr hb => ⟨cs,fr,hb,rfl,fun _ _ => rfl⟩
          len := by simp
          blk := fun l' cs hl' => ⟨rfl,cs,by rw [hset]; split <;> rename_i e <;> first | (subst e; rw [hl] at hl'; cases hl') | exact hl'⟩
          fix := fun l' ob hl' hn => ⟨rfl,ob,by rw [hset,if_neg (fun e => by subst e; rw [hl] at hl'; cases hl'; exact hn _ _ _ _ rfl)]; exact hl',hn⟩
          arr := fun l' v wr k xs hlt' hl' => by
            rw [hset] at hl'
            split at hl'
            · rename_i e; subst e; cases hl'; exact ⟨_,_,_,hl,Nat.le_refl _,fun _ => ⟨rfl,rfl,rfl⟩⟩
            · exact ⟨v,wr,xs,hl',Nat.le_refl _,fun _ => ⟨rfl,rfl,rfl⟩⟩ }
        refine ⟨g',⟨E,rfl,rfl,rfl,fun b hb' hn => ⟨rfl, ?_⟩,fun l' ob hl' hv hb' => ?_⟩, ?_,rfl,fun u hr => ?_⟩
        · rw [hcb,if_neg]; intro e; exact hn l _ hl rfl e.symm
        · rw [hset] at hl'
          split at hl'
          · rename_i e; subst e; exact ⟨l',_,hl,rfl,rfl⟩
          · exact ⟨l',ob,hl',hv,rfl⟩
        · refine ⟨⟨fun l' cs hl' => ?_,fun l' v wr k0 xs0 hl' => ?_,fun l' st pend ts ps assign body dl hl' => ?_,fun l' shut hl' => ?_,fun l1 l2 a b h1 h2 va vb e => ?_,fun b hb' => ?_⟩,I.tab.1,fun l' ob hl' hv => by
            rw [hset] at hl'
            split at hl'
            · rename_i e; subst e; exact I.tab.2 _ _ hl rfl
            · exact I.tab.2 l' ob hl' hv⟩
          · rw [hset] at hl'
            split at hl'
            · cases hl'
            · rename_i e
              obtain ⟨us',ty',hb',hc',hr'⟩ := I.cells l' cs hl'
              refine ⟨us',ty',hb', ?_,hr'.ev E⟩
              show g'.com (g.blk l') = 0
              rw [hcb,if_neg (fun e' => e (I.inj l' l _ _ hl' hl rfl rfl e'))]; exact hc'
          · rw [hset] at hl'
            split at hl'
            · rename_i e; subst e; cases hl'
              refine ⟨us,ty,lo,hi,hb,hfr,h3,h4, ?_,h6,h7,fun i x hx j y hy u hu => (h8 i x hx j y hy u hu).ev E⟩
              show g'.com (g.blk l') = _
              rw [hcb,if_pos rfl]; simp
            · rename_i e
              obtain ⟨us',ty',lo',hi',hb',hfr',a3,a4,a5,a6,a7,a8⟩ := I.arr l' v wr k0 xs0 hl'
              refine ⟨us',ty',lo',hi',hb',hfr',a3,a4, ?_,a6,a7,fun i x hx j y hy u hu => (a8 i x hx j y hy u hu).ev E⟩
              show g'.com (g.blk l') = _
              rw [hcb,if_neg (fun e' => e (I.inj l' l _ _ hl' hl rfl rfl e'))]; exact a5
          · rw [hset] at hl'
            split at hl'
            · cases hl'
            · obtain ⟨fn,us',hb',hr',sh,hsh⟩ := I.loop l' st pend ts ps assign body dl hl'
              exact ⟨fn,us',hb',hr'.ev E,sh,by rw [hset,if_neg (fun e => by subst e; rw [hl] at hsh; cases hsh)]; exact hsh⟩
          · rw [hset] at hl'
            split at hl'
            · cases hl'
            · exact I.dfd l' shut hl'
          · rw [hset] at h1 h2
            have h1' : ∃ a',o[l1]? = some a' ∧ a'.live = true := by
              split at h1
              · rename_i e1; subst e1; exact ⟨_,hl,rfl⟩
              · exact ⟨a,h1,va⟩
            have h2' : ∃ b',o[l2]? = some b' ∧ b'.live = true := by
              split at h2
              · rename_i e1; subst e1; exact ⟨_,hl,rfl⟩
              · exact ⟨b,h2,vb⟩
            obtain ⟨a',ha,va'⟩ := h1'
            obtain ⟨b',hb',vb'⟩ := h2'
            exact I.inj l1 l2 a' b' ha hb' va' vb' e
          · rw [hcb,if_neg]
            · exact I.fresh b hb'
            · intro e; subst e; have := some_lt hb; omega
        · cases hr with
          | ar _ _ ha =>
            obtain ⟨_,e⟩ := ha v' wr k xs hl
            rw [e rfl]
            refine .sl (cs := us) (by rw [hcb,if_pos rfl]; omega) (by omega) h3 (fun hh => by cases hh) hb (fun i x hx => ⟨h7 x (List.mem_of_getElem? hx), ?_⟩) fun i x hx j y hy u hu => (h8 i x hx j y hy u (by simpa using hu)).ev E
            have := List.mem_of_getElem? hx
            simp only [List.all_eq_true] at hfree
            exact hfree x this
      · cases h
    · cases h
  · rename_i hx
    split at h
    · rename_i hf
      cases h
      exact ⟨g,Tr.refl _ _ _,I,hf,fun u hr => hr⟩
    · cases h

theorem freezes_tr : ∀ {xs ys : List V} {o o' : List O} {g : G} {w : World},Inv w.heap g o → freezes o xs = some (ys,o') →
    ∃ g',Tr w g o w g' o' ∧ Inv w.heap g' o' ∧ ys.all V.free1 = true ∧ (∀ us,Reps w.heap g o xs us → Reps w.heap g' o' ys us)
  | [],ys,o,o',g,w,I,h => by
    simp [freezes] at h; obtain ⟨rfl,rfl⟩ := h
    exact ⟨g,Tr.refl _ _ _,I,rfl,fun us hr => hr⟩
  | x :: xs,ys,o,o',g,w,I,h => by
    simp only [freezes,Option.bind_eq_bind,Option.bind_eq_some_iff] at h
    obtain ⟨⟨y,o1⟩,h1,⟨ys',o2⟩,h2,h3⟩ := h
    simp only [pure,Option.some.injEq,Prod.mk.injEq] at h3
    obtain ⟨rfl,rfl⟩ := h3
    obtain ⟨g1,t1,i1,f1,r1⟩ := freeze1_tr I h1
    obtain ⟨g2,t2,i2,f2,r2⟩ := freezes_tr i1 h2
    refine ⟨g2,t1.trans t2,i2,by simp only [List.all_cons,f1,f2]; rfl,fun us hr => ?_⟩
    obtain ⟨u,us',rfl,hu,hr'⟩ := hr.tail
    exact Reps.cons ((r1 u hu).ev t2.ev) (r2 us' (hr'.ev t1.ev))

theorem freeze_tr {x y : V} {o' : List O} {w : World} (I : Inv w.heap g o) (h : freeze o x = some (y,o')) :
    ∃ g',Tr w g o w g' o' ∧ Inv w.heap g' o' ∧ y.free = true ∧ (∀ u,Rep w.heap g o x u → Rep w.heap g' o' y u) := by
  unfold freeze at h
  split at h
  · rename_i cs
    simp only [Option.map_eq_some_iff] at h
    obtain ⟨⟨ys,o1⟩,h1,h2⟩ := h
    cases h2
    obtain ⟨g1,t1,i1,f1,r1⟩ := freezes_tr I h1
    refine ⟨g1,t1,i1,f1,fun u hr => ?_⟩
    cases hr with
    | @agg _ us hs hx =>
      have := r1 us.toList ⟨by simpa using hs,fun j y hy u hu => hx j y hy u (by simpa using hu)⟩
      exact .agg (by simpa using this.1) fun j y hy u hu => this.2 j y hy u (by simpa using hu)
  · obtain ⟨g1,t1,i1,f1,r1⟩ := freeze1_tr I h
    refine ⟨g1,t1,i1, ?_,r1⟩
    cases y <;> first | exact f1 | cases f1

theorem freezes'_tr : ∀ {xs ys : List V} {o o' : List O} {g : G} {w : World},Inv w.heap g o → step.freezes' o xs = some (ys,o') →
    ∃ g',Tr w g o w g' o' ∧ Inv w.heap g' o' ∧ ys.all V.free = true ∧ ys.length = xs.length ∧ (∀ us,Reps w.heap g o xs us → Reps w.heap g' o' ys us)
  | [],ys,o,o',g,w,I,h => by
    simp [step.freezes'] at h; obtain ⟨rfl,rfl⟩ := h
    exact ⟨g,Tr.refl _ _ _,I,rfl,rfl,fun us hr => hr⟩
  | x :: xs,ys,o,o',g,w,I,h => by
    simp only [step.freezes',Option.bind_eq_bind,Option.bind_eq_some_iff] at h
    obtain ⟨⟨y,o1⟩,h1,⟨ys',o2⟩,h2,h3⟩ := h
    simp only [pure,Option.some.injEq,Prod.mk.injEq] at h3
    obtain ⟨rfl,rfl⟩ := h3
    obtain ⟨g1,t1,i1,f1,r1⟩ := freeze_tr I h1
    obtain ⟨g2,t2,i2,f2,l2,r2⟩ := freezes'_tr i1 h2
    refine ⟨g2,t1.trans t2,i2,by simp only [List.all_cons,f1,f2]; rfl,by simp [l2],fun us hr => ?_⟩
    obtain ⟨u,us',rfl,hu,hr'⟩ := hr.tail
    exact Reps.cons ((r1 u hu).ev t2.ev) (r2 us' (hr'.ev t1.ev))
end Go.Proofs.Pe
end

section
set_option linter.unusedVariables false
namespace Go.Proofs.Pe
variable {P : Program} {w : World} {g : G} {o : List O}

/-! ### Writing cells -/
theorem setCells_heap (b : Nat) : ∀ (vs : List Value) (off : Nat) (w : World) (us : Array Value) (ty : TypeId) (fr : Nat × Nat),w.heap[b]? = some (.cells us ty fr) → off + vs.length ≤ us.size →
    ∃ us',(w.setCells b off vs).heap[b]? = some (.cells us' ty fr) ∧ us'.size = us.size ∧ (∀ j,us'[j]? = if off ≤ j ∧ j < off + vs.length then vs[j - off]? else us[j]?) ∧
      (∀ b',b' ≠ b → (w.setCells b off vs).heap[b']? = w.heap[b']?) ∧ (w.setCells b off vs).heap.size = w.heap.size ∧
      (w.setCells b off vs).os = w.os ∧ (w.setCells b off vs).tape = w.tape ∧ (w.setCells b off vs).output = w.output
  | [],off,w,us,ty,fr,hb,hl => ⟨us,hb,rfl,fun j => by rw [if_neg (by simp only [List.length_nil]; omega)],fun _ _ => rfl,rfl,rfl,rfl,rfl⟩
  | v :: vs,off,w,us,ty,fr,hb,hl => by
    have h1 : (w.setCell ⟨b,off,none⟩ v).heap[b]? = some (.cells (us.setIfInBounds off v) ty fr) := by
      simp [World.setCell,Array.getElem?_modify,hb]
    have ho : ∀ b',b' ≠ b → (w.setCell ⟨b,off,none⟩ v).heap[b']? = w.heap[b']? := fun b' hb' => by
      simp only [World.setCell,Array.getElem?_modify]; rw [if_neg (Ne.symm hb')]
    simp only [List.length_cons] at hl
    obtain ⟨us',a1,a2,a3,a4,a5,a6,a7,a8⟩ := setCells_heap b vs (off + 1) (w.setCell ⟨b,off,none⟩ v) _ ty fr h1 (by simp; omega)
    refine ⟨us',a1,by simpa using a2,fun j => ?_,fun b' hb' => (a4 b' hb').trans (ho b' hb'),by rw [World.setCells,a5]; simp [World.setCell],a6,a7,a8⟩
    rw [a3 j]
    by_cases e : off = j
    · subst e
      rw [if_neg (by omega),if_pos (by simp),Nat.sub_self]
      simp [show off < us.size by omega]
    · by_cases e2 : off + 1 ≤ j ∧ j < off + 1 + vs.length
      · rw [if_pos e2,if_pos (by simp; omega),show j - off = (j - (off + 1)) + 1 by omega]; simp
      · rw [if_neg e2,if_neg (by simp; omega),Array.getElem?_setIfInBounds_ne e]

theorem putCells_length (ys : List V) : ∀ (cs : List V) (off : Nat),(putCells cs off ys).length = cs.length := by
  induction ys with
  | nil => intro cs off; rfl
  | cons y ys ih => intro cs off; simp only [putCells]; rw [ih]; simp
theorem putCells_get (ys : List V) : ∀ (cs : List V) (off : Nat),off + ys.length ≤ cs.length → ∀ j,(putCells cs off ys)[j]? = if off ≤ j ∧ j < off + ys.length then ys[j - off]? else cs[j]? := by
  induction ys with
  | nil => intro cs off _ j; rw [if_neg (by simp only [List.length_nil]; omega)]; rfl
  | cons y ys ih =>
    intro cs off hl j
    simp only [List.length_cons] at hl
    simp only [putCells]
    rw [ih _ _ (by simp; omega) j]
    by_cases e : off = j
    · subst e
      rw [if_neg (by omega),if_pos (by simp),Nat.sub_self]
      simp [show off < cs.length by omega]
    · by_cases e2 : off + 1 ≤ j ∧ j < off + 1 + ys.length
      · rw [if_pos e2,if_pos (by simp; omega),show j - off = (j - (off + 1)) + 1 by omega]; simp
      · rw [if_neg e2,if_neg (by simp; omega),List.getElem?_set_ne e]

theorem solid_cells {x : V} (h : x.solid = true) : ∀ y,y ∈ x.cells → y.one = true := by
  intro y hy
  cases x with
  | agg cs => simp only [V.solid,List.all_eq_true] at h; exact h y hy
  | _ => simp only [V.cells,List.mem_singleton] at hy; subst hy; exact h
theorem one_cells {h : Array Obj} {xs : List V} {us : List Value} (hr : Reps h g o xs us) (ho : ∀ y,y ∈ xs → y.one = true) : ∀ u,u ∈ us → u.oneCell' = true := by
  intro u hu
  obtain ⟨j,hj,he⟩ := List.getElem_of_mem hu
  have hj' : j < xs.length := by rw [← hr.1]; exact hj
  have := (hr.2 j xs[j] (List.getElem?_eq_getElem hj') u (by rw [List.getElem?_eq_getElem hj,he])).oneCell (ho _ (List.getElem_mem hj'))
  cases u <;> first | rfl | (exfalso; exact this.2.1 _ rfl) | (exfalso; exact this.2.2 _ rfl)

theorem tr_cells {w' : World} {l : Nat} {ob ob' : O} {us us' : Array Value} {ty : TypeId} {fr : Nat × Nat} (I : Inv w.heap g o) (hl : o[l]? = some ob) (hv : ob.live = true) (hv' : ob'.live = true)
    (hcs : ∀ cs,ob = .cells cs → ∃ cs',ob' = .cells cs') (hna : (∀ v wr k xs,ob ≠ .arr v wr k xs) → ∀ v wr k xs,ob' ≠ .arr v wr k xs)
    (harr : ∀ v wr k xs,ob' = .arr v wr k xs → ∃ wr0 xs0,ob = .arr v wr0 k xs0 ∧ xs0.length = xs.length)
    {fr' : Nat × Nat} (hc : g.com (g.blk l) = 0) (hb : w.heap[g.blk l]? = some (.cells us ty fr)) (hb' : w'.heap[g.blk l]? = some (.cells us' ty fr')) (hz : us'.size = us.size)
    (hk : ∀ b,b ≠ g.blk l → w'.heap[b]? = w.heap[b]?) (hs : w'.heap.size = w.heap.size) (h1 : w'.os = w.os) (h2 : w'.tape = w.tape) (h3 : w'.output = w.output) :
    Tr w g o w' g (o.set l ob') := by
  have hlt : l < o.length := (List.getElem?_eq_some_iff.1 hl).1
  have hset := fun l' => set_get hlt ob' l'
  refine ⟨⟨by omega,fun _ => Nat.le_refl _,fun b cs ty0 fr0 hb0 => ?_,by simp,fun l' cs hl' => ⟨rfl, ?_⟩,fun l' ob0 hl' hn => ⟨rfl, ?_⟩,fun l' v wr k xs hlt' hl' => ?_⟩,h1,h2,h3,fun b hb0 hn => ?_,fun l' ob0 hl' hv0 _ => ?_⟩
  · by_cases e : b = g.blk l
    · subst e; rw [hb] at hb0; cases hb0
      exact ⟨us',fr',hb',hz,fun i hi => by omega⟩
    · exact ⟨cs,fr0,(hk b e).trans hb0,rfl,fun _ _ => rfl⟩
  · rw [hset]
    split
    · rename_i e; subst e; rw [hl] at hl'; cases hl'
      obtain ⟨cs',e'⟩ := hcs _ rfl
      exact ⟨cs',by rw [e']⟩
    · exact ⟨cs,hl'⟩
  · rw [hset]
    split
    · rename_i e; subst e; rw [hl] at hl'; cases hl'
      exact ⟨_,rfl,hna hn⟩
    · exact ⟨ob0,hl',hn⟩
  · rw [hset] at hl'
    split at hl'
    · rename_i e; subst e; cases hl'
      obtain ⟨wr0,xs0,e',e2⟩ := harr _ _ _ _ rfl
      subst e'
      exact ⟨v,wr0,xs0,hl,Nat.le_refl _,fun _ => ⟨e2,rfl,rfl⟩⟩
    · exact ⟨v,wr,xs,hl',Nat.le_refl _,fun _ => ⟨rfl,rfl,rfl⟩⟩
  · exact ⟨hk b fun e => hn l ob hl hv e.symm,rfl⟩
  · rw [hset] at hl'
    split at hl'
    · rename_i e; subst e; exact ⟨l',ob,hl,hv,rfl⟩
    · exact ⟨l',ob0,hl',hv0,rfl⟩

theorem inv_cells {w' : World} {l : Nat} {ob ob' : O} (I : Inv w.heap g o) (hl : o[l]? = some ob) (hv : ob.live = true) (hv' : ob'.live = true) (T : Tr w g o w' g (o.set l ob'))
    (hk : ∀ b,b ≠ g.blk l → w'.heap[b]? = w.heap[b]?) (hs : w'.heap.size = w.heap.size)
    (hcs : ∀ cs,ob' = .cells cs → ∃ us ty,w'.heap[g.blk l]? = some (.cells us ty (0,0)) ∧ g.com (g.blk l) = 0 ∧ Reps w'.heap g (o.set l ob') cs us.toList)
    (harr : ∀ v wr k xs,ob' = .arr v wr k xs → ∃ us ty lo hi,w'.heap[g.blk l]? = some (.cells us ty (lo,hi)) ∧ FrB us.size lo hi ∧
      xs.length ≤ g.cap l ∧ g.cap l * k ≤ us.size ∧ g.com (g.blk l) = (if wr then 0 else xs.length * k) ∧ 0 < k ∧ (∀ x,x ∈ xs → x.cells.length = k) ∧
      ∀ (i : Nat) (x : V),xs[i]? = some x → ∀ (j : Nat) (y : V),x.cells[j]? = some y → ∀ u,us[i * k + j]? = some u → Rep w'.heap g (o.set l ob') y u)
    (hlo : ∀ st pend ts ps assign body dl,ob' = .loop st pend ts ps assign body dl →
      ∃ (fn : FuncId) (us : Array Value),w'.heap[g.blk l]? = some (.loop { state := st,pending := pend,fn,tmps := us,params := ps,assign,body,defers := g.blk dl }) ∧ Reps w'.heap g (o.set l ob') ts us.toList ∧ ∃ shut,(o.set l ob')[dl]? = some (.dfd (.sh shut)))
    (hdf : ∀ shut,ob = .dfd (.sh shut) → ∃ shut',ob' = .dfd (.sh shut'))
    (hd : ∀ d,ob' = .dfd d → w'.heap[g.blk l]? = some (D.obj d)) : Inv w'.heap g (o.set l ob') := by
  have hlt : l < o.length := (List.getElem?_eq_some_iff.1 hl).1
  have hset := fun l' => set_get hlt ob' l'
  have hne : ∀ l' (ob0 : O),o[l']? = some ob0 → ob0.live = true → l' ≠ l → g.blk l' ≠ g.blk l := fun l' ob0 h0 v0 e e' => e (I.inj l' l ob0 ob h0 hl v0 hv e')
  refine ⟨⟨fun l' cs hl' => ?_,fun l' v wr k xs hl' => ?_,fun l' st pend ts ps assign body dl hl' => ?_,fun l' shut hl' => ?_,fun l1 l2 a b h1 h2 va vb e => ?_,fun b hb' => I.fresh b (by omega)⟩,tab_tr I T⟩
  · rw [hset] at hl'
    split at hl'
    · rename_i e; subst e; cases hl'; exact hcs _ rfl
    · rename_i e
      obtain ⟨us,ty,hb,hc,hr⟩ := I.cells l' cs hl'
      exact ⟨us,ty,(hk _ (hne l' _ hl' rfl e)).trans hb,hc,hr.ev T.ev⟩
  · rw [hset] at hl'
    split at hl'
    · rename_i e; subst e; cases hl'; exact harr _ _ _ _ rfl
    · rename_i e
      obtain ⟨us,ty,lo,hi,hb,a1,a2,a3,a4,a5,a6,a7⟩ := I.arr l' v wr k xs hl'
      exact ⟨us,ty,lo,hi,(hk _ (hne l' _ hl' rfl e)).trans hb,a1,a2,a3,a4,a5,a6,fun i x hx j y hy u hu => (a7 i x hx j y hy u hu).ev T.ev⟩
  · rw [hset] at hl'
    split at hl'
    · rename_i e; subst e; cases hl'
      obtain ⟨fn,us,hb,hr,hd⟩ := hlo _ _ _ _ _ _ _ rfl
      exact ⟨fn,us,hb,hr,hd⟩
    · rename_i e
      obtain ⟨fn,us,hb,hr,sh,hsh⟩ := I.loop l' st pend ts ps assign body dl hl'
      refine ⟨fn,us,(hk _ (hne l' _ hl' rfl e)).trans hb,hr.ev T.ev, ?_⟩
      by_cases e2 : dl = l
      · subst e2; rw [hl] at hsh; cases hsh
        obtain ⟨sh',e3⟩ := hdf _ rfl
        exact ⟨sh',by rw [hset,if_pos rfl,e3]⟩
      · exact ⟨sh,by rw [hset,if_neg e2]; exact hsh⟩
  · rw [hset] at hl'
    split at hl'
    · rename_i e; subst e; cases hl'; exact hd _ rfl
    · rename_i e
      exact (hk _ (hne l' _ hl' rfl e)).trans (I.dfd l' shut hl')
  · rw [hset] at h1 h2
    have h1' : ∃ a',o[l1]? = some a' ∧ a'.live = true := by
      split at h1
      · rename_i e1; subst e1; exact ⟨_,hl,hv⟩
      · exact ⟨a,h1,va⟩
    have h2' : ∃ b',o[l2]? = some b' ∧ b'.live = true := by
      split at h2
      · rename_i e1; subst e1; exact ⟨_,hl,hv⟩
      · exact ⟨b,h2,vb⟩
    obtain ⟨a',ha,va'⟩ := h1'
    obtain ⟨b',hb',vb'⟩ := h2'
    exact I.inj l1 l2 a' b' ha hb' va' vb' e

def RunsU (P : Program) (m : Sem Unit) (w : World) (g : G) (o : List O) (o' : List O) : Prop :=
  ∃ w' g',m.run P w = .ok () w' ∧ Tr w g o w' g' o' ∧ Inv w'.heap g' o'

theorem store_pt {t : TypeId} {i : TypeInfo} {l off : Nat} {cs : List V} {y : V} {u v : Value} (I : Inv w.heap g o) (hr : Rep w.heap g o (.pt l off) u) (hy : Rep w.heap g o y v) (hl : o[l]? = some (.cells cs))
    (hi : P.info? t = some i) (hn : y.cells.length = i.size) (hs : y.solid = true) (hle : off + i.size ≤ cs.length) : RunsU P (Instr.storeAt t u v) w g o (o.set l (.cells (putCells cs off y.cells))) := by
  cases hr with
  | pt _ =>
    obtain ⟨us,ty,hb,hc,hs0,hx⟩ := I.cells l cs hl
    have hlt : l < o.length := (List.getElem?_eq_some_iff.1 hl).1
    have ry := hy.cells hs
    have hvs : v.cells.toList.length = i.size := by rw [ry.1,hn]
    have hone := one_cells ry (solid_cells hs)
    obtain ⟨us',a1,a2,a3,a4,a5,a6,a7,a8⟩ := setCells_heap (g.blk l) v.cells.toList off w us ty (0,0) hb (by simp at hs0; omega)
    have T : Tr w g o (w.setCells (g.blk l) off v.cells.toList) g (o.set l (.cells (putCells cs off y.cells))) :=
      tr_cells I hl rfl rfl (fun _ _ => ⟨_,rfl⟩) (fun _ _ _ _ _ e => by cases e) (fun _ _ _ _ e => by cases e) hc hb a1 a2 a4 a5 a6 a7 a8
    refine ⟨_,g, ?_,T,inv_cells I hl rfl rfl T a4 a5 (fun cs' e => ?_) (fun _ _ _ _ e => by cases e) (fun _ _ _ _ _ _ _ e => by cases e) (fun _ e => by cases e) (fun _ e => by cases e)⟩
    · have hst := run_storeCells_cells (P := P) (g.blk l) off v.cells.toList 0 w (fun j hj => by rw [cell_of hb]; simp at hs0; rw [hvs] at hj; simp; omega) (fun j hj => by simp [World.frozen?,hb]) hone
      simp only [Nat.add_zero] at hst
      simp [Instr.storeAt,Instr.sureAddr,storeVar,sizeOf,typeInfo,hi,show v.cells.size = i.size by simpa using hvs,hst]
    · cases e
      refine ⟨us',ty,a1,hc,by rw [putCells_length]; simp at hs0 ⊢; omega,fun j z hz u hu => ?_⟩
      rw [putCells_get _ _ _ (by omega)] at hz
      simp only [Array.getElem?_toList] at hu
      rw [a3] at hu
      by_cases e : off ≤ j ∧ j < off + y.cells.length
      · rw [if_pos e] at hz
        rw [if_pos (by omega)] at hu
        exact (ry.2 _ z hz u hu).ev T.ev
      · rw [if_neg e] at hz
        rw [if_neg (by omega)] at hu
        exact (hx j z hz u (by simpa using hu)).ev T.ev

theorem store_pa {t : TypeId} {i : TypeInfo} {l v p off k : Nat} {xs : List V} {x y x' : V} {u q : Value} (I : Inv w.heap g o) (hr : Rep w.heap g o (.pa l v p off) u) (hy : Rep w.heap g o y q) (hl : o[l]? = some (.arr v true k xs))
    (hx : xs[p]? = some x) (hi : P.info? t = some i) (hn : y.cells.length = i.size) (hs : y.solid = true) (hle : off + i.size ≤ x.cells.length) (hx' : x'.cells = putCells x.cells off y.cells) :
    RunsU P (Instr.storeAt t u q) w g o (o.set l (.arr v true k (xs.set p x'))) := by
  cases hr with
  | pa _ _ ha =>
    have e0 := (ha v true k xs hl).2 rfl
    subst e0
    obtain ⟨us,ty,lo,hi',hb,hfr,h3,h4,h5,h6,h7,h8⟩ := I.arr l v true k xs hl
    have hlt : l < o.length := (List.getElem?_eq_some_iff.1 hl).1
    have hp : p < xs.length := (List.getElem?_eq_some_iff.1 hx).1
    have hk : x.cells.length = k := h7 x (List.mem_of_getElem? hx)
    have hle2 : (p + 1) * k ≤ g.cap l * k := Nat.mul_le_mul_right k (by omega)
    rw [Nat.succ_mul] at hle2
    have ry := hy.cells hs
    have hvs : q.cells.toList.length = i.size := by rw [ry.1,hn]
    have hone := one_cells ry (solid_cells hs)
    simp only [if_true] at h5
    obtain ⟨us',a1,a2,a3,a4,a5,a6,a7,a8⟩ := setCells_heap (g.blk l) q.cells.toList (p * k + off) w us ty (lo,hi') hb (by omega)
    have T : Tr w g o (w.setCells (g.blk l) (p * k + off) q.cells.toList) g (o.set l (.arr v true k (xs.set p x'))) :=
      tr_cells I hl rfl rfl (fun _ e => by cases e) (fun hn => absurd rfl (hn _ _ _ _)) (fun _ _ _ _ e => by cases e; exact ⟨_,_,rfl,by simp⟩) h5 hb a1 a2 a4 a5 a6 a7 a8
    refine ⟨_,g, ?_,T,inv_cells I hl rfl rfl T a4 a5 (fun _ e => by cases e) (fun v' wr' k' xs' e => ?_) (fun _ _ _ _ _ _ _ e => by cases e) (fun _ e => by cases e) (fun _ e => by cases e)⟩
    · have hst := run_storeCells_cells (P := P) (g.blk l) (p * k + off) q.cells.toList 0 w (fun j hj => by rw [cell_of hb]; simp; omega)
        (fun j hj => by
          have := hfr.all (p * k + off + j) (by omega)
          simp only [World.frozen?,hb]
          simp at this ⊢; omega) hone
      simp only [Nat.add_zero] at hst
      simp [Instr.storeAt,Instr.sureAddr,storeVar,sizeOf,typeInfo,hi,show q.cells.size = i.size by simpa using hvs,hst]
    · cases e
      have hlen : x'.cells.length = k := by rw [hx',putCells_length,hk]
      refine ⟨us',ty,lo,hi',a1,by rw [a2]; exact hfr,by simpa using h3,by rw [a2]; exact h4,by simpa using h5,h6,fun z hz => ?_,fun p' z hz j z' hz' u hu => ?_⟩
      · rcases List.mem_or_eq_of_mem_set hz with h | h
        · exact h7 z h
        · rw [h]; exact hlen
      · rw [set_get hp] at hz
        rw [a3] at hu
        split at hz
        · rename_i ep; subst ep; cases hz
          rw [hx',putCells_get _ _ _ (by omega)] at hz'
          by_cases e : off ≤ j ∧ j < off + y.cells.length
          · rw [if_pos e] at hz'
            rw [if_pos (by omega),show p' * k + j - (p' * k + off) = j - off by omega] at hu
            exact (ry.2 _ z' hz' u hu).ev T.ev
          · rw [if_neg e] at hz'
            rw [if_neg (by omega)] at hu
            exact (h8 p' x hx j z' hz' u hu).ev T.ev
        · rename_i ep
          have hj : j < k := by have := (List.getElem?_eq_some_iff.1 hz').1; rw [h7 z (List.mem_of_getElem? hz)] at this; exact this
          rw [if_neg ?_] at hu
          · exact (h8 p' z hz j z' hz' u hu).ev T.ev
          · intro hh
            rcases Nat.lt_or_gt_of_ne ep with h | h
            · have : (p' + 1) * k ≤ p * k := Nat.mul_le_mul_right k (by omega)
              rw [Nat.succ_mul] at this; omega
            · have : (p + 1) * k ≤ p' * k := Nat.mul_le_mul_right k (by omega)
              rw [Nat.succ_mul] at this; omega
end Go.Proofs.Pe
end

section
set_option linter.unusedVariables false
namespace Go.Proofs.Pe
variable {P : Program} {w : World} {g : G} {o : List O}

theorem arr_turn {w' : World} {g' : G} {l v k : Nat} {wr : Bool} {xs xs' : List V} (I : Inv w.heap g o) (hl : o[l]? = some (.arr v wr k xs))
    (hblk : ∀ l',l' ≠ l → g'.blk l' = g.blk l' ∧ g'.cap l' = g.cap l') (hB : g'.blk l = g.blk l ∨ w.heap.size ≤ g'.blk l) (hcom : ∀ b,b ≠ g'.blk l → g'.com b = g.com b)
    (hcl : g.com (g'.blk l) ≤ g'.com (g'.blk l)) (hheap : ∀ b,b < w.heap.size → b ≠ g'.blk l → w'.heap[b]? = w.heap[b]?)
    (hown : ∀ us ty fr,w.heap[g'.blk l]? = some (.cells us ty fr) → ∃ us' fr',w'.heap[g'.blk l]? = some (.cells us' ty fr') ∧ us'.size = us.size ∧ ∀ i,i < g.com (g'.blk l) → us'[i]? = us[i]?)
    (hsz : w.heap.size ≤ w'.heap.size) (hlt : g'.blk l < w'.heap.size) (h1 : w'.os = w.os) (h2 : w'.tape = w.tape) (h3 : w'.output = w.output)
    (harr : ∀ E : Ev w.heap g o w'.heap g' (o.set l (.arr (v + 1) wr k xs')),∃ us ty lo hi,w'.heap[g'.blk l]? = some (.cells us ty (lo,hi)) ∧ FrB us.size lo hi ∧
      xs'.length ≤ g'.cap l ∧ g'.cap l * k ≤ us.size ∧ g'.com (g'.blk l) = (if wr then 0 else xs'.length * k) ∧ 0 < k ∧ (∀ x,x ∈ xs' → x.cells.length = k) ∧
      ∀ (i : Nat) (x : V),xs'[i]? = some x → ∀ (j : Nat) (y : V),x.cells[j]? = some y → ∀ u,us[i * k + j]? = some u → Rep w'.heap g' (o.set l (.arr (v + 1) wr k xs')) y u) :
    Tr w g o w' g' (o.set l (.arr (v + 1) wr k xs')) ∧ Inv w'.heap g' (o.set l (.arr (v + 1) wr k xs')) := by
  have hll : l < o.length := (List.getElem?_eq_some_iff.1 hl).1
  have hset := fun l' => set_get hll (O.arr (v + 1) wr k xs') l'
  have hgl : g.blk l < w.heap.size := I.lt hl rfl
  have hne : ∀ l' (ob0 : O),o[l']? = some ob0 → ob0.live = true → l' ≠ l → g.blk l' ≠ g'.blk l := fun l' ob0 h0 v0 e e' => by
    rcases hB with h | h
    · exact e (I.inj l' l ob0 _ h0 hl v0 rfl (e'.trans h))
    · have := I.lt h0 v0; omega
  have E : Ev w.heap g o w'.heap g' (o.set l (.arr (v + 1) wr k xs')) := {
    size := hsz
    com := fun b => by by_cases e : b = g'.blk l; · subst e; exact hcl
                       · rw [hcom b e]; exact Nat.le_refl _
    cell := fun b cs ty fr hb => by
      by_cases e : b = g'.blk l
      · subst e; exact hown _ _ _ hb
      · exact ⟨cs,fr,(hheap b (some_lt hb) e).trans hb,rfl,fun _ _ => rfl⟩
    len := by simp
    blk := fun l' cs hl' => by
      have e : l' ≠ l := fun e => by subst e; rw [hl] at hl'; cases hl'
      exact ⟨(hblk l' e).1,cs,by rw [hset,if_neg e]; exact hl'⟩
    fix := fun l' ob hl' hn => by
      have e : l' ≠ l := fun e => by subst e; rw [hl] at hl'; cases hl'; exact hn _ _ _ _ rfl
      exact ⟨(hblk l' e).1,ob,by rw [hset,if_neg e]; exact hl',hn⟩
    arr := fun l' v0 wr0 k0 xs0 hlt' hl' => by
      rw [hset] at hl'
      split at hl'
      · rename_i e; subst e; cases hl'
        exact ⟨v,wr,xs,hl,by omega,fun e => by omega⟩
      · rename_i e
        exact ⟨v0,wr0,xs0,hl',Nat.le_refl _,fun _ => ⟨rfl,(hblk l' e).1,(hblk l' e).2⟩⟩ }
  refine withTab I ?_
  refine ⟨⟨E,h1,h2,h3,fun b hb hn => ?_,fun l' ob hl' hv hb => ?_⟩,⟨fun l' cs hl' => ?_,fun l' v0 wr0 k0 xs0 hl' => ?_,fun l' st pend ts ps assign body dl hl' => ?_,fun l' shut hl' => ?_,fun l1 l2 a b ha hb va vb e => ?_,fun b hb => ?_⟩⟩
  · have e : b ≠ g'.blk l := fun e => by
      rcases hB with h | h
      · exact hn l _ hl rfl (by omega)
      · omega
    exact ⟨hheap b hb e,hcom b e⟩
  · rw [hset] at hl'
    split at hl'
    · rename_i e; subst e
      rcases hB with h | h
      · exact ⟨l',_,hl,rfl,h.symm⟩
      · omega
    · rename_i e
      exact ⟨l',ob,hl',hv,(hblk l' e).1.symm⟩
  · rw [hset] at hl'
    split at hl'
    · cases hl'
    · rename_i e
      obtain ⟨us,ty,hb,hc,hr⟩ := I.cells l' cs hl'
      rw [(hblk l' e).1]
      exact ⟨us,ty,(hheap _ (some_lt hb) (hne l' _ hl' rfl e)).trans hb,by rw [hcom _ (hne l' _ hl' rfl e)]; exact hc,hr.ev E⟩
  · rw [hset] at hl'
    split at hl'
    · rename_i e; subst e; cases hl'; exact harr E
    · rename_i e
      obtain ⟨us,ty,lo,hi,hb,a1,a2,a3,a4,a5,a6,a7⟩ := I.arr l' v0 wr0 k0 xs0 hl'
      rw [(hblk l' e).1,(hblk l' e).2]
      exact ⟨us,ty,lo,hi,(hheap _ (some_lt hb) (hne l' _ hl' rfl e)).trans hb,a1,a2,a3,by rw [hcom _ (hne l' _ hl' rfl e)]; exact a4,a5,a6,fun i x hx j y hy u hu => (a7 i x hx j y hy u hu).ev E⟩
  · rw [hset] at hl'
    split at hl'
    · cases hl'
    · rename_i e
      obtain ⟨fn,us,hb,hr,sh,hsh⟩ := I.loop l' st pend ts ps assign body dl hl'
      have e2 : dl ≠ l := fun e2 => by subst e2; rw [hl] at hsh; cases hsh
      refine ⟨fn,us, ?_,hr.ev E,sh,by rw [hset,if_neg e2]; exact hsh⟩
      have ed : g'.blk dl = g.blk dl := (hblk dl e2).1
      rw [(hblk l' e).1,ed]
      exact (hheap _ (some_lt hb) (hne l' _ hl' rfl e)).trans hb
  · rw [hset] at hl'
    split at hl'
    · cases hl'
    · rename_i e
      have hb := I.dfd l' shut hl'
      rw [(hblk l' e).1]
      exact (hheap _ (some_lt hb) (hne l' _ hl' rfl e)).trans hb
  · have key : ∀ l' (ob : O),(o.set l (O.arr (v + 1) wr k xs'))[l']? = some ob → ob.live = true → l' = l ∨ (l' ≠ l ∧ ∃ ob0,o[l']? = some ob0 ∧ ob0.live = true) := fun l' ob h hv => by
      rw [hset] at h
      split at h
      · rename_i e; exact .inl e
      · rename_i e; exact .inr ⟨e,ob,h,hv⟩
    rcases key l1 a ha va with e1 | ⟨e1,a0,ha0,va0⟩ <;> rcases key l2 b hb vb with e2 | ⟨e2,b0,hb0,vb0⟩
    · omega
    · subst e1; rw [(hblk l2 e2).1] at e; exact absurd e.symm (hne l2 _ hb0 vb0 e2)
    · subst e2; rw [(hblk l1 e1).1] at e; exact absurd e (hne l1 _ ha0 va0 e1)
    · rw [(hblk l1 e1).1,(hblk l2 e2).1] at e; exact I.inj l1 l2 a0 b0 ha0 hb0 va0 vb0 e
  · rw [hcom b (by omega)]; exact I.fresh b (by omega)

theorem free1_one {x : V} (h : x.free1 = true) : x.one = true := by cases x <;> simp_all [V.free1,V.one]
theorem free_solid {x : V} (h : x.free = true) : x.solid = true := by
  cases x with
  | agg cs => simp only [V.free,V.solid,List.all_eq_true] at *; exact fun y hy => free1_one (h y hy)
  | _ => simp_all [V.free,V.free1,V.solid,V.one]

theorem row_cells {x : V} {u : Value} {xs : List V} {k : Nat} (I : Inv w.heap g o) (hr : Rep w.heap g o x u) (h : rowOf o x = some xs) (hk : ∀ y,y ∈ xs → y.cells.length = k) (hne : xs ≠ []) :
    ∃ b off c,∃ news : List Value,u = .slice (some ⟨b,off,none⟩) xs.length c ∧ news.length = xs.length * k ∧ (∀ j v,news[j]? = some v → w.cell? ((⟨b,off,none⟩ : Addr).add j) = some v) ∧
      (∀ v,v ∈ news → ∃ y z,y ∈ xs ∧ z ∈ y.cells ∧ Rep w.heap g o z v) ∧
      ∀ (i : Nat) (y : V),xs[i]? = some y → ∀ (j : Nat) (z : V),y.cells[j]? = some z → ∀ v,news[i * k + j]? = some v → Rep w.heap g o z v := by
  have fin : ∀ (b off c : Nat) (us : Array Value) (ty : TypeId) (fr : Nat × Nat),u = .slice (some ⟨b,off,none⟩) xs.length c → w.heap[b]? = some (.cells us ty fr) → off + xs.length * k ≤ us.size →
      (∀ (i : Nat) (y : V),xs[i]? = some y → ∀ (j : Nat) (z : V),y.cells[j]? = some z → ∀ v,us[off + i * k + j]? = some v → Rep w.heap g o z v) →
      ∃ b off c,∃ news : List Value,u = .slice (some ⟨b,off,none⟩) xs.length c ∧ news.length = xs.length * k ∧ (∀ j v,news[j]? = some v → w.cell? ((⟨b,off,none⟩ : Addr).add j) = some v) ∧
      (∀ v,v ∈ news → ∃ y z,y ∈ xs ∧ z ∈ y.cells ∧ Rep w.heap g o z v) ∧
      ∀ (i : Nat) (y : V),xs[i]? = some y → ∀ (j : Nat) (z : V),y.cells[j]? = some z → ∀ v,news[i * k + j]? = some v → Rep w.heap g o z v := by
    intro b off c us ty fr e hb hsz hx
    have hlen : (us.extract off (off + xs.length * k)).toList.length = xs.length * k := by simp; omega
    have hget : ∀ j,j < xs.length * k → (us.extract off (off + xs.length * k)).toList[j]? = us[off + j]? := fun j hj => by
      rw [Array.getElem?_toList,Array.getElem?_extract,if_pos (by omega)]
    refine ⟨b,off,c,_,e,hlen,fun j v hv => ?_,fun v hv => ?_,fun i y hy j z hz v hv => ?_⟩
    · have hj := (List.getElem?_eq_some_iff.1 hv).1
      rw [hlen] at hj
      rw [add_none,cell_of hb,← hget j hj,hv]
    · obtain ⟨q,hq,he⟩ := List.getElem_of_mem hv
      have hqq : (us.extract off (off + xs.length * k)).toList[q]? = some v := by rw [List.getElem?_eq_getElem hq,he]
      rw [hlen] at hq
      have hk0 : 0 < k := Nat.pos_of_ne_zero fun e => by subst e; simp at hq
      have hi : q / k < xs.length := Nat.div_lt_of_lt_mul (by rw [Nat.mul_comm]; exact hq)
      have hj : q % k < xs[q / k].cells.length := by rw [hk _ (List.getElem_mem hi)]; exact Nat.mod_lt _ hk0
      refine ⟨xs[q / k],xs[q / k].cells[q % k],List.getElem_mem hi,List.getElem_mem hj,hx (q / k) _ (List.getElem?_eq_getElem hi) (q % k) _ (List.getElem?_eq_getElem hj) v ?_⟩
      rw [Nat.add_assoc,Nat.mul_comm,Nat.div_add_mod,← hget q hq,hqq]
    · have hi := (List.getElem?_eq_some_iff.1 hy).1
      have hj : j < k := by have := (List.getElem?_eq_some_iff.1 hz).1; rw [hk y (List.mem_of_getElem? hy)] at this; exact this
      have hle : (i + 1) * k ≤ xs.length * k := Nat.mul_le_mul_right k (by omega)
      rw [Nat.succ_mul] at hle
      rw [hget _ (by omega)] at hv
      exact hx i y hy j z hz v (by rw [← hv]; congr 1; omega)
  obtain ⟨y0,hy0⟩ : ∃ y0,xs[0]? = some y0 := by cases xs with | nil => exact absurd rfl hne | cons a b => exact ⟨a,rfl⟩
  cases hr with
  | sl0 => simp only [rowOf,Option.some.injEq] at h; exact absurd h.symm hne
  | @sl k' full _ b off cap us ty fr hc hsz hcap hfull hb hkk hx =>
    simp only [rowOf,Option.some.injEq] at h; subst h
    have ek : k' = k := by rw [← (hkk 0 y0 hy0).1,hk y0 (List.mem_of_getElem? hy0)]
    subst ek
    exact fin b off cap us ty fr rfl hb hsz hx
  | @ar l v _ hl hu ha =>
    simp only [rowOf] at h
    split at h
    · rename_i v' wr k' xs' hl'
      split at h
      · rename_i hv; subst hv; cases h
        obtain ⟨us,ty,lo,hi,hb,h2,h3,h4,h5,h6,h7,h8⟩ := I.arr l v' wr k' xs hl'
        have ek : k' = k := by rw [← h7 y0 (List.mem_of_getElem? hy0),hk y0 (List.mem_of_getElem? hy0)]
        subst ek
        have hle : xs.length * k' ≤ g.cap l * k' := Nat.mul_le_mul_right k' h3
        exact fin (g.blk l) 0 (g.cap l) us ty (lo,hi) ((ha _ _ _ _ hl').2 rfl) hb (by omega) (fun i y hy j z hz v hv => h8 i y hy j z hz v (by rw [← hv]; congr 1; omega))
      · cases h
    · cases h
  | @vw l v a n _ hl hu ha =>
    simp only [rowOf] at h
    split at h
    · rename_i v' wr k' xs' hl'
      split at h
      · rename_i hv; subst hv; simp only [Option.some.injEq] at h
        obtain ⟨us,ty,lo,hi,hb,h2,h3,h4,h5,h6,h7,h8⟩ := I.arr l v' wr k' xs' hl'
        obtain ⟨c1,b,c,c2,c3,c4⟩ := (ha _ _ _ _ hl').2 rfl
        have hlen : xs.length = n := by rw [← h]; simp; omega
        have hpos : 0 < xs.length := List.length_pos_iff.2 hne
        have hget : ∀ i y,xs[i]? = some y → xs'[a + i]? = some y := fun i y hy => by
          have hi := (List.getElem?_eq_some_iff.1 hy).1
          rw [← h,List.getElem?_take_of_lt (by omega),List.getElem?_drop] at hy; exact hy
        have hm0 := List.mem_of_getElem? (hget 0 y0 hy0)
        have ek : k' = k := by rw [← h7 y0 hm0,hk y0 (List.mem_of_getElem? hy0)]
        subst ek
        have hle : xs'.length * k' ≤ g.cap l * k' := Nat.mul_le_mul_right k' h3
        have hle2 : (a + n) * k' ≤ xs'.length * k' := Nat.mul_le_mul_right k' c1
        rw [Nat.add_mul] at hle2
        exact fin (g.blk l) (a * k') c us ty (lo,hi) (by rw [c3,c4 (by omega),hlen]) hb (by rw [hlen]; omega)
          (fun i y hy j z hz v hv => h8 (a + i) y (hget i y hy) j z hz v (by rw [← hv]; congr 1; rw [Nat.add_mul]))
      · cases h
    · cases h
  | sc hp =>
    unfold rowOf at h
    split at h <;> simp_all
  | _ => simp [rowOf] at h

theorem new_arr {w1 : World} {k c : Nat} {e : TypeId} {xs : List V} {us : Array Value} {lo hi : Nat} {r : Value} {m : Sem Value} (I : Inv w.heap g o) (h0 : w1.heap = w.heap) (h1 : w1.os = w.os) (h2 : w1.tape = w.tape) (h3 : w1.output = w.output)
    (hrun : m.run P w = .ok r (w1.alloc (.cells us e (lo,hi)))) (hr : r = .slice (some ⟨w.heap.size,0,none⟩) xs.length c) (hfr : FrB us.size lo hi) (hc : xs.length ≤ c) (hz : c * k ≤ us.size) (hk0 : 0 < k)
    (hk : ∀ x,x ∈ xs → x.cells.length = k) (hx : ∀ (i : Nat) (y : V),xs[i]? = some y → ∀ (j : Nat) (z : V),y.cells[j]? = some z → ∀ u,us[i * k + j]? = some u → Rep w.heap g o z u) :
    Runs P m w g o (.ar o.length 0) (o ++ [.arr 0 true k xs]) := by
  have I1 : Inv w1.heap g o := by rw [h0]; exact I
  have hs : w1.heap.size = w.heap.size := by rw [h0]
  have T1 : Tr w g o w1 g o := ⟨by rw [h0]; exact Ev.refl _ _ _,h1,h2,h3,fun b hb _ => ⟨by rw [h0],rfl⟩,fun l ob hl hv _ => ⟨l,ob,hl,hv,rfl⟩⟩
  refine ⟨r,w1.alloc (.cells us e (lo,hi)),g.at o.length w1.heap.size c,hrun,T1.trans (tr_push I1 _ _ _), ?_, ?_⟩
  · refine inv_push I1 _ _ _ (fun _ e => by cases e) (fun v wr k' xs' ee => ?_) (fun _ _ _ _ _ _ _ e => by cases e) (fun _ e => by cases e)
    cases ee
    refine ⟨us,e,lo,hi,rfl,hfr,hc,hz,rfl,hk0,hk,fun i y hy j z hz u hu => ?_⟩
    have := hx i y hy j z hz u hu
    rw [← h0] at this
    exact this.ev (ev_push I1 _ _ _)
  · rw [hr]
    refine .ar (by simp) ⟨_,_,_,rfl⟩ fun v0 wr k' xs' hl => ?_
    simp at hl
    obtain ⟨rfl,rfl,rfl,rfl⟩ := hl
    exact ⟨Nat.le_refl _,fun _ => by simp [hs]⟩

theorem cat_row {xs ys : List V} {olds news : List Value} {k : Nat} {rest : List Value} (hlo : olds.length = xs.length * k) (hln : news.length = ys.length * k)
    (hkx : ∀ x,x ∈ xs → x.cells.length = k) (hky : ∀ x,x ∈ ys → x.cells.length = k)
    (h1 : ∀ (i : Nat) (y : V),xs[i]? = some y → ∀ (j : Nat) (z : V),y.cells[j]? = some z → ∀ v,olds[i * k + j]? = some v → Rep w.heap g o z v)
    (h2 : ∀ (i : Nat) (y : V),ys[i]? = some y → ∀ (j : Nat) (z : V),y.cells[j]? = some z → ∀ v,news[i * k + j]? = some v → Rep w.heap g o z v) :
    ∀ (i : Nat) (y : V),(xs ++ ys)[i]? = some y → ∀ (j : Nat) (z : V),y.cells[j]? = some z → ∀ v,(olds ++ news ++ rest)[i * k + j]? = some v → Rep w.heap g o z v := by
  intro i y hy j z hz v hv
  have hjl := (List.getElem?_eq_some_iff.1 hz).1
  by_cases hi : i < xs.length
  · rw [List.getElem?_append_left hi] at hy
    have hj : j < k := by rw [hkx y (List.mem_of_getElem? hy)] at hjl; exact hjl
    have hle : (i + 1) * k ≤ xs.length * k := Nat.mul_le_mul_right k (by omega)
    rw [Nat.succ_mul] at hle
    rw [List.append_assoc,List.getElem?_append_left (by omega)] at hv
    exact h1 i y hy j z hz v hv
  · rw [List.getElem?_append_right (by omega)] at hy
    have hj : j < k := by rw [hky y (List.mem_of_getElem? hy)] at hjl; exact hjl
    have hi2 := (List.getElem?_eq_some_iff.1 hy).1
    have hle : (i - xs.length + 1) * k ≤ ys.length * k := Nat.mul_le_mul_right k (by omega)
    rw [Nat.succ_mul] at hle
    have he : i * k = xs.length * k + (i - xs.length) * k := by rw [← Nat.add_mul]; congr 1; omega
    rw [List.append_assoc,List.getElem?_append_right (by omega),List.getElem?_append_left (by omega)] at hv
    exact h2 (i - xs.length) y hy j z hz v (by rw [← hv]; congr 1; omega)

structure El (P : Program) (t e : TypeId) (k bytes : Nat) (z : Value) : Prop where
  ht : P.underlying t = some (.slice e)
  hi : ∃ i,P.info? e = some i ∧ i.zero = some z ∧ i.size = k ∧ i.bytes = bytes
  hz : z.cells.size = k
  hk : 0 < k
  hb : 0 < bytes

theorem size_row (z : Value) (n m c k : Nat) (hz : z.cells.size = k) (h : n + m ≤ c) : n * k + m * k + (Builtin.zeroCells z.cells (c - (n + m))).size = c * k := by
  rw [size_zeroCells,hz,← Nat.add_mul,← Nat.add_mul]; congr 1; omega

theorem app_nil {t e rt : TypeId} {k bytes : Nat} {z u : Value} {y : V} {ys : List V} (I : Inv w.heap g o) (L : El P t e k bytes z) (hr : Rep w.heap g o y u) (hy : rowOf o y = some ys)
    (hk : ∀ x,x ∈ ys → x.cells.length = k) (hne : ys ≠ []) (hroom : ys.length * bytes ≤ room) :
    Runs P (Builtin.append_ #[t,t] rt #[.slice none 0 0,u]) w g o (.ar o.length 0) (o ++ [.arr 0 true k ys]) := by
  obtain ⟨ht,⟨i,hi,hiz,his,hib⟩,hz,hk0,hb0⟩ := L
  obtain ⟨b,off,c,news,rfl,hln,hcell,_,hx⟩ := row_cells I hr hy hk hne
  have hpos : 0 < ys.length := List.length_pos_iff.2 hne
  have h63 : ys.length ≤ ys.length * bytes := Nat.le_mul_of_pos_right _ hb0
  have hge := grownCap_ge w ys.length 0 e
  have hrun := run_append_nil (P := P) w t rt e i z ht hi hiz ⟨b,off,none⟩ ys.length c news (by rw [hln,his]) hcell hpos (by unfold room at hroom; omega) (by rw [hib]; unfold room at hroom; omega)
  refine new_arr (w1 := w.drew) (us := news.toArray ++ Builtin.zeroCells z.cells (grownCap w ys.length 0 e - ys.length)) (lo := 0) (hi := 0) (c := grownCap w ys.length 0 e) I rfl rfl rfl rfl hrun rfl (.inr rfl) hge ?_ hk0 hk fun i y hy j z' hz' v hv => ?_
  · have := size_row z 0 ys.length (grownCap w ys.length 0 e) k hz (by omega)
    simp at this
    rw [Array.size_append]; simp only [List.size_toArray,hln]; omega
  · have := cat_row (xs := []) (olds := []) (rest := (Builtin.zeroCells z.cells (grownCap w ys.length 0 e - ys.length)).toList) (by simp) hln (by simp) hk (by simp) hx i y (by simpa using hy) j z' hz' v
    refine this ?_
    rw [← hv,← Array.getElem?_toList]; simp

theorem app_grow {t e rt : TypeId} {k bytes : Nat} {z u q : Value} {x y : V} {xs ys : List V} {cap : Nat} {a0 : Option Addr} (I : Inv w.heap g o) (L : El P t e k bytes z) (hrx : Rep w.heap g o x q) (hxx : rowOf o x = some xs) (hr : Rep w.heap g o y u) (hy : rowOf o y = some ys)
    (hq : q = .slice a0 xs.length cap) (hq0 : xs = [] → ∃ a,a0 = some a)
    (hkx : ∀ x,x ∈ xs → x.cells.length = k) (hk : ∀ x,x ∈ ys → x.cells.length = k) (hne : ys ≠ []) (hg : cap < xs.length + ys.length) (hroom : (xs.length + ys.length) * bytes ≤ room) :
    ∃ us : Array Value,∃ c,(Builtin.append_ #[t,t] rt #[q,u]).run P w = .ok (.slice (some ⟨w.heap.size,0,none⟩) (xs.length + ys.length) c) (w.drew.alloc (.cells us e)) ∧ xs.length + ys.length ≤ c ∧ c * k ≤ us.size ∧
      ∀ (i : Nat) (y : V),(xs ++ ys)[i]? = some y → ∀ (j : Nat) (z : V),y.cells[j]? = some z → ∀ v,us[i * k + j]? = some v → Rep w.heap g o z v := by
  obtain ⟨ht,⟨i,hi,hiz,his,hib⟩,hz,hk0,hb0⟩ := L
  obtain ⟨b,off,c,news,rfl,hln,hcell,_,hx⟩ := row_cells I hr hy hk hne
  have h63 : xs.length + ys.length ≤ (xs.length + ys.length) * bytes := Nat.le_mul_of_pos_right _ hb0
  obtain ⟨a1,olds,rfl,hlo,hoc,hox⟩ : ∃ a1 : Addr,∃ olds : List Value,a0 = some a1 ∧ olds.length = xs.length * k ∧ (∀ j v,olds[j]? = some v → w.cell? (a1.add j) = some v) ∧
      ∀ (i : Nat) (y : V),xs[i]? = some y → ∀ (j : Nat) (z : V),y.cells[j]? = some z → ∀ v,olds[i * k + j]? = some v → Rep w.heap g o z v := by
    by_cases hx0 : xs = []
    · obtain ⟨a1,e1⟩ := hq0 hx0
      exact ⟨a1,[],e1,by simp [hx0],by simp,by simp [hx0]⟩
    · obtain ⟨b1,off1,c1,olds,e1,h1,h2,_,h3⟩ := row_cells I hrx hxx hkx hx0
      rw [hq] at e1; cases e1
      exact ⟨_,olds,rfl,h1,h2,h3⟩
  subst hq
  have hge := grownCap_ge w (xs.length + ys.length) cap e
  have hrun := run_append_grow (P := P) w t rt e i z ht hi hiz a1 xs.length cap olds (by rw [hlo,his]) hoc ⟨b,off,none⟩ ys.length c news (by rw [hln,his]) hcell hg (by unfold room at hroom; omega)
    (growslice_fits hg (by rw [hib]; exact hroom))
  refine ⟨_,_,hrun,hge, ?_,fun i y hy j z' hz' v hv => ?_⟩
  · have := size_row z xs.length ys.length (grownCap w (xs.length + ys.length) cap e) k hz hge
    simp only [Array.size_append,List.size_toArray,hlo,hln]; omega
  · have := cat_row (rest := (Builtin.zeroCells z.cells (grownCap w (xs.length + ys.length) cap e - (xs.length + ys.length))).toList) hlo hln hkx hk hox hx i y hy j z' hz' v
    refine this ?_
    rw [← hv,← Array.getElem?_toList]; simp
end Go.Proofs.Pe
end

section
set_option linter.unusedVariables false
namespace Go.Proofs.Pe
variable {P : Program} {w : World} {g : G} {o : List O}

theorem app_full {t e rt : TypeId} {k bytes : Nat} {z u q : Value} {y : V} {xs ys : List V} (I : Inv w.heap g o) (L : El P t e k bytes z) (hrx : Rep w.heap g o (.sl k true xs) q) (hr : Rep w.heap g o y u) (hy : rowOf o y = some ys)
    (hk : ∀ x,x ∈ ys → x.cells.length = k) (hne : ys ≠ []) (hroom : (xs.length + ys.length) * bytes ≤ room) :
    Runs P (Builtin.append_ #[t,t] rt #[q,u]) w g o (.ar o.length 0) (o ++ [.arr 0 true k (xs ++ ys)]) := by
  have hpos : 0 < ys.length := List.length_pos_iff.2 hne
  have hkk := L.hk
  cases hrx with
  | sl0 =>
    obtain ⟨us',c,hrun,h1,h2,h3⟩ := app_grow (P := P) (rt := rt) I L (.sl0 (k := k) (full := true)) rfl hr hy rfl (fun _ => ⟨_,rfl⟩) (fun x hx => by cases hx) hk hne (by simp; omega) hroom
    exact new_arr (w1 := w.drew) (lo := 0) (hi := 0) I rfl rfl rfl rfl hrun (by simp) (.inr rfl) (by simpa using h1) h2 L.hk (fun x hx => by
      rcases List.mem_append.1 hx with h | h
      · cases h
      · exact hk x h) h3
  | @sl _ _ _ b off cap us ty fr hc hsz hcap hfull hb hkx hx =>
    have hcap' : cap = xs.length := hfull rfl
    have hkx' : ∀ x,x ∈ xs → x.cells.length = k := fun x hx => by
      obtain ⟨j,hj,e⟩ := List.getElem_of_mem hx
      exact (hkx j x (by rw [List.getElem?_eq_getElem hj,e])).1
    obtain ⟨us',c,hrun,h1,h2,h3⟩ := app_grow (P := P) (rt := rt) I L (.sl hc hsz hcap hfull hb hkx hx) rfl hr hy rfl (fun _ => ⟨_,rfl⟩) hkx' hk hne (by omega) hroom
    exact new_arr (w1 := w.drew) (lo := 0) (hi := 0) I rfl rfl rfl rfl hrun (by simp) (.inr rfl) (by simpa using h1) h2 L.hk (fun x hx => by
      rcases List.mem_append.1 hx with h | h
      · exact hkx' x h
      · exact hk x h) h3

theorem app_ar {t e rt : TypeId} {k bytes : Nat} {z u q : Value} {y : V} {xs ys : List V} {l v : Nat} {wr : Bool} (I : Inv w.heap g o) (L : El P t e k bytes z) (hrx : Rep w.heap g o (.ar l v) q) (hl : o[l]? = some (.arr v wr k xs))
    (hr : Rep w.heap g o y u) (hy : rowOf o y = some ys) (hf : ∀ x,x ∈ ys → x.solid = true)
    (hk : ∀ x,x ∈ ys → x.cells.length = k) (hne : ys ≠ []) (hroom : (xs.length + ys.length) * bytes ≤ room) :
    Runs P (Builtin.append_ #[t,t] rt #[q,u]) w g o (.ar l (v + 1)) (o.set l (.arr (v + 1) wr k (xs ++ ys))) := by
  have hpos : 0 < ys.length := List.length_pos_iff.2 hne
  obtain ⟨us,ty,lo,hi,hb,hfr,h3,h4,h5,h6,h7,h8⟩ := I.arr l v wr k xs hl
  have hll : l < o.length := (List.getElem?_eq_some_iff.1 hl).1
  have hkk : ∀ x,x ∈ xs ++ ys → x.cells.length = k := fun x hx => by
    rcases List.mem_append.1 hx with h | h
    · exact h7 x h
    · exact hk x h
  have hfin : ∀ (w' : World) (g' : G) (c : Nat),g'.blk l < w'.heap.size → g'.cap l = c → Rep w'.heap g' (o.set l (.arr (v + 1) wr k (xs ++ ys))) (.ar l (v + 1)) (.slice (some ⟨g'.blk l,0,none⟩) (xs.length + ys.length) c) := fun w' g' c hlt hc => by
    refine .ar (by simpa using hll) ⟨_,_,_,rfl⟩ fun v0 wr' k' xs' h => ?_
    rw [set_get hll,if_pos rfl] at h
    cases h
    exact ⟨Nat.le_refl _,fun _ => by rw [List.length_append,hc]⟩
  have hq : q = .slice (some ⟨g.blk l,0,none⟩) xs.length (g.cap l) := by
    cases hrx with
    | ar _ _ ha => exact (ha _ _ _ _ hl).2 rfl
  by_cases hrm : xs.length + ys.length ≤ g.cap l
  · -- room
    obtain ⟨ht,⟨i,hi',hiz,his,hib⟩,hz,hk0,hb0⟩ := L
    obtain ⟨b,off,c,news,rfl,hln,hcell,hmem,hx⟩ := row_cells I hr hy hk hne
    have hle : (xs.length + ys.length) * k ≤ g.cap l * k := Nat.mul_le_mul_right k hrm
    rw [Nat.add_mul] at hle
    have hone : ∀ v,v ∈ news → v.oneCell' = true := fun v hv => by
      obtain ⟨y',z',h1,h2,h3⟩ := hmem v hv
      have := h3.oneCell (solid_cells (hf y' h1) z' h2)
      cases v <;> first | rfl | (exfalso; exact this.2.1 _ rfl) | (exfalso; exact this.2.2 _ rfl)
    have hrun := run_append_room_cells (P := P) w t rt e i ht hi' (g.blk l) 0 xs.length (g.cap l) ⟨b,off,none⟩ ys.length c news (by rw [hln,his]) hcell hone hrm
      (fun j hj => by rw [cell_of hb,his]; simp; omega)
      (fun j hj => by
        have := hfr.all (0 + xs.length * k + j) (by omega)
        simp only [World.frozen?,hb,his]
        simp at this ⊢; omega)
    rw [his,Nat.zero_add] at hrun
    obtain ⟨us',a1,a2,a3,a4,a5,a6,a7,a8⟩ := setCells_heap (g.blk l) news (xs.length * k) w us ty (lo,hi) hb (by omega)
    have hgl := I.lt hl rfl
    have hcm : ∀ b,(g.commit (g.blk l) (if wr then 0 else (xs.length + ys.length) * k)).com b = if b = g.blk l then (if wr then 0 else (xs.length + ys.length) * k) else g.com b := fun b => rfl
    obtain ⟨T,I'⟩ := arr_turn (w' := w.setCells (g.blk l) (xs.length * k) news) (g' := g.commit (g.blk l) (if wr then 0 else (xs.length + ys.length) * k)) (xs' := xs ++ ys) I hl (fun _ _ => ⟨rfl,rfl⟩) (.inl rfl)
      (fun b hbn => by rw [hcm]; exact if_neg hbn)
      (by show _ ≤ (g.commit _ _).com (g.blk l); rw [hcm,if_pos rfl,Nat.add_mul]; show g.com (g.blk l) ≤ _; rw [h5]; cases wr <;> simp)
      (fun b' hlt hne' => a4 b' hne') (fun us0 ty0 fr0 hb0 => by
        have hb1 : w.heap[g.blk l]? = some (.cells us0 ty0 fr0) := hb0
        rw [hb] at hb1; cases hb1
        refine ⟨us',_,a1,a2,fun j hj => ?_⟩
        have hj' : j < xs.length * k := by
          have : j < g.com (g.blk l) := hj
          rw [h5] at this; split at this <;> omega
        rw [a3,if_neg (by omega)])
      (by omega) (by rw [a5]; exact hgl) a6 a7 a8 (fun E => by
        refine ⟨us',ty,lo,hi,a1,by rw [a2]; exact hfr,by simpa using hrm,by rw [a2]; exact h4, ?_,h6,hkk,fun i' y' hy' j z' hz' v' hv' => ?_⟩
        · show (g.commit _ _).com (g.blk l) = _
          rw [hcm,if_pos rfl]; simp
        · rw [a3] at hv'
          have hjl := (List.getElem?_eq_some_iff.1 hz').1
          by_cases hi2 : i' < xs.length
          · rw [List.getElem?_append_left hi2] at hy'
            have hj : j < k := by rw [h7 y' (List.mem_of_getElem? hy')] at hjl; exact hjl
            have hle2 : (i' + 1) * k ≤ xs.length * k := Nat.mul_le_mul_right k (by omega)
            rw [Nat.succ_mul] at hle2
            rw [if_neg (by omega)] at hv'
            exact (h8 i' y' hy' j z' hz' v' hv').ev E
          · rw [List.getElem?_append_right (by omega)] at hy'
            have hj : j < k := by rw [hk y' (List.mem_of_getElem? hy')] at hjl; exact hjl
            have hi3 := (List.getElem?_eq_some_iff.1 hy').1
            have hle2 : (i' - xs.length + 1) * k ≤ ys.length * k := Nat.mul_le_mul_right k (by omega)
            rw [Nat.succ_mul] at hle2
            have he : i' * k = xs.length * k + (i' - xs.length) * k := by rw [← Nat.add_mul]; congr 1; omega
            rw [if_pos (by omega)] at hv'
            exact (hx (i' - xs.length) y' hy' j z' hz' v' (by rw [← hv']; congr 1; omega)).ev E)
    refine ⟨_,_,_,by rw [hq]; exact hrun,T,I',hfin _ _ _ (by show g.blk l < _; rw [a5]; exact hgl) rfl⟩
  · -- a new block
    obtain ⟨us',c,hrun,h1,h2,h9⟩ := app_grow (P := P) (rt := rt) I L hrx (by simp [rowOf,hl]) hr hy hq (fun _ => ⟨_,rfl⟩) h7 hk hne (by omega) hroom
    have hgl := I.lt hl rfl
    have hcm : ∀ b,((g.at l w.heap.size c).commit w.heap.size (if wr then 0 else (xs.length + ys.length) * k)).com b = if b = w.heap.size then (if wr then 0 else (xs.length + ys.length) * k) else g.com b := fun b => rfl
    have hbk : ((g.at l w.heap.size c).commit w.heap.size (if wr then 0 else (xs.length + ys.length) * k)).blk l = w.heap.size := by simp
    obtain ⟨T,I'⟩ := arr_turn (w' := w.drew.alloc (.cells us' e)) (g' := (g.at l w.heap.size c).commit w.heap.size (if wr then 0 else (xs.length + ys.length) * k)) (xs' := xs ++ ys) I hl
      (fun l' hne' => ⟨by simp [G.at_blk_ne _ _ _ _ _ hne'],by simp [G.at_cap_ne _ _ _ _ _ hne']⟩) (.inr (by rw [hbk]; exact Nat.le_refl _))
      (fun b hbn => by rw [hbk] at hbn; rw [hcm]; exact if_neg hbn)
      (by rw [hbk,I.fresh _ (Nat.le_refl _)]; exact Nat.zero_le _)
      (fun b' hlt hne' => push_old hlt) (fun us0 ty0 fr0 hb0 => by rw [hbk] at hb0; have := some_lt hb0; omega)
      (by show w.heap.size ≤ (w.heap.push _).size; simp) (by rw [hbk]; show w.heap.size < (w.heap.push _).size; simp) rfl rfl rfl (fun E => by
        refine ⟨us',e,0,0, ?_,.inr rfl,by simpa using h1,by simpa using h2, ?_,h6,hkk,fun i' y' hy' j z' hz' v' hv' => (h9 i' y' hy' j z' hz' v' hv').ev E⟩
        · rw [hbk]; show (w.heap.push _)[w.heap.size]? = _; simp
        · rw [hbk,hcm,if_pos rfl]; simp)
    refine ⟨_,_,_,hrun,T,I', ?_⟩
    have := hfin (w.drew.alloc (.cells us' e)) ((g.at l w.heap.size c).commit w.heap.size (if wr then 0 else (xs.length + ys.length) * k)) c (by rw [hbk]; show w.heap.size < (w.heap.push _).size; simp) (by simp)
    rw [hbk] at this
    exact this

theorem app_none {t e rt : TypeId} {k bytes : Nat} {z u q : Value} {x y : V} {xs : List V} (I : Inv w.heap g o) (L : El P t e k bytes z) (hrx : Rep w.heap g o x q) (hxx : rowOf o x = some xs) (hr : Rep w.heap g o y u) (hy : rowOf o y = some []) :
    Runs P (Builtin.append_ #[t,t] rt #[q,u]) w g o x o := by
  obtain ⟨ht,⟨i,hi,hiz,his,hib⟩,hz,hk0,hb0⟩ := L
  obtain ⟨a1,c1,rfl⟩ := row_len hr hy
  have key : ∃ a n c,q = .slice a n c ∧ n ≤ c := by
    cases hrx with
    | sl hc hsz hcap => exact ⟨_,_,_,rfl,hcap⟩
    | sl0 => exact ⟨_,_,_,rfl,Nat.le_refl _⟩
    | @ar l v _ hl hu ha =>
      simp only [rowOf] at hxx
      split at hxx
      · rename_i v' wr k' xs' hl'
        split at hxx
        · rename_i hv; subst hv; cases hxx
          obtain ⟨us,ty,lo,hi,hb,h2,h3,_⟩ := I.arr l v' wr k' xs hl'
          exact ⟨_,_,_,(ha _ _ _ _ hl').2 rfl,h3⟩
        · cases hxx
      · cases hxx
    | @vw l v a n _ hl hu ha =>
      simp only [rowOf] at hxx
      split at hxx
      · rename_i v' wr k' xs' hl'
        split at hxx
        · rename_i hv; subst hv; cases hxx
          obtain ⟨_,b,c,c2,c3,_⟩ := (ha _ _ _ _ hl').2 rfl
          exact ⟨_,_,_,c3,c2⟩
        · cases hxx
      · cases hxx
    | sc hp =>
      unfold rowOf at hxx
      split at hxx <;> first | (simp_all; done) | exact ⟨none,0,0,by simp_all,Nat.le_refl _⟩
    | _ => simp [rowOf] at hxx
  obtain ⟨a,n,c,rfl,hnc⟩ := key
  refine .same (r := .slice a n c) I ?_ hrx
  cases a1 <;> cases a <;> simp [Builtin.append_,run_underlying ht,sizeOf,typeInfo,hi,Builtin.lenOf,hnc,Builtin.firstCells,loadCells,loadCellsFrom,storeCells]
end Go.Proofs.Pe
end

section
set_option linter.unusedVariables false
namespace Go.Proofs.Pe
variable {P : Program} {w : World} {g : G} {o : List O}

theorem run_append_room_zeros (w : World) (t tn ty e : TypeId) (i : TypeInfo) (z : Value) (kq kn : IntKind) (ht : P.underlying t = some (.slice e)) (htn : P.underlying tn = some (.int kn)) (hi : P.info? e = some i) (hz : i.zero = some z) (hzs : z.cells.size = i.size)
    (b off sLen sCap m : Nat) (h0 : 0 < m) (hs : 0 < i.size) (h63 : (m : Int) ≤ 9223372036854775807) (h48 : m * i.bytes ≤ 281474976710656) (h1 : ∀ u ∈ (Builtin.zeroCells z.cells m).toList,u.oneCell' = true)
    (hroom : sLen + m ≤ sCap) (hc : ∀ j,j < (Builtin.zeroCells z.cells m).toList.length → (w.cell? ⟨b,off + sLen * i.size + j,none⟩).isSome = true) (hf : ∀ j,j < (Builtin.zeroCells z.cells m).toList.length → w.frozen? ⟨b,off + sLen * i.size + j,none⟩ = false) :
    (Builtin.append_ #[t,tn] ty #[.slice (some ⟨b,off,none⟩) sLen sCap,.int kq m]).run P w = .ok (.slice (some ⟨b,off,none⟩) (sLen + m) sCap) (w.setCells b (off + sLen * i.size) (Builtin.zeroCells z.cells m).toList) := by
  have hst := run_storeCells_cells (P := P) b (off + sLen * i.size) (Builtin.zeroCells z.cells m).toList 0 w (by simpa using hc) (by simpa using hf) h1
  simp only [Nat.add_zero] at hst
  have hk : m ≠ 0 := by omega
  have hw : IntKind.i64.wrap (m : Int) = m := by rw [IntKind.wrap_i64]; omega
  have h48i : ¬ (281474976710656 < (m : Int) * (i.bytes : Int)) := by
    rw [← Int.natCast_mul]; omega
  have hneg : ¬ ((m : Int) < 0) := by omega
  have hns : ¬ (m * i.size = 0) := Nat.mul_ne_zero hk (by omega)
  simp [Builtin.append_,run_underlying ht,run_underlying htn,sizeOf,typeInfo,zeroValue,hi,hz,asInt,asIntOf,hw,hneg,hns,h48i,hroom,Addr.add_lit,hst]
end Go.Proofs.Pe
end

section
set_option linter.unusedVariables false
namespace Go.Proofs.Pe
variable {P : Program} {w : World} {g : G} {o : List O}

theorem intOf_rep {h : Array Obj} {x : V} {u : Value} {n : Int} (hr : Rep h g o x u) (e : intOf x = some n) : ∃ k,u = .int k n := by
  cases hr with
  | sc hp => cases u <;> simp [intOf] at e; subst e; exact ⟨_,rfl⟩
  | _ => simp [intOf] at e

/-! ### make -/
theorem zero_get {z : Value} {x : V} {k : Nat} (hz : ofVal z = some x) (hs : x.solid = true) (hk : x.cells.length = k) (h : Array Obj) : Reps h g o x.cells z.cells.toList := (ofVal_rep hz).cells hs

theorem make_ok {t e : TypeId} {k bytes : Nat} {z : Value} {x : V} {n c : Int} {kn kc : IntKind} (I : Inv w.heap g o) (L : El P t e k bytes z) (hz : ofVal z = some x) (hs : x.solid = true) (hxk : x.cells.length = k)
    (h0 : 0 ≤ n) (hn : n ≤ c) (hroom : c * bytes ≤ room) : Runs P (Instr.makeSlice t (.int kn n) (.int kc c)) w g o (.ar o.length 0) (o ++ [.arr 0 true k (List.replicate n.toNat x)]) := by
  obtain ⟨ht,⟨i,hi,hiz,his,hib⟩,hzs,hk0,hb0⟩ := L
  have hc1 : c ≤ c * bytes := by
    have : c * 1 ≤ c * bytes := Int.mul_le_mul_of_nonneg_left (by omega) (by omega)
    omega
  have hrun := run_make (P := P) w t e i z ht hi hiz kn kc n c h0 hn (by rw [hib,Int.mul_comm]; unfold room at hroom; omega) (by unfold room at hroom; omega)
  refine new_arr (w1 := w) (lo := 0) (hi := 0) (c := c.toNat) I rfl rfl rfl rfl hrun (by simp) (.inr rfl) (by simp; omega) (by rw [size_madeCells,his]; exact Nat.le_refl _) hk0 (fun y hy => by rw [List.eq_of_mem_replicate hy]; exact hxk) fun p y hy j z' hz' v hv => ?_
  have hy' : y = x := List.eq_of_mem_replicate (List.mem_of_getElem? hy)
  subst hy'
  have hp : p < n.toNat := by have := (List.getElem?_eq_some_iff.1 hy).1; simpa using this
  have hj : j < k := by have := (List.getElem?_eq_some_iff.1 hz').1; omega
  have hle : (p + 1) * k ≤ c.toNat * k := Nat.mul_le_mul_right k (by omega)
  rw [Nat.succ_mul] at hle
  have hzz := (zero_get (g := g) (o := o) hz hs hxk w.heap).2 j z' hz' v
  refine hzz ?_
  have hm : (p * k + j) % z.cells.size = j := by rw [hzs,Nat.mul_comm,Nat.mul_add_mod]; exact Nat.mod_eq_of_lt hj
  have hlt : p * k + j < c.toNat * i.size := by rw [his]; omega
  rw [madeCells,Array.getElem?_map,Array.getElem?_range,if_pos hlt] at hv
  simp only [Option.map_some,Option.some.injEq] at hv
  rw [hm] at hv
  rw [← hv,Array.getElem?_toList]
  have : j < z.cells.size := by omega
  rw [getElem!_pos z.cells j this,Array.getElem?_eq_getElem this]

/-! ### bytes and strings -/
theorem bytesWorld_alloc (w : World) (e : TypeId) (s : ByteArray) : Lib.bytesWorld w e s = w.drew.alloc (.cells (Lib.bytesCells w e s) e ((Lib.bytesCells w e s).size,(Lib.bytesCells w e s).size + 1)) := by
  have hh : (Lib.bytesWorld w e s).heap = (w.drew.alloc (.cells (Lib.bytesCells w e s) e ((Lib.bytesCells w e s).size,(Lib.bytesCells w e s).size + 1))).heap := by
    apply Array.ext_getElem?
    intro j
    rcases Nat.lt_trichotomy j w.heap.size with h | h | h
    · rw [Lib.bytesWorld_at_old w e s j h]; exact (push_old (h := w.heap) h).symm
    · subst h; rw [Lib.bytesWorld_at_new]; show _ = (w.heap.push _)[w.heap.size]?; simp
    · rw [Array.getElem?_eq_none (by rw [Lib.bytesWorld_size]; omega),Array.getElem?_eq_none (by show (w.heap.push _).size ≤ j; simp; omega)]
  have h1 : Lib.bytesWorld w e s = { (w.drew.alloc (.cells (Lib.bytesCells w e s) e ((Lib.bytesCells w e s).size,(Lib.bytesCells w e s).size + 1))) with heap := (Lib.bytesWorld w e s).heap } := by
    unfold Lib.bytesWorld World.freeze
    split
    · omega
    · rfl
  rw [h1,hh]

theorem bytesV_length (s : ByteArray) : (bytesV s).length = s.size := by simp [bytesV]

theorem s2b_ok {src dst e : TypeId} {td : TypeDesc} {s : ByteArray} (I : Inv w.heap g o) (hs : P.underlying src = some td) (hd : P.underlying dst = some (.slice e)) (he : P.underlying e = some (.int .u8)) :
    Runs P (convert src dst (.string s)) w g o (.ar o.length 0) (o ++ [.arr 0 true 1 (bytesV s)]) := by
  have hrun := Lib.run_convert_string_bytes (P := P) w src dst e s hs hd he
  rw [bytesWorld_alloc] at hrun
  have hsz : (Lib.bytesCells w e s).size = grownCap w s.size 0 e := by
    have := grownCap_ge w s.size 0 e
    simp [Lib.bytesCells]; omega
  refine new_arr (w1 := w.drew) (c := grownCap w s.size 0 e) I rfl rfl rfl rfl hrun (by rw [bytesV_length]) (.inl (Nat.le_refl _)) (by rw [bytesV_length]; exact grownCap_ge w s.size 0 e) (by omega) (by omega) (fun x hx => ?_) fun i y hy j z hz v hv => ?_
  · simp only [bytesV,List.mem_map] at hx; obtain ⟨b,_,rfl⟩ := hx; rfl
  · have hi := (List.getElem?_eq_some_iff.1 hy).1
    rw [bytesV_length] at hi
    simp only [bytesV,List.getElem?_map,Option.map_eq_some_iff] at hy
    obtain ⟨b,hb,rfl⟩ := hy
    cases j with
    | succ j => simp [V.cells] at hz
    | zero =>
      simp only [V.cells,List.getElem?_cons_zero,Option.some.injEq] at hz; subst hz
      have hc := Lib.bytesWorld_cell w e s i hi
      rw [bytesWorld_alloc] at hc
      have : (Lib.bytesCells w e s)[i]? = some (.int .u8 (s.data.toList.getD i 0).toNat) := by
        have h2 := cell_of (w := w.drew.alloc (.cells (Lib.bytesCells w e s) e ((Lib.bytesCells w e s).size,(Lib.bytesCells w e s).size + 1))) (b := w.heap.size) (off := i) (us := Lib.bytesCells w e s) (ty := e) (fr := ((Lib.bytesCells w e s).size,(Lib.bytesCells w e s).size + 1)) (by show (w.heap.push _)[w.heap.size]? = _; simp)
        rw [← h2]; exact hc
      rw [show i * 1 + 0 = i by omega,this] at hv
      cases hv
      have e3 : s.data.toList.getD i 0 = b := by rw [List.getD_eq_getElem?_getD,hb]; rfl
      rw [e3]; exact .sc rfl

theorem mks_ok {t e : TypeId} {l v k : Nat} {xs : List V} {u : Value} (I : Inv w.heap g o) (hr : Rep w.heap g o (.ar l v) u) (hl : o[l]? = some (.arr v true k xs)) (ht : P.underlying t = some (.slice e)) (he : P.underlying e = some (.int .u8)) :
    Runs P (convert t t u) w g o (.ar l v) o := by
  have hr0 := hr
  cases hr with
  | ar hlt hu ha =>
    have hu := (ha v true k xs hl).2 rfl
    subst hu
    obtain ⟨us,ty,lo,hi,hb,hfr,h3,h4,h5,h6,h7,h8⟩ := I.arr l v true k xs hl
    have hset : o.set l (.arr v true k xs) = o := by
      apply List.ext_getElem?
      intro i
      rw [List.getElem?_set]
      split
      · rename_i e; subst e; first | rw [hl] | rw [if_pos hlt,hl]
      · rfl
    have hbl := some_lt hb
    have hsh : w.shape? (g.blk l) = some (ty,us.size) := by unfold World.shape?; rw [hb]
    let fr' : Nat × Nat := if lo == hi then (us.size,us.size + 1) else (min lo us.size,max hi (us.size + 1))
    have hw : ∀ b,(w.freeze ⟨g.blk l,us.size,none⟩ 1).heap[b]? = if b = g.blk l then some (.cells us ty fr') else w.heap[b]? := fun b => by
      unfold World.freeze
      rw [if_neg (by decide)]
      show (w.heap.modify (g.blk l) _)[b]? = _
      rw [Array.getElem?_modify]
      by_cases e : b = g.blk l
      · subst e; rw [if_pos rfl,if_pos rfl,hb]; rfl
      · rw [if_neg (Ne.symm e),if_neg e]
    have hs : (w.freeze ⟨g.blk l,us.size,none⟩ 1).heap.size = w.heap.size := by
      unfold World.freeze
      rw [if_neg (by decide)]
      simp
    have hfz : FrB us.size fr'.1 fr'.2 := by
      simp only [fr']
      unfold FrB at hfr ⊢
      split
      · exact .inl (Nat.le_refl _)
      · rename_i hne
        have : lo ≠ hi := by simpa using hne
        exact .inl (by show us.size ≤ min lo us.size; omega)
    have T := tr_cells (w' := w.freeze ⟨g.blk l,us.size,none⟩ 1) (ob' := .arr v true k xs) I hl rfl rfl (fun _ h => by cases h) (fun h => absurd rfl (h v true k xs)) (fun _ _ _ _ h => by cases h; exact ⟨_,_,rfl,rfl⟩)
      (by simpa using h5) hb ((hw _).trans (if_pos rfl)) rfl (fun b hbn => (hw b).trans (if_neg hbn)) hs (by unfold World.freeze; rfl) (by unfold World.freeze; rfl) (by unfold World.freeze; rfl)
    have I' := inv_cells (ob' := .arr v true k xs) I hl rfl rfl T (fun b hbn => (hw b).trans (if_neg hbn)) hs (fun _ h => by cases h)
      (fun v' wr k' xs' h => by
        cases h
        refine ⟨us,ty,fr'.1,fr'.2,(hw _).trans (if_pos rfl),hfz,h3,h4,h5,h6,h7,fun i x hx j y hy u hu => (h8 i x hx j y hy u hu).ev T.ev⟩)
      (fun _ _ _ _ _ _ _ h => by cases h) (fun _ h => by cases h) (fun _ h => by cases h)
    rw [hset] at T I'
    refine ⟨_,_,g, ?_,T,I',hr0.ev T.ev⟩
    simp [convert,run_underlying ht,run_underlying he,markStringish,hsh]

theorem bytesOf_get : ∀ {xs : List V} {bs : List UInt8},bytesOf xs = some bs → bs.length = xs.length ∧ ∀ (i : Nat) (x : V),xs[i]? = some x → ∃ n,x = .sc (.int .u8 n) ∧ bs[i]? = some (UInt8.ofNat n.toNat)
  | [],bs,h => by simp [bytesOf] at h; subst h; exact ⟨rfl,fun i x hx => by simp at hx⟩
  | x :: xs,bs,h => by
    unfold bytesOf at h
    split at h
    · rename_i e; cases e
    · rename_i n xs' e
      cases e
      cases hb : bytesOf xs with
      | none => simp [hb] at h
      | some bs' =>
        simp [hb] at h; subst h
        obtain ⟨h1,h2⟩ := bytesOf_get hb
        refine ⟨by simp [h1],fun i x hx => ?_⟩
        cases i with
        | zero => simp at hx; subst hx; exact ⟨n,rfl,by simp⟩
        | succ i => simp at hx; simpa using h2 i x hx
    · cases h

theorem b2s_ok {src dst e : TypeId} {x : V} {u : Value} {xs : List V} {bs : List UInt8} (I : Inv w.heap g o) (hr : Rep w.heap g o x u) (hx : rowOf o x = some xs) (hb : bytesOf xs = some bs)
    (hs : P.underlying src = some (.slice e)) (he : P.underlying e = some (.int .u8)) (hd : P.underlying dst = some .string) : Runs P (convert src dst u) w g o (.sc (.string ⟨bs.toArray⟩)) o := by
  obtain ⟨hl,hget⟩ := bytesOf_get hb
  by_cases hne : xs = []
  · subst hne
    have hbs : bs = [] := List.eq_nil_of_length_eq_zero (by simpa using hl)
    subst hbs
    obtain ⟨a,c,rfl⟩ := row_len hr hx
    refine .same (r := .string ⟨#[]⟩) I ?_ (.sc rfl)
    cases a with
    | none => simp [convert,run_underlying hs,run_underlying he,run_underlying hd,Conv.bytesToString]; rfl
    | some a => simp [convert,run_underlying hs,run_underlying he,run_underlying hd,Conv.bytesToString,loadCells,loadCellsFrom]; rfl
  · have hk : ∀ y,y ∈ xs → y.cells.length = 1 := fun y hy => by
      obtain ⟨i,hi,e2⟩ := List.getElem_of_mem hy
      obtain ⟨n,e3,_⟩ := hget i y (by rw [List.getElem?_eq_getElem hi,e2])
      subst e3; rfl
    obtain ⟨b,off,c,news,rfl,hln,hcell,_,hxx⟩ := row_cells I hr hx hk hne
    have hval : ∀ i,i < xs.length → ∃ n : Int,xs[i]? = some (.sc (.int .u8 n)) ∧ news[i]? = some (.int .u8 n) ∧ bs[i]? = some (UInt8.ofNat n.toNat) := fun i hi => by
      obtain ⟨n,e3,e4⟩ := hget i xs[i] (List.getElem?_eq_getElem hi)
      have hx1 : xs[i]? = some (.sc (.int .u8 n)) := by rw [List.getElem?_eq_getElem hi,e3]
      have hn : news[i]? = some news[i] := List.getElem?_eq_getElem (by omega)
      have := hxx i _ hx1 0 (.sc (.int .u8 n)) rfl news[i] (by rw [show i * 1 + 0 = i by omega]; exact hn)
      refine ⟨n,hx1, ?_,e4⟩
      rw [hn]
      generalize news[i] = q at this
      cases this; rfl
    let ns : List Int := xs.map fun x => match x with | .sc (.int .u8 n) => n | _ => 0
    have hns : ∀ i,i < xs.length → ∃ n : Int,ns[i]? = some n ∧ news[i]? = some (.int .u8 n) ∧ bs[i]? = some (UInt8.ofNat n.toNat) := fun i hi => by
      obtain ⟨n,h1,h2,h3⟩ := hval i hi
      exact ⟨n,by simp [ns,h1],h2,h3⟩
    have hrun := run_convert_bytes_arg (P := P) w src e hs he b off xs.length c ns (by simp [ns]) (fun i hi => by
      obtain ⟨n,h1,h2,h3⟩ := hns i hi
      have := hcell i _ h2
      rw [add_none] at this
      rw [this,List.getD_eq_getElem?_getD,h1]; rfl) dst hd
    have hstr : strOfNums ns = ⟨bs.toArray⟩ := by
      unfold strOfNums
      congr 2
      apply List.ext_getElem?
      intro i
      by_cases hi : i < xs.length
      · obtain ⟨n,h1,h2,h3⟩ := hns i hi
        rw [List.getElem?_map,h1,h3]; rfl
      · rw [List.getElem?_eq_none (by simp [ns]; omega),List.getElem?_eq_none (by omega)]
    rw [hstr] at hrun
    exact .same I hrun (.sc rfl)

/-! ### Slicing -/
theorem bound_ok {n y m : Nat} {s : St} {e : E} {v : Value} {code : BoundsCode} {h : Array Obj} (hb : bound s n (some e) = some m) (hr : Rep h g o (e.ev s) v) (hy : n ≤ y) : (Instr.sliceBound v y code).run P w = .ok m w ∧ m ≤ n := by
  simp only [bound] at hb
  cases hi : intOf (e.ev s) with
  | none => simp [hi] at hb
  | some i =>
    simp only [hi] at hb
    split at hb
    · rename_i hc
      cases hb
      obtain ⟨k,rfl⟩ := intOf_rep hr hi
      refine ⟨?_,by omega⟩
      simp [Instr.sliceBound,asIntOf,hc.1,show i ≤ (y : Int) by omega]
    · cases hb

theorem slice_vw {z0 : Bool} {t e : TypeId} {i : TypeInfo} {k h l lo0 m : Nat} {la va : Nat} {wr : Bool} {xs : List V} {u : Value} {lo hi mx : Option Value} (I : Inv w.heap g o) (hla : o[la]? = some (.arr va wr k xs))
    (hr : (∃ u',u = u' ∧ Rep w.heap g o (.ar la va) u' ∧ lo0 = 0 ∧ m = xs.length) ∨ Rep w.heap g o (.vw la va lo0 m) u)
    (ht : P.underlying t = some (.slice e)) (hi' : P.info? e = some i) (hk : i.size = k)
    (hb : ∀ cap,m ≤ cap → ∃ m',(Instr.sliceBounds true m cap lo hi mx).run P w = .ok (l,h,m') w ∧ h ≤ m' ∧ m' ≤ cap ∧ (z0 = true → m' = l)) (hlh : l ≤ h) (hh : h ≤ m) :
    Runs P (Instr.sliceAt t u lo hi mx) w g o (if z0 = true then .sl k true [] else .vw la va (lo0 + l) (h - l)) o := by
  have key : ∃ b c,m ≤ c ∧ u = .slice (some b) m c ∧ lo0 + m ≤ xs.length ∧ (0 < m → b = ⟨g.blk la,lo0 * k,none⟩) := by
    rcases hr with ⟨_,rfl,hr,rfl,rfl⟩ | hr
    · cases hr with
      | ar hl hu ha =>
        have := (ha _ _ _ _ hla).2 rfl
        obtain ⟨us,ty,lo,hi,hb,h2,h3,h4⟩ := I.arr la va wr k xs hla
        exact ⟨_,_,h3,this,by omega,fun _ => by simp⟩
    · cases hr with
      | vw hl hu ha =>
        obtain ⟨c1,b,c,c2,c3,c4⟩ := (ha _ _ _ _ hla).2 rfl
        exact ⟨b,c,c2,c3,c1,c4⟩
  obtain ⟨b,cap,hcap,rfl,hle,hbe⟩ := key
  obtain ⟨m',hrun,hm,hmc,hz⟩ := hb cap hcap
  have hll : la < o.length := (List.getElem?_eq_some_iff.1 hla).1
  refine .same (r := .slice (some (if m' = l then b else b.add (l * k))) (h - l) (m' - l)) I ?_ ?_
  · by_cases e : m' = l
    · simp [Instr.sliceAt,Instr.slice,run_underlying ht,hrun,sizeOf,typeInfo,hi',e]
    · simp [Instr.sliceAt,Instr.slice,run_underlying ht,hrun,sizeOf,typeInfo,hi',hk,e]
  · by_cases hz0 : z0 = true
    · have e := hz hz0
      rw [if_pos hz0,if_pos e,show h - l = 0 by omega,show m' - l = 0 by omega]
      exact .sl0
    · rw [if_neg hz0]
      refine .vw hll ⟨_,_,_,rfl⟩ fun v0 wr' k' xs' hx => ?_
      rw [hla] at hx; cases hx
      refine ⟨Nat.le_refl _,fun _ => ⟨by omega,_,_,by omega,rfl,fun hp => ?_⟩⟩
      rw [if_neg (by omega),hbe (by omega),add_none,Nat.add_mul]

theorem slice_sl {t e : TypeId} {i : TypeInfo} {k h l m : Nat} {full full' : Bool} {xs : List V} {u : Value} {lo hi mx : Option Value} (I : Inv w.heap g o) (hr : Rep w.heap g o (.sl k full xs) u)
    (ht : P.underlying t = some (.slice e)) (hi' : P.info? e = some i) (hk : i.size = k)
    (hb : ∀ cap,xs.length ≤ cap → (full = true → cap = xs.length) → ∃ m',(Instr.sliceBounds true xs.length cap lo hi mx).run P w = .ok (l,h,m') w ∧ h ≤ m' ∧ m' ≤ cap ∧ (full' = true → m' = h)) (hlh : l ≤ h) (hh : h ≤ xs.length) :
    Runs P (Instr.sliceAt t u lo hi mx) w g o (.sl k full' ((xs.take h).drop l)) o := by
  cases hr with
  | @sl0 _ _ x =>
    obtain ⟨m',hrun,hm,hmc,hf⟩ := hb 0 (Nat.le_refl _) (fun _ => rfl)
    have hh0 : h = 0 := by simpa using hh
    have hl0 : l = 0 := by omega
    subst hh0; subst hl0
    have hm0 : m' = 0 := by omega
    subst hm0
    simp only [List.length_nil] at hrun
    refine .same (r := .slice (some x) 0 0) I ?_ .sl0
    simp [Instr.sliceAt,Instr.slice,run_underlying ht,hrun,sizeOf,typeInfo,hi']
  | @sl _ _ _ b off cap us ty fr hc hsz hcap hfull hbb hkk hx =>
    obtain ⟨m',hrun,hm,hmc,hf⟩ := hb cap hcap hfull
    have hl1 : l * k ≤ h * k := Nat.mul_le_mul_right k hlh
    have hl2 : h * k ≤ xs.length * k := Nat.mul_le_mul_right k hh
    have hlen : ((xs.take h).drop l).length = h - l := by simp; omega
    have hsub : (h - l) * k = h * k - l * k := Nat.sub_mul h l k
    have hget : ∀ (i : Nat) (x : V),((xs.take h).drop l)[i]? = some x → xs[l + i]? = some x := fun i x hi => by
      rw [List.getElem?_drop] at hi
      have := (List.getElem?_eq_some_iff.1 hi).1
      rw [List.getElem?_take_of_lt (by simp at this; omega)] at hi
      exact hi
    refine .same (r := .slice (some ⟨b,if m' = l then off else off + l * k,none⟩) ((xs.take h).drop l).length (m' - l)) I ?_ ?_
    · rw [hlen]
      by_cases e : m' = l
      · simp [Instr.sliceAt,Instr.slice,run_underlying ht,hrun,sizeOf,typeInfo,hi',e]
      · simp [Instr.sliceAt,Instr.slice,run_underlying ht,hrun,sizeOf,typeInfo,hi',hk,e,add_none]
    · by_cases e : m' = l
      · have h0 : h - l = 0 := by omega
        refine .sl (by rw [hlen,h0,if_pos e]; omega) (by rw [hlen,h0,if_pos e]; omega) (by omega) (fun hh => by have := hf hh; omega) hbb (fun i x hi => hkk _ x (hget i x hi)) fun i x hi j y hy v hv => ?_
        have := (List.getElem?_eq_some_iff.1 hi).1; omega
      · rw [if_neg e]
        refine .sl (by rw [hlen,hsub]; omega) (by rw [hlen,hsub]; omega) (by omega) (fun hh => by have := hf hh; omega) hbb (fun i x hi => hkk _ x (hget i x hi)) fun i x hi j y hy v hv => ?_
        refine hx _ x (hget i x hi) j y hy v ?_
        rw [← hv]; congr 1; rw [Nat.add_mul]; omega
end Go.Proofs.Pe
end

section
set_option linter.unusedVariables false
namespace Go.Proofs.Pe
variable {P : Program} {w : World} {g : G} {o : List O}

theorem zero_cells {k m : Nat} {z : Value} {zv : V} (hz : ofVal z = some zv) (hs : zv.solid = true) (hxk : zv.cells.length = k) (hzs : z.cells.size = k) (hk0 : 0 < k) (h : Array Obj) :
    (Builtin.zeroCells z.cells m).toList.length = m * k ∧ (∀ v,v ∈ (Builtin.zeroCells z.cells m).toList → v.oneCell' = true) ∧
    ∀ (i : Nat) (y : V),(List.replicate m zv)[i]? = some y → ∀ (j : Nat) (z' : V),y.cells[j]? = some z' → ∀ v,(Builtin.zeroCells z.cells m).toList[i * k + j]? = some v → Rep h g o z' v := by
  have hR := zero_get (g := g) (o := o) hz hs hxk h
  have hl : (Builtin.zeroCells z.cells m).toList.length = m * k := by rw [Array.length_toList,size_zeroCells,hzs]
  have hget : ∀ q v,(Builtin.zeroCells z.cells m).toList[q]? = some v → q < m * k ∧ z.cells.toList[q % k]? = some v := fun q v hv => by
    have hq := (List.getElem?_eq_some_iff.1 hv).1
    rw [hl] at hq
    rw [Array.getElem?_toList,Builtin.zeroCells,Array.getElem?_map,Array.getElem?_range,if_pos (by rw [hzs]; exact hq)] at hv
    simp only [Option.map_some,Option.some.injEq] at hv
    have hlt : q % z.cells.size < z.cells.size := Nat.mod_lt _ (by omega)
    rw [getElem!_pos z.cells _ hlt] at hv
    refine ⟨hq, ?_⟩
    rw [Array.getElem?_toList,← hzs,Array.getElem?_eq_getElem hlt,hv]
  refine ⟨hl,fun v hv => ?_,fun i y hy j z' hz' v hv => ?_⟩
  · obtain ⟨q,hq⟩ := List.getElem?_of_mem hv
    obtain ⟨h1,h2⟩ := hget q v hq
    have hlt : q % k < zv.cells.length := by rw [hxk]; exact Nat.mod_lt _ hk0
    have h3 := hR.2 (q % k) _ (List.getElem?_eq_getElem hlt) v h2
    have := h3.oneCell (solid_cells hs _ (List.getElem_mem hlt))
    cases v <;> first | rfl | (exfalso; exact this.2.1 _ rfl) | (exfalso; exact this.2.2 _ rfl)
  · have hy' : y = zv := List.eq_of_mem_replicate (List.mem_of_getElem? hy)
    subst hy'
    have hj : j < k := by have := (List.getElem?_eq_some_iff.1 hz').1; omega
    obtain ⟨h1,h2⟩ := hget _ v hv
    rw [Nat.mul_comm,Nat.mul_add_mod,Nat.mod_eq_of_lt hj] at h2
    exact hR.2 j z' hz' v h2

theorem apz_grow {t tn e rt : TypeId} {kq kn : IntKind} {k bytes m : Nat} {z q : Value} {x zv : V} {xs : List V} {cap : Nat} {a0 : Option Addr} (I : Inv w.heap g o) (L : El P t e k bytes z) (hrx : Rep w.heap g o x q) (hxx : rowOf o x = some xs) (hkn : P.underlying tn = some (.int kn)) (hz : ofVal z = some zv) (hs : zv.solid = true) (hxk : zv.cells.length = k) (hm : 0 < m)
    (hq : q = .slice a0 xs.length cap) (hq0 : xs = [] → (∃ a,a0 = some a) ∨ a0 = none)
    (hkx : ∀ x,x ∈ xs → x.cells.length = k) (hg : cap < xs.length + m) (hroom : (xs.length + m) * bytes ≤ room) :
    ∃ us : Array Value,∃ c,(Builtin.append_ #[t,tn] rt #[q,.int kq m]).run P w = .ok (.slice (some ⟨w.heap.size,0,none⟩) (xs.length + m) c) (w.drew.alloc (.cells us e)) ∧ xs.length + m ≤ c ∧ c * k ≤ us.size ∧
      ∀ (i : Nat) (y : V),(xs ++ List.replicate m zv)[i]? = some y → ∀ (j : Nat) (z : V),y.cells[j]? = some z → ∀ v,us[i * k + j]? = some v → Rep w.heap g o z v := by
  obtain ⟨ht,⟨i,hi,hiz,his,hib⟩,hzs,hk0,hb0⟩ := L
  obtain ⟨hln,hone,hx⟩ := zero_cells (m := m) (g := g) (o := o) hz hs hxk hzs hk0 w.heap
  have h63 : xs.length + m ≤ (xs.length + m) * bytes := Nat.le_mul_of_pos_right _ hb0
  obtain ⟨olds,hlo,hold,hox⟩ : ∃ olds : List Value,olds.length = xs.length * k ∧ (Builtin.firstCells i.size xs.length (.slice a0 xs.length cap)).run P w.drew = .ok olds.toArray w.drew ∧
      ∀ (i : Nat) (y : V),xs[i]? = some y → ∀ (j : Nat) (z : V),y.cells[j]? = some z → ∀ v,olds[i * k + j]? = some v → Rep w.heap g o z v := by
    by_cases hx0 : xs = []
    · subst hx0
      rcases hq0 rfl with ⟨a1,rfl⟩ | rfl
      · exact ⟨[],by simp,run_firstCells_some (P := P) w.drew i.size 0 a1 0 cap [] (by simp) (by simp),by simp⟩
      · exact ⟨[],by simp,by simp [Builtin.firstCells],by simp⟩
    · obtain ⟨b1,off1,c1,olds,e1,h1,h2,_,h3⟩ := row_cells I hrx hxx hkx hx0
      rw [hq] at e1; cases e1
      exact ⟨olds,h1,run_firstCells_some (P := P) w.drew i.size xs.length _ xs.length cap olds (by rw [h1,his]) (by simpa using h2),h3⟩
  subst hq
  have hge := grownCap_ge w (xs.length + m) cap e
  have hmb : m * bytes ≤ (xs.length + m) * bytes := Nat.mul_le_mul_right _ (by omega)
  have hrun := Lib.run_append_grow_zeros (P := P) w t tn rt e i z kq kn ht hkn hi hiz a0 xs.length cap olds hold m hm (by omega) hg (by unfold room at hroom; omega) (by rw [hib]; unfold room at hroom; omega)
    (growslice_fits hg (by rw [hib]; exact hroom))
  refine ⟨_,_,hrun,hge, ?_,fun i y hy j z' hz' v hv => ?_⟩
  · have := size_row z xs.length m (grownCap w (xs.length + m) cap e) k hzs hge
    rw [Array.length_toList] at hln
    simp only [Array.size_append,List.size_toArray,hlo,hln]; omega
  · have := cat_row (rest := (Builtin.zeroCells z.cells (grownCap w (xs.length + m) cap e - (xs.length + m))).toList) hlo (by simpa using hln) hkx (fun x hx => by rw [List.eq_of_mem_replicate hx]; exact hxk) hox hx i y hy j z' hz' v
    refine this ?_
    rw [← hv,← Array.getElem?_toList]; simp

theorem apz_full {t tn e rt : TypeId} {kq kn : IntKind} {k bytes m : Nat} {z q : Value} {zv : V} {xs : List V} (I : Inv w.heap g o) (L : El P t e k bytes z) (hrx : Rep w.heap g o (.sl k true xs) q) (hkn : P.underlying tn = some (.int kn)) (hz : ofVal z = some zv) (hs : zv.solid = true) (hxk : zv.cells.length = k) (hm : 0 < m)
    (hroom : (xs.length + m) * bytes ≤ room) :
    Runs P (Builtin.append_ #[t,tn] rt #[q,.int kq m]) w g o (.ar o.length 0) (o ++ [.arr 0 true k (xs ++ List.replicate m zv)]) := by
  have hk : ∀ x,x ∈ List.replicate m zv → x.cells.length = k := fun x hx => by rw [List.eq_of_mem_replicate hx]; exact hxk
  have hkk := L.hk
  cases hrx with
  | sl0 =>
    obtain ⟨us',c,hrun,h1,h2,h3⟩ := apz_grow (P := P) (rt := rt) I L (.sl0 (k := k) (full := true)) rfl hkn hz hs hxk hm rfl (fun _ => .inl ⟨_,rfl⟩) (fun x hx => by cases hx) (by simp; omega) hroom
    exact new_arr (w1 := w.drew) (lo := 0) (hi := 0) I rfl rfl rfl rfl hrun (by simp) (.inr rfl) (by simpa using h1) h2 L.hk (fun x hx => by
      rcases List.mem_append.1 hx with h | h
      · cases h
      · exact hk x h) h3
  | @sl _ _ _ b off cap us ty fr hc hsz hcap hfull hb hkx hx =>
    have hcap' : cap = xs.length := hfull rfl
    have hkx' : ∀ x,x ∈ xs → x.cells.length = k := fun x hx => by
      obtain ⟨j,hj,e⟩ := List.getElem_of_mem hx
      exact (hkx j x (by rw [List.getElem?_eq_getElem hj,e])).1
    obtain ⟨us',c,hrun,h1,h2,h3⟩ := apz_grow (P := P) (rt := rt) I L (.sl hc hsz hcap hfull hb hkx hx) rfl hkn hz hs hxk hm rfl (fun _ => .inl ⟨_,rfl⟩) hkx' (by omega) hroom
    exact new_arr (w1 := w.drew) (lo := 0) (hi := 0) I rfl rfl rfl rfl hrun (by simp) (.inr rfl) (by simpa using h1) h2 L.hk (fun x hx => by
      rcases List.mem_append.1 hx with h | h
      · exact hkx' x h
      · exact hk x h) h3

theorem apz_ar {t tn e rt : TypeId} {kq kn : IntKind} {k bytes m : Nat} {z q : Value} {zv : V} {xs : List V} {l v : Nat} {wr : Bool} (I : Inv w.heap g o) (L : El P t e k bytes z) (hrx : Rep w.heap g o (.ar l v) q) (hl : o[l]? = some (.arr v wr k xs))
    (hkn : P.underlying tn = some (.int kn)) (hz : ofVal z = some zv) (hs : zv.solid = true) (hxk : zv.cells.length = k) (hm : 0 < m)
    (hroom : (xs.length + m) * bytes ≤ room) :
    Runs P (Builtin.append_ #[t,tn] rt #[q,.int kq m]) w g o (.ar l (v + 1)) (o.set l (.arr (v + 1) wr k (xs ++ List.replicate m zv))) := by
  have hk : ∀ x,x ∈ List.replicate m zv → x.cells.length = k := fun x hx => by rw [List.eq_of_mem_replicate hx]; exact hxk
  have hrl : (List.replicate m zv).length = m := List.length_replicate ..
  obtain ⟨us,ty,lo,hi,hb,hfr,h3,h4,h5,h6,h7,h8⟩ := I.arr l v wr k xs hl
  have hll : l < o.length := (List.getElem?_eq_some_iff.1 hl).1
  have hkk : ∀ x,x ∈ xs ++ List.replicate m zv → x.cells.length = k := fun x hx => by
    rcases List.mem_append.1 hx with h | h
    · exact h7 x h
    · exact hk x h
  have hfin : ∀ (w' : World) (g' : G) (c : Nat),g'.blk l < w'.heap.size → g'.cap l = c → Rep w'.heap g' (o.set l (.arr (v + 1) wr k (xs ++ List.replicate m zv))) (.ar l (v + 1)) (.slice (some ⟨g'.blk l,0,none⟩) (xs.length + m) c) := fun w' g' c hlt hc => by
    refine .ar (by simpa using hll) ⟨_,_,_,rfl⟩ fun v0 wr' k' xs' h => ?_
    rw [set_get hll,if_pos rfl] at h
    cases h
    exact ⟨Nat.le_refl _,fun _ => by rw [List.length_append,hrl,hc]⟩
  have hq : q = .slice (some ⟨g.blk l,0,none⟩) xs.length (g.cap l) := by
    cases hrx with
    | ar _ _ ha => exact (ha _ _ _ _ hl).2 rfl
  by_cases hrm : xs.length + m ≤ g.cap l
  · -- room
    obtain ⟨ht,⟨i,hi',hiz,his,hib⟩,hzs,hk0,hb0⟩ := L
    obtain ⟨hln,hone,hx⟩ := zero_cells (m := m) (g := g) (o := o) hz hs hxk hzs hk0 w.heap
    have hmb : m * bytes ≤ (xs.length + m) * bytes := Nat.mul_le_mul_right _ (by omega)
    have hmm : m ≤ m * bytes := Nat.le_mul_of_pos_right _ hb0
    have hle : (xs.length + m) * k ≤ g.cap l * k := Nat.mul_le_mul_right k hrm
    rw [Nat.add_mul] at hle
    have hrun := run_append_room_zeros (P := P) w t tn rt e i z kq kn ht hkn hi' hiz (by rw [hzs,his]) (g.blk l) 0 xs.length (g.cap l) m hm (by omega) (by unfold room at hroom; omega) (by rw [hib]; unfold room at hroom; omega) hone hrm
      (fun j hj => by rw [cell_of hb,his]; simp; omega)
      (fun j hj => by
        have := hfr.all (0 + xs.length * k + j) (by omega)
        simp only [World.frozen?,hb,his]
        simp at this ⊢; omega)
    rw [his,Nat.zero_add] at hrun
    obtain ⟨us',a1,a2,a3,a4,a5,a6,a7,a8⟩ := setCells_heap (g.blk l) (Builtin.zeroCells z.cells m).toList (xs.length * k) w us ty (lo,hi) hb (by omega)
    have hgl := I.lt hl rfl
    have hcm : ∀ b,(g.commit (g.blk l) (if wr then 0 else (xs.length + m) * k)).com b = if b = g.blk l then (if wr then 0 else (xs.length + m) * k) else g.com b := fun b => rfl
    obtain ⟨T,I'⟩ := arr_turn (w' := w.setCells (g.blk l) (xs.length * k) (Builtin.zeroCells z.cells m).toList) (g' := g.commit (g.blk l) (if wr then 0 else (xs.length + m) * k)) (xs' := xs ++ List.replicate m zv) I hl (fun _ _ => ⟨rfl,rfl⟩) (.inl rfl)
      (fun b hbn => by rw [hcm]; exact if_neg hbn)
      (by show _ ≤ (g.commit _ _).com (g.blk l); rw [hcm,if_pos rfl,Nat.add_mul]; show g.com (g.blk l) ≤ _; rw [h5]; cases wr <;> simp)
      (fun b' hlt hne' => a4 b' hne') (fun us0 ty0 fr0 hb0 => by
        have hb1 : w.heap[g.blk l]? = some (.cells us0 ty0 fr0) := hb0
        rw [hb] at hb1; cases hb1
        refine ⟨us',_,a1,a2,fun j hj => ?_⟩
        have hj' : j < xs.length * k := by
          have : j < g.com (g.blk l) := hj
          rw [h5] at this; split at this <;> omega
        rw [a3,if_neg (by omega)])
      (by omega) (by rw [a5]; exact hgl) a6 a7 a8 (fun E => by
        refine ⟨us',ty,lo,hi,a1,by rw [a2]; exact hfr,by simpa using hrm,by rw [a2]; exact h4, ?_,h6,hkk,fun i' y' hy' j z' hz' v' hv' => ?_⟩
        · show (g.commit _ _).com (g.blk l) = _
          rw [hcm,if_pos rfl]; simp
        · rw [a3] at hv'
          have hjl := (List.getElem?_eq_some_iff.1 hz').1
          by_cases hi2 : i' < xs.length
          · rw [List.getElem?_append_left hi2] at hy'
            have hj : j < k := by rw [h7 y' (List.mem_of_getElem? hy')] at hjl; exact hjl
            have hle2 : (i' + 1) * k ≤ xs.length * k := Nat.mul_le_mul_right k (by omega)
            rw [Nat.succ_mul] at hle2
            rw [if_neg (by omega)] at hv'
            exact (h8 i' y' hy' j z' hz' v' hv').ev E
          · rw [List.getElem?_append_right (by omega)] at hy'
            have hj : j < k := by rw [hk y' (List.mem_of_getElem? hy')] at hjl; exact hjl
            have hi3 := (List.getElem?_eq_some_iff.1 hy').1
            have hle2 : (i' - xs.length + 1) * k ≤ m * k := Nat.mul_le_mul_right k (by omega)
            rw [Nat.succ_mul] at hle2
            have he : i' * k = xs.length * k + (i' - xs.length) * k := by rw [← Nat.add_mul]; congr 1; omega
            rw [if_pos (by omega)] at hv'
            exact (hx (i' - xs.length) y' hy' j z' hz' v' (by rw [← hv']; congr 1; omega)).ev E)
    refine ⟨_,_,_,by rw [hq]; exact hrun,T,I',hfin _ _ _ (by show g.blk l < _; rw [a5]; exact hgl) rfl⟩
  · -- a new block
    obtain ⟨us',c,hrun,h1,h2,h9⟩ := apz_grow (P := P) (rt := rt) I L hrx (by simp [rowOf,hl]) hkn hz hs hxk hm hq (fun _ => .inl ⟨_,rfl⟩) h7 (by omega) hroom
    have hgl := I.lt hl rfl
    have hcm : ∀ b,((g.at l w.heap.size c).commit w.heap.size (if wr then 0 else (xs.length + m) * k)).com b = if b = w.heap.size then (if wr then 0 else (xs.length + m) * k) else g.com b := fun b => rfl
    have hbk : ((g.at l w.heap.size c).commit w.heap.size (if wr then 0 else (xs.length + m) * k)).blk l = w.heap.size := by simp
    obtain ⟨T,I'⟩ := arr_turn (w' := w.drew.alloc (.cells us' e)) (g' := (g.at l w.heap.size c).commit w.heap.size (if wr then 0 else (xs.length + m) * k)) (xs' := xs ++ List.replicate m zv) I hl
      (fun l' hne' => ⟨by simp [G.at_blk_ne _ _ _ _ _ hne'],by simp [G.at_cap_ne _ _ _ _ _ hne']⟩) (.inr (by rw [hbk]; exact Nat.le_refl _))
      (fun b hbn => by rw [hbk] at hbn; rw [hcm]; exact if_neg hbn)
      (by rw [hbk,I.fresh _ (Nat.le_refl _)]; exact Nat.zero_le _)
      (fun b' hlt hne' => push_old hlt) (fun us0 ty0 fr0 hb0 => by rw [hbk] at hb0; have := some_lt hb0; omega)
      (by show w.heap.size ≤ (w.heap.push _).size; simp) (by rw [hbk]; show w.heap.size < (w.heap.push _).size; simp) rfl rfl rfl (fun E => by
        refine ⟨us',e,0,0, ?_,.inr rfl,by simpa using h1,by simpa using h2, ?_,h6,hkk,fun i' y' hy' j z' hz' v' hv' => (h9 i' y' hy' j z' hz' v' hv').ev E⟩
        · rw [hbk]; show (w.heap.push _)[w.heap.size]? = _; simp
        · rw [hbk,hcm,if_pos rfl]; simp)
    refine ⟨_,_,_,hrun,T,I', ?_⟩
    have := hfin (w.drew.alloc (.cells us' e)) ((g.at l w.heap.size c).commit w.heap.size (if wr then 0 else (xs.length + m) * k)) c (by rw [hbk]; show w.heap.size < (w.heap.push _).size; simp) (by simp)
    rw [hbk] at this
    exact this


theorem apz_nil {t tn e rt : TypeId} {kq kn : IntKind} {k bytes m : Nat} {z : Value} {zv : V} (I : Inv w.heap g o) (L : El P t e k bytes z) (hkn : P.underlying tn = some (.int kn)) (hz : ofVal z = some zv) (hs : zv.solid = true) (hxk : zv.cells.length = k) (hm : 0 < m)
    (hroom : m * bytes ≤ room) : Runs P (Builtin.append_ #[t,tn] rt #[.slice none 0 0,.int kq m]) w g o (.ar o.length 0) (o ++ [.arr 0 true k (List.replicate m zv)]) := by
  obtain ⟨us',c,hrun,h1,h2,h3⟩ := apz_grow (P := P) (rt := rt) (kq := kq) (x := .sc (.slice none 0 0)) (xs := []) (cap := 0) (a0 := none) I L (.sc rfl) rfl hkn hz hs hxk hm rfl (fun _ => .inr rfl) (fun x hx => by cases hx) (by simpa using hm) (by simpa using hroom)
  exact new_arr (w1 := w.drew) (lo := 0) (hi := 0) I rfl rfl rfl rfl hrun (by simp) (.inr rfl) (by simpa using h1) h2 L.hk (fun x hx => by rw [List.eq_of_mem_replicate hx]; exact hxk) (by simpa using h3)

theorem apz_none {t tn e rt : TypeId} {kq kn : IntKind} {k bytes : Nat} {z q : Value} {x : V} {xs : List V} (I : Inv w.heap g o) (L : El P t e k bytes z) (hkn : P.underlying tn = some (.int kn)) (hrx : Rep w.heap g o x q) (hxx : rowOf o x = some xs) :
    Runs P (Builtin.append_ #[t,tn] rt #[q,.int kq 0]) w g o x o := by
  obtain ⟨ht,⟨i,hi,hiz,his,hib⟩,hz,hk0,hb0⟩ := L
  have key : ∃ a n c,q = .slice a n c ∧ n ≤ c := by
    cases hrx with
    | sl hc hsz hcap => exact ⟨_,_,_,rfl,hcap⟩
    | sl0 => exact ⟨_,_,_,rfl,Nat.le_refl _⟩
    | @ar l v _ hl hu ha =>
      simp only [rowOf] at hxx
      split at hxx
      · rename_i v' wr k' xs' hl'
        split at hxx
        · rename_i hv; subst hv; cases hxx
          obtain ⟨us,ty,lo,hi,hb,h2,h3,_⟩ := I.arr l v' wr k' xs hl'
          exact ⟨_,_,_,(ha _ _ _ _ hl').2 rfl,h3⟩
        · cases hxx
      · cases hxx
    | @vw l v a n _ hl hu ha =>
      simp only [rowOf] at hxx
      split at hxx
      · rename_i v' wr k' xs' hl'
        split at hxx
        · rename_i hv; subst hv; cases hxx
          obtain ⟨_,b,c,c2,c3,_⟩ := (ha _ _ _ _ hl').2 rfl
          exact ⟨_,_,_,c3,c2⟩
        · cases hxx
      · cases hxx
    | sc hp =>
      unfold rowOf at hxx
      split at hxx <;> first | (simp_all; done) | exact ⟨none,0,0,by simp_all,Nat.le_refl _⟩
    | _ => simp [rowOf] at hxx
  obtain ⟨a,n,c,rfl,hnc⟩ := key
  refine .same (r := .slice a n c) I ?_ hrx
  have hw : IntKind.i64.wrap (0 : Int) = 0 := by decide
  cases a <;> simp [Builtin.append_,run_underlying ht,run_underlying hkn,sizeOf,typeInfo,hi,asInt,asIntOf,hw,hnc,storeCells]
end Go.Proofs.Pe
end

section
set_option linter.unusedVariables false
namespace Go.Proofs.Pe
variable {P : Program} {w : World} {g : G} {o : List O}

theorem Ev.same_o {h h' : Array Obj} {g g' : G} {o : List O} (hs : h.size ≤ h'.size) (hc : ∀ b,g.com b ≤ g'.com b) (hb : ∀ b,b < h.size → h'[b]? = h[b]?) (h1 : g'.blk = g.blk) (h2 : g'.cap = g.cap) : Ev h g o h' g' o where
  size := hs
  com := hc
  cell := fun b cs ty fr hb' => ⟨cs,fr,(hb b (some_lt hb')).trans hb',rfl,fun _ _ => rfl⟩
  len := Nat.le_refl _
  blk := fun l cs hl => ⟨by rw [h1],cs,hl⟩
  fix := fun l ob hl hn => ⟨by rw [h1],ob,hl,hn⟩
  arr := fun l v wr k xs _ hl => ⟨v,wr,xs,hl,Nat.le_refl _,fun _ => ⟨rfl,by rw [h1],by rw [h2]⟩⟩

theorem lit_tr (I : Inv w.heap g o) (us : Array Value) (e : TypeId) (n : Nat) :
    Tr w g o (w.alloc (.cells us e)) (g.commit w.heap.size n) o ∧ Inv (w.alloc (.cells us e)).heap (g.commit w.heap.size n) o := by
  have hcm : ∀ b,(g.commit w.heap.size n).com b = if b = w.heap.size then n else g.com b := fun b => rfl
  have hp : ∀ b,b < w.heap.size → (w.alloc (.cells us e)).heap[b]? = w.heap[b]? := fun b hb => push_old hb
  have hsz : (w.alloc (.cells us e)).heap.size = w.heap.size + 1 := by show (w.heap.push _).size = _; simp
  have E : Ev w.heap g o (w.alloc (.cells us e)).heap (g.commit w.heap.size n) o := Ev.same_o (by omega) (fun b => by
    rw [hcm]; split
    · rename_i h; subst h; rw [I.fresh _ (Nat.le_refl _)]; exact Nat.zero_le _
    · exact Nat.le_refl _) hp rfl rfl
  refine withTab I ?_
  refine ⟨⟨E,rfl,rfl,rfl,fun b hb _ => ⟨hp b hb,by rw [hcm,if_neg (by omega)]⟩,fun l ob hl hv _ => ⟨l,ob,hl,hv,rfl⟩⟩,⟨fun l cs hl => ?_,fun l v wr k xs hl => ?_,fun l st pend ts ps assign body dl hl => ?_,fun l shut hl => ?_,I.inj,fun b hb => ?_⟩⟩
  · obtain ⟨us',ty,hb,hc,hr⟩ := I.cells l cs hl
    exact ⟨us',ty,(hp _ (some_lt hb)).trans hb,by show (g.commit _ _).com (g.blk l) = 0; rw [hcm,if_neg (by have := some_lt hb; omega)]; exact hc,hr.ev E⟩
  · obtain ⟨us',ty,lo,hi,hb,a1,a2,a3,a4,a5,a6,a7⟩ := I.arr l v wr k xs hl
    exact ⟨us',ty,lo,hi,(hp _ (some_lt hb)).trans hb,a1,a2,a3,by show (g.commit _ _).com (g.blk l) = _; rw [hcm,if_neg (by have := some_lt hb; omega)]; exact a4,a5,a6,fun i x hx j y hy u hu => (a7 i x hx j y hy u hu).ev E⟩
  · obtain ⟨fn,us',hb,hr,hd⟩ := I.loop l st pend ts ps assign body dl hl
    exact ⟨fn,us',(hp _ (some_lt hb)).trans hb,hr.ev E,hd⟩
  · have hb := I.dfd l shut hl
    exact (hp _ (some_lt hb)).trans hb
  · rw [hcm,if_neg (by omega)]; exact I.fresh b (by omega)

/-! ### Filling -/
theorem foldl_fill (off : Nat) : ∀ (l : List Value) (s : Nat) (cs : Array Value),off + s + l.length ≤ cs.size →
    ((l.zipIdx s).foldl (fun (cs : Array Value) p => cs.setIfInBounds (off + p.2) p.1) cs).size = cs.size ∧
    ∀ j,((l.zipIdx s).foldl (fun (cs : Array Value) p => cs.setIfInBounds (off + p.2) p.1) cs)[j]? = if off + s ≤ j ∧ j < off + s + l.length then l[j - (off + s)]? else cs[j]?
  | [],s,cs,h => ⟨rfl,fun j => by rw [if_neg (by simp only [List.length_nil]; omega)]; rfl⟩
  | v :: l,s,cs,h => by
    simp only [List.length_cons] at h
    obtain ⟨h1,h2⟩ := foldl_fill off l (s + 1) (cs.setIfInBounds (off + s) v) (by simp; omega)
    simp only [List.zipIdx_cons,List.foldl_cons]
    refine ⟨by rw [h1]; simp,fun j => ?_⟩
    rw [h2]
    by_cases e : off + s = j
    · subst e
      rw [if_neg (by omega),if_pos (by simp),Nat.sub_self]
      simp [show off + s < cs.size by omega]
    · by_cases e2 : off + (s + 1) ≤ j ∧ j < off + (s + 1) + l.length
      · rw [if_pos e2,if_pos (by simp; omega),show j - (off + s) = (j - (off + (s + 1))) + 1 by omega]; simp
      · rw [if_neg e2,if_neg (by simp; omega),Array.getElem?_setIfInBounds_ne e]

theorem fill_one (off : Nat) (v : Value) (cs : Array Value) (h : off + v.cells.size ≤ cs.size) :
    (v.cells.zipIdx.foldl (fun cs (c,j) => cs.setIfInBounds (off + j) c) cs).size = cs.size ∧
    ∀ j,(v.cells.zipIdx.foldl (fun cs (c,j) => cs.setIfInBounds (off + j) c) cs)[j]? = if off ≤ j ∧ j < off + v.cells.size then v.cells[j - off]? else cs[j]? := by
  have e : v.cells.zipIdx.foldl (fun cs (c,j) => cs.setIfInBounds (off + j) c) cs = (v.cells.toList.zipIdx 0).foldl (fun (cs : Array Value) p => cs.setIfInBounds (off + p.2) p.1) cs := by
    rw [← Array.foldl_toList,Array.toList_zipIdx]
  rw [e]
  obtain ⟨h1,h2⟩ := foldl_fill off v.cells.toList 0 cs (by simpa using h)
  exact ⟨h1,fun j => by rw [h2]; simp⟩

theorem fill_rep {h : Array Obj} (place : Nat → Option (Nat × Nat)) : ∀ (ps : List (Nat × Value)) (qs : List (Nat × Nat × V)) (us : Array Value) (cs cs' : List V),Reps h g o cs us.toList →
    ps.length = qs.length → (∀ (i : Nat) p q,ps[i]? = some p → qs[i]? = some q → place p.1 = some (q.1,q.2.1) ∧ q.2.2.solid = true ∧ Rep h g o q.2.2 p.2) → fillC cs qs = some cs' →
    ∃ us',Instr.fill place us ps = some us' ∧ Reps h g o cs' us'.toList
  | [],[],us,cs,cs',hr,_,_,hf => by simp [fillC] at hf; subst hf; exact ⟨us,rfl,hr⟩
  | p :: ps,[],us,cs,cs',hr,hl,_,hf => by simp at hl
  | [],q :: qs,us,cs,cs',hr,hl,_,hf => by simp at hl
  | (fi,v) :: ps,(off,n,x) :: qs,us,cs,cs',hr,hl,hp,hf => by
    obtain ⟨h1,h2,h3⟩ := hp 0 _ _ rfl rfl
    simp only [fillC] at hf
    split at hf
    · rename_i hc
      have rc := h3.cells h2
      have hvs : v.cells.size = n := by have := rc.1; simp only [Array.length_toList] at this; omega
      have hus : us.size = cs.length := by simpa using hr.1
      obtain ⟨f1,f2⟩ := fill_one off v us (by omega)
      have hr' : Reps h g o (putCells cs off x.cells) (v.cells.zipIdx.foldl (fun cs (c,j) => cs.setIfInBounds (off + j) c) us).toList := by
        refine ⟨by simp only [Array.length_toList,f1,putCells_length]; omega,fun j y hy u hu => ?_⟩
        rw [putCells_get _ _ _ (by omega)] at hy
        rw [Array.getElem?_toList,f2] at hu
        by_cases e : off ≤ j ∧ j < off + x.cells.length
        · rw [if_pos e] at hy
          rw [if_pos (by omega)] at hu
          exact rc.2 _ y hy u (by simpa using hu)
        · rw [if_neg e] at hy
          rw [if_neg (by omega)] at hu
          exact hr.2 j y hy u (by simpa using hu)
      obtain ⟨us',e1,e2⟩ := fill_rep place ps qs _ _ cs' hr' (by simpa using hl) (fun i p q hp' hq' => hp (i + 1) p q (by simpa using hp') (by simpa using hq')) hf
      refine ⟨us', ?_,e2⟩
      simp only [Instr.fill,h1]
      rw [if_neg ?_]
      · exact e1
      · simp only [Bool.or_eq_true,decide_eq_true_eq,ne_eq,hvs,not_true_eq_false,false_or]; omega
    · cases hf

theorem build_ok {t : TypeId} {i : TypeInfo} {fs : Array Field} {places : List (Nat × Nat)} {z : Value} {zs cs : List V} {ps : List (Nat × Value)} {qs : List (Nat × Nat × V)} (I : Inv w.heap g o)
    (ht : P.underlying t = some (.struct fs)) (hi : P.info? t = some i) (hz : i.zero = some z) (hzs : Reps w.heap g o zs z.cells.toList)
    (hpl : fs.toList.map (fun f => (f.offset,((P.info? f.type).map (·.size)).getD 0)) = places) (hinfo : ∀ f,f ∈ fs.toList → (P.info? f.type).isSome = true)
    (hl : ps.length = qs.length) (hp : ∀ (i : Nat) p q,ps[i]? = some p → qs[i]? = some q → places[p.1]? = some (q.1,q.2.1) ∧ q.2.2.solid = true ∧ Rep w.heap g o q.2.2 p.2) (hf : fillC zs qs = some cs) :
    Runs P (Instr.build t ps.toArray) w g o (.agg cs) o := by
  obtain ⟨us',e1,e2⟩ := fill_rep (fun i => places[i]?) ps qs z.cells zs cs hzs hl hp hf
  have hm : (fs.mapM fun f => do pure (f.offset,← sizeOf f.type) : Sem (Array (Nat × Nat))).run P w = .ok places.toArray w := by
    rw [← Array.toArray_toList (xs := fs)]
    generalize fs.toList = l at hpl hinfo
    subst hpl
    rw [List.mapM_toArray]
    have : ∀ l : List Field,(∀ f,f ∈ l → (P.info? f.type).isSome = true) → (l.mapM fun f => do pure (f.offset,← sizeOf f.type) : Sem (List (Nat × Nat))).run P w = .ok (l.map (fun f => (f.offset,((P.info? f.type).map (·.size)).getD 0))) w := by
      intro l
      induction l with
      | nil => intro _; rfl
      | cons f l ih =>
        intro h
        have h1 := h f (by simp)
        obtain ⟨j,hj⟩ := Option.isSome_iff_exists.1 h1
        have h2 := ih fun f hf => h f (by simp [hf])
        have hst : (do pure (f.offset,← sizeOf f.type) : Sem (Nat × Nat)).run P w = .ok (f.offset,((P.info? f.type).map (·.size)).getD 0) w := by
          rw [Sem.run_bind]
          simp [sizeOf,typeInfo,hj]
        rw [List.mapM_cons,Sem.run_bind,hst,Result.andThen_ok,Sem.run_bind,h2,Result.andThen_ok]
        rfl
    change Sem.run P ((List.mapM _ l) >>= fun a => pure a.toArray) w = _
    rw [Sem.run_bind,this l hinfo]
    rfl
  refine .same (r := .agg us') I ?_ (.agg (by simpa using e2.1) fun j y hy u hu => e2.2 j y hy u (by simpa using hu))
  have e1' : Instr.fill (fun x => places[x]?) z.cells ps = some us' := e1
  simp only [bind_pure_comp] at hm
  simp [Instr.build,zeroValue,typeInfo,hi,hz,run_underlying ht,hm,e1']
theorem build_arr_ok {t e : TypeId} {i j : TypeInfo} {n : Nat} {z : Value} {zs cs : List V} {ps : List (Nat × Value)} {qs : List (Nat × Nat × V)} (I : Inv w.heap g o)
    (ht : P.underlying t = some (.array n e)) (hi : P.info? t = some i) (hz : i.zero = some z) (hzs : Reps w.heap g o zs z.cells.toList) (hj : P.info? e = some j)
    (hl : ps.length = qs.length) (hp : ∀ (i : Nat) p q,ps[i]? = some p → qs[i]? = some q → ((List.range n).map fun i => (i * j.size,j.size))[p.1]? = some (q.1,q.2.1) ∧ q.2.2.solid = true ∧ Rep w.heap g o q.2.2 p.2) (hf : fillC zs qs = some cs) :
    Runs P (Instr.build t ps.toArray) w g o (.agg cs) o := by
  obtain ⟨us',e1,e2⟩ := fill_rep (fun i => some (i * j.size,j.size)) ps qs z.cells zs cs hzs hl (fun i p q h1 h2 => by
    obtain ⟨a1,a2⟩ := hp i p q h1 h2
    refine ⟨?_,a2⟩
    rw [List.getElem?_map] at a1
    cases hr : (List.range n)[p.1]? with
    | none => rw [hr] at a1; cases a1
    | some m =>
      rw [hr] at a1
      obtain ⟨b1,b2⟩ := List.getElem?_eq_some_iff.1 hr
      simp at b2
      subst b2
      exact a1) hf
  refine .same (r := .agg us') I ?_ (.agg (by simpa using e2.1) fun j y hy u hu => e2.2 j y hy u (by simpa using hu))
  simp [Instr.build,zeroValue,typeInfo,hi,hz,run_underlying ht,sizeOf,hj,e1]
end Go.Proofs.Pe
end

section
set_option linter.unusedVariables false
namespace Go.Proofs.Pe
variable {P : Program} {w : World} {g : G} {o : List O}

theorem mul_ne {i p k j q : Nat} (hj : j < k) (hq : q < k) (h : i ≠ p) : i * k + j ≠ p * k + q := by
  intro e
  rcases Nat.lt_or_gt_of_ne h with h | h
  · have : (i + 1) * k ≤ p * k := Nat.mul_le_mul_right k (by omega)
    rw [Nat.succ_mul] at this; omega
  · have : (p + 1) * k ≤ i * k := Nat.mul_le_mul_right k (by omega)
    rw [Nat.succ_mul] at this; omega

theorem fill_seq (k : Nat) : ∀ (vs : List Value) (s : Nat) (cs : Array Value),(∀ v,v ∈ vs → v.cells.size = k) → (s + vs.length) * k ≤ cs.size →
    ∃ us,Instr.fill (fun i => some (i * k,k)) cs ((vs.zipIdx s).map fun p => (p.2,p.1)) = some us ∧ us.size = cs.size ∧
      ∀ i j,j < k → us[i * k + j]? = if s ≤ i ∧ i < s + vs.length then (vs[i - s]?).bind (fun v => v.cells[j]?) else cs[i * k + j]?
  | [],s,cs,_,h => ⟨cs,rfl,rfl,fun i j hj => by rw [if_neg (by simp only [List.length_nil]; omega)]⟩
  | v :: vs,s,cs,hk,h => by
    have hv : v.cells.size = k := hk v (by simp)
    simp only [List.length_cons] at h
    have hle : (s + 1) * k ≤ (s + (vs.length + 1)) * k := Nat.mul_le_mul_right k (by omega)
    rw [Nat.succ_mul] at hle
    obtain ⟨f1,f2⟩ := fill_one (s * k) v cs (by omega)
    obtain ⟨us,e1,e2,e3⟩ := fill_seq k vs (s + 1) (v.cells.zipIdx.foldl (fun cs (c,j) => cs.setIfInBounds (s * k + j) c) cs) (fun v hv => hk v (by simp [hv])) (by rw [f1,show s + 1 + vs.length = s + (vs.length + 1) by omega]; exact h)
    refine ⟨us, ?_,by rw [e2,f1],fun i j hj => ?_⟩
    · simp only [List.zipIdx_cons,List.map_cons,Instr.fill]
      rw [if_neg ?_]
      · exact e1
      · simp only [Bool.or_eq_true,decide_eq_true_eq,ne_eq,hv,not_true_eq_false,false_or]; omega
    · rw [e3 i j hj]
      by_cases e : i = s
      · subst e
        rw [if_neg (by omega),if_pos (by simp),Nat.sub_self,f2,if_pos (by omega)]
        simp [show i * k + j - i * k = j by omega]
      · by_cases e4 : s + 1 ≤ i ∧ i < s + 1 + vs.length
        · rw [if_pos e4,if_pos (by simp; omega),show i - s = (i - (s + 1)) + 1 by omega]; simp
        · rw [if_neg e4,if_neg (by simp; omega),f2,if_neg ?_]
          intro hh
          rw [hv] at hh
          exact mul_ne hj (show i * k + j - s * k < k by omega) e (by omega)

theorem zip_of_range {ps : List (Nat × Value)} (h : ps.map (·.1) = List.range ps.length) : ps = ((ps.map (·.2)).zipIdx 0).map fun p => (p.2,p.1) := by
  apply List.ext_getElem?
  intro i
  simp only [List.getElem?_map,List.getElem?_zipIdx]
  cases hp : ps[i]? with
  | none => simp
  | some p =>
    have h1 : (ps.map (·.1))[i]? = some p.1 := by simp [hp]
    have hi := (List.getElem?_eq_some_iff.1 hp).1
    rw [h,List.getElem?_range hi] at h1
    simp at h1
    simp [h1]

theorem elems_get (k : Nat) (z : List V) : ∀ (n : Nat) (xs : List V) (i : Nat) (x : V),(elems k z n xs)[i]? = some x → i < n ∧ (xs[i]? = some x ∨ (xs.length ≤ i ∧ x = (if k = 1 then z.getD 0 .dead else .agg z)))
  | 0,xs,i,x,h => by cases xs <;> simp [elems] at h
  | n + 1,[],i,x,h => by
    cases i with
    | zero => simp [elems] at h; exact ⟨by omega,.inr ⟨by simp,by rw [← h]; simp⟩⟩
    | succ i =>
      simp [elems] at h
      obtain ⟨h1,h2⟩ := elems_get k z n [] i x h
      refine ⟨by omega,.inr ⟨by simp, ?_⟩⟩
      rcases h2 with h2 | h2
      · simp at h2
      · exact h2.2
  | n + 1,y :: xs,i,x,h => by
    cases i with
    | zero => simp [elems] at h; exact ⟨by omega,.inl (by simp [h])⟩
    | succ i =>
      simp [elems] at h
      obtain ⟨h1,h2⟩ := elems_get k z n xs i x h
      refine ⟨by omega, ?_⟩
      rcases h2 with h2 | h2
      · exact .inl (by simpa using h2)
      · exact .inr ⟨by simp; omega,h2.2⟩
theorem elems_length (k : Nat) (z : List V) : ∀ (n : Nat) (xs : List V),(elems k z n xs).length = n
  | 0,xs => by cases xs <;> rfl
  | n + 1,[] => by simp [elems,elems_length k z n []]
  | n + 1,y :: xs => by simp [elems,elems_length k z n xs]

theorem bsl_ok {t e : TypeId} {k bytes len : Nat} {zv : Value} {z xs : List V} {ps : List (Nat × Value)} (I : Inv w.heap g o) (L : El P t e k bytes zv) (hz : Reps w.heap g o z zv.cells.toList)
    (hzf : z.all V.free1 = true) (hzk : z.length = k) (hr : Reps w.heap g o xs (ps.map (·.2))) (hf : xs.all V.free = true) (hk : ∀ x,x ∈ xs → x.cells.length = k) (hi : ps.map (·.1) = List.range ps.length) (hn : ps.length ≤ len) (hlim : len * k ≤ 16777216) :
    Runs P (Instr.buildSlice t len ps.toArray) w g o (.sl k true (elems k z len xs)) o := by
  obtain ⟨ht,⟨i,hie,hiz,his,hib⟩,hzs,hk0,hb0⟩ := L
  have hpl : xs.length = ps.length := by have := hr.1; simpa using this.symm
  have hvk : ∀ v,v ∈ ps.map (·.2) → v.cells.size = k := fun v hv => by
    obtain ⟨j,hj,e⟩ := List.getElem_of_mem hv
    have hjx : j < xs.length := by rw [hpl]; simpa using hj
    have h1 := hr.2 j xs[j] (List.getElem?_eq_getElem hjx) v (by rw [List.getElem?_eq_getElem hj,e])
    have hfx : xs[j].free = true := by simp only [List.all_eq_true] at hf; exact hf _ (List.getElem_mem hjx)
    have := (h1.cells (free_solid hfx)).1
    rw [hk _ (List.getElem_mem hjx)] at this
    simpa using this
  let z0 : Array Value := if len * k = 0 then #[] else zv.cells
  let init : Array Value := (Array.range (len * k)).map (z0[· % z0.size]!)
  have hinit : init.size = len * k := by simp [init]
  have hle : ps.length * k ≤ len * k := Nat.mul_le_mul_right k hn
  obtain ⟨us,e1,e2,e3⟩ := fill_seq k (ps.map (·.2)) 0 init hvk (by rw [hinit]; simpa using hle)
  rw [← zip_of_range hi] at e1
  obtain ⟨T,I'⟩ := lit_tr I us e (len * k)
  have hrun : (Instr.buildSlice t len ps.toArray).run P w = .ok (.slice (some ⟨w.heap.size,0,none⟩) len len) (w.alloc (.cells us e)) := by
    by_cases h0 : len * k = 0
    · have e1' : Instr.fill (fun i => some (i * k,k)) ((Array.range (len * k)).map ((#[] : Array Value)[· % (#[] : Array Value).size]!)) ps = some us := by simpa [init,z0,h0] using e1
      have hn : ¬ (16777216 < len * k) := by omega
      rw [h0] at e1'
      simp [Instr.buildSlice,run_underlying ht,sizeOf,typeInfo,hie,his,h0]
      simp at e1'
      rw [e1']; simp [newRow]
    · have e1' : Instr.fill (fun i => some (i * k,k)) ((Array.range (len * k)).map (zv.cells[· % zv.cells.size]!)) ps = some us := by
        have : z0 = zv.cells := by simp only [z0]; rw [if_neg h0]
        simpa [init,this] using e1
      have hn : ¬ (16777216 < len * k) := by omega
      simp [Instr.buildSlice,run_underlying ht,sizeOf,typeInfo,hie,his,h0,hn,zeroValue,hiz,e1',newRow]
  refine ⟨_,_,_,hrun,T,I', ?_⟩
  have hlen : (elems k z len xs).length = len := elems_length k z len xs
  have key : Rep (w.alloc (.cells us e)).heap (g.commit w.heap.size (len * k)) o (.sl k true (elems k z len xs)) (.slice (some ⟨w.heap.size,0,none⟩) (elems k z len xs).length len) := by
    refine .sl (cs := us) (ty := e) (fr := (0,0)) ?_ ?_ (by omega) (fun _ => hlen.symm) (by show (w.heap.push _)[w.heap.size]? = _; simp) (fun i x hx => ?_) fun i x hx j y hy u hu => ?_
    · rw [hlen]; show 0 + len * k ≤ (if w.heap.size = w.heap.size then len * k else _); simp
    · rw [hlen,e2,hinit]; omega
    · obtain ⟨_,h | ⟨_,h⟩⟩ := elems_get k z len xs i x hx
      · have hm := List.mem_of_getElem? h
        simp only [List.all_eq_true] at hf
        exact ⟨hk x hm,hf x hm⟩
      · rw [h]
        split
        · rename_i h1
          cases z with
          | nil => simp at hzk; omega
          | cons a z =>
            simp only [List.all_cons,Bool.and_eq_true] at hzf
            refine ⟨?_, ?_⟩ <;> cases a <;> simp_all [V.cells,V.free,V.free1]
        · exact ⟨by simpa [V.cells] using hzk,by simpa [V.free] using hzf⟩
    · refine Rep.ev T.ev ?_
      obtain ⟨hil,hh⟩ := elems_get k z len xs i x hx
      rw [Nat.zero_add] at hu
      rcases hh with h | ⟨hge,h⟩
      · have hxi := (List.getElem?_eq_some_iff.1 h).1
        have hj : j < k := by have := (List.getElem?_eq_some_iff.1 hy).1; rw [hk x (List.mem_of_getElem? h)] at this; exact this
        rw [e3 i j hj,if_pos ⟨by omega,by simp; omega⟩] at hu
        obtain ⟨v,hv,hrv⟩ := hr.at h
        simp only [Nat.sub_zero,hv,Option.bind_some] at hu
        have hfx : x.free = true := by simp only [List.all_eq_true] at hf; exact hf _ (List.mem_of_getElem? h)
        exact (hrv.cells (free_solid hfx)).2 j y hy u (by simpa using hu)
      · have hxc : x.cells = z := by
          rw [h]
          split
          · rename_i h1
            cases z with
            | nil => simp at hzk; omega
            | cons a z' =>
              simp only [List.all_cons,Bool.and_eq_true] at hzf
              have : z' = [] := List.eq_nil_of_length_eq_zero (by simp at hzk; omega)
              subst this
              cases a <;> simp_all [V.cells,V.free1]
          · rfl
        rw [hxc] at hy
        have hj : j < k := by have := (List.getElem?_eq_some_iff.1 hy).1; omega
        rw [e3 i j hj,if_neg (by simp; omega)] at hu
        have hle2 : (i + 1) * k ≤ len * k := Nat.mul_le_mul_right k (by omega)
        rw [Nat.succ_mul] at hle2
        have h0 : len * k ≠ 0 := by omega
        have hz0 : z0 = zv.cells := by simp only [z0]; rw [if_neg h0]
        have hi2 : i * k + j < len * k := by omega
        have : init[i * k + j]? = some (zv.cells[j]!) := by
          simp only [init,Array.getElem?_map,Array.getElem?_range,if_pos hi2,Option.map_some,hz0]
          rw [hzs,Nat.mul_comm,Nat.mul_add_mod,Nat.mod_eq_of_lt hj]
        rw [this] at hu
        cases hu
        refine hz.2 j y hy _ ?_
        have hjz : j < zv.cells.size := by omega
        rw [Array.getElem?_toList,getElem!_pos zv.cells j hjz,Array.getElem?_eq_getElem hjz]
  rw [hlen] at key
  exact key

theorem bsa_ok {t e : TypeId} {k bytes len : Nat} {zv : Value} {z xs : List V} {ps : List (Nat × Value)} (I : Inv w.heap g o) (L : El P t e k bytes zv) (hz : Reps w.heap g o z zv.cells.toList)
    (hzf : z.all V.free1 = true) (hzk : z.length = k) (hr : Reps w.heap g o xs (ps.map (·.2))) (hf : xs.all V.solid = true) (hk : ∀ x,x ∈ xs → x.cells.length = k) (hi : ps.map (·.1) = List.range ps.length) (hn : ps.length ≤ len) (hlim : len * k ≤ 16777216) :
    Runs P (Instr.buildSlice t len ps.toArray) w g o (.ar o.length 0) (o ++ [.arr 0 true k (elems k z len xs)]) := by
  obtain ⟨ht,⟨i,hie,hiz,his,hib⟩,hzs,hk0,hb0⟩ := L
  have hpl : xs.length = ps.length := by have := hr.1; simpa using this.symm
  have hvk : ∀ v,v ∈ ps.map (·.2) → v.cells.size = k := fun v hv => by
    obtain ⟨j,hj,e⟩ := List.getElem_of_mem hv
    have hjx : j < xs.length := by rw [hpl]; simpa using hj
    have h1 := hr.2 j xs[j] (List.getElem?_eq_getElem hjx) v (by rw [List.getElem?_eq_getElem hj,e])
    have hfx : xs[j].solid = true := by simp only [List.all_eq_true] at hf; exact hf _ (List.getElem_mem hjx)
    have := (h1.cells hfx).1
    rw [hk _ (List.getElem_mem hjx)] at this
    simpa using this
  let z0 : Array Value := if len * k = 0 then #[] else zv.cells
  let init : Array Value := (Array.range (len * k)).map (z0[· % z0.size]!)
  have hinit : init.size = len * k := by simp [init]
  have hle : ps.length * k ≤ len * k := Nat.mul_le_mul_right k hn
  obtain ⟨us,e1,e2,e3⟩ := fill_seq k (ps.map (·.2)) 0 init hvk (by rw [hinit]; simpa using hle)
  rw [← zip_of_range hi] at e1
  have hrun : (Instr.buildSlice t len ps.toArray).run P w = .ok (.slice (some ⟨w.heap.size,0,none⟩) len len) (w.alloc (.cells us e)) := by
    by_cases h0 : len * k = 0
    · have e1' : Instr.fill (fun i => some (i * k,k)) ((Array.range (len * k)).map ((#[] : Array Value)[· % (#[] : Array Value).size]!)) ps = some us := by simpa [init,z0,h0] using e1
      have hn : ¬ (16777216 < len * k) := by omega
      rw [h0] at e1'
      simp [Instr.buildSlice,run_underlying ht,sizeOf,typeInfo,hie,his,h0]
      simp at e1'
      rw [e1']; simp [newRow]
    · have e1' : Instr.fill (fun i => some (i * k,k)) ((Array.range (len * k)).map (zv.cells[· % zv.cells.size]!)) ps = some us := by
        have : z0 = zv.cells := by simp only [z0]; rw [if_neg h0]
        simpa [init,this] using e1
      have hn : ¬ (16777216 < len * k) := by omega
      simp [Instr.buildSlice,run_underlying ht,sizeOf,typeInfo,hie,his,h0,hn,zeroValue,hiz,e1',newRow]
  have hlen : (elems k z len xs).length = len := elems_length k z len xs
  refine new_arr (w1 := w) (lo := 0) (hi := 0) (c := len) I rfl rfl rfl rfl hrun (by rw [hlen]) (.inr rfl) (by omega) (by rw [e2,hinit]; exact Nat.le_refl _) hk0 (fun x hx => ?_) fun i x hx j y hy u hu => ?_
  · obtain ⟨i,hi⟩ := List.getElem?_of_mem hx
    obtain ⟨_,h | ⟨_,h⟩⟩ := elems_get k z len xs i x hi
    · exact hk x (List.mem_of_getElem? h)
    · rw [h]
      split
      · rename_i h1
        cases z with
        | nil => simp at hzk; omega
        | cons a z =>
          simp only [List.all_cons,Bool.and_eq_true] at hzf
          cases a <;> simp_all [V.cells,V.free,V.free1]
      · simpa [V.cells] using hzk
  · have h99 : True := trivial
    obtain ⟨hil,hh⟩ := elems_get k z len xs i x hx
    rcases hh with h | ⟨hge,h⟩
    · have hxi := (List.getElem?_eq_some_iff.1 h).1
      have hj : j < k := by have := (List.getElem?_eq_some_iff.1 hy).1; rw [hk x (List.mem_of_getElem? h)] at this; exact this
      rw [e3 i j hj,if_pos ⟨by omega,by simp; omega⟩] at hu
      obtain ⟨v,hv,hrv⟩ := hr.at h
      simp only [Nat.sub_zero,hv,Option.bind_some] at hu
      have hfx : x.solid = true := by simp only [List.all_eq_true] at hf; exact hf _ (List.mem_of_getElem? h)
      exact (hrv.cells hfx).2 j y hy u (by simpa using hu)
    · have hxc : x.cells = z := by
        rw [h]
        split
        · rename_i h1
          cases z with
          | nil => simp at hzk; omega
          | cons a z' =>
            simp only [List.all_cons,Bool.and_eq_true] at hzf
            have : z' = [] := List.eq_nil_of_length_eq_zero (by simp at hzk; omega)
            subst this
            cases a <;> simp_all [V.cells,V.free1]
        · rfl
      rw [hxc] at hy
      have hj : j < k := by have := (List.getElem?_eq_some_iff.1 hy).1; omega
      rw [e3 i j hj,if_neg (by simp; omega)] at hu
      have hle2 : (i + 1) * k ≤ len * k := Nat.mul_le_mul_right k (by omega)
      rw [Nat.succ_mul] at hle2
      have h0 : len * k ≠ 0 := by omega
      have hz0 : z0 = zv.cells := by simp only [z0]; rw [if_neg h0]
      have hi2 : i * k + j < len * k := by omega
      have : init[i * k + j]? = some (zv.cells[j]!) := by
        simp only [init,Array.getElem?_map,Array.getElem?_range,if_pos hi2,Option.map_some,hz0]
        rw [hzs,Nat.mul_comm,Nat.mul_add_mod,Nat.mod_eq_of_lt hj]
      rw [this] at hu
      cases hu
      refine hz.2 j y hy _ ?_
      have hjz : j < zv.cells.size := by omega
      rw [Array.getElem?_toList,getElem!_pos zv.cells j hjz,Array.getElem?_eq_getElem hjz]

theorem tr_put {l : Nat} {ob ob' : O} {x y : Obj} (hl : o[l]? = some ob) (hv : ob.live = true) (hv' : ob'.live = true) (hx : w.heap[g.blk l]? = some x) (hxc : ∀ cs ty fr,x ≠ .cells cs ty fr)
    (hnc : ∀ cs,ob ≠ .cells cs) (hna : ∀ v wr k xs,ob' ≠ .arr v wr k xs) : Tr w g o (w.putObj (g.blk l) y) g (o.set l ob') := by
  have hlt : l < o.length := (List.getElem?_eq_some_iff.1 hl).1
  have hset := fun l' => set_get hlt ob' l'
  refine ⟨⟨by simp,fun _ => Nat.le_refl _,fun b cs ty0 fr0 hb0 => ?_,by simp,fun l' cs hl' => ⟨rfl, ?_⟩,fun l' ob0 hl' hn => ⟨rfl, ?_⟩,fun l' v wr k xs hlt' hl' => ?_⟩,rfl,rfl,rfl,fun b hb0 hn => ?_,fun l' ob0 hl' hv0 _ => ?_⟩
  · by_cases e : b = g.blk l
    · subst e; rw [hx] at hb0; cases hb0; exact absurd rfl (hxc _ _ _)
    · exact ⟨cs,fr0,by rw [World.putObj_heap_other e]; exact hb0,rfl,fun _ _ => rfl⟩
  · rw [hset]
    split
    · rename_i e; subst e; rw [hl] at hl'; cases hl'; exact absurd rfl (hnc _)
    · exact ⟨cs,hl'⟩
  · rw [hset]
    split
    · exact ⟨_,rfl,hna⟩
    · exact ⟨ob0,hl',hn⟩
  · rw [hset] at hl'
    split at hl'
    · cases hl'; exact absurd rfl (hna _ _ _ _)
    · exact ⟨v,wr,xs,hl',Nat.le_refl _,fun _ => ⟨rfl,rfl,rfl⟩⟩
  · exact ⟨World.putObj_heap_other fun e => hn l ob hl hv e.symm,rfl⟩
  · rw [hset] at hl'
    split at hl'
    · rename_i e; subst e; exact ⟨l',ob,hl,hv,rfl⟩
    · exact ⟨l',ob0,hl',hv0,rfl⟩


/-! ### Over a string -/
theorem srng_ok {t : TypeId} {b : ByteArray} (I : Inv w.heap g o) (ht : P.underlying t = some .string) : Runs P (Instr.range t (.string b)) w g o (.it o.length) (o ++ [.dfd (.it b 0)]) := by
  refine ⟨.pointer (some ⟨w.heap.size,0,none⟩),w.alloc (.stringIter b 0),g.at o.length w.heap.size 0, ?_,tr_push I _ _ _, ?_, ?_⟩
  · simp only [Instr.range,Sem.run_bind,run_underlying ht,Result.andThen,Sem.run_pure,run_newObj_alloc]
  · exact inv_push I (.stringIter b 0) (.dfd (.it b 0)) 0 (fun _ h => by cases h) (fun _ _ _ _ h => by cases h) (fun _ _ _ _ _ _ _ h => by cases h) (fun d h => by cases h; rfl)
  · have h1 : (o ++ [O.dfd (.it b 0)])[o.length]? = some (.dfd (.it b 0)) := by simp
    have h2 := Rep.it (h := (w.alloc (.stringIter b 0)).heap) (g := g.at o.length w.heap.size 0) h1 (fun _ _ _ _ h => by cases h)
    rw [G.at_blk] at h2
    exact h2
theorem snxt_in {ty : TypeId} {b : ByteArray} {p l : Nat} {u : Value} (I : Inv w.heap g o) (hr : Rep w.heap g o (.it l) u) (hl : o[l]? = some (.dfd (.it b p))) (hp : p < b.size) :
    Runs P (Instr.next u true ty) w g o (.tup [.sc (.bool true),.sc (.int .i64 p),.sc (.int .i32 (Utf8.decode b p).1)]) (o.set l (.dfd (.it b (p + (Utf8.decode b p).2)))) := by
  have hb := I.dfd l _ hl
  have hb' : w.heap[g.blk l]? = some (.stringIter b p) := hb
  cases hr with
  | it _ _ =>
    have hT : Tr w g o (w.putObj (g.blk l) (.stringIter b (p + (Utf8.decode b p).2))) g (o.set l (.dfd (.it b (p + (Utf8.decode b p).2)))) :=
      tr_put hl rfl rfl hb' (fun _ _ _ h => by cases h) (fun _ h => by cases h) (fun _ _ _ _ h => by cases h)
    refine ⟨.tuple #[.bool true,.int .i64 p,.int .i32 (Utf8.decode b p).1],w.putObj (g.blk l) (.stringIter b (p + (Utf8.decode b p).2)),g, ?_,hT, ?_,.tup rfl fun j y hy u hu => ?_⟩
    · simp [Instr.next,getObj,setObj,Sem.run,hb',hp,World.putObj,goInt,Bind.bind,Sem.bind,Pure.pure]
    · exact inv_cells I hl rfl rfl hT (fun b hb => World.putObj_heap_other hb) (by simp) (fun _ h => by cases h) (fun _ _ _ _ h => by cases h) (fun _ _ _ _ _ _ _ h => by cases h) (fun _ h => by cases h)
        (fun d h => by cases h; exact World.putObj_heap_same (I.lt hl rfl))
    · match j,hy,hu with
      | 0,hy,hu => simp at hy hu; subst hy hu; exact .sc rfl
      | 1,hy,hu => simp at hy hu; subst hy hu; exact .sc rfl
      | 2,hy,hu => simp at hy hu; subst hy hu; exact .sc rfl
      | j + 3,hy,hu => simp at hy
theorem snxt_end {ty : TypeId} {b : ByteArray} {p l : Nat} {u : Value} (I : Inv w.heap g o) (hr : Rep w.heap g o (.it l) u) (hl : o[l]? = some (.dfd (.it b p))) (hp : ¬ p < b.size) :
    Runs P (Instr.next u true ty) w g o (.tup [.sc (.bool false)]) o := by
  have hb := I.dfd l _ hl
  have hb' : w.heap[g.blk l]? = some (.stringIter b p) := hb
  cases hr with
  | it _ _ =>
    refine ⟨.tuple #[.bool false],w,g, ?_,Tr.refl _ _ _,I,.tup rfl fun j y hy u hu => ?_⟩
    · simp [Instr.next,getObj,setObj,Sem.run,hb',hp,Bind.bind,Sem.bind,Pure.pure]
    · match j,hy,hu with
      | 0,hy,hu => simp at hy hu; subst hy hu; exact .sc rfl
      | j + 1,hy,hu => simp at hy

/-! ### nil -/
theorem nilck_free {x : V} {u : Value} (hr : Rep w.heap g o x u) (hx : (∃ l a,x = .pt l a) ∨ (∃ cs,x = .ep cs) ∨ (∃ f as bs,x = .fn (.func f) as bs) ∨ (∃ f as bs,x = .fn (.yield f) as bs)) (oo : Oper) (e : Operand) (ρ : Operand → Value) (ho : oo.op = .nilCheck e) (hρ : ρ e = u) :
    (execOp ρ oo).run P w = .ok (.value u) w := by
  rcases hx with ⟨l,a,rfl⟩ | ⟨cs,rfl⟩ | ⟨f,as,bs,rfl⟩ | ⟨f,as,bs,rfl⟩ <;> cases hr <;> simp [execOp,ho,hρ]

theorem nilck_pa {l v i a : Nat} {wr : Bool} {k : Nat} {xs : List V} {u : Value} (hr : Rep w.heap g o (.pa l v i a) u) (hl : o[l]? = some (.arr v wr k xs)) (oo : Oper) (e : Operand) (ρ : Operand → Value) (ho : oo.op = .nilCheck e) (hρ : ρ e = u) :
    (execOp ρ oo).run P w = .ok (.value u) w := by
  cases hr with
  | pa _ _ ha =>
    have := (ha v wr k xs hl).2 rfl
    subst this
    simp [execOp,ho,hρ]
end Go.Proofs.Pe
end

section
set_option linter.unusedVariables false
namespace Go.Proofs.Pe
variable {P : Program} {w : World} {g : G} {o : List O}

/-! ### From the program's operations to ours -/
def aggOf (P : Program) (t : TypeId) : Option Bool :=
  match P.underlying t with
  | some (.struct _) | some (.array _ _) => some true
  | some _ => some false
  | none => none
def sizeOf' (P : Program) (t : TypeId) : Option Nat := (P.info? t).map (·.size)
def zeroOf (P : Program) (t : TypeId) : Option Value := (P.info? t).bind (·.zero)
def elemOf' (P : Program) (t : TypeId) : Option TypeId :=
  match P.underlying t with
  | some (.slice e) => some e
  | _ => none
def rowInfo (P : Program) (t : TypeId) : Option (TypeId × Nat × Nat × Value) := do
  let e ← elemOf' P t
  let i ← P.info? e
  let z ← i.zero
  if z.cells.size = i.size ∧ 0 < i.size ∧ 0 < i.bytes then pure (e,i.size,i.bytes,z) else none

theorem elemOf'_ok {t e : TypeId} (h : elemOf' P t = some e) : P.underlying t = some (.slice e) := by
  unfold elemOf' at h
  split at h <;> simp_all
theorem rowInfo_ok {t e : TypeId} {k bytes : Nat} {z : Value} (h : rowInfo P t = some (e,k,bytes,z)) : El P t e k bytes z := by
  simp only [rowInfo,Option.bind_eq_bind,Option.bind_eq_some_iff] at h
  obtain ⟨e',h1,i,h2,z',h3,h4⟩ := h
  split at h4
  · rename_i hc
    simp only [pure,Option.some.injEq,Prod.mk.injEq] at h4
    obtain ⟨rfl,rfl,rfl,rfl⟩ := h4
    exact ⟨elemOf'_ok h1,⟨i,h2,h3,rfl,rfl⟩,hc.1,hc.2.1,hc.2.2⟩
  · cases h4
theorem aggOf_ok {t : TypeId} {b : Bool} (h : aggOf P t = some b) (w : World) : (isAgg t).run P w = .ok b w := by
  unfold aggOf at h
  split at h <;> first | cases h | skip
  all_goals (rename_i hu; simp [isAgg,run_underlying hu])

def trEs : List Operand → Option (List E)
  | [] => some []
  | x :: xs => do
    let e ← trE x
    let es ← trEs xs
    pure (e :: es)
def trParts : List (Nat × Operand) → Option (List (Nat × E))
  | [] => some []
  | (i,x) :: xs => do
    let e ← trE x
    let es ← trParts xs
    pure ((i,e) :: es)
def trFields (pl : List (Nat × Nat)) : List (Nat × Operand) → Option (List (Nat × Nat × E))
  | [] => some []
  | (i,x) :: xs => do
    let e ← trE x
    let (off,n) ← pl[i]?
    let es ← trFields pl xs
    pure ((off,n,e) :: es)
def trO : Option Operand → Option (Option E)
  | none => some none
  | some x => (trE x).map some

def trNil (P : Program) (neg : Bool) (t : TypeId) (x y : Operand) : Option K :=
  match P.underlying t,y with
  | some (.slice _),.const (.slice none 0 0) => (trE x).map (.cmpnil 0 neg)
  | some (.pointer _),.const (.pointer none) => (trE x).map (.cmpnil 1 neg)
  | some (.func ..),.const .nilFunc => (trE x).map (.cmpnil 2 neg)
  | _,_ => none

def trConv (P : Program) (src dst : TypeId) (x : Operand) : Option K :=
  match P.underlying src,P.underlying dst with
  | some .string,some (.slice e) => match P.underlying e with
    | some (.int .u8) => (trE x).map .s2b
    | _ => none
  | some (.slice e),some .string => match P.underlying e with
    | some (.int .u8) => (trE x).map .b2s
    | _ => none
  | some (.slice e),some (.slice _) => match P.underlying e with
    | some (.int .u8) => if src = dst then (trE x).map .mks else none
    | _ => none
  | _,_ => none

def trFad (P : Program) (st : TypeId) (fi : Nat) : Option Nat :=
  match P.underlying st with
  | some (.struct fs) => (fs[fi]?).bind fun f => (sizeOf' P f.type).bind fun n => if n ≠ 0 then some f.offset else none
  | _ => none
def trFld (P : Program) (st : TypeId) (fi : Nat) : Option (Nat × Nat × Bool) :=
  match P.underlying st with
  | some (.struct fs) => do
    let f ← fs[fi]?
    let n ← sizeOf' P f.type
    let ag ← aggOf P f.type
    pure (f.offset,n,ag)
  | _ => none
def trBld (P : Program) (t : TypeId) (parts : List (Nat × Operand)) : Option K :=
  match P.underlying t with
  | some (.struct fs) => do
    let z ← zeroOf P t
    let zs ← sclist z.cells.toList
    let ps ← trFields (fs.toList.map (fun f => (f.offset,((P.info? f.type).map (·.size)).getD 0))) parts
    if (fs.toList.all fun f => (P.info? f.type).isSome) = true then pure (.bld zs ps) else none
  | some (.array n e) => do
    let z ← zeroOf P t
    let zs ← sclist z.cells.toList
    let j ← P.info? e
    let ps ← trFields ((List.range n).map fun i => (i * j.size,j.size)) parts
    pure (.bld zs ps)
  | _ => none
def isU8 (P : Program) (e : TypeId) : Bool := match P.underlying e with
  | some (.int .u8) => true
  | _ => false
def trBsl (P : Program) (t : TypeId) (len : Nat) (parts : List (Nat × Operand)) : Option K := do
  let (e,k,b,z) ← rowInfo P t
  let zs ← sclist z.cells.toList
  let ps ← trParts parts
  pure (if isU8 P e = true then .bsa k len zs ps else .bsl k len zs ps)

def trExt (P : Program) (f : Operand) (args : List Operand) : Option K := match f,args with
  | .func f,[x,y] => match P.funcs[f]? with
    | some fn => if (fn.body.isNone && fn.name == "internal/bytealg.IndexByteString" && (Extern.findNext fn).isNone) = true then do
        let ex ← trE x
        let ey ← trE y
        pure (.idxb ex ey)
      else none
    | none => none
  | _,_ => none

theorem trExt_k {P : Program} {f : Operand} {args : List Operand} {k : K} (h : trExt P f args = some k) : ∃ x y,k = .idxb x y := by
  unfold trExt at h
  split at h
  · split at h
    · split at h
      · simp only [Option.bind_eq_bind,Option.bind_eq_some_iff] at h
        obtain ⟨x,_,y,_,h⟩ := h
        cases h
        exact ⟨_,_,rfl⟩
      · cases h
    · cases h
  · cases h

def trK (P : Program) (o : Oper) : Option K :=
  match o.op with
  | .move x | .assign x => (trE x).map .mv
  | .box _ x => (trE x).map .box
  | .alloc t => ((zeroOf P t).bind ofVal).map .alloc
  | .build t ps => trBld P t ps.toList
  | .buildSlice t len ps => trBsl P t len ps.toList
  | .load t a => do
    let e ← trE a
    let ag ← aggOf P t
    let n ← sizeOf' P t
    pure (.load e ag n)
  | .store t a x => do
    let e ← trE a
    let y ← trE x
    let n ← sizeOf' P t
    pure (.store e y n)
  | .nilCheck x => (trE x).map .nilck
  | .binOp op t x y _ => match op,trNil P (op == .neq) t x y with
    | .eql,some k => some k
    | .neq,some k => some k
    | _,_ => some (.sca o)
  | .convert src dst x => match trConv P src dst x with
    | some k => some k
    | none => some (.sca o)
  | .makeFunc f as bs => match f with
    | .func f => do
      let xs ← trEs as.toList
      let ys ← trEs bs.toList
      pure (.mkf (.func f) xs ys)
    | _ => none
  | .makeSlice t n c => do
    let (_,k,b,z) ← rowInfo P t
    let zv ← ofVal z
    let en ← trE n
    let ec ← trE c
    pure (.msl en ec k b zv)
  | .slice t x lo hi mx => match elemOf' P t with
    | some e => do
      let (_,k,_,_) ← rowInfo P t
      let ex ← trE x
      let l ← trO lo
      let h ← trO hi
      let m ← trO mx
      pure (.slc ex l h m k)
    | none => some (.sca o)
  | .fieldAddr st x fi => do
    let off ← trFad P st fi
    let e ← trE x
    pure (.fad e off)
  | .field st x fi => do
    let (off,n,ag) ← trFld P st fi
    let e ← trE x
    pure (.fld e off n ag)
  | .indexAddr t x i => match P.underlying t with
    | some (.array n e) => do
      let f ← P.info? e
      let ex ← trE x
      let ei ← trE i
      pure (.aia ex ei f.size n)
    | _ => do
    let (_,k,_,_) ← rowInfo P t
    let ex ← trE x
    let ei ← trE i
    pure (.iad ex ei k)
  | .extract x i => (trE x).map fun e => .ext e i
  | .call c => match c.callee with
    | .builtin .len => match c.argTypes.toList,c.args.toList with
      | [t],[x] => match elemOf' P t with
        | some _ => (trE x).map .len
        | none => some (.sca o)
      | _,_ => none
    | .builtin .append => match c.argTypes.toList,c.args.toList with
      | [t,t'],[x,y] => if t = t' then do
          let (_,k,b,_) ← rowInfo P t
          let ex ← trE x
          let ey ← trE y
          pure (.app ex ey k b)
        else match P.underlying t' with
          | some (.int _) => do
            let (_,k,b,z) ← rowInfo P t
            let zv ← ofVal z
            let ex ← trE x
            let en ← trE y
            pure (.apz ex en k b zv)
          | _ => none
      | _,_ => none
    | .builtin _ => some (.sca o)
    | .value f => match trExt P f c.args.toList with
      | some k => some k
      | none => do
        let ef ← trE f
        let es ← trEs c.args.toList
        pure (.call ef es)
    | _ => none
  | .unOp .. | .index .. => some (.sca o)
  | .pick c x y => do
    let ec ← trE c
    let ex ← trE x
    let ey ← trE y
    pure (.pick ec ex ey)
  | .range t x => match P.underlying t with
    | some .string => (trE x).map .srng
    | _ => none
  | .next x true => (trE x).map .snxt
  | _ => none
end Go.Proofs.Pe
end

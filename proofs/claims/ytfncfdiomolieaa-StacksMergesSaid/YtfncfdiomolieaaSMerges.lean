/- Parts of the texts that the claim's proof needs. Conditions: those that its theorems state. -/
import Derived.Test.YtfncfdiomolieaaTG
section
set_option linter.unusedVariables false
namespace Go.Proofs.Pe
variable {P : Program} {T : Tab}

theorem okR_d0 {d : Nat} (h : d ≤ 2) : okR d 1 = true := by
  rcases d with _ | _ | _ | d
  · rfl
  · rfl
  · rfl
  · omega
end Go.Proofs.Pe
end

section
set_option linter.unusedVariables false
namespace Go.Proofs.Pe
variable {P : Program} {T : Tab} {ca : Ca} {yi : Nat → Sem'} {lp : Bd → Bd} {rd : Option Nat} {t : List V} {o : List O} {m : List Nat} {Φ : X → Fr → Prop}

theorem wrap_def (n : Int) : IntKind.i64.wrap n = if 9223372036854775808 ≤ n % 18446744073709551616 then n % 18446744073709551616 - 18446744073709551616 else n % 18446744073709551616 := by
  unfold IntKind.wrap
  simp [IntKind.bits,IntKind.signed]
end Go.Proofs.Pe
end

section
set_option linter.unusedVariables false
set_option maxRecDepth 100000
namespace Go.Proofs.Ytfncfdiomolieaa
open Go.Proofs.Pe
theorem t7 : T.cf 7 = some c7 := rfl
theorem t29 : T.cf 29 = some c29 := rfl
theorem t30 : T.cf 30 = some c30 := rfl
theorem t40 : T.cf 40 = some c40 := rfl
theorem t41 : T.cf 41 = some c41 := rfl
end Go.Proofs.Ytfncfdiomolieaa
end

section
set_option linter.unusedVariables false
set_option linter.unusedSimpArgs false
set_option maxRecDepth 100000
set_option maxHeartbeats 8000000
namespace Go.Proofs.Ytfncfdiomolieaa
open Go.Proofs.Pe
/-- A row anew, and more behind it. -/
theorem app_two {o : List O} {x : V} {xs : List V} {ts : List Pe.Tm} (k1 : IsSl 9 x xs) (k3 : All2 IsTm ts xs) {y : V} {ys : List V} {us : List Pe.Tm} (g1 : rowOf o y = some ys) (hy : ∀ o',o.length ≤ o'.length → (∀ i,i < o.length → o'[i]? = o[i]?) → rowOf o' y = some ys) (g3 : All2 IsTm us ys) (hb : xs.length + ys.length ≤ cap) :
    ∃ x1 o1 x2 o2 w o3,appOf 9 120 o (.sl 9 true []) x = some (x1,o1) ∧ appOf 9 120 o1 x1 y = some (x2,o2) ∧ Pe.freeze o2 x2 = some (w,o3) ∧ IsRow (ts ++ us) w := by
  unfold cap at hb
  obtain ⟨x1,o1,e1,e2,e3,e4,e5⟩ := (show Fresh (.sl 9 true []) o 9 [] from .inr (.inl ⟨rfl,rfl⟩)).cat (b := 120) (y := x) (us := xs) (k1.row o) (k3.okRow fun _ _ h => h.ok).s (by simp; unfold room; omega)
  have e4' : ∀ i,i < o.length → o1[i]? = o[i]? := fun i hi => e4 i (fun v h => by cases h) hi
  obtain ⟨x2,o2,f1,f2,f3,f4,f5⟩ := e2.cat (b := 120) (y := y) (us := ys) (hy o1 e3 e4') (g3.okRow fun _ _ h => h.ok).s (by simp; unfold room; omega)
  have hall : All2 IsTm (ts ++ us) ([] ++ xs ++ ys) := by simpa using k3.append g3
  obtain ⟨w,o3,h1,h2,_⟩ := f2.fz (hall.free fun _ _ h => h.ok.1)
  exact ⟨x1,o1,x2,o2,w,o3,e1,f1,h1,_,h2,by simp; unfold cap; omega,hall⟩
end Go.Proofs.Ytfncfdiomolieaa
end

section
set_option linter.unusedVariables false
set_option linter.unusedSimpArgs false
set_option maxRecDepth 100000
set_option maxHeartbeats 8000000
namespace Go.Proofs.Ytfncfdiomolieaa
open Go.Proofs.Pe
theorem szTs_snoc : ∀ (l : List Pe.Tm) (x : Pe.Tm),szTs (l ++ [x]) = szTs l + szT x
  | [],x => by simp [szTs]
  | y :: l,x => by simp only [List.cons_append,szTs,szTs_snoc l x]; omega
theorem szTs_app : ∀ (l m : List Pe.Tm),szTs (l ++ m) = szTs l + szTs m
  | [],m => by simp [szTs]
  | y :: l,m => by simp only [List.cons_append,szTs,szTs_app l m]; omega
def szS : List (List Pe.Tm) → Int
  | [] => 0
  | l :: S => szTs l + szS S
theorem szS_snoc : ∀ (S : List (List Pe.Tm)) (l : List Pe.Tm),szS (S ++ [l]) = szS S + szTs l
  | [],l => by simp [szS]
  | y :: S,l => by simp only [List.cons_append,szS,szS_snoc S l]; omega
theorem szS_set : ∀ (S : List (List Pe.Tm)) (a : Nat) (l : List Pe.Tm),a < S.length → szS (S.set a l) = szS S - szTs (S.getD a []) + szTs l
  | [],a,l,h => by simp at h
  | y :: S,0,l,h => by simp only [List.set_cons_zero,szS,List.getD_cons_zero]; omega
  | y :: S,a + 1,l,h => by
    simp only [List.set_cons_succ,szS,List.getD_cons_succ]
    have := szS_set S a l (by simpa using h); omega
theorem w64_add (a b : Int) : w64 (w64 a + w64 b) = w64 (a + b) := by
  unfold w64
  rw [wrap_def a,wrap_def b,wrap_def (a + b),wrap_def]
  omega
theorem take_szTs {l : List Pe.Tm} {i : Nat} {x : Pe.Tm} (h : l[i]? = some x) : szTs (l.take (i + 1)) = szTs (l.take i) + szT x := by
  rw [List.take_add_one,h]; exact szTs_snoc _ _
theorem rsize_b {k a b ek en : Int} {nm em : ByteArray} {el : List Ex} {xl : List Pe.Tm} {u : V} (hu : IsTm (.mk k a b nm (.mk ek en em el) xl) u)
    (ih : ∀ x ∈ xl,∀ u,IsTm x u → PFn Try.prog T 41 [u] fun z => z = iV (w64 (szT x))) : PFn Try.prog T 41 [u] fun z => z = iV (w64 (szT (.mk k a b nm (.mk ek en em el) xl))) := by
  obtain ⟨eu,eus,lu,us,rfl,c1,c2,c3,a1,a2,a3⟩ := hu
  rw [isTms_all] at a3
  have o1 : lu.one = true := free1_one a1.free
  have o3 : eu.one = true := free1_one c1.free
  have r1 := fun o => a1.row o
  have l1 := a3.len
  unfold cap at a2
  simp only [szT]
  intro yi hy
  refine Call.step hy ?_
  rw [body_eq t41]
  simp only [c41,c41x1,c41x2,c41x3,RUA,RUB,RUC,RUD,RUE,RUF,if_true,if_false,ite_true,ite_false,Int.reduceEq,Int.reduceLT,Int.reduceLE,putCells,bslOf,bsaOf,bslS,isUpto,Nat.reduceEqDiff,Pe.step,E.at,List.replicate,Nat.reduceAdd,Nat.reduceSub,Nat.reduceLeDiff,Nat.reduceMul,Pe.intOf,Pe.iop,Pe.sop,o1,o3]
  refine Lfp.inv call_le hy (fun s : Nat × Int => ⟨⟨[.dead,.pt 0 0,.dead,iV s.2,iV s.1,.dead,.dead,.dead,.dead,.dead,.dead,.dead,.dead,.dead,.dead,.dead,.dead,.dead,.dead,.dead,.dead],[.cells [iV k,iV a,iV b,sV nm,iV ek,iV en,sV em,eu,lu]]⟩,[]⟩) (fun s => us.length - s.1) (fun s => s.1 ≤ us.length ∧ s.2 = w64 (1 + szTs (xl.take s.1))) (0,1) ⟨Nat.zero_le _,rfl⟩ (by simp only [kill_L,killTs_nil,RUF] <;> rfl) ?_
  rintro ⟨i,n⟩ ⟨hi,hn⟩
  dsimp only at hi hn
  by_cases hlt : i < us.length
  · have hd1 : decide ((i : Int) < (us.length : Int)) = true := by simpa using hlt
    have hx : us[i]? = some us[i] := List.getElem?_eq_getElem hlt
    have hxl : xl[i]? = some xl[i] := List.getElem?_eq_getElem (by omega)
    have hE := a3.get hx hxl
    have hm : xl[i] ∈ xl := List.getElem_mem _
    generalize us[i] = u at hx hE
    generalize xl[i] = x at hxl hE hm
    have hc := ih _ hm _ hE
    have hf1 := hE.ok.1
    obtain ⟨_,_,_,_,_,_,_,_,_,rfl,q1,q2,_,_⟩ := tmA hE
    have hI := fun o => a1.ix o hx
    have hw1 : IntKind.i64.wrap ((i : Int) + 1) = ((i + 1 : Nat) : Int) := wrap_succ (by omega)
    simp only [c41,c41x1,c41x2,c41x3,c41x4,c41x5,c41x6,c41x7,RUA,RUB,RUC,RUD,RUE,RUF,if_true,if_false,ite_true,ite_false,Int.reduceEq,Int.reduceLT,Int.reduceLE,putCells,bslOf,bsaOf,bslS,isUpto,Nat.reduceEqDiff,Pe.step,E.at,List.replicate,Nat.reduceAdd,Nat.reduceSub,Nat.reduceLeDiff,Nat.reduceMul,Pe.intOf,Pe.iop,Pe.sop,hd1,r1,hI,q1,q2]
    refine hc.callE rfl (cf1 hf1 _) rfl ?_
    simp only [c41,c41x1,c41x2,c41x3,c41x4,c41x5,c41x6,c41x7,c41x8,RUA,RUB,RUC,RUD,RUE,RUF,if_true,if_false,ite_true,ite_false,Int.reduceEq,Int.reduceLT,Int.reduceLE,putCells,bslOf,bsaOf,bslS,isUpto,Nat.reduceEqDiff,Pe.step,E.at,List.replicate,Nat.reduceAdd,Nat.reduceSub,Nat.reduceLeDiff,Nat.reduceMul,Pe.intOf,Pe.iop,Pe.sop,hw1]
    refine ⟨(i + 1,w64 (n + w64 (szT x))),⟨by simp only; omega, ?_⟩,by simp only; omega,rfl⟩
    simp only [hn,w64_add,take_szTs hxl]
    congr 1; omega
  · have hd1 : decide ((i : Int) < (us.length : Int)) = false := by simpa using hlt
    rw [List.take_of_length_le (by omega)] at hn
    simp only [c41,c41x1,c41x2,c41x3,c41x4,c41x5,c41x6,c41x7,c41x8,RUA,RUB,RUC,RUD,RUE,RUF,if_true,if_false,ite_true,ite_false,Int.reduceEq,Int.reduceLT,Int.reduceLE,putCells,bslOf,bsaOf,bslS,isUpto,Nat.reduceEqDiff,Pe.step,E.at,List.replicate,Nat.reduceAdd,Nat.reduceSub,Nat.reduceLeDiff,Nat.reduceMul,Pe.intOf,Pe.iop,Pe.sop,hd1,r1]
    exact ⟨_,_,rfl,by rw [hn]⟩
theorem rsize_p : ∀ (x : Pe.Tm) (u : V),IsTm x u → PFn Try.prog T 41 [u] fun z => z = iV (w64 (szT x))
  | .mk k a b nm (.mk ek en em el) xl,u,hu => rsize_b hu fun x hx u hu => rsize_p x u hu
termination_by x => SizeOf.sizeOf x
decreasing_by have := List.sizeOf_lt_of_mem hx; simp; omega
theorem psize_b {k a b ek en : Int} {nm em : ByteArray} {el : List Ex} {xl : List Pe.Tm} {u : V} (hu : IsTm (.mk k a b nm (.mk ek en em el) xl) u)
    (ih : ∀ x ∈ xl,∀ u,IsTm x u → PFn Try.prog T 40 [u] fun z => z = iV (w64 (szT x))) : PFn Try.prog T 40 [u] fun z => z = iV (w64 (szT (.mk k a b nm (.mk ek en em el) xl))) := by
  obtain ⟨eu,eus,lu,us,rfl,c1,c2,c3,a1,a2,a3⟩ := hu
  rw [isTms_all] at a3
  have o1 : lu.one = true := free1_one a1.free
  have o3 : eu.one = true := free1_one c1.free
  have r1 := fun o => a1.row o
  have l1 := a3.len
  unfold cap at a2
  simp only [szT]
  intro yi hy
  refine Call.step hy ?_
  rw [body_eq t40]
  simp only [c40,c40x1,c40x2,c40x3,RUA,RUB,RUC,RUD,RUE,RUF,if_true,if_false,ite_true,ite_false,Int.reduceEq,Int.reduceLT,Int.reduceLE,putCells,bslOf,bsaOf,bslS,isUpto,Nat.reduceEqDiff,Pe.step,E.at,List.replicate,Nat.reduceAdd,Nat.reduceSub,Nat.reduceLeDiff,Nat.reduceMul,Pe.intOf,Pe.iop,Pe.sop,o1,o3,r1]
  refine Lfp.inv call_le hy (fun s : Nat × Int × List O => ⟨⟨[.dead,.dead,.dead,iV s.2.1,.dead,.dead,.dead,lu,iV us.length,iV s.1,.dead,.dead,.dead,.dead,.dead,.dead,.dead,.dead,.dead],.cells [iV k,iV a,iV b,sV nm,iV ek,iV en,sV em,eu,lu] :: s.2.2⟩,[]⟩) (fun s => us.length - s.1) (fun s => s.1 ≤ us.length ∧ s.2.1 = w64 (1 + szTs (xl.take s.1))) (0,1,[]) ⟨Nat.zero_le _,rfl⟩ (by simp only [kill_L,killTs_nil,RUF] <;> rfl) ?_
  rintro ⟨i,n,g⟩ ⟨hi,hn⟩
  dsimp only at hi hn
  by_cases hlt : i < us.length
  · have hd1 : decide ((i : Int) < (us.length : Int)) = true := by simpa using hlt
    have hx : us[i]? = some us[i] := List.getElem?_eq_getElem hlt
    have hxl : xl[i]? = some xl[i] := List.getElem?_eq_getElem (by omega)
    have hE := a3.get hx hxl
    have hm : xl[i] ∈ xl := List.getElem_mem _
    generalize us[i] = u at hx hE
    generalize xl[i] = x at hxl hE hm
    have hc := ih _ hm _ hE
    have hf1 := hE.ok.1
    obtain ⟨_,_,_,_,_,_,_,_,_,rfl,q1,q2,_,_⟩ := tmA hE
    have hI := fun o => a1.ix o hx
    have hw1 : IntKind.i64.wrap ((i : Int) + 1) = ((i + 1 : Nat) : Int) := wrap_succ (by omega)
    have hset : ∀ (g : List O) a b,(g ++ [a]).set g.length b = g ++ [b] := fun g a b => by simp
    have hgn : ∀ (g : List O) a,(g ++ [a])[g.length]? = some a := fun g a => by simp
    simp only [c40,c40x1,c40x2,c40x3,c40x4,c40x5,c40x6,c40x7,RUA,RUB,RUC,RUD,RUE,RUF,if_true,if_false,ite_true,ite_false,Int.reduceEq,Int.reduceLT,Int.reduceLE,putCells,bslOf,bsaOf,bslS,isUpto,Nat.reduceEqDiff,Pe.step,E.at,List.replicate,Nat.reduceAdd,Nat.reduceSub,Nat.reduceLeDiff,Nat.reduceMul,Pe.intOf,Pe.iop,Pe.sop,hd1,hI,q1,q2,hset,hgn]
    refine hc.callE rfl (cf1 hf1 _) rfl ?_
    simp only [c40,c40x1,c40x2,c40x3,c40x4,c40x5,c40x6,c40x7,c40x8,c40x9,RUA,RUB,RUC,RUD,RUE,RUF,if_true,if_false,ite_true,ite_false,Int.reduceEq,Int.reduceLT,Int.reduceLE,putCells,bslOf,bsaOf,bslS,isUpto,Nat.reduceEqDiff,Pe.step,E.at,List.replicate,Nat.reduceAdd,Nat.reduceSub,Nat.reduceLeDiff,Nat.reduceMul,Pe.intOf,Pe.iop,Pe.sop,hw1]
    refine ⟨(i + 1,w64 (n + w64 (szT x)),_),⟨by simp only; omega, ?_⟩,by simp only; omega,rfl⟩
    simp only [hn,w64_add,take_szTs hxl]
    congr 1; omega
  · have hd1 : decide ((i : Int) < (us.length : Int)) = false := by simpa using hlt
    rw [List.take_of_length_le (by omega)] at hn
    simp only [c40,c40x1,c40x2,c40x3,c40x4,c40x5,c40x6,c40x7,c40x8,c40x9,RUA,RUB,RUC,RUD,RUE,RUF,if_true,if_false,ite_true,ite_false,Int.reduceEq,Int.reduceLT,Int.reduceLE,putCells,bslOf,bsaOf,bslS,isUpto,Nat.reduceEqDiff,Pe.step,E.at,List.replicate,Nat.reduceAdd,Nat.reduceSub,Nat.reduceLeDiff,Nat.reduceMul,Pe.intOf,Pe.iop,Pe.sop,hd1]
    exact ⟨_,_,rfl,by rw [hn]⟩
theorem psize_p : ∀ (x : Pe.Tm) (u : V),IsTm x u → PFn Try.prog T 40 [u] fun z => z = iV (w64 (szT x))
  | .mk k a b nm (.mk ek en em el) xl,u,hu => psize_b hu fun x hx u hu => psize_p x u hu
termination_by x => SizeOf.sizeOf x
decreasing_by have := List.sizeOf_lt_of_mem hx; simp; omega
theorem rsizes_p {S : List (List Pe.Tm)} {v : V} (hv : IsStk S v) : PFn Try.prog T 30 [v] fun z => z = iV (w64 (szS S)) := by
  obtain ⟨rows,v1,v2,v3⟩ := hv
  have hln := v3.len
  have hrow := fun o => v1.row o
  unfold cap at v2
  intro yi hy
  refine Call.step hy ?_
  rw [body_eq t30]
  simp only [c30,c30x1,c30x2,c30x3,RUA,RUB,RUC,RUD,RUE,RUF,if_true,if_false,ite_true,ite_false,Int.reduceEq,Int.reduceLT,Int.reduceLE,putCells,bslOf,bsaOf,bslS,isUpto,Nat.reduceEqDiff,Pe.step,E.at,List.replicate,Nat.reduceAdd,Nat.reduceSub,Nat.reduceLeDiff,Nat.reduceMul,Pe.intOf,Pe.iop,Pe.sop]
  refine Lfp.inv call_le hy (fun s : Nat × Int => ⟨⟨[v,.dead,.dead,iV s.2,iV s.1,.dead,.dead,.dead,.dead,.dead,.dead,.dead,.dead,.dead,.dead,.dead,.dead,.dead,.dead,.dead,.dead,.dead,.dead,.dead,.dead,.dead,.dead,.dead,.dead,.dead,.dead,.dead],[]⟩,[]⟩) (fun s => rows.length - s.1) (fun s => s.1 ≤ rows.length ∧ s.2 = w64 (szS (S.take s.1))) (0,0) ⟨Nat.zero_le _,rfl⟩ (by simp only [kill_L,killTs_nil,RUF] <;> rfl) ?_
  rintro ⟨i,n⟩ ⟨hi,hn⟩
  dsimp only at hi hn
  by_cases hlt : i < rows.length
  · have hd1 : decide ((i : Int) < (rows.length : Int)) = true := by simpa using hlt
    have hx : rows[i]? = some rows[i] := List.getElem?_eq_getElem hlt
    have hxl : S[i]? = some S[i] := List.getElem?_eq_getElem (by omega)
    have hE := v3.get hx hxl
    generalize rows[i] = w at hx hE
    generalize S[i] = ts at hxl hE
    obtain ⟨ws,w1,w2,w3⟩ := hE
    have hwc : w.cells = [w] := w1.cells
    have hI := fun o => v1.ix o hx
    have hr := fun o => w1.row o
    have l2 := w3.len
    unfold cap at w2
    have hw1 : IntKind.i64.wrap ((i : Int) + 1) = ((i + 1 : Nat) : Int) := wrap_succ (by omega)
    simp only [c30,c30x1,c30x2,c30x3,c30x4,c30x5,c30x6,c30x7,RUA,RUB,RUC,RUD,RUE,RUF,if_true,if_false,ite_true,ite_false,Int.reduceEq,Int.reduceLT,Int.reduceLE,putCells,bslOf,bsaOf,bslS,isUpto,Nat.reduceEqDiff,Pe.step,E.at,List.replicate,Nat.reduceAdd,Nat.reduceSub,Nat.reduceLeDiff,Nat.reduceMul,Pe.intOf,Pe.iop,Pe.sop,hrow,hd1]
    refine Lfp.inv call_le hy (fun s : Nat × Int => ⟨⟨[v,.dead,.dead,iV s.2,iV i,iV s.1,.dead,.dead,.dead,.dead,.dead,.dead,.dead,.dead,.dead,.dead,.dead,.dead,.dead,.dead,.dead,.dead,.dead,.dead,.dead,.dead,.dead,.dead,.dead,.dead,.dead,.dead],[]⟩,[]⟩) (fun s => ws.length - s.1) (fun s => s.1 ≤ ws.length ∧ s.2 = w64 (szS (S.take i) + szTs (ts.take s.1))) (0,n) ⟨Nat.zero_le _,by simp only [List.take_zero,szTs,Int.add_zero]; exact hn⟩ (by simp only [kill_L,killTs_nil,RUF] <;> rfl) ?_
    rintro ⟨j,m⟩ ⟨hj,hm⟩
    dsimp only at hj hm
    by_cases hlt2 : j < ws.length
    · have hd2 : decide ((j : Int) < (ws.length : Int)) = true := by simpa using hlt2
      have hx2 : ws[j]? = some ws[j] := List.getElem?_eq_getElem hlt2
      have hxl2 : ts[j]? = some ts[j] := List.getElem?_eq_getElem (by omega)
      have hE2 := w3.get hx2 hxl2
      generalize ws[j] = u at hx2 hE2
      generalize ts[j] = x at hxl2 hE2
      have hc := rsize_p _ _ hE2
      have hf1 := hE2.ok.1
      obtain ⟨_,_,_,_,_,_,_,_,_,rfl,q1,q2,_,_⟩ := tmA hE2
      have hJ := fun o => w1.ix o hx2
      have hw2 : IntKind.i64.wrap ((j : Int) + 1) = ((j + 1 : Nat) : Int) := wrap_succ (by omega)
      simp only [c30,c30x1,c30x2,c30x3,c30x4,c30x5,c30x6,c30x7,c30x8,c30x9,c30x10,RUA,RUB,RUC,RUD,RUE,RUF,if_true,if_false,ite_true,ite_false,Int.reduceEq,Int.reduceLT,Int.reduceLE,putCells,bslOf,bsaOf,bslS,isUpto,Nat.reduceEqDiff,Pe.step,E.at,List.replicate,Nat.reduceAdd,Nat.reduceSub,Nat.reduceLeDiff,Nat.reduceMul,Pe.intOf,Pe.iop,Pe.sop,hI,hwc,hr,hd2,hJ,q1,q2]
      refine hc.callE rfl (cf1 hf1 _) rfl ?_
      simp only [c30,c30x1,c30x2,c30x3,c30x4,c30x5,c30x6,c30x7,c30x8,c30x9,c30x10,c30x11,RUA,RUB,RUC,RUD,RUE,RUF,if_true,if_false,ite_true,ite_false,Int.reduceEq,Int.reduceLT,Int.reduceLE,putCells,bslOf,bsaOf,bslS,isUpto,Nat.reduceEqDiff,Pe.step,E.at,List.replicate,Nat.reduceAdd,Nat.reduceSub,Nat.reduceLeDiff,Nat.reduceMul,Pe.intOf,Pe.iop,Pe.sop,hw2]
      refine ⟨(j + 1,w64 (m + w64 (szT x))),⟨by simp only; omega, ?_⟩,by simp only; omega,rfl⟩
      simp only [hm,w64_add,take_szTs hxl2]
      congr 1; omega
    · have hd2 : decide ((j : Int) < (ws.length : Int)) = false := by simpa using hlt2
      have ht9 : ts.take j = ts := List.take_of_length_le (by omega)
      rw [ht9] at hm
      simp only [c30,c30x1,c30x2,c30x3,c30x4,c30x5,c30x6,c30x7,c30x8,c30x9,c30x10,c30x11,c30x12,RUA,RUB,RUC,RUD,RUE,RUF,if_true,if_false,ite_true,ite_false,Int.reduceEq,Int.reduceLT,Int.reduceLE,putCells,bslOf,bsaOf,bslS,isUpto,Nat.reduceEqDiff,Pe.step,E.at,List.replicate,Nat.reduceAdd,Nat.reduceSub,Nat.reduceLeDiff,Nat.reduceMul,Pe.intOf,Pe.iop,Pe.sop,hI,hwc,hr,hd2,hw1]
      refine ⟨(i + 1,m),⟨by simp only; omega, ?_⟩,by simp only; omega,rfl⟩
      simp only [hm,List.take_add_one,hxl]
      rw [show (some ts).toList = [ts] from rfl,szS_snoc]
  · have hd1 : decide ((i : Int) < (rows.length : Int)) = false := by simpa using hlt
    rw [List.take_of_length_le (by omega)] at hn
    simp only [c30,c30x1,c30x2,c30x3,c30x4,c30x5,c30x6,c30x7,c30x8,c30x9,c30x10,c30x11,c30x12,c30x13,RUA,RUB,RUC,RUD,RUE,RUF,if_true,if_false,ite_true,ite_false,Int.reduceEq,Int.reduceLT,Int.reduceLE,putCells,bslOf,bsaOf,bslS,isUpto,Nat.reduceEqDiff,Pe.step,E.at,List.replicate,Nat.reduceAdd,Nat.reduceSub,Nat.reduceLeDiff,Nat.reduceMul,Pe.intOf,Pe.iop,Pe.sop,hrow,hd1]
    exact ⟨_,_,rfl,by rw [hn]⟩
theorem psizes_p {S : List (List Pe.Tm)} {v : V} (hv : IsStk S v) : PFn Try.prog T 29 [v] fun z => z = iV (w64 (szS S)) := by
  obtain ⟨rows,v1,v2,v3⟩ := hv
  have hln := v3.len
  have hrow := fun o => v1.row o
  unfold cap at v2
  intro yi hy
  refine Call.step hy ?_
  rw [body_eq t29]
  simp only [c29,c29x1,c29x2,c29x3,RUA,RUB,RUC,RUD,RUE,RUF,if_true,if_false,ite_true,ite_false,Int.reduceEq,Int.reduceLT,Int.reduceLE,putCells,bslOf,bsaOf,bslS,isUpto,Nat.reduceEqDiff,Pe.step,E.at,List.replicate,Nat.reduceAdd,Nat.reduceSub,Nat.reduceLeDiff,Nat.reduceMul,Pe.intOf,Pe.iop,Pe.sop,hrow]
  refine Lfp.inv call_le hy (fun s : Nat × Int × List O => ⟨⟨[.dead,.dead,.dead,iV s.2.1,.dead,.dead,.dead,.dead,v,iV rows.length,iV s.1,.dead,.dead,.dead,.dead,.dead,.dead,.dead,.dead,.dead,.dead,.dead,.dead,.dead,.dead,.dead,.dead],s.2.2⟩,[]⟩) (fun s => rows.length - s.1) (fun s => s.1 ≤ rows.length ∧ s.2.1 = w64 (szS (S.take s.1))) (0,0,[]) ⟨Nat.zero_le _,rfl⟩ (by simp only [kill_L,killTs_nil,RUF] <;> rfl) ?_
  rintro ⟨i,n,g⟩ ⟨hi,hn⟩
  dsimp only at hi hn
  by_cases hlt : i < rows.length
  · have hd1 : decide ((i : Int) < (rows.length : Int)) = true := by simpa using hlt
    have hx : rows[i]? = some rows[i] := List.getElem?_eq_getElem hlt
    have hxl : S[i]? = some S[i] := List.getElem?_eq_getElem (by omega)
    have hE := v3.get hx hxl
    generalize rows[i] = w at hx hE
    generalize S[i] = ts at hxl hE
    obtain ⟨ws,w1,w2,w3⟩ := hE
    have hwc : w.cells = [w] := w1.cells
    have hI := fun o => v1.ix o hx
    have hr := fun o => w1.row o
    have l2 := w3.len
    unfold cap at w2
    have hw1 : IntKind.i64.wrap ((i : Int) + 1) = ((i + 1 : Nat) : Int) := wrap_succ (by omega)
    simp only [c29,c29x1,c29x2,c29x3,c29x4,c29x5,c29x6,c29x7,c29x8,RUA,RUB,RUC,RUD,RUE,RUF,if_true,if_false,ite_true,ite_false,Int.reduceEq,Int.reduceLT,Int.reduceLE,putCells,bslOf,bsaOf,bslS,isUpto,Nat.reduceEqDiff,Pe.step,E.at,List.replicate,Nat.reduceAdd,Nat.reduceSub,Nat.reduceLeDiff,Nat.reduceMul,Pe.intOf,Pe.iop,Pe.sop,hd1,hI,hwc,hr]
    refine Lfp.inv call_le hy (fun s : Nat × Int × List O => ⟨⟨[.dead,.dead,.dead,iV s.2.1,.dead,.dead,.dead,.dead,v,iV rows.length,iV i,.dead,.dead,.dead,w,iV ws.length,iV s.1,.dead,.dead,.dead,.dead,.dead,.dead,.dead,.dead,.dead,.dead],s.2.2⟩,[]⟩) (fun s => ws.length - s.1) (fun s => s.1 ≤ ws.length ∧ s.2.1 = w64 (szS (S.take i) + szTs (ts.take s.1))) (0,n,g) ⟨Nat.zero_le _,by simp only [List.take_zero,szTs,Int.add_zero]; exact hn⟩ (by simp only [kill_L,killTs_nil,RUF] <;> rfl) ?_
    rintro ⟨j,m,g⟩ ⟨hj,hm⟩
    dsimp only at hj hm
    by_cases hlt2 : j < ws.length
    · have hd2 : decide ((j : Int) < (ws.length : Int)) = true := by simpa using hlt2
      have hx2 : ws[j]? = some ws[j] := List.getElem?_eq_getElem hlt2
      have hxl2 : ts[j]? = some ts[j] := List.getElem?_eq_getElem (by omega)
      have hE2 := w3.get hx2 hxl2
      generalize ws[j] = u at hx2 hE2
      generalize ts[j] = x at hxl2 hE2
      have hc := psize_p _ _ hE2
      have hf1 := hE2.ok.1
      obtain ⟨_,_,_,_,_,_,_,_,_,rfl,q1,q2,_,_⟩ := tmA hE2
      have hJ := fun o => w1.ix o hx2
      have hw2 : IntKind.i64.wrap ((j : Int) + 1) = ((j + 1 : Nat) : Int) := wrap_succ (by omega)
      have hset : ∀ (g : List O) a b,(g ++ [a]).set g.length b = g ++ [b] := fun g a b => by simp
      have hgn : ∀ (g : List O) a,(g ++ [a])[g.length]? = some a := fun g a => by simp
      simp only [c29,c29x1,c29x2,c29x3,c29x4,c29x5,c29x6,c29x7,c29x8,c29x9,c29x10,c29x11,c29x12,RUA,RUB,RUC,RUD,RUE,RUF,if_true,if_false,ite_true,ite_false,Int.reduceEq,Int.reduceLT,Int.reduceLE,putCells,bslOf,bsaOf,bslS,isUpto,Nat.reduceEqDiff,Pe.step,E.at,List.replicate,Nat.reduceAdd,Nat.reduceSub,Nat.reduceLeDiff,Nat.reduceMul,Pe.intOf,Pe.iop,Pe.sop,hd2,hJ,q1,q2,hset,hgn]
      refine hc.callE rfl (cf1 hf1 _) rfl ?_
      simp only [c29,c29x1,c29x2,c29x3,c29x4,c29x5,c29x6,c29x7,c29x8,c29x9,c29x10,c29x11,c29x12,c29x13,RUA,RUB,RUC,RUD,RUE,RUF,if_true,if_false,ite_true,ite_false,Int.reduceEq,Int.reduceLT,Int.reduceLE,putCells,bslOf,bsaOf,bslS,isUpto,Nat.reduceEqDiff,Pe.step,E.at,List.replicate,Nat.reduceAdd,Nat.reduceSub,Nat.reduceLeDiff,Nat.reduceMul,Pe.intOf,Pe.iop,Pe.sop,hw2]
      refine ⟨(j + 1,w64 (m + w64 (szT x)),_),⟨by simp only; omega, ?_⟩,by simp only; omega,rfl⟩
      simp only [hm,w64_add,take_szTs hxl2]
      congr 1; omega
    · have hd2 : decide ((j : Int) < (ws.length : Int)) = false := by simpa using hlt2
      have ht9 : ts.take j = ts := List.take_of_length_le (by omega)
      rw [ht9] at hm
      simp only [c29,c29x1,c29x2,c29x3,c29x4,c29x5,c29x6,c29x7,c29x8,c29x9,c29x10,c29x11,c29x12,c29x13,c29x14,RUA,RUB,RUC,RUD,RUE,RUF,if_true,if_false,ite_true,ite_false,Int.reduceEq,Int.reduceLT,Int.reduceLE,putCells,bslOf,bsaOf,bslS,isUpto,Nat.reduceEqDiff,Pe.step,E.at,List.replicate,Nat.reduceAdd,Nat.reduceSub,Nat.reduceLeDiff,Nat.reduceMul,Pe.intOf,Pe.iop,Pe.sop,hd2,hw1]
      refine ⟨(i + 1,m,g),⟨by simp only; omega, ?_⟩,by simp only; omega,rfl⟩
      simp only [hm,List.take_add_one,hxl]
      rw [show (some ts).toList = [ts] from rfl,szS_snoc]
  · have hd1 : decide ((i : Int) < (rows.length : Int)) = false := by simpa using hlt
    rw [List.take_of_length_le (by omega)] at hn
    simp only [c29,c29x1,c29x2,c29x3,c29x4,c29x5,c29x6,c29x7,c29x8,c29x9,c29x10,c29x11,c29x12,c29x13,c29x14,c29x15,RUA,RUB,RUC,RUD,RUE,RUF,if_true,if_false,ite_true,ite_false,Int.reduceEq,Int.reduceLT,Int.reduceLE,putCells,bslOf,bsaOf,bslS,isUpto,Nat.reduceEqDiff,Pe.step,E.at,List.replicate,Nat.reduceAdd,Nat.reduceSub,Nat.reduceLeDiff,Nat.reduceMul,Pe.intOf,Pe.iop,Pe.sop,hd1]
    exact ⟨_,_,rfl,by rw [hn]⟩
end Go.Proofs.Ytfncfdiomolieaa
end

section
set_option linter.unusedVariables false
set_option linter.unusedSimpArgs false
set_option maxRecDepth 100000
set_option maxHeartbeats 8000000
namespace Go.Proofs.Ytfncfdiomolieaa
open Go.Proofs.Pe

theorem szS_mrg {S : List (List Pe.Tm)} {a b : Nat} (ha : a < S.length) (hb : b < S.length) : szS (mrg S a b) = szS S := by
  unfold mrg
  by_cases h : a = b
  · rw [if_pos h]
  · rw [if_neg h,szS_set _ _ _ (by simpa using ha),szS_set _ _ _ hb,gD_set hb,if_neg (Ne.symm h),szTs_app]
    simp only [szTs]; omega
theorem dn (n : Int) : (!decide (n = n)) = false := by simp
end Go.Proofs.Ytfncfdiomolieaa
end
section
set_option linter.unusedVariables false
set_option linter.unusedSimpArgs false
set_option maxRecDepth 100000
set_option maxHeartbeats 8000000
namespace Go.Proofs.Ytfncfdiomolieaa
open Go.Proofs.Pe
theorem stacksMerges_call (x : V) (w : ∃ n,VT Try.prog n 35 [x]) (n : Int) (w1 : (Lit.int .i64 n).wf = true) (p : Int) (w2 : (Lit.int .i64 p).wf = true) (q : Int) (w3 : (Lit.int .i64 q).wf = true) : Pe.Call Try.prog T noY 7 [x,.sc (.int .i64 n),.sc (.int .i64 p),.sc (.int .i64 q)] [] (fun y _ => y = .sc (.bool true)) := by
  obtain ⟨m,hm⟩ := w
  obtain ⟨l,vs,h1,h3,h2⟩ := (r3_of rT m).2 x hm
  refine Call.step noY_le ?_
  rw [body_eq t7]
  try simp only [c7,c7x1,c7x2,RUA,RUB,RUC,RUD,RUE,RUF,if_true,if_false,ite_true,ite_false,Int.reduceEq,Int.reduceLT,Int.reduceLE,putCells,bslOf,bsaOf,bslS,isUpto,Nat.reduceEqDiff,Pe.step,E.at,List.replicate,Nat.reduceAdd,Nat.reduceSub,Nat.reduceLeDiff,Nat.reduceMul,Pe.intOf,Pe.iop,Pe.sop]
  refine known6_p.callE rfl rfl rfl ?_
  try simp only [c7,c7x1,c7x2,c7x3,RUA,RUB,RUC,RUD,RUE,RUF,if_true,if_false,ite_true,ite_false,Int.reduceEq,Int.reduceLT,Int.reduceLE,putCells,bslOf,bsaOf,bslS,isUpto,Nat.reduceEqDiff,Pe.step,E.at,List.replicate,Nat.reduceAdd,Nat.reduceSub,Nat.reduceLeDiff,Nat.reduceMul,Pe.intOf,Pe.iop,Pe.sop]
  refine (few_p h1 h3 h2).callB rfl (cf1 h1.freeV _) (fun z hz => by obtain ⟨b,rfl,_⟩ := hz; rfl) fun z hz => ?_
  obtain ⟨b,rfl,hb⟩ := hz
  cases b with
  | false => simp only [c7,c7x1,c7x2,c7x3,c7x4,RUA,RUB,RUC,RUD,RUE,RUF,if_true,if_false,ite_true,ite_false,Int.reduceEq,Int.reduceLT,Int.reduceLE,putCells,bslOf,bsaOf,bslS,isUpto,Nat.reduceEqDiff,Pe.step,E.at,List.replicate,Nat.reduceAdd,Nat.reduceSub,Nat.reduceLeDiff,Nat.reduceMul,Pe.intOf,Pe.iop,Pe.sop]
  | true =>
  try simp only [c7,c7x1,c7x2,c7x3,c7x4,c7x5,RUA,RUB,RUC,RUD,RUE,RUF,if_true,if_false,ite_true,ite_false,Int.reduceEq,Int.reduceLT,Int.reduceLE,putCells,bslOf,bsaOf,bslS,isUpto,Nat.reduceEqDiff,Pe.step,E.at,List.replicate,Nat.reduceAdd,Nat.reduceSub,Nat.reduceLeDiff,Nat.reduceMul,Pe.intOf,Pe.iop,Pe.sop]
  refine (make6_p h1 h3 (hb rfl) n).callF rfl (fun x hx => by simp only [List.mem_cons,List.not_mem_nil,or_false] at hx; rcases hx with rfl | rfl <;> first | exact h1.freeV | rfl) fun s hs => ?_
  obtain ⟨S,hS,hS1,hS3,hS5⟩ := hs
  have G : Stk3 S s := ⟨hS,hS1,hS3,hS5⟩
  obtain ⟨rows,hr,hrl⟩ := hS.len
  have hrl' : (rows.length : Int) = (S.length : Int) := by omega
  have c5 := G.get
  try simp only [c7,c7x1,c7x2,c7x3,c7x4,c7x5,c7x6,RUA,RUB,RUC,RUD,RUE,RUF,if_true,if_false,ite_true,ite_false,Int.reduceEq,Int.reduceLT,Int.reduceLE,putCells,bslOf,bsaOf,bslS,isUpto,Nat.reduceEqDiff,Pe.step,E.at,List.replicate,Nat.reduceAdd,Nat.reduceSub,Nat.reduceLeDiff,Nat.reduceMul,Pe.intOf,Pe.iop,Pe.sop,hr,hrl']
  refine (within6_p p (S.length : Int) (by omega) (by omega)).callE rfl rfl rfl ?_
  obtain ⟨a,ha,la⟩ := natI (a := p) (n := (S.length : Int)) (by omega)
  rw [ha]
  have la' : a < S.length := by omega
  try simp only [c7,c7x1,c7x2,c7x3,c7x4,c7x5,c7x6,RUA,RUB,RUC,RUD,RUE,RUF,if_true,if_false,ite_true,ite_false,Int.reduceEq,Int.reduceLT,Int.reduceLE,putCells,bslOf,bsaOf,bslS,isUpto,Nat.reduceEqDiff,Pe.step,E.at,List.replicate,Nat.reduceAdd,Nat.reduceSub,Nat.reduceLeDiff,Nat.reduceMul,Pe.intOf,Pe.iop,Pe.sop,hr,hrl']
  refine (within6_p q (S.length : Int) (by omega) (by omega)).callE rfl rfl rfl ?_
  obtain ⟨b,hb,lb⟩ := natI (a := q) (n := (S.length : Int)) (by omega)
  rw [hb]
  have lb' : b < S.length := by omega
  try simp only [c7,c7x1,c7x2,c7x3,c7x4,c7x5,c7x6,c7x7,RUA,RUB,RUC,RUD,RUE,RUF,if_true,if_false,ite_true,ite_false,Int.reduceEq,Int.reduceLT,Int.reduceLE,putCells,bslOf,bsaOf,bslS,isUpto,Nat.reduceEqDiff,Pe.step,E.at,List.replicate,Nat.reduceAdd,Nat.reduceSub,Nat.reduceLeDiff,Nat.reduceMul,Pe.intOf,Pe.iop,Pe.sop,hr,hrl']
  refine (merge2_ok hS la' lb' (by have := c5 a; have := c5 b; unfold cap; omega)).callF rfl (vfr3 hS _ _) fun u hu => ?_
  obtain ⟨urows,hur,hurl⟩ := hu.len
  have hurl' : (urows.length : Int) = (S.length : Int) := by rw [mrg_len] at hurl; omega
  have hq : (!decide ((S.length : Int) = (S.length : Int))) = false := dn _
  try simp only [c7,c7x1,c7x2,c7x3,c7x4,c7x5,c7x6,c7x7,c7x8,RUA,RUB,RUC,RUD,RUE,RUF,if_true,if_false,ite_true,ite_false,Int.reduceEq,Int.reduceLT,Int.reduceLE,putCells,bslOf,bsaOf,bslS,isUpto,Nat.reduceEqDiff,Pe.step,E.at,List.replicate,Nat.reduceAdd,Nat.reduceSub,Nat.reduceLeDiff,Nat.reduceMul,Pe.intOf,Pe.iop,Pe.sop,hr,hrl',hur,hurl',hq]
  refine (psizes_p hu).callE rfl (cf1 hu.freeV _) rfl ?_
  try simp only [c7,c7x1,c7x2,c7x3,c7x4,c7x5,c7x6,c7x7,c7x8,RUA,RUB,RUC,RUD,RUE,RUF,if_true,if_false,ite_true,ite_false,Int.reduceEq,Int.reduceLT,Int.reduceLE,putCells,bslOf,bsaOf,bslS,isUpto,Nat.reduceEqDiff,Pe.step,E.at,List.replicate,Nat.reduceAdd,Nat.reduceSub,Nat.reduceLeDiff,Nat.reduceMul,Pe.intOf,Pe.iop,Pe.sop]
  refine (rsizes_p hS).callE rfl (cf1 hS.freeV _) rfl ?_
  rw [szS_mrg la' lb']
  have hq2 : (!decide (w64 (szS S) = w64 (szS S))) = false := dn _
  try simp only [c7,c7x1,c7x2,c7x3,c7x4,c7x5,c7x6,c7x7,c7x8,c7x9,c7x10,RUA,RUB,RUC,RUD,RUE,RUF,if_true,if_false,ite_true,ite_false,Int.reduceEq,Int.reduceLT,Int.reduceLE,putCells,bslOf,bsaOf,bslS,isUpto,Nat.reduceEqDiff,Pe.step,E.at,List.replicate,Nat.reduceAdd,Nat.reduceSub,Nat.reduceLeDiff,Nat.reduceMul,Pe.intOf,Pe.iop,Pe.sop,hq2]
  by_cases e : a = b
  · have d1 : decide ((a : Int) = (b : Int)) = true := by subst e; simp
    have hu' : IsStk S u := by unfold mrg at hu; rwa [if_pos e] at hu
    try simp only [c7,c7x1,c7x2,c7x3,c7x4,c7x5,c7x6,c7x7,c7x8,c7x9,c7x10,c7x11,RUA,RUB,RUC,RUD,RUE,RUF,if_true,if_false,ite_true,ite_false,Int.reduceEq,Int.reduceLT,Int.reduceLE,putCells,bslOf,bsaOf,bslS,isUpto,Nat.reduceEqDiff,Pe.step,E.at,List.replicate,Nat.reduceAdd,Nat.reduceSub,Nat.reduceLeDiff,Nat.reduceMul,Pe.intOf,Pe.iop,Pe.sop,d1]
    refine (sames_p hu' hS).callE rfl (cf2 hu'.freeV hS.freeV _) rfl ?_
    try simp only [c7,c7x1,c7x2,c7x3,c7x4,c7x5,c7x6,c7x7,c7x8,c7x9,c7x10,c7x11,c7x12,RUA,RUB,RUC,RUD,RUE,RUF,if_true,if_false,ite_true,ite_false,Int.reduceEq,Int.reduceLT,Int.reduceLE,putCells,bslOf,bsaOf,bslS,isUpto,Nat.reduceEqDiff,Pe.step,E.at,List.replicate,Nat.reduceAdd,Nat.reduceSub,Nat.reduceLeDiff,Nat.reduceMul,Pe.intOf,Pe.iop,Pe.sop]
  · have d1 : decide ((a : Int) = (b : Int)) = false := by simp; omega
    obtain ⟨r1,ra,wa,v1,hxa,hac,a1,a2,a3⟩ := hu.row (a := a) (by rw [mrg_len]; exact la')
    obtain ⟨r2,rb,wb,v2,hxb,hbc,b1,b2,b3⟩ := hu.row (a := b) (by rw [mrg_len]; exact lb')
    rw [mrg_gD la' lb',if_neg e,if_pos rfl] at a3
    rw [mrg_gD la' lb',if_neg e,if_neg (Ne.symm e),if_pos rfl] at b3
    obtain ⟨r3,sa,ya,v3,hya,hsa,y1,y2,y3⟩ := hS.row la'
    obtain ⟨r4,sb,yb,v4,hyb,hsb,z1,z2,z3⟩ := hS.row lb'
    have hIa := fun o => v1.ix o hxa
    have hIb := fun o => v2.ix o hxb
    have hJa := fun o => v3.ix o hya
    have hJb := fun o => v4.ix o hyb
    have hra := fun o => a1.row o
    have hwa : wa.length = 0 := by rw [a3.len]; rfl
    have d0 : decide (((0 : Nat) : Int) = 0) = true := by decide
    have la5 := c5 a
    have lb5 := c5 b
    have ly := y3.len
    have lz := z3.len
    obtain ⟨x1,o1,x2,o2,w',o3,q1,q2,q3,q4⟩ := app_two (o := []) z1 z3 (y := sa) (ys := ya) (us := S.getD a []) (y1.row _) (fun _ _ _ => y1.row _) y3 (by unfold cap; omega)
    have hdA := v1.depA
    have hdA2 : s.depA = 0 := v3.depA
    have hz2 : ∀ m,okR 0 m = true := fun m => rfl
    have hrb : IsRow (S.getD b [] ++ S.getD a []) rb := ⟨wb,b1,b2,b3⟩
    have hcm : ∀ o,Pe.freeze o x2 = some (w',o3) → commits o [rb,x2] = some ([rb,w'],o3) := fun o h => by
      simp only [commits,step.freezes',freeze_free hrb.ok.1,h,Option.bind_eq_bind,Option.bind_some,Option.pure_def]
    try simp only [c7,c7x1,c7x2,c7x3,c7x4,c7x5,c7x6,c7x7,c7x8,c7x9,c7x10,c7x11,c7x12,RUA,RUB,RUC,RUD,RUE,RUF,if_true,if_false,ite_true,ite_false,Int.reduceEq,Int.reduceLT,Int.reduceLE,putCells,bslOf,bsaOf,bslS,isUpto,Nat.reduceEqDiff,Pe.step,E.at,List.replicate,Nat.reduceAdd,Nat.reduceSub,Nat.reduceLeDiff,Nat.reduceMul,Pe.intOf,Pe.iop,Pe.sop,d1,hIa,hac,hra,hwa,d0,hIb,hbc,hJa,hJb,hsa,hsb,q1,q2,hdA,hdA2,hz2]
    repeat' (first
      | (refine And.intro ?_ ?_)
      | exact trivial
      | exact okR_d0 (by decide)
      | (refine (rows_p hrb q4).callE rfl (hcm _ q3) rfl ?_
         try simp only [c7,c7x1,c7x2,c7x3,c7x4,c7x5,c7x6,c7x7,c7x8,c7x9,c7x10,c7x11,c7x12,RUA,RUB,RUC,RUD,RUE,RUF,if_true,if_false,ite_true,ite_false,Int.reduceEq,Int.reduceLT,Int.reduceLE,putCells,bslOf,bsaOf,bslS,isUpto,Nat.reduceEqDiff,Pe.step,E.at,List.replicate,Nat.reduceAdd,Nat.reduceSub,Nat.reduceLeDiff,Nat.reduceMul,Pe.intOf,Pe.iop,Pe.sop]))
end Go.Proofs.Ytfncfdiomolieaa
end

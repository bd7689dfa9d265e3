/- A part of the texts that the claim's proof needs: functions of the program as the evaluator reads them, and what they come to. Conditions: those that its theorems state. -/
import Derived.Test.YtjfnhpnfkknmoaaDoorY2W
import Derived.Test.YtjfnhpnfkknmoaaDoorA5
set_option linter.unusedVariables false
set_option linter.unusedSimpArgs false
set_option maxRecDepth 100000
set_option maxHeartbeats 4000000
namespace Go.Proofs.YtjfnhpnfkknmoaaDoor
open Go.Proofs.Pe

theorem walk_c {yi : Nat → Sem'} (hy : YLe yi yi) {lp : Nat} (S : List Nat) (N : List Ex) (J : List Ex → List O → Prop) (F : List O → Prop) (hJ : ∀ d o o', J d o → Frm o o' [] → J d o')
    (step : ∀ d x u o K, x ∈ N → J d o → IsEx x u → (∀ o', J (d ++ [x]) o' → Frm o o' S → K (bV true) o') → (∀ o', F o' → K (bV false) o') → yi lp [u] o K) :
    ∀ (x : Ex) (d : List Ex) (u : V) (o : List O) (K : V → List O → Prop), (∀ y ∈ nodes x, y ∈ N) → J d o → (∀ i ∈ S, i < o.length) → IsEx x u → (∀ o', J (d ++ nodes x) o' → Frm o o' S → K (bV true) o') → (∀ o', F o' → K (bV false) o') →
      Pe.Call Tryd.prog T yi 65 [u, .fn (.yield lp) [] []] o K
  | .mk k n nm l, d, u, o, K, hN, hj, hS, hu, hK, hF => by
    have hu' := hu
    obtain ⟨lv, vs, rfl, h1, h2, h3⟩ := hu
    rw [isExs_all] at h3
    have ih : ∀ x ∈ l, ∀ (d : List Ex) (u : V) (o : List O) (K : V → List O → Prop), (∀ y ∈ nodes x, y ∈ N) → J d o → (∀ i ∈ S, i < o.length) → IsEx x u → (∀ o', J (d ++ nodes x) o' → Frm o o' S → K (bV true) o') → (∀ o', F o' → K (bV false) o') →
      Pe.Call Tryd.prog T yi 65 [u, .fn (.yield lp) [] []] o K := fun x hx => walk_c hy S N J F hJ step x
    have hlen := h3.len
    unfold cap at h2
    have hone : lv.one = true := free1_one h1.free
    have hg : (o ++ [O.cells [iV k, iV n, sV nm, lv]])[o.length]? = some (O.cells [iV k, iV n, sV nm, lv]) := get_new
    refine Call.step hy ?_
    rw [body_eq t65]
    simp only [c65, c65x1, RUA, RUB, RUC, RUD, RUE, if_true, if_false, ite_true, ite_false, Int.reduceEq, Int.reduceLT, Int.reduceLE, putCells, bslOf, bsaOf, bslS, isUpto, Nat.reduceEqDiff, Pe.step, E.at, List.replicate, Nat.reduceAdd, Nat.reduceSub, Nat.reduceLeDiff, Nat.reduceMul, Pe.intOf, Pe.iop, Pe.sop, hone, hg]
    refine call_yield (cm_free hu'.ok.1 cm_nil) (step d _ _ _ _ (hN _ (by simp [nodes])) (hJ _ _ _ hj (.app _ _ [])) hu' (fun o1 hj1 hf1 => ?_) fun o1 hf1 => ?_)
    · have hc1 := hf1.cells hg (fun hm => by have := hS _ hm; omega)
      have hrow := fun o => h1.row o
      have hfo : Frm o o1 S := (Frm.app o _ S).trans hf1 (fun i hi => .inl hi)
      simp only [c65, c65x1, c65x2, c65x3, c65x4, RUA, RUB, RUC, RUD, RUE, if_true, if_false, ite_true, ite_false, Int.reduceEq, Int.reduceLT, Int.reduceLE, putCells, bslOf, bsaOf, bslS, isUpto, Nat.reduceEqDiff, Pe.step, E.at, List.replicate, Nat.reduceAdd, Nat.reduceSub, Nat.reduceLeDiff, Nat.reduceMul, Pe.intOf, Pe.iop, Pe.sop, hc1, hrow]
      refine Lfp.inv call_le hy (fun a : Nat × List O => ⟨⟨[.dead, .fn (.yield lp) [] [], .dead, .dead, .dead, .dead, .dead, .dead, .dead, .dead, .dead, .dead, lv, iV vs.length, iV a.1, .dead, .dead, .dead, .dead, .dead, .dead, .dead, .dead], a.2⟩, []⟩) (fun a => vs.length - a.1)
        (fun a => a.1 ≤ vs.length ∧ J (d ++ (.mk k n nm l :: nodesL (l.take a.1))) a.2 ∧ Frm o a.2 S) (0, o1) ⟨Nat.zero_le _, hj1, hfo⟩ (by simp only [killTs_cons, killTs_nil, List.set_cons_succ, List.set_cons_zero] <;> rfl) ?_
      rintro ⟨i, o'⟩ ⟨hi, hj', hf'⟩
      dsimp only at hi hj' hf'
      by_cases hlt : i < vs.length
      · have hd1 : decide ((i : Int) < (vs.length : Int)) = true := by simpa using hlt
        have hx : vs[i]? = some vs[i] := List.getElem?_eq_getElem hlt
        have hxl : l[i]? = some l[i] := List.getElem?_eq_getElem (by omega)
        have hmem : l[i] ∈ l := List.getElem_mem _
        have hE := h3.get hx hxl
        generalize hgv : vs[i] = u at hx hE
        generalize hgx : l[i] = x at hxl hE hmem
        have hE' := hE
        rcases x with ⟨k1, n1, m1, l1⟩
        obtain ⟨lv1, us, rfl, g1, g2, g3⟩ := hE
        have hone1 : lv1.one = true := free1_one g1.free
        have hI := fun o => h1.ix o hx
        have hw1 : IntKind.i64.wrap ((i : Int) + 1) = ((i + 1 : Nat) : Int) := wrap_succ (by omega)
        simp only [c65, c65x1, c65x2, c65x3, c65x4, c65x5, c65x6, c65x7, c65x8, c65x9, c65x10, c65x11, RUA, RUB, RUC, RUD, RUE, if_true, if_false, ite_true, ite_false, Int.reduceEq, Int.reduceLT, Int.reduceLE, putCells, bslOf, bsaOf, bslS, isUpto, Nat.reduceEqDiff, Pe.step, E.at, List.replicate, Nat.reduceAdd, Nat.reduceSub, Nat.reduceLeDiff, Nat.reduceMul, Pe.intOf, Pe.iop, Pe.sop, hd1, hI, hone1]
        refine call2 rfl (cm_free hE'.ok.1 (cm_keep rfl cm_nil)) (ih _ hmem _ _ _ _ (fun y hy => hN y (by rw [nodes]; exact List.mem_cons_of_mem _ (mem_nodesL hmem hy))) (hJ _ _ _ hj' (.app _ _ [])) (fun a ha => by have := hS a ha; have := hf'.len; simp; omega) hE' (fun o2 hj2 hf2 => ?_) fun o2 hf2 => ?_)
        · simp only [c65, c65x1, c65x2, c65x3, c65x4, c65x5, c65x6, c65x7, c65x8, c65x9, c65x10, c65x11, RUA, RUB, RUC, RUD, RUE, if_true, if_false, ite_true, ite_false, Int.reduceEq, Int.reduceLT, Int.reduceLE, putCells, bslOf, bsaOf, bslS, isUpto, Nat.reduceEqDiff, Pe.step, E.at, List.replicate, Nat.reduceAdd, Nat.reduceSub, Nat.reduceLeDiff, Nat.reduceMul, Pe.intOf, Pe.iop, Pe.sop, hw1]
          refine ⟨(i + 1, o2), ⟨by simp only; omega, ?_, (hf'.trans (.app _ _ []) (by simp)).trans hf2 (fun i hi => .inl hi)⟩, by simp only; omega, rfl⟩
          simp only
          rw [nodesL_take hxl]
          simpa using hj2
        · simp only [c65, c65x1, c65x2, c65x3, c65x4, c65x5, c65x6, c65x7, c65x8, c65x9, c65x10, c65x11, RUA, RUB, RUC, RUD, RUE, if_true, if_false, ite_true, ite_false, Int.reduceEq, Int.reduceLT, Int.reduceLE, putCells, bslOf, bsaOf, bslS, isUpto, Nat.reduceEqDiff, Pe.step, E.at, List.replicate, Nat.reduceAdd, Nat.reduceSub, Nat.reduceLeDiff, Nat.reduceMul, Pe.intOf, Pe.iop, Pe.sop]
          exact hF _ hf2
      · have hd1 : decide ((i : Int) < (vs.length : Int)) = false := by simpa using hlt
        rw [List.take_of_length_le (by omega)] at hj'
        simp only [c65, c65x1, c65x2, c65x3, c65x4, c65x5, c65x6, c65x7, c65x8, c65x9, c65x10, c65x11, RUA, RUB, RUC, RUD, RUE, if_true, if_false, ite_true, ite_false, Int.reduceEq, Int.reduceLT, Int.reduceLE, putCells, bslOf, bsaOf, bslS, isUpto, Nat.reduceEqDiff, Pe.step, E.at, List.replicate, Nat.reduceAdd, Nat.reduceSub, Nat.reduceLeDiff, Nat.reduceMul, Pe.intOf, Pe.iop, Pe.sop, hd1]
        exact hK _ hj' hf'
    · simp only [c65, c65x1, c65x2, c65x3, c65x4, c65x5, c65x6, c65x7, c65x8, c65x9, c65x10, c65x11, RUA, RUB, RUC, RUD, RUE, if_true, if_false, ite_true, ite_false, Int.reduceEq, Int.reduceLT, Int.reduceLE, putCells, bslOf, bsaOf, bslS, isUpto, Nat.reduceEqDiff, Pe.step, E.at, List.replicate, Nat.reduceAdd, Nat.reduceSub, Nat.reduceLeDiff, Nat.reduceMul, Pe.intOf, Pe.iop, Pe.sop]
      exact hF _ hf1
termination_by x => SizeOf.sizeOf x
decreasing_by have := List.sizeOf_lt_of_mem hx; simp; omega
end Go.Proofs.YtjfnhpnfkknmoaaDoor

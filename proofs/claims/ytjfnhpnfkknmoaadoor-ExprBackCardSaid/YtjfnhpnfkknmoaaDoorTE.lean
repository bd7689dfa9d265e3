/- Parts of the texts that the claim's proof needs: functions of the program as the evaluator reads them, and what they come to. Conditions: those that its theorems state. -/
import Derived.Test.YtjfnhpnfkknmoaaDoorTD

section
set_option linter.unusedVariables false
set_option linter.unusedSimpArgs false
set_option maxRecDepth 100000
set_option maxHeartbeats 8000000
open Go.Proofs.Pe renaming putCells → qC, bslOf → qO, bsaOf → qA, bslS → qS, isUpto → qU, step → qT, intOf → qI, iop → qP, sop → qQ
open List renaming replicate → qR
open Go.Proofs.Pe.V renaming dead → qD
namespace Go.Proofs.YtjfnhpnfkknmoaaDoor
open Go.Proofs.Pe

theorem rawArg {x : V} (hx : ∃ n,VT Tryd.prog n 46 [x]) : ∃ l vs,IsSl 3 x vs ∧ All2 IsRw l vs ∧ vs.length ≤ maxLen := by
  obtain ⟨n,hn⟩ := hx
  exact (rw_of rwT n).2 x hn
theorem written {e : Ex} (hW : WfT 9 e) (hlen : (textE e).length ≤ 1066) : ∃ l : List Sg,SR (textE e) 0 [] (.ok l) ∧ l.map kt = tokE e ∧ (∀ s ∈ l,SgOk s) ∧ l.length ≤ lim ∧ ∃ n,PS l n (.bin 0) 0 0 (.ok e l.length) := by
  obtain ⟨l,h1,h2⟩ := lex_text hW [] (fun c hc => by simp at hc) 0 []
  have hS := h2 (.ok l) (by rw [List.nil_append]; exact .done rfl)
  rw [List.append_nil] at hS
  have hll : l.length = (tokE e).length := by rw [← h1]; simp
  have ha : AtK l 0 (tokE e) := fun q p hq => by rw [Nat.zero_add,h1]; exact hq
  have hm : markAt l (0 + (tokE e).length) = [] := mark_none (by rw [Nat.zero_add,h1]; simp)
  obtain ⟨n,hn⟩ := bin_text hW (d := 0) (i := 0) (by omega) ha (fun v hv => by rw [hm]; exact kind_nil v hv)
  rw [Nat.zero_add,← hll] at hn
  refine ⟨l,hS,h1,hS.sgOk l rfl (by simp), ?_,n,hn⟩
  have := SR.len hS l rfl
  unfold lim; simp at this; omega
theorem exprBack_call (x : V) (hx : ∃ n,VT Tryd.prog n 46 [x]) : Pe.Call Tryd.prog T noY 9 [x] [] (fun y _ => y = .sc (.bool true)) := by
  obtain ⟨l,vs,h1,h2,h3⟩ := rawArg hx
  unfold maxLen at h3
  refine Call.step noY_le ?_
  rw [body_eq t9]
  simp only [c9,c9x1,c9x2,RUA,RUB,RUC,RUD,RUE,RUF,if_true,if_false,Int.reduceEq,Int.reduceLT,Int.reduceLE,qC,qO,qA,qS,qU,Nat.reduceEqDiff,qT,E.at,qR,Nat.reduceAdd,Nat.reduceSub,Nat.reduceLeDiff,Nat.reduceMul,qI,qP,qQ]
  refine known_p.callE rfl rfl rfl ?_
  simp only [c9,c9x1,c9x2,c9x3,RUA,RUB,RUC,RUD,RUE,RUF,if_true,if_false,Int.reduceEq,Int.reduceLT,Int.reduceLE,qC,qO,qA,qS,qU,Nat.reduceEqDiff,qT,E.at,qR,Nat.reduceAdd,Nat.reduceSub,Nat.reduceLeDiff,Nat.reduceMul,qI,qP,qQ]
  refine (few_p h1 h2 h3).callE rfl (cf1 h1.freeV _) rfl ?_
  cases hf : decide (szL 9 l ≤ 20) with
  | false => simp only [c9,c9x1,c9x2,c9x3,c9x4,RUA,RUB,RUC,RUD,RUE,RUF,if_true,if_false,Int.reduceEq,Int.reduceLT,Int.reduceLE,qC,qO,qA,qS,qU,Nat.reduceEqDiff,qT,E.at,qR,Nat.reduceAdd,Nat.reduceSub,Nat.reduceLeDiff,Nat.reduceMul,qI,qP,qQ]
  | true =>
    obtain ⟨hW,hc,hl⟩ := one_T (l := l) (by simpa using hf)
    try simp only [c9,c9x1,c9x2,c9x3,c9x4,c9x5,RUA,RUB,RUC,RUD,RUE,RUF,if_true,if_false,Int.reduceEq,Int.reduceLT,Int.reduceLE,qC,qO,qA,qS,qU,Nat.reduceEqDiff,qT,E.at,qR,Nat.reduceAdd,Nat.reduceSub,Nat.reduceLeDiff,Nat.reduceMul,qI,qP,qQ]
    refine pcall names22 rfl (by simp) ?_
    refine (one_p (nm := nm3) (.inr ⟨_,rfl⟩) (by decide) h1 h2).callF rfl (fun x hx => by simp only [List.mem_cons,List.not_mem_nil,or_false] at hx; rcases hx with rfl | rfl <;> first | exact h1.freeV | rfl) fun z hz => ?_
    generalize oneS nm3 l = e at hz hW hc hl
    have hz' := hz
    obtain ⟨a,b,c,d,rfl,ho⟩ := ex_agg hz
    obtain ⟨sg,hS,hkt,hok,hsl,n,hP⟩ := written hW hl
    have fr1 : ∀ x,x ∈ [V.agg [iV a,iV b,sV c,d]] → x.free = true := fun x hx => by simp only [List.mem_singleton] at hx; subst hx; exact hz'.ok.1
    try simp only [c9,c9x1,c9x2,c9x3,c9x4,c9x5,c9x6,RUA,RUB,RUC,RUD,RUE,RUF,if_true,if_false,Int.reduceEq,Int.reduceLT,Int.reduceLE,qC,qO,qA,qS,qU,Nat.reduceEqDiff,qT,E.at,qR,Nat.reduceAdd,Nat.reduceSub,Nat.reduceLeDiff,Nat.reduceMul,qI,qP,qQ,ho]
    refine pcall (text_p hW _ hz' (by omega)) rfl fr1 ?_
    try simp only [c9,c9x1,c9x2,c9x3,c9x4,c9x5,c9x6,c9x7,RUA,RUB,RUC,RUD,RUE,RUF,if_true,if_false,Int.reduceEq,Int.reduceLT,Int.reduceLE,qC,qO,qA,qS,qU,Nat.reduceEqDiff,qT,E.at,qR,Nat.reduceAdd,Nat.reduceSub,Nat.reduceLeDiff,Nat.reduceMul,qI,qP,qQ,ho]
    refine (rsigns_p (by omega) hS).callF rfl (by simp [V.free,V.free1]) fun z2 hz2 => ?_
    obtain ⟨w,rfl,hw⟩ := hz2
    have hrw := fun o => hw.row o
    have hwl : (sg.map Sg.v).length = sg.length := by simp
    try simp only [c9,c9x1,c9x2,c9x3,c9x4,c9x5,c9x6,c9x7,c9x8,RUA,RUB,RUC,RUD,RUE,RUF,if_true,if_false,Int.reduceEq,Int.reduceLT,Int.reduceLE,qC,qO,qA,qS,qU,Nat.reduceEqDiff,qT,E.at,qR,Nat.reduceAdd,Nat.reduceSub,Nat.reduceLeDiff,Nat.reduceMul,qI,qP,qQ,ho]
    refine (parse_p hw hsl hok hP).callF rfl (fun x hx => by simp only [List.mem_singleton] at hx; subst hx; exact hw.freeV) fun z3 hz3 => ?_
    obtain ⟨zy,rfl,hy⟩ := hz3
    have hy' := hy
    obtain ⟨a2,b2,c2,d2,rfl,ho2⟩ := ex_agg hy
    have dd : ∀ a : Int,decide (a = a) = true := fun a => by simp
    try simp only [c9,c9x1,c9x2,c9x3,c9x4,c9x5,c9x6,c9x7,c9x8,c9x9,RUA,RUB,RUC,RUD,RUE,RUF,if_true,if_false,Int.reduceEq,Int.reduceLT,Int.reduceLE,qC,qO,qA,qS,qU,Nat.reduceEqDiff,qT,E.at,qR,Nat.reduceAdd,Nat.reduceSub,Nat.reduceLeDiff,Nat.reduceMul,qI,qP,qQ,ho,ho2]
    refine pcall (rtext_p hW _ hz' (by omega)) rfl fr1 ?_
    try simp only [c9,c9x1,c9x2,c9x3,c9x4,c9x5,c9x6,c9x7,c9x8,c9x9,RUA,RUB,RUC,RUD,RUE,RUF,if_true,if_false,Int.reduceEq,Int.reduceLT,Int.reduceLE,qC,qO,qA,qS,qU,Nat.reduceEqDiff,qT,E.at,qR,Nat.reduceAdd,Nat.reduceSub,Nat.reduceLeDiff,Nat.reduceMul,qI,qP,qQ,ho,ho2,dd,hrw,hwl]
    refine pcall (same_p e _ _ hz' hy') rfl (fun x hx => by simp only [List.mem_cons,List.not_mem_nil,or_false] at hx; rcases hx with rfl | rfl <;> first | exact hz'.ok.1 | exact hy'.ok.1) ?_
    try simp only [c9,c9x1,c9x2,c9x3,c9x4,c9x5,c9x6,c9x7,c9x8,c9x9,RUA,RUB,RUC,RUD,RUE,RUF,if_true,if_false,Int.reduceEq,Int.reduceLT,Int.reduceLE,qC,qO,qA,qS,qU,Nat.reduceEqDiff,qT,E.at,qR,Nat.reduceAdd,Nat.reduceSub,Nat.reduceLeDiff,Nat.reduceMul,qI,qP,qQ,ho,ho2]
    refine (names_p hz' (by show cnt e ≤ 1000; omega)).callF rfl fr1 fun n1 hn1 => ?_
    try simp only [c9,c9x1,c9x2,c9x3,c9x4,c9x5,c9x6,c9x7,c9x8,c9x9,RUA,RUB,RUC,RUD,RUE,RUF,if_true,if_false,Int.reduceEq,Int.reduceLT,Int.reduceLE,qC,qO,qA,qS,qU,Nat.reduceEqDiff,qT,E.at,qR,Nat.reduceAdd,Nat.reduceSub,Nat.reduceLeDiff,Nat.reduceMul,qI,qP,qQ,ho,ho2]
    refine (rnames_p hW (by show cnt e ≤ 1000; omega) _ hz').callF rfl fr1 fun n2 hn2 => ?_
    have hnl : (ddN (varsN (nodes e))).length ≤ lim := by
      have h1 := foldN_len (varsN (nodes e)) []
      have h2 := varsN_len (nodes e)
      have e' : ddN (varsN (nodes e)) = (varsN (nodes e)).foldl addN [] := rfl
      rw [e']; simp at h1; unfold cnt at hc; unfold lim; omega
    try simp only [c9,c9x1,c9x2,c9x3,c9x4,c9x5,c9x6,c9x7,c9x8,c9x9,RUA,RUB,RUC,RUD,RUE,RUF,if_true,if_false,Int.reduceEq,Int.reduceLT,Int.reduceLE,qC,qO,qA,qS,qU,Nat.reduceEqDiff,qT,E.at,qR,Nat.reduceAdd,Nat.reduceSub,Nat.reduceLeDiff,Nat.reduceMul,qI,qP,qQ,ho,ho2]
    refine pcall (rwords_p hn1 hn2 hnl) rfl (fun x hx => by simp only [List.mem_cons,List.not_mem_nil,or_false] at hx; rcases hx with rfl | rfl <;> first | exact hn1.freeV | exact hn2.freeV) ?_
    try simp only [c9,c9x1,c9x2,c9x3,c9x4,c9x5,c9x6,c9x7,c9x8,c9x9,RUA,RUB,RUC,RUD,RUE,RUF,if_true,if_false,Int.reduceEq,Int.reduceLT,Int.reduceLE,qC,qO,qA,qS,qU,Nat.reduceEqDiff,qT,E.at,qR,Nat.reduceAdd,Nat.reduceSub,Nat.reduceLeDiff,Nat.reduceMul,qI,qP,qQ]
end Go.Proofs.YtjfnhpnfkknmoaaDoor
end

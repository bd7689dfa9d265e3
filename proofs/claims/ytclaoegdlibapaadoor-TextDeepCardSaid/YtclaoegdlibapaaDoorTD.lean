/- Parts of the texts that the claim's proof needs: functions of the program as the evaluator reads them, and what they come to. Conditions: those that its theorems state. -/
import Derived.Test.YtclaoegdlibapaaDoorTC

section
set_option linter.unusedVariables false
set_option linter.unusedSimpArgs false
set_option maxRecDepth 100000
set_option maxHeartbeats 8000000
open Go.Proofs.Pe renaming putCells → qC, bslOf → qO, bsaOf → qA, bslS → qS, isUpto → qU, step → qT, intOf → qI, iop → qP, sop → qQ
open List renaming replicate → qR
open Go.Proofs.Pe.V renaming dead → qD
namespace Go.Proofs.YtclaoegdlibapaaDoor
open Go.Proofs.Pe

/-! ### TextDeep -/
def skP : Pr := .mk 0 emp emp ex0 []
section
variable {w : V} {k : Nat} (hw : IsSl 3 w ((dpSg k).map Sg.v)) (hk : k ≤ 30)
include hw hk
theorem dp_ok (en : Nat) (hok : ∀ s ∈ dpSg k,SgOk s) (h20 : k ≤ 20) : ∀ (m d : Nat),d + m + 1 = k → GT w en 15 d (2 + d,0) skP (2 * k + 3 - d,0) := by
  have hl : (dpSg k).length ≤ lim := by rw [dp_len]; unfold lim; omega
  intro m
  induction m with
  | zero =>
    intro d hd
    have hA : isA (dpSg k) (2 + d) [123] = true := isA_get (dp_op (k := k) (j := d) (by omega)) (Nat.ne_of_beq_eq_false rfl)
    have hS : isS (dpSg k) (2 + d,0) [123] = true := by simp [isS,hA]
    have hB : bodS (dpSg k) d (2 + d,0) = (k + 2,0) := by
      unfold bodS
      rw [if_neg (by omega)]
      simp only [mustS,hA,if_true]
      rw [show 2 + d + 1 = k + 2 by omega]
    have hK : isA (dpSg k) (k + 2) wSkip = true := isA_get (dp_sk k) (Nat.ne_of_beq_eq_false rfl)
    have hC : isA (dpSg k) (k + 3) [125] = true := isA_get (dp_cl (k := k) (j := 0) (by omega)) (Nat.ne_of_beq_eq_false rfl)
    have h1 : GT w en 44 (d + 1) (bodS (dpSg k) d (2 + d,0)) skP (k + 3,0) := by rw [hB]; exact one_skip hw hl hok hK
    have h2 := body_c hw hl (by omega) (proc1_c hw hl h1 (dp_semi _ _)) (fun _ => rfl)
    have hM : mustS (dpSg k) (k + 3,0) [125] = (2 * k + 3 - d,0) := by
      simp only [mustS,hC,if_true]
      rw [show k + 3 + 1 = 2 * k + 3 - d by omega]
    rw [hM] at h2
    exact h2
  | succ m ih =>
    intro d hd
    have hA : isA (dpSg k) (2 + d) [123] = true := isA_get (dp_op (k := k) (j := d) (by omega)) (Nat.ne_of_beq_eq_false rfl)
    have hA2 : isA (dpSg k) (2 + (d + 1)) [123] = true := isA_get (dp_op (k := k) (j := d + 1) (by omega)) (Nat.ne_of_beq_eq_false rfl)
    have hB : bodS (dpSg k) d (2 + d,0) = (2 + (d + 1),0) := by
      unfold bodS
      rw [if_neg (by omega)]
      simp only [mustS,hA,if_true]
      rw [show 2 + d + 1 = 2 + (d + 1) by omega]
    have hC : isA (dpSg k) (2 * k + 3 - (d + 1)) [125] = true := by
      have := isA_get (dp_cl (k := k) (j := k - 1 - d) (by omega)) (Nat.ne_of_beq_eq_false rfl)
      rw [show k + 3 + (k - 1 - d) = 2 * k + 3 - (d + 1) by omega] at this
      exact this
    have h1 : GT w en 44 (d + 1) (bodS (dpSg k) d (2 + d,0)) skP (2 * k + 3 - (d + 1),0) := by rw [hB]; exact one_brace hw hl hok hA2 (ih (d + 1) (by omega))
    have h2 := body_c hw hl (by omega) (proc1_c hw hl h1 (dp_semi _ _)) (fun _ => rfl)
    have hM : mustS (dpSg k) (2 * k + 3 - (d + 1),0) [125] = (2 * k + 3 - d,0) := by
      simp only [mustS,hC,if_true]
      rw [show 2 * k + 3 - (d + 1) + 1 = 2 * k + 3 - d by omega]
    rw [hM] at h2
    exact h2
theorem dp_bad (en : Nat) (hok : ∀ s ∈ dpSg k,SgOk s) (h20 : 20 < k) : ∀ (m d : Nat),d + m = 20 → GT w en 15 d (2 + d,0) skP (22,3) := by
  have hl : (dpSg k).length ≤ lim := by rw [dp_len]; unfold lim; omega
  have hM : mustS (dpSg k) (22,3) [125] = (22,3) := rfl
  intro m
  induction m with
  | zero =>
    intro d hd
    have hA : isA (dpSg k) (2 + d) [123] = true := isA_get (dp_op (k := k) (j := d) (by omega)) (Nat.ne_of_beq_eq_false rfl)
    have hS : isS (dpSg k) (2 + d,0) [123] = true := by simp [isS,hA]
    have hB : bodS (dpSg k) d (2 + d,0) = (22,3) := by
      unfold bodS
      rw [if_pos ⟨hS,by omega⟩]
      simp only [mustS]
      rw [show 2 + d = 22 by omega]
      rfl
    have h1 : GT w en 44 (d + 1) (bodS (dpSg k) d (2 + d,0)) skP (22,3) := by rw [hB]; exact one_e hw hl hok (by decide)
    have h2 := body_c hw hl (by omega) (proc1_c hw hl h1 (dp_semi _ _)) (fun h => by cases h)
    exact h2
  | succ m ih =>
    intro d hd
    have hA : isA (dpSg k) (2 + d) [123] = true := isA_get (dp_op (k := k) (j := d) (by omega)) (Nat.ne_of_beq_eq_false rfl)
    have hA2 : isA (dpSg k) (2 + (d + 1)) [123] = true := isA_get (dp_op (k := k) (j := d + 1) (by omega)) (Nat.ne_of_beq_eq_false rfl)
    have hB : bodS (dpSg k) d (2 + d,0) = (2 + (d + 1),0) := by
      unfold bodS
      rw [if_neg (by omega)]
      simp only [mustS,hA,if_true]
      rw [show 2 + d + 1 = 2 + (d + 1) by omega]
    have h1 : GT w en 44 (d + 1) (bodS (dpSg k) d (2 + d,0)) skP (22,3) := by rw [hB]; exact one_brace hw hl hok hA2 (ih (d + 1) (by omega))
    have h2 := body_c hw hl (by omega) (proc1_c hw hl h1 (dp_semi _ _)) (fun h => by cases h)
    exact h2
end
theorem natI3 {a n : Int} (h : 0 < n) : ∃ i : Nat,withinI a n = i ∧ (i : Int) < n := by
  obtain ⟨h1,h2⟩ := withinI_ok a h
  exact ⟨(withinI a n).toNat,by omega,by omega⟩
theorem dparse {k : Nat} (hk : k ≤ 30) (h1 : 1 ≤ k) : PFn Tryd.prog T 8 [tV (textD k)] fun z => (k ≤ 20 → OneP (nameT (dpSg k) (1,0)) skP z) ∧ (20 < k → z = noPr 47 3) := by
  have hs := textD_SR k
  have hok := hs.sgOk _ rfl (by simp)
  have hl : (dpSg k).length ≤ lim := by rw [dp_len]; unfold lim; omega
  have ht : (textD k).length ≤ 4000 := by rw [textD_len]; omega
  have h0 : isA (dpSg k) 0 wProc = true := rfl
  by_cases h20 : k ≤ 20
  · have hb : ∀ w,IsSl 3 w ((dpSg k).map Sg.v) → GT w (textD k).length 15 0 (nameS (dpSg k) (1,0)) skP (2 * k + 3,0) := fun w hw => by
      rw [dp_name]
      exact dp_ok hw hk _ hok h20 (k - 1) 0 (by omega)
    exact (parse1_c ht hs hl hok h0 hb (by rw [dp_len]) rfl).mono fun z hz => ⟨fun _ => hz,fun h => by omega⟩
  · have hb : ∀ w,IsSl 3 w ((dpSg k).map Sg.v) → GT w (textD k).length 15 0 (nameS (dpSg k) (1,0)) skP (22,3) := fun w hw => by
      rw [dp_name]
      exact dp_bad hw hk _ hok (by omega) 20 0 rfl
    have hg := dp_op (k := k) (j := 20) (by omega)
    exact (parse1_e ht hs hl hok h0 hb hg (by decide)).mono fun z hz => ⟨fun h => by omega,fun _ => hz⟩
theorem textDeep_call (n : Int) (hn : (Lit.int .i64 n).wf = true) : Pe.Call Tryd.prog T noY 4 [.sc (.int .i64 n)] [] (fun y _ => y = .sc (.bool true)) := by
  refine Call.step noY_le ?_
  rw [body_eq t4]
  simp only [c4,c4x1,c4x2,RUA,RUB,RUC,RUD,RUE,RUF,if_true,if_false,Int.reduceEq,Int.reduceLT,Int.reduceLE,qC,qO,qA,qS,qU,Nat.reduceEqDiff,qT,E.at,qR,Nat.reduceAdd,Nat.reduceSub,Nat.reduceLeDiff,Nat.reduceMul,qI,qP,qQ]
  refine known_p.callE rfl rfl rfl ?_
  simp only [c4,c4x1,c4x2,c4x3,RUA,RUB,RUC,RUD,RUE,RUF,if_true,if_false,Int.reduceEq,Int.reduceLT,Int.reduceLE,qC,qO,qA,qS,qU,Nat.reduceEqDiff,qT,E.at,qR,Nat.reduceAdd,Nat.reduceSub,Nat.reduceLeDiff,Nat.reduceMul,qI,qP,qQ]
  refine (within_p n 30 (by decide) (by decide)).callE rfl rfl rfl ?_
  obtain ⟨k0,hk,hk2⟩ := natI3 (a := n) (n := 30) (by decide)
  rw [hk]
  have hw0 : IntKind.i64.wrap (1 + (k0 : Int)) = ((k0 + 1 : Nat) : Int) := by rw [wrap_ok (by omega) (by omega)]; omega
  obtain ⟨k,hkk⟩ : ∃ k,k = k0 + 1 := ⟨_,rfl⟩
  rw [← hkk] at hw0
  have hk30 : k ≤ 30 := by omega
  have hk1 : 1 ≤ k := by omega
  simp only [c4,c4x1,c4x2,c4x3,c4x4,c4x5,c4x6,RUA,RUB,RUC,RUD,RUE,RUF,if_true,if_false,Int.reduceEq,Int.reduceLT,Int.reduceLE,qC,qO,qA,qS,qU,Nat.reduceEqDiff,qT,E.at,qR,Nat.reduceAdd,Nat.reduceSub,Nat.reduceLeDiff,Nat.reduceMul,qI,qP,qQ,hw0]
  refine Lfp.inv call_le noY_le (fun i : Nat => ⟨⟨(qD::qD::qD::iV k :: tV (pP ++ opB i) :: tV (clB i) :: iV i :: qD::qD::qD::qD::qD::qD::qD::qD::qD::qD::qD::qD::qD::qD::qD::qD::qD::qD::qD::qD::qD::qD::qD::qD::qD::qD::qD::qD::qD::qD::qD::qD::qD::qD::qD::qD::qD::qD::qD::qD::qD::qD::qD::qD::qD::qD::qD::qD::qD::qD::qD::qD::qD::qD::qD::qD::qD::[]),[]⟩,[]⟩) (fun i => k - i)
    (fun i => i ≤ k) 0 (Nat.zero_le _) (by simp only [kill_L,killTs_nil,RUF] <;> rfl) ?_
  intro i hi
  have hw1 : IntKind.i64.wrap ((i : Int) + 1) = ((i + 1 : Nat) : Int) := wrap_succ (by omega)
  have hl1 := opB_len i
  have hl2 := clB_len i
  by_cases hlt : i < k
  · have d1 : decide ((i : Int) < (k : Int)) = true := by simpa using hlt
    have hs1 := catOk (n := (pP ++ opB i).length + 2) (by simp [pP,hl1]; omega)
    have hs2 := catOk (n := (clB i).length + 2) (by simp [hl2]; omega)
    simp only [c4x7,c4x8,c4x9,c4x10,RUA,RUB,RUC,RUD,RUE,RUF,if_true,if_false,Int.reduceEq,Int.reduceLT,Int.reduceLE,qC,qO,qA,qS,qU,Nat.reduceEqDiff,qT,E.at,qR,Nat.reduceAdd,Nat.reduceSub,Nat.reduceLeDiff,Nat.reduceMul,qI,qP,qQ,d1,hs1,hs2,hw1]
    refine ⟨i + 1,by omega,by omega, ?_⟩
    rw [opB_snoc,clB_snoc,← List.append_assoc]
  · have d1 : decide ((i : Int) < (k : Int)) = false := by simpa using hlt
    have hik : i = k := by omega
    subst hik
    have hs1 := catOk (n := (pP ++ opB i).length + 4) (by simp [pP,hl1]; omega)
    have hs2 := catOk (n := (pP ++ opB i ++ [115,107,105,112]).length + (clB i).length) (by simp [pP,hl1,hl2]; omega)
    simp only [c4x7,c4x8,c4x11,RUA,RUB,RUC,RUD,RUE,RUF,if_true,if_false,Int.reduceEq,Int.reduceLT,Int.reduceLE,qC,qO,qA,qS,qU,Nat.reduceEqDiff,qT,E.at,qR,Nat.reduceAdd,Nat.reduceSub,Nat.reduceLeDiff,Nat.reduceMul,qI,qP,qQ,d1,hs1,hs2]
    refine (dparse hk30 hk1).callF rfl (by simp [V.free,V.free1]) fun z hz => ?_
    by_cases h20 : i ≤ 20
    · obtain ⟨a,b,c,d,e,f,g,r,v,hx,hv,rfl⟩ := hz.1 h20
      have d3 : decide ((20 : Int) < (i : Int)) = false := by simp; omega
      have ha : a = 0 := by
        obtain ⟨ev,evs,lv,vs,e1,_⟩ := hx
        simp only [V.agg.injEq,List.cons.injEq,V.sc.injEq,Value.int.injEq,true_and] at e1
        exact e1.1
      subst ha
      have hvo : v.one = true := free1_one hv.free
      have hvr := fun o => hv.row o
      have hI := fun o => hv.ix o (n := 0) rfl
      have hI' : ∀ o,ixOf 9 o v (iV 0) = some (.ep [sV (nameT (dpSg i) (1,0)),iV 0,sV b,sV c,iV d,iV e,sV f,g,r],o) := hI
      have d0 : decide ((0 : Int) = 0) = true := rfl
      have dl : ∀ (x : V),decide (((List.length [x] : Nat) : Int) = 1) = true := fun x => rfl
      simp only [c4x12,c4x13,c4x14,RUA,RUB,RUC,RUD,RUE,RUF,if_true,if_false,Int.reduceEq,Int.reduceLT,Int.reduceLE,qC,qO,qA,qS,qU,Nat.reduceEqDiff,qT,E.at,qR,Nat.reduceAdd,Nat.reduceSub,Nat.reduceLeDiff,Nat.reduceMul,qI,qP,qQ,d3,d0,hvo,hvr,hI',dl]
    · have := hz.2 (by omega)
      subst this
      have d3 : decide ((20 : Int) < (i : Int)) = true := by simp; omega
      have d0 : decide ((3 : Int) = 3) = true := rfl
      have d47 : decide ((47 : Int) = 47) = true := rfl
      have dl : decide (((0 : Nat) : Int) = 0) = true := rfl
      simp only [c4x12,c4x13,RUA,RUB,RUC,RUD,RUE,RUF,if_true,if_false,Int.reduceEq,Int.reduceLT,Int.reduceLE,qC,qO,qA,qS,qU,Nat.reduceEqDiff,qT,E.at,qR,Nat.reduceAdd,Nat.reduceSub,Nat.reduceLeDiff,Nat.reduceMul,qI,qP,qQ,noPr,d3,d0,d47,dl]
end Go.Proofs.YtclaoegdlibapaaDoor
end

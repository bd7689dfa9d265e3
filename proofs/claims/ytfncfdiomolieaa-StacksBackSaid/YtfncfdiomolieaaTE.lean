/- Parts of the texts that the claim's proof needs: functions of the program as the evaluator reads them, and what they come to. Conditions: those that its theorems state. -/
import Derived.Test.YtfncfdiomolieaaTD

section
set_option linter.unusedVariables false
set_option linter.unusedSimpArgs false
set_option maxRecDepth 100000
set_option maxHeartbeats 8000000
open Go.Proofs.Pe renaming putCells → qC, bslOf → qO, bsaOf → qA, bslS → qS, isUpto → qU, step → qT, intOf → qI, iop → qP, sop → qQ
open List renaming replicate → qR
open Go.Proofs.Pe.V renaming dead → qD
namespace Go.Proofs.Ytfncfdiomolieaa
open Go.Proofs.Pe

theorem both_b {d : V} {ds : List ByteArray} (hd : IsSl 1 d (nmsV ds)) (hl : ds.length ≤ 1000) {v1 v2 : Nat} {eb xb : List Bool} (hE : eb.length = ds.length) (hX : xb.length = ds.length)
    {k : Int} {n m : ByteArray} {qk qn : Int} {qm : ByteArray} {ql : List Ex} {xl : List Pr} {u : V} (h : IsPr (.mk k n m (.mk qk qn qm ql) xl) u)
    (ih : ∀ x ∈ xl,∀ u,IsPr x u → SFn Try.prog T 75 [.pt 0 0,u] (mayO d v1 v2 eb xb) fun z os' => z = .tup [bV (bothS ds eb xb x).1,bV (bothS ds eb xb x).2] ∧ os' = mayO d v1 v2 eb xb) :
    SFn Try.prog T 75 [.pt 0 0,u] (mayO d v1 v2 eb xb) fun z os' => z = .tup [bV (bothS ds eb xb (.mk k n m (.mk qk qn qm ql) xl)).1,bV (bothS ds eb xb (.mk k n m (.mk qk qn qm ql) xl)).2] ∧ os' = mayO d v1 v2 eb xb := by
  obtain ⟨ev,evs,lv,es,rfl,e1,e2,e3,g1,g2,g3⟩ := h
  rw [isPrs_all] at g3
  have hln := g3.len
  have hone : lv.one = true := free1_one g1.free
  have hone1 : ev.one = true := free1_one e1.free
  have hone2 : d.one = true := free1_one hd.free
  have hrow := fun o => g1.row o
  unfold cap at g2
  simp only [bothS,bothSs_map]
  intro yi hy
  refine Call.step hy ?_
  rw [body_eq t75]
  have fin : ∀ (a b : Bool) (r : List O),∃ z os',Fin5 (mayO d v1 v2 eb xb).length (.tup [bV a,bV b]) (.cells [d,.ar 1 v1,.ar 2 v2] :: .arr v1 true 1 (eb.map bV) :: .arr v2 true 1 (xb.map bV) :: r) z os' ∧ z = .tup [bV a,bV b] ∧ os' = mayO d v1 v2 eb xb :=
    fun a b r => ⟨_,_,mayO_fin hd.free (mv_free rfl),rfl,rfl⟩
  simp only [mayO,c75,c75x1,c75x2,c75x3,RUA,RUB,RUC,RUD,RUE,RUF,if_true,if_false,Int.reduceEq,Int.reduceLT,Int.reduceLE,qC,qO,qA,qS,qU,Nat.reduceEqDiff,qT,E.at,qR,Nat.reduceAdd,Nat.reduceSub,Nat.reduceLeDiff,Nat.reduceMul,qI,qP,qQ,hone,hone1]
  refine Lfp.inv call_le hy (fun a : Nat × Bool × Bool × Bool × Bool => ⟨⟨(.pt 0 0 :: qD::qD::.pt 3 0 :: qD::qD::.pt 4 0 :: .pt 5 0 :: iV a.1 :: qD::qD::qD::qD::qD::qD::qD::qD::qD::qD::qD::qD::qD::qD::qD::qD::qD::qD::qD::qD::qD::qD::qD::qD::qD::qD::qD::qD::qD::qD::qD::qD::qD::qD::qD::qD::qD::qD::qD::qD::qD::qD::qD::qD::qD::qD::qD::qD::qD::qD::qD::qD::qD::qD::qD::qD::qD::qD::qD::qD::qD::qD::qD::qD::qD::qD::qD::qD::qD::qD::qD::qD::qD::qD::qD::qD::qD::qD::qD::qD::qD::qD::qD::qD::qD::qD::qD::qD::qD::qD::qD::qD::qD::qD::qD::qD::qD::qD::qD::qD::qD::qD::qD::qD::qD::qD::qD::qD::qD::qD::qD::qD::qD::qD::qD::qD::qD::qD::qD::qD::[]),[.cells [d,.ar 1 v1,.ar 2 v2],.arr v1 true 1 (eb.map bV),.arr v2 true 1 (xb.map bV),.cells [iV k,sV n,sV m,iV qk,iV qn,sV qm,ev,lv],.cells [bV a.2.1,bV a.2.2.1],.cells [bV a.2.2.2.1,bV a.2.2.2.2]]⟩,[]⟩) (fun a => 2 - a.1)
    (fun a => a.1 ≤ 2 ∧ a.1 ≤ xl.length ∧ (a.2.1,a.2.2.2.1) = (if 0 < a.1 then (xl.map (bothS ds eb xb)).getD 0 (false,false) else (false,false)) ∧ (a.2.2.1,a.2.2.2.2) = (if 1 < a.1 then (xl.map (bothS ds eb xb)).getD 1 (false,false) else (false,false))) (0,false,false,false,false)
    ⟨by omega,by omega,rfl,rfl⟩ (by simp only [kill_L,killTs_nil,RUF] <;> rfl) ?_
  rintro ⟨i,a0,b0,a1,b1⟩ ⟨hi,hi2,hA,hB⟩
  dsimp only at hi hi2 hA hB
  have body : ∀ (j : Nat),(hj : j < xl.length) → ∃ w,es[j]? = some w ∧ IsPr xl[j] w ∧ ∃ pk pn pt qk qn qm ev2 lv2,w = .agg [iV pk,sV pn,sV pt,iV qk,iV qn,sV qm,ev2,lv2] ∧ ev2.one = true ∧ lv2.one = true := fun j hj => by
    have hx : es[j]? = some es[j] := List.getElem?_eq_getElem (by omega)
    have hxl : xl[j]? = some xl[j] := List.getElem?_eq_getElem hj
    have hE := g3.get hx hxl
    refine ⟨_,hx,hE, ?_⟩
    generalize es[j] = w at hE
    generalize xl[j] = y at hE
    rcases y with ⟨pk,pn,pt,⟨qk,qn,qm,ql⟩,pl⟩
    obtain ⟨ev2,evs2,lv2,vs2,e,g1,_,_,g2,_⟩ := hE
    exact ⟨_,_,_,_,_,_,_,_,e,free1_one g1.free,free1_one g2.free⟩
  by_cases hlt : i < xl.length ∧ i < 2
  · have hd1 : decide ((i : Int) < (es.length : Int)) = true := by simp; omega
    obtain ⟨w,hx,hE2,pk,pn,pt,qk',qn',qm',ev2,lv2,rfl,ho1,ho2⟩ := body i hlt.1
    have hxm : xl[i] ∈ xl := List.getElem_mem _
    have hgd : (xl.map (bothS ds eb xb)).getD i (false,false) = bothS ds eb xb xl[i] := by rw [List.getD_eq_getElem?_getD,List.getElem?_map,List.getElem?_eq_getElem hlt.1]; rfl
    have hfr := hE2.ok.1
    have hci := ih _ hxm _ hE2
    have h01 : i = 0 ∨ i = 1 := by omega
    have hI := fun o => g1.ix o hx
    generalize xl[i] = y at hE2 hxm hgd hci
    rcases h01 with rfl | rfl
    · have h1 : (a1 = false ∧ a0 = false) ∧ (b0 = false ∧ b1 = false) := by
        simp only [Nat.lt_irrefl,if_false,Prod.mk.injEq] at hA
        simp only [show ¬ (1 < 0) by omega,if_false,Prod.mk.injEq] at hB
        exact ⟨⟨hA.2,hA.1⟩,hB⟩
      obtain ⟨⟨rfl,rfl⟩,rfl,rfl⟩ := h1
      rw [nc0] at hI hd1
      simp only [c75,c75x1,c75x2,c75x3,c75x4,c75x5,c75x6,RUA,RUB,RUC,RUD,RUE,RUF,if_true,if_false,Int.reduceEq,Int.reduceLT,Int.reduceLE,qC,qO,qA,qS,qU,Nat.reduceEqDiff,qT,E.at,qR,Nat.reduceAdd,Nat.reduceSub,Nat.reduceLeDiff,Nat.reduceMul,qI,qP,qQ,hd1,hrow,hI,ho1,ho2]
      refine SFn.callM hci rfl (by simpa using hfr) hd.free (fun z h => by subst h; rfl) fun z hz => ?_
      subst hz
      simp only [mayO,c75,c75x1,c75x2,c75x3,c75x4,c75x5,c75x6,c75x7,RUA,RUB,RUC,RUD,RUE,RUF,if_true,if_false,Int.reduceEq,Int.reduceLT,Int.reduceLE,qC,qO,qA,qS,qU,Nat.reduceEqDiff,qT,E.at,qR,Nat.reduceAdd,Nat.reduceSub,Nat.reduceLeDiff,Nat.reduceMul,qI,qP,qQ]
      exact ⟨(1,(bothS ds eb xb y).1,false,(bothS ds eb xb y).2,false),⟨by simp only; omega,by simp only; omega,by rw [if_pos (by simp),hgd],rfl⟩,by simp only; omega,rfl⟩
    · simp only [show 0 < 1 by omega,if_true] at hA
      simp only [Nat.lt_irrefl,if_false,Prod.mk.injEq] at hB
      obtain ⟨rfl,rfl⟩ := hB
      rw [nc1] at hI hd1
      simp only [c75,c75x1,c75x2,c75x3,c75x4,c75x5,c75x6,RUA,RUB,RUC,RUD,RUE,RUF,if_true,if_false,Int.reduceEq,Int.reduceLT,Int.reduceLE,qC,qO,qA,qS,qU,Nat.reduceEqDiff,qT,E.at,qR,Nat.reduceAdd,Nat.reduceSub,Nat.reduceLeDiff,Nat.reduceMul,qI,qP,qQ,hd1,hrow,hI,ho1,ho2]
      refine SFn.callM hci rfl (by simpa using hfr) hd.free (fun z h => by subst h; rfl) fun z hz => ?_
      subst hz
      simp only [mayO,c75,c75x1,c75x2,c75x3,c75x4,c75x5,c75x6,c75x7,RUA,RUB,RUC,RUD,RUE,RUF,if_true,if_false,Int.reduceEq,Int.reduceLT,Int.reduceLE,qC,qO,qA,qS,qU,Nat.reduceEqDiff,qT,E.at,qR,Nat.reduceAdd,Nat.reduceSub,Nat.reduceLeDiff,Nat.reduceMul,qI,qP,qQ]
      exact ⟨(2,a0,(bothS ds eb xb y).1,a1,(bothS ds eb xb y).2),⟨by simp only; omega,by simp only; omega,by rw [if_pos (by simp)]; exact hA,by rw [if_pos (by simp),hgd]⟩,by simp only; omega,rfl⟩
  · have hA' : (xl.map (bothS ds eb xb)).getD 0 (false,false) = (a0,a1) := by
      rw [hA]; split
      · rfl
      · have : xl = [] := by cases xl <;> simp at hlt ⊢; omega
        subst this; rfl
    have hB' : (xl.map (bothS ds eb xb)).getD 1 (false,false) = (b0,b1) := by
      rw [hB]; split
      · rfl
      · rw [List.getD_eq_getElem?_getD,List.getElem?_map,List.getElem?_eq_none (by omega)]; rfl
    rw [hA',hB']
    have tl : ∀ (x4 x5 x9 x10 x11 x12 x13 x14 x15 x16 x17 x18 x19 x20 x21 x22 x23 x24 x25 x26 x27 x28 x29 x30 x31 x32 x33 x34 : V),Pe.ev Try.prog T (Pe.Call Try.prog T) Lfp c75x8 none yi ⟨⟨(.pt 0 0 :: qD::qD::.pt 3 0 :: x4 :: x5 :: .pt 4 0 :: .pt 5 0 :: iV i :: x9 :: x10 :: x11 :: x12 :: x13 :: x14 :: x15 :: x16 :: x17 :: x18 :: x19 :: x20 :: x21 :: x22 :: x23 :: x24 :: x25 :: x26 :: x27 :: x28 :: x29 :: x30 :: x31 :: x32 :: x33 :: x34 :: qD::qD::qD::qD::qD::qD::qD::qD::qD::qD::qD::qD::qD::qD::qD::qD::qD::qD::qD::qD::qD::qD::qD::qD::qD::qD::qD::qD::qD::qD::qD::qD::qD::qD::qD::qD::qD::qD::qD::qD::qD::qD::qD::qD::qD::qD::qD::qD::qD::qD::qD::qD::qD::qD::qD::qD::qD::qD::qD::qD::qD::qD::qD::qD::qD::qD::qD::qD::qD::qD::qD::qD::qD::qD::qD::qD::qD::qD::qD::qD::qD::qD::qD::qD::qD::qD::qD::qD::qD::qD::qD::qD::qD::qD::[]),[.cells [d,.ar 1 v1,.ar 2 v2],.arr v1 true 1 (eb.map bV),.arr v2 true 1 (xb.map bV),.cells [iV k,sV n,sV m,iV qk,iV qn,sV qm,ev,lv],.cells [bV a0,bV b0],.cells [bV a1,bV b1]]⟩,[]⟩
        (endK [Rv.tmp 4,Rv.tmp 5] fun y o' => ∃ z os',Fin5 3 y o' z os' ∧ z = V.tup [bV (bothC ds eb xb k n (a0,a1) (b0,b1)).1,bV (bothC ds eb xb k n (a0,a1) (b0,b1)).2] ∧ os' = mayO d v1 v2 eb xb) := by
      intro x4 x5 x9 x10 x11 x12 x13 x14 x15 x16 x17 x18 x19 x20 x21 x22 x23 x24 x25 x26 x27 x28 x29 x30 x31 x32 x33 x34
      have fin' : ∀ (a b : Bool) (r : List O),bothC ds eb xb k n (a0,a1) (b0,b1) = (a,b) → ∃ z os',Fin5 3 (.tup [bV a,bV b]) (.cells [d,.ar 1 v1,.ar 2 v2] :: .arr v1 true 1 (eb.map bV) :: .arr v2 true 1 (xb.map bV) :: r) z os' ∧ z = .tup [bV (bothC ds eb xb k n (a0,a1) (b0,b1)).1,bV (bothC ds eb xb k n (a0,a1) (b0,b1)).2] ∧ os' = mayO d v1 v2 eb xb :=
        fun a b r e => by rw [e]; exact fin a b r
      by_cases k1 : k = 1
      · have d1 : decide (k = 1) = true := by simpa using k1
        simp only [c75,c75x1,c75x2,c75x3,c75x4,c75x5,c75x6,c75x7,c75x8,c75x9,c75x10,RUA,RUB,RUC,RUD,RUE,RUF,if_true,if_false,Int.reduceEq,Int.reduceLT,Int.reduceLE,qC,qO,qA,qS,qU,Nat.reduceEqDiff,qT,E.at,qR,Nat.reduceAdd,Nat.reduceSub,Nat.reduceLeDiff,Nat.reduceMul,qI,qP,qQ,d1]
        exact fin' _ _ _ (by unfold bothC; rw [if_pos k1]; first | done | rfl)
      have n1 : decide (k = 1) = false := by simpa using k1
      by_cases k8 : k = 8
      · have d1 : decide (k = 8) = true := by simpa using k8
        simp only [c75,c75x1,c75x2,c75x3,c75x4,c75x5,c75x6,c75x7,c75x8,c75x9,c75x10,c75x11,RUA,RUB,RUC,RUD,RUE,RUF,if_true,if_false,Int.reduceEq,Int.reduceLT,Int.reduceLE,qC,qO,qA,qS,qU,Nat.reduceEqDiff,qT,E.at,qR,Nat.reduceAdd,Nat.reduceSub,Nat.reduceLeDiff,Nat.reduceMul,qI,qP,qQ,n1,d1]
        exact fin' _ _ _ (by unfold bothC; rw [if_neg k1,if_pos k8]; first | done | rfl)
      have n8 : decide (k = 8) = false := by simpa using k8
      by_cases k4 : k = 4
      · have d1 : decide (k = 4) = true := by simpa using k4
        simp only [c75,c75x1,c75x2,c75x3,c75x4,c75x5,c75x6,c75x7,c75x8,c75x9,c75x10,c75x11,c75x12,RUA,RUB,RUC,RUD,RUE,RUF,if_true,if_false,Int.reduceEq,Int.reduceLT,Int.reduceLE,qC,qO,qA,qS,qU,Nat.reduceEqDiff,qT,E.at,qR,Nat.reduceAdd,Nat.reduceSub,Nat.reduceLeDiff,Nat.reduceMul,qI,qP,qQ,n1,n8,d1]
        exact fin' _ _ _ (by unfold bothC; rw [if_neg k1,if_neg k8,if_pos k4]; first | done | rfl)
      have n4 : decide (k = 4) = false := by simpa using k4
      by_cases k7 : k = 7
      · have d1 : decide (k = 7) = true := by simpa using k7
        cases a0 <;>
        · simp only [c75,c75x1,c75x2,c75x3,c75x4,c75x5,c75x6,c75x7,c75x8,c75x9,c75x10,c75x11,c75x12,c75x13,RUA,RUB,RUC,RUD,RUE,RUF,if_true,if_false,Int.reduceEq,Int.reduceLT,Int.reduceLE,qC,qO,qA,qS,qU,Nat.reduceEqDiff,qT,E.at,qR,Nat.reduceAdd,Nat.reduceSub,Nat.reduceLeDiff,Nat.reduceMul,qI,qP,qQ,n1,n8,n4,d1]
          exact fin' _ _ _ (by unfold bothC; rw [if_neg k1,if_neg k8,if_neg k4,if_pos k7]; first | done | rfl)
      have n7 : decide (k = 7) = false := by simpa using k7
      by_cases k9 : k = 9 ∨ k = 10
      · rcases k9 with rfl | rfl <;> cases a0 <;> cases a1 <;>
        · simp only [c75,c75x1,c75x2,c75x3,c75x4,c75x5,c75x6,c75x7,c75x8,c75x9,c75x10,c75x11,c75x12,c75x13,c75x14,c75x15,RUA,RUB,RUC,RUD,RUE,RUF,if_true,if_false,Int.reduceEq,Int.reduceLT,Int.reduceLE,qC,qO,qA,qS,qU,Nat.reduceEqDiff,qT,E.at,qR,Nat.reduceAdd,Nat.reduceSub,Nat.reduceLeDiff,Nat.reduceMul,qI,qP,qQ]
          exact fin' _ _ _ rfl
      have n9 : decide (k = 9) = false := by simp; omega
      have n10 : decide (k = 10) = false := by simp; omega
      by_cases k11 : k = 11
      · have d1 : decide (k = 11) = true := by simpa using k11
        cases a0 <;> cases a1 <;>
        · simp only [c75,c75x1,c75x2,c75x3,c75x4,c75x5,c75x6,c75x7,c75x8,c75x9,c75x10,c75x11,c75x12,c75x13,c75x14,c75x15,c75x16,RUA,RUB,RUC,RUD,RUE,RUF,if_true,if_false,Int.reduceEq,Int.reduceLT,Int.reduceLE,qC,qO,qA,qS,qU,Nat.reduceEqDiff,qT,E.at,qR,Nat.reduceAdd,Nat.reduceSub,Nat.reduceLeDiff,Nat.reduceMul,qI,qP,qQ,n1,n8,n4,n7,n9,n10,d1]
          exact fin' _ _ _ (by unfold bothC; rw [if_neg k1,if_neg k8,if_neg k4,if_neg k7,if_neg k9,if_pos k11]; first | done | rfl)
      have n11 : decide (k = 11) = false := by simpa using k11
      by_cases k12 : k = 12
      · have d1 : decide (k = 12) = true := by simpa using k12
        cases a0 <;> cases a1 <;>
        · simp only [c75,c75x1,c75x2,c75x3,c75x4,c75x5,c75x6,c75x7,c75x8,c75x9,c75x10,c75x11,c75x12,c75x13,c75x14,c75x15,c75x16,c75x17,RUA,RUB,RUC,RUD,RUE,RUF,if_true,if_false,Int.reduceEq,Int.reduceLT,Int.reduceLE,qC,qO,qA,qS,qU,Nat.reduceEqDiff,qT,E.at,qR,Nat.reduceAdd,Nat.reduceSub,Nat.reduceLeDiff,Nat.reduceMul,qI,qP,qQ,n1,n8,n4,n7,n9,n10,n11,d1]
          exact fin' _ _ _ (by unfold bothC; rw [if_neg k1,if_neg k8,if_neg k4,if_neg k7,if_neg k9,if_neg k11,if_pos k12]; first | done | rfl)
      have n12 : decide (k = 12) = false := by simpa using k12
      by_cases k13 : k = 13
      · have d1 : decide (k = 13) = true := by simpa using k13
        simp only [c75,c75x1,c75x2,c75x3,c75x4,c75x5,c75x6,c75x7,c75x8,c75x9,c75x10,c75x11,c75x12,c75x13,c75x14,c75x15,c75x16,c75x17,c75x18,RUA,RUB,RUC,RUD,RUE,RUF,if_true,if_false,Int.reduceEq,Int.reduceLT,Int.reduceLE,qC,qO,qA,qS,qU,Nat.reduceEqDiff,qT,E.at,qR,Nat.reduceAdd,Nat.reduceSub,Nat.reduceLeDiff,Nat.reduceMul,qI,qP,qQ,n1,n8,n4,n7,n9,n10,n11,n12,d1]
        refine (find_p hd (by unfold maxLen; omega) n).callE rfl (find_fr hd n _) rfl ?_
        unfold findI
        cases hf : findO ds n with
        | none =>
          simp only [c75,c75x1,c75x2,c75x3,c75x4,c75x5,c75x6,c75x7,c75x8,c75x9,c75x10,c75x11,c75x12,c75x13,c75x14,c75x15,c75x16,c75x17,c75x18,c75x19,RUA,RUB,RUC,RUD,RUE,RUF,if_true,if_false,Int.reduceEq,Int.reduceLT,Int.reduceLE,qC,qO,qA,qS,qU,Nat.reduceEqDiff,qT,E.at,qR,Nat.reduceAdd,Nat.reduceSub,Nat.reduceLeDiff,Nat.reduceMul,qI,qP,qQ]
          exact fin' _ _ _ (by unfold bothC; rw [if_neg k1,if_neg k8,if_neg k4,if_neg k7,if_neg k9,if_neg k11,if_neg k12,if_pos k13,hf])
        | some j =>
          have hj := findO_lt hf
          have hj1 : eb[j]? = some (eb.getD j false) := by rw [List.getD_eq_getElem?_getD,List.getElem?_eq_getElem (by omega)]; rfl
          have hj2 : xb[j]? = some (xb.getD j false) := by rw [List.getD_eq_getElem?_getD,List.getElem?_eq_getElem (by omega)]; rfl
          have hg1 : (eb.map bV)[j]? = some (bV (eb.getD j false)) := by rw [List.getElem?_map,hj1]; rfl
          have hg2 : (xb.map bV)[j]? = some (bV (xb.getD j false)) := by rw [List.getElem?_map,hj2]; rfl
          have hp : decide ((0 : Int) ≤ (j : Int)) = true := by simp
          have hx1 : ∀ (c e : O) (r : List O),ixOf 1 (c :: .arr v1 true 1 (eb.map bV) :: e :: r) (.ar 1 v1) (iV j) = some (.pa 1 v1 j 0,c :: .arr v1 true 1 (eb.map bV) :: e :: r) := fun c e r => by simp [ixOf,intOf]; omega
          have hx2 : ∀ (c e : O) (r : List O),ixOf 1 (c :: e :: .arr v2 true 1 (xb.map bV) :: r) (.ar 2 v2) (iV j) = some (.pa 2 v2 j 0,c :: e :: .arr v2 true 1 (xb.map bV) :: r) := fun c e r => by simp [ixOf,intOf]; omega
          simp only [c75,c75x1,c75x2,c75x3,c75x4,c75x5,c75x6,c75x7,c75x8,c75x9,c75x10,c75x11,c75x12,c75x13,c75x14,c75x15,c75x16,c75x17,c75x18,c75x19,RUA,RUB,RUC,RUD,RUE,RUF,if_true,if_false,Int.reduceEq,Int.reduceLT,Int.reduceLE,qC,qO,qA,qS,qU,Nat.reduceEqDiff,qT,E.at,qR,Nat.reduceAdd,Nat.reduceSub,Nat.reduceLeDiff,Nat.reduceMul,qI,qP,qQ,hp,hx1,hx2,hg1,hg2]
          exact fin' _ _ _ (by unfold bothC; rw [if_neg k1,if_neg k8,if_neg k4,if_neg k7,if_neg k9,if_neg k11,if_neg k12,if_pos k13,hf])
      have n13 : decide (k = 13) = false := by simpa using k13
      simp only [c75,c75x1,c75x2,c75x3,c75x4,c75x5,c75x6,c75x7,c75x8,c75x9,c75x10,c75x11,c75x12,c75x13,c75x14,c75x15,c75x16,c75x17,c75x18,c75x19,c75x20,RUA,RUB,RUC,RUD,RUE,RUF,if_true,if_false,Int.reduceEq,Int.reduceLT,Int.reduceLE,qC,qO,qA,qS,qU,Nat.reduceEqDiff,qT,E.at,qR,Nat.reduceAdd,Nat.reduceSub,Nat.reduceLeDiff,Nat.reduceMul,qI,qP,qQ,n1,n8,n4,n7,n9,n10,n11,n12,n13]
      exact fin' _ _ _ (by unfold bothC; rw [if_neg k1,if_neg k8,if_neg k4,if_neg k7,if_neg k9,if_neg k11,if_neg k12,if_neg k13]; first | done | rfl)
    by_cases hc : i < xl.length
    · have hd1 : decide ((i : Int) < (es.length : Int)) = true := by simp; omega
      have hd2 : decide ((i : Int) < 2) = false := by simp; omega
      simp only [c75,c75x1,c75x2,c75x3,c75x4,c75x5,RUA,RUB,RUC,RUD,RUE,RUF,if_true,if_false,Int.reduceEq,Int.reduceLT,Int.reduceLE,qC,qO,qA,qS,qU,Nat.reduceEqDiff,qT,E.at,qR,Nat.reduceAdd,Nat.reduceSub,Nat.reduceLeDiff,Nat.reduceMul,qI,qP,qQ,hd1,hd2,hrow]
      exact tl _ _ _ _ _ _ _ _ _ _ _ _ _ _ _ _ _ _ _ _ _ _ _ _ _ _ _ _
    · have hd1 : decide ((i : Int) < (es.length : Int)) = false := by simp; omega
      simp only [c75,c75x1,c75x2,c75x3,c75x4,c75x5,RUA,RUB,RUC,RUD,RUE,RUF,if_true,if_false,Int.reduceEq,Int.reduceLT,Int.reduceLE,qC,qO,qA,qS,qU,Nat.reduceEqDiff,qT,E.at,qR,Nat.reduceAdd,Nat.reduceSub,Nat.reduceLeDiff,Nat.reduceMul,qI,qP,qQ,hd1,hrow]
      exact tl _ _ _ _ _ _ _ _ _ _ _ _ _ _ _ _ _ _ _ _ _ _ _ _ _ _ _ _
theorem both_c {d : V} {ds : List ByteArray} (hd : IsSl 1 d (nmsV ds)) (hl : ds.length ≤ 1000) {v1 v2 : Nat} {eb xb : List Bool} (hE : eb.length = ds.length) (hX : xb.length = ds.length) : ∀ (p : Pr) (u : V),IsPr p u →
    SFn Try.prog T 75 [.pt 0 0,u] (mayO d v1 v2 eb xb) fun z os' => z = .tup [bV (bothS ds eb xb p).1,bV (bothS ds eb xb p).2] ∧ os' = mayO d v1 v2 eb xb
  | .mk k n m (.mk qk qn qm ql) xl,u,h => both_b hd hl hE hX h fun x hx u hu => both_c hd hl hE hX x u hu
termination_by x => SizeOf.sizeOf x
decreasing_by have := List.sizeOf_lt_of_mem hx; simp; omega
end Go.Proofs.Ytfncfdiomolieaa
end

section
set_option linter.unusedVariables false
set_option linter.unusedSimpArgs false
set_option maxRecDepth 100000
set_option maxHeartbeats 8000000
open Go.Proofs.Pe renaming putCells → qC, bslOf → qO, bsaOf → qA, bslS → qS, isUpto → qU, step → qT, intOf → qI, iop → qP, sop → qQ
open List renaming replicate → qR
open Go.Proofs.Pe.V renaming dead → qD
namespace Go.Proofs.Ytfncfdiomolieaa
open Go.Proofs.Pe

def FrontQ (d : V) (v1 v2 v : Nat) (eb xb : List Bool) (n : Nat) : V → List O → Prop := fun z os' => z = .tup [] ∧ ∃ is' : List Bool,is'.length = n ∧ os' = mayO d v1 v2 eb xb ++ [.arr v true 1 (is'.map bV)]
theorem front_b {d : V} {ds : List ByteArray} (hd : IsSl 1 d (nmsV ds)) (hl : ds.length ≤ 1000) {v1 v2 v : Nat} {eb xb : List Bool} (hE : eb.length = ds.length) (hX : xb.length = ds.length)
    {k : Int} {n m : ByteArray} {qk qn : Int} {qm : ByteArray} {ql : List Ex} {xl : List Pr} {u : V} (h : IsPr (.mk k n m (.mk qk qn qm ql) xl) u) (h12 : k = 12 → xl.length = 2)
    (ih : ∀ x ∈ xl,∀ u,IsPr x u → ∀ is : List Bool,is.length = ds.length → SFn Try.prog T 74 [.pt 0 0,u,.ar 3 v] (mayO d v1 v2 eb xb ++ [.arr v true 1 (is.map bV)]) (FrontQ d v1 v2 v eb xb ds.length)) (is : List Bool) (his : is.length = ds.length) :
    SFn Try.prog T 74 [.pt 0 0,u,.ar 3 v] (mayO d v1 v2 eb xb ++ [.arr v true 1 (is.map bV)]) (FrontQ d v1 v2 v eb xb ds.length) := by
  obtain ⟨ev,evs,lv,es,rfl,e1,e2,e3,g1,g2,g3⟩ := h
  rw [isPrs_all] at g3
  have hln := g3.len
  have hone : lv.one = true := free1_one g1.free
  have hone1 : ev.one = true := free1_one e1.free
  have hone2 : d.one = true := free1_one hd.free
  have hrow := fun o => g1.row o
  unfold cap at g2
  have fin : ∀ (is : List Bool) (r : List O),is.length = ds.length → ∃ z os',Fin5 4 (.tup []) (.cells [d,.ar 1 v1,.ar 2 v2] :: .arr v1 true 1 (eb.map bV) :: .arr v2 true 1 (xb.map bV) :: .arr v true 1 (is.map bV) :: r) z os' ∧ FrontQ d v1 v2 v eb xb ds.length z os' :=
    fun is r hi => ⟨_,_,may_fin4 hd.free rfl,rfl,is,hi,rfl⟩
  have body : ∀ (j : Nat),(hj : j < xl.length) → ∃ w,es[j]? = some w ∧ IsPr xl[j] w ∧ ∃ pk pn pt qk qn qm ev2 lv2,w = .agg [iV pk,sV pn,sV pt,iV qk,iV qn,sV qm,ev2,lv2] ∧ ev2.one = true ∧ lv2.one = true := fun j hj => by
    have hx : es[j]? = some es[j] := List.getElem?_eq_getElem (by omega)
    have hxl : xl[j]? = some xl[j] := List.getElem?_eq_getElem hj
    have hE := g3.get hx hxl
    refine ⟨_,hx,hE, ?_⟩
    generalize es[j] = w at hE
    generalize xl[j] = y at hE
    rcases y with ⟨pk,pn,pt,⟨qk,qn,qm,ql⟩,pl⟩
    obtain ⟨ev2,evs2,lv2,vs2,e,g1,_,_,g2,_⟩ := hE
    exact ⟨_,_,_,_,_,_,_,_,e,free1_one g1.free,free1_one g2.free⟩
  intro yi hy
  refine Call.step hy ?_
  rw [body_eq t74]
  simp only [mayO,c74,c74x1,c74x2,RUA,RUB,RUC,RUD,RUE,RUF,if_true,if_false,Int.reduceEq,Int.reduceLT,Int.reduceLE,qC,qO,qA,qS,qU,Nat.reduceEqDiff,qT,E.at,qR,Nat.reduceAdd,Nat.reduceSub,Nat.reduceLeDiff,Nat.reduceMul,qI,qP,qQ,hone,hone1]
  by_cases k13 : k = 13
  · have d1 : decide (k = 13) = true := by simpa using k13
    simp only [c74,c74x1,c74x2,c74x3,RUA,RUB,RUC,RUD,RUE,RUF,if_true,if_false,Int.reduceEq,Int.reduceLT,Int.reduceLE,qC,qO,qA,qS,qU,Nat.reduceEqDiff,qT,E.at,qR,Nat.reduceAdd,Nat.reduceSub,Nat.reduceLeDiff,Nat.reduceMul,qI,qP,qQ,d1]
    refine (find_p hd (by unfold maxLen; omega) n).callE rfl (find_fr hd n _) rfl ?_
    unfold findI
    cases hf : findO ds n with
    | none =>
      simp only [c74,c74x1,c74x2,c74x3,c74x4,c74x5,RUA,RUB,RUC,RUD,RUE,RUF,if_true,if_false,Int.reduceEq,Int.reduceLT,Int.reduceLE,qC,qO,qA,qS,qU,Nat.reduceEqDiff,qT,E.at,qR,Nat.reduceAdd,Nat.reduceSub,Nat.reduceLeDiff,Nat.reduceMul,qI,qP,qQ]
      exact fin is _ his
    | some j =>
      have hj := findO_lt hf
      have hp : decide ((0 : Int) ≤ (j : Int)) = true := by simp
      have hj2 : is[j]? = some (is.getD j false) := by rw [List.getD_eq_getElem?_getD,List.getElem?_eq_getElem (by omega)]; rfl
      have hg2 : (is.map bV)[j]? = some (bV (is.getD j false)) := by rw [List.getElem?_map,hj2]; rfl
      have hx1 : ∀ (c e f : O) (r : List O),ixOf 1 (c :: e :: f :: .arr v true 1 (is.map bV) :: r) (.ar 3 v) (iV j) = some (.pa 3 v j 0,c :: e :: f :: .arr v true 1 (is.map bV) :: r) := fun c e f r => by simp [ixOf,intOf]; omega
      have hst : (is.map bV).set j (V.sc (Value.bool true)) = (is.set j true).map bV := bl_set
      simp only [c74,c74x1,c74x2,c74x3,c74x4,c74x5,RUA,RUB,RUC,RUD,RUE,RUF,if_true,if_false,Int.reduceEq,Int.reduceLT,Int.reduceLE,qC,qO,qA,qS,qU,Nat.reduceEqDiff,qT,E.at,qR,Nat.reduceAdd,Nat.reduceSub,Nat.reduceLeDiff,Nat.reduceMul,qI,qP,qQ,hp,hx1,hg2,hst]
      exact fin _ _ (by simpa using his)
  have n13 : decide (k = 13) = false := by simpa using k13
  by_cases k12 : k = 12
  · have d1 : decide (k = 12) = true := by simpa using k12
    have h2 := h12 k12
    obtain ⟨w0,hx0,hE0,pk,pn,pt,qk',qn',qm',ev2,lv2,rfl,ho1,ho2⟩ := body 0 (by omega)
    obtain ⟨w1,hx1,hE1,pk2,pn2,pt2,qk2,qn2,qm2,ev3,lv3,rfl,ho3,ho4⟩ := body 1 (by omega)
    have hm0 : xl[0] ∈ xl := List.getElem_mem _
    have hm1 : xl[1] ∈ xl := List.getElem_mem _
    have hI0 := fun o => g1.ix0 hx0 o
    have hI1 := fun o => g1.ix1 hx1 o
    have hf0 := hE0.ok.1
    have hf1 := hE1.ok.1
    have c0 := ih _ hm0 _ hE0 is his
    have b0 := both_c hd hl (v1 := v1) (v2 := v2) hE hX _ _ hE0
    simp only [c74,c74x1,c74x2,c74x3,c74x4,c74x5,c74x6,RUA,RUB,RUC,RUD,RUE,RUF,if_true,if_false,Int.reduceEq,Int.reduceLT,Int.reduceLE,qC,qO,qA,qS,qU,Nat.reduceEqDiff,qT,E.at,qR,Nat.reduceAdd,Nat.reduceSub,Nat.reduceLeDiff,Nat.reduceMul,qI,qP,qQ,n13,d1,hrow,hI0,ho1,ho2]
    refine SFn.callMw (l := 0) (a := 1) (b := 2) (c := 3) c0 rfl hf0 hd.free rfl rfl rfl rfl (by decide) fun is1 hi1 => ?_
    simp only [c74,c74x1,c74x2,c74x3,c74x4,c74x5,c74x6,c74x7,RUA,RUB,RUC,RUD,RUE,RUF,if_true,if_false,Int.reduceEq,Int.reduceLT,Int.reduceLE,qC,qO,qA,qS,qU,Nat.reduceEqDiff,qT,E.at,qR,Nat.reduceAdd,Nat.reduceSub,Nat.reduceLeDiff,Nat.reduceMul,qI,qP,qQ,hrow,hI0,ho1,ho2]
    refine SFn.callMr (l := 0) (a := 1) (b := 2) b0 rfl (by simpa using hf0) hd.free rfl rfl rfl (by decide) (fun z h => by subst h; rfl) fun z hz => ?_
    subst hz
    cases he : (bothS ds eb xb xl[0]).1 with
    | false =>
      simp only [c74,c74x1,c74x2,c74x3,c74x4,c74x5,c74x6,c74x7,c74x8,c74x9,RUA,RUB,RUC,RUD,RUE,RUF,if_true,if_false,Int.reduceEq,Int.reduceLT,Int.reduceLE,qC,qO,qA,qS,qU,Nat.reduceEqDiff,qT,E.at,qR,Nat.reduceAdd,Nat.reduceSub,Nat.reduceLeDiff,Nat.reduceMul,qI,qP,qQ,he]
      exact fin _ _ hi1
    | true =>
      have c1 := ih _ hm1 _ hE1 is1 hi1
      simp only [c74,c74x1,c74x2,c74x3,c74x4,c74x5,c74x6,c74x7,c74x8,c74x9,RUA,RUB,RUC,RUD,RUE,RUF,if_true,if_false,Int.reduceEq,Int.reduceLT,Int.reduceLE,qC,qO,qA,qS,qU,Nat.reduceEqDiff,qT,E.at,qR,Nat.reduceAdd,Nat.reduceSub,Nat.reduceLeDiff,Nat.reduceMul,qI,qP,qQ,he,hrow,hI1,ho3,ho4]
      refine SFn.callMw (l := 0) (a := 1) (b := 2) (c := 3) c1 rfl hf1 hd.free rfl rfl rfl rfl (by decide) fun is2 hi2 => ?_
      simp only [c74,c74x1,c74x2,c74x3,c74x4,c74x5,c74x6,c74x7,c74x8,c74x9,RUA,RUB,RUC,RUD,RUE,RUF,if_true,if_false,Int.reduceEq,Int.reduceLT,Int.reduceLE,qC,qO,qA,qS,qU,Nat.reduceEqDiff,qT,E.at,qR,Nat.reduceAdd,Nat.reduceSub,Nat.reduceLeDiff,Nat.reduceMul,qI,qP,qQ]
      exact fin _ _ hi2
  have n12 : decide (k = 12) = false := by simpa using k12
  simp only [c74,c74x1,c74x2,c74x3,c74x4,c74x5,c74x6,c74x10,RUA,RUB,RUC,RUD,RUE,RUF,if_true,if_false,Int.reduceEq,Int.reduceLT,Int.reduceLE,qC,qO,qA,qS,qU,Nat.reduceEqDiff,qT,E.at,qR,Nat.reduceAdd,Nat.reduceSub,Nat.reduceLeDiff,Nat.reduceMul,qI,qP,qQ,n13,n12]
  refine Lfp.inv call_le hy (fun a : Nat × List Bool => ⟨⟨(.pt 0 0 :: qD::.ar 3 v :: qD::.pt 4 0 :: qD::qD::qD::qD::iV a.1 :: qD::qD::qD::qD::qD::qD::qD::qD::qD::qD::qD::qD::qD::qD::qD::qD::qD::qD::qD::qD::qD::qD::qD::qD::qD::qD::qD::qD::qD::qD::qD::qD::qD::qD::qD::qD::qD::qD::qD::qD::qD::qD::qD::qD::qD::qD::qD::qD::qD::qD::qD::qD::qD::qD::qD::qD::qD::[]),[.cells [d,.ar 1 v1,.ar 2 v2],.arr v1 true 1 (eb.map bV),.arr v2 true 1 (xb.map bV),.arr v true 1 (a.2.map bV),.cells [iV k,sV n,sV m,iV qk,iV qn,sV qm,ev,lv]]⟩,[]⟩) (fun a => es.length - a.1)
    (fun a => a.1 ≤ es.length ∧ a.2.length = ds.length) (0,is) ⟨Nat.zero_le _,his⟩ (by simp only [kill_L,killTs_nil,RUF] <;> rfl) ?_
  rintro ⟨i,is1⟩ ⟨hi,hi1⟩
  dsimp only at hi hi1
  by_cases hlt : i < es.length
  · have hd1 : decide ((i : Int) < (es.length : Int)) = true := by simpa using hlt
    obtain ⟨w0,hx0,hE0,pk,pn,pt,qk',qn',qm',ev2,lv2,rfl,ho1,ho2⟩ := body i (by omega)
    have hm0 : xl[i] ∈ xl := List.getElem_mem _
    have hI0 := fun o => g1.ix o hx0
    have hf0 := hE0.ok.1
    have c0 := ih _ hm0 _ hE0 is1 hi1
    have hw1 : IntKind.i64.wrap ((i : Int) + 1) = ((i + 1 : Nat) : Int) := wrap_succ (by omega)
    simp only [c74,c74x1,c74x2,c74x3,c74x4,c74x5,c74x6,c74x7,c74x8,c74x9,c74x10,c74x11,c74x12,c74x13,RUA,RUB,RUC,RUD,RUE,RUF,if_true,if_false,Int.reduceEq,Int.reduceLT,Int.reduceLE,qC,qO,qA,qS,qU,Nat.reduceEqDiff,qT,E.at,qR,Nat.reduceAdd,Nat.reduceSub,Nat.reduceLeDiff,Nat.reduceMul,qI,qP,qQ,hd1,hrow,hI0,ho1,ho2]
    refine SFn.callMw (l := 0) (a := 1) (b := 2) (c := 3) c0 rfl hf0 hd.free rfl rfl rfl rfl (by decide) fun is2 hi2 => ?_
    simp only [c74,c74x1,c74x2,c74x3,c74x4,c74x5,c74x6,c74x7,c74x8,c74x9,c74x10,c74x11,c74x12,c74x13,c74x14,RUA,RUB,RUC,RUD,RUE,RUF,if_true,if_false,Int.reduceEq,Int.reduceLT,Int.reduceLE,qC,qO,qA,qS,qU,Nat.reduceEqDiff,qT,E.at,qR,Nat.reduceAdd,Nat.reduceSub,Nat.reduceLeDiff,Nat.reduceMul,qI,qP,qQ,hw1]
    exact ⟨(i + 1,is2),⟨by simp only; omega,hi2⟩,by simp only; omega,rfl⟩
  · have hd1 : decide ((i : Int) < (es.length : Int)) = false := by simpa using hlt
    simp only [c74,c74x1,c74x2,c74x3,c74x4,c74x5,c74x6,c74x7,c74x8,c74x9,c74x10,c74x11,c74x12,c74x13,c74x14,RUA,RUB,RUC,RUD,RUE,RUF,if_true,if_false,Int.reduceEq,Int.reduceLT,Int.reduceLE,qC,qO,qA,qS,qU,Nat.reduceEqDiff,qT,E.at,qR,Nat.reduceAdd,Nat.reduceSub,Nat.reduceLeDiff,Nat.reduceMul,qI,qP,qQ,hd1,hrow]
    exact fin _ _ hi1
theorem front_c {d : V} {ds : List ByteArray} (hd : IsSl 1 d (nmsV ds)) (hl : ds.length ≤ 1000) {v1 v2 v : Nat} {eb xb : List Bool} (hE : eb.length = ds.length) (hX : xb.length = ds.length) : ∀ (p : Pr) (u : V),IsPr p u → PrOk p → ∀ is : List Bool,is.length = ds.length →
    SFn Try.prog T 74 [.pt 0 0,u,.ar 3 v] (mayO d v1 v2 eb xb ++ [.arr v true 1 (is.map bV)]) (FrontQ d v1 v2 v eb xb ds.length)
  | .mk k n m (.mk qk qn qm ql) xl,u,h,hk,is,hi => by
    have hk' : (k = 12 → xl.length = 2) ∧ ∀ x ∈ xl,PrOk x := by cases hk with | mk a b c => exact ⟨b,c⟩
    exact front_b hd hl hE hX h hk'.1 (fun x hx u hu is hi => front_c hd hl hE hX x u hu (hk'.2 x hx) is hi) is hi
termination_by x => SizeOf.sizeOf x
decreasing_by have := List.sizeOf_lt_of_mem hx; simp; omega
end Go.Proofs.Ytfncfdiomolieaa
end

section
set_option linter.unusedVariables false
set_option linter.unusedSimpArgs false
set_option maxRecDepth 100000
set_option maxHeartbeats 8000000
namespace Go.Proofs.Ytfncfdiomolieaa
open Go.Proofs.Pe

def nF (l : List Bool) : Nat := l.count false
theorem nF_set {l : List Bool} {i : Nat} {b c : Bool} (h : l[i]? = some b) : nF (l.set i (b || c)) ≤ nF l ∧ (b = false → c = true → nF (l.set i (b || c)) < nF l) := by
  induction l generalizing i with
  | nil => simp at h
  | cons x l ih =>
    cases i with
    | zero =>
      simp at h; subst h
      cases x <;> cases c <;> simp [nF]
    | succ i =>
      simp at h
      obtain ⟨h1,h2⟩ := ih h
      unfold nF at h1 h2 ⊢
      simp only [List.set_cons_succ,List.count_cons]
      exact ⟨by omega,fun a b => by have := h2 a b; omega⟩
structure PgOk (pv d : V) (ps : List V) (lp : List DefD) : Prop where
  h4 : IsSl 9 pv ps
  h5 : All2 IsDef lp ps
  h6 : ps.length ≤ 1000
  hd : IsSl 1 d (nmsV (lp.map DefD.nm))
theorem PgOk.get {pv d : V} {ps : List V} {lp : List DefD} (h : PgOk pv d ps lp) {i : Nat} (hi : i < lp.length) : ∃ s pk pn pt qk qn qm ev2 lv2,ps[i]? = some (.agg [sV s,iV pk,sV pn,sV pt,iV qk,iV qn,sV qm,ev2,lv2]) ∧ IsPr (lp[i]).p (.agg [iV pk,sV pn,sV pt,iV qk,iV qn,sV qm,ev2,lv2]) ∧ ev2.one = true ∧ lv2.one = true := by
  have hl := h.h5.len
  have hx : ps[i]? = some ps[i] := List.getElem?_eq_getElem (by omega)
  have hxl : lp[i]? = some lp[i] := List.getElem?_eq_getElem hi
  have hE := h.h5.get hx hxl
  generalize ps[i] = w at hx hE
  generalize lp[i] = y at hE
  rcases y with ⟨s,p⟩
  obtain ⟨b,rfl,hb⟩ := hE
  obtain ⟨pk,pn,pt,qk,qn,qm,pe,pl,rfl,h1,h2⟩ := IsPr.agg hb
  exact ⟨s,pk,pn,pt,qk,qn,qm,pe,pl,hx,hb,h1,h2⟩
def SettleQ (ds : List ByteArray) : V → List O → Prop := fun z os' => ∃ (d : V) (eb xb : List Bool),IsSl 1 d (nmsV ds) ∧ eb.length = ds.length ∧ xb.length = ds.length ∧ z = .pt 0 0 ∧ os' = mayO d 0 0 eb xb
theorem settle_fin {d : V} {ds : List ByteArray} {eb xb : List Bool} (hd : IsSl 1 d (nmsV ds)) (h1 : eb.length = ds.length) (h2 : xb.length = ds.length) {o : List O} {l a b : Nat} (hn : [l,a,b].Nodup) (hl : o[l]? = some (.cells [d,.ar a 0,.ar b 0])) (ha : o[a]? = some (.arr 0 true 1 (eb.map bV))) (hb : o[b]? = some (.arr 0 true 1 (xb.map bV))) :
    ∃ z os',Fin5 0 (.pt l 0) o z os' ∧ SettleQ ds z os' := by
  have hi : ∀ i k,[l,a,b][i]? = some k → outI 0 [l,a,b] k = some i := fun i k h => by
    have h2 := inS_mk hn h
    unfold inS at h2
    unfold outI
    rw [if_neg (by omega)]
    split at h2
    · rename_i hm; rw [if_pos hm]; cases h2; congr 1; omega
    · cases h2
  refine ⟨.pt 0 0,mayO d 0 0 eb xb,⟨.pt l 0,o,[l,a,b],.inr ⟨rfl,rfl⟩,hn,by simp,by rw [mv_pt,hi 0 l rfl]; rfl, ?_⟩,d,eb,xb,hd,h1,h2,rfl,rfl⟩
  show mapO _ ([] ++ [l,a,b]) = _
  rw [List.nil_append,mapO_cons (y := .cells [d,.ar 1 0,.ar 2 0]) (by
      rw [hl,Option.bind_some,mvO_c,mapO_cons (mv1_free hd.free),mapO_cons (y := .ar 1 0) (by rw [mv1_ar,hi 1 a rfl]; rfl),mapO_cons (y := .ar 2 0) (by rw [mv1_ar,hi 2 b rfl]; rfl)]; rfl),
    mapO_cons (y := .arr 0 true 1 (eb.map bV)) (by rw [ha,Option.bind_some,mvO_f (bl_free eb)]),mapO_cons (y := .arr 0 true 1 (xb.map bV)) (by rw [hb,Option.bind_some,mvO_f (bl_free xb)])]
  rfl
end Go.Proofs.Ytfncfdiomolieaa
end

section
set_option linter.unusedVariables false
set_option linter.unusedSimpArgs false
set_option maxRecDepth 100000
set_option maxHeartbeats 8000000
open Go.Proofs.Pe renaming putCells → qC, bslOf → qO, bsaOf → qA, bslS → qS, isUpto → qU, step → qT, intOf → qI, iop → qP, sop → qQ
open List renaming replicate → qR
open Go.Proofs.Pe.V renaming dead → qD
namespace Go.Proofs.Ytfncfdiomolieaa
open Go.Proofs.Pe


theorem settle_t0 {vv sv pv v d : V} {ps : List V} {lp : List DefD} (H : PgOk pv d ps lp) (hv : vv.one = true) (hs : sv.one = true) {yi : Nat → Sem'} (hy : YLe yi yi) (eb0 xb0 : List Bool) (h1 : eb0.length = lp.length) (h2 : xb0.length = lp.length) (t0 t1 t2 x7 x8 x9 x10 x11 x12 x13 x14 x15 x16 x17 x18 x19 x20 x21 x22 x23 x24 x25 x26 x27 x28 x29 x30 x31 x32 x33 x34 x35 x36 x37 x38 x39 x40 x41 x42 x43 x44 x45 x46 x47 x48 x49 x50 x51 x52 x53 x54 x55 x56 x57 x58 x59 x60 x61 x62 x63 x64 x65 x66 x67 x68 x69 x70 x71 x72 x73 x74 x75 x76 x77 x78 x79 x80 x81 x82 x83 x84 x85 x86 x87 x88 x89 x90 x91 x92 x93 x94 x95 x96 x97 x98 : V) :
    Pe.ev Try.prog T (Pe.Call Try.prog T) Lfp c73x3 none yi ⟨⟨(t0 :: .pt 0 0 :: t2 :: v :: d :: .pt 3 0 :: t1 :: x7 :: x8 :: x9 :: x10 :: x11 :: x12 :: x13 :: x14 :: x15 :: x16 :: x17 :: x18 :: x19 :: x20 :: x21 :: x22 :: x23 :: x24 :: x25 :: x26 :: x27 :: x28 :: x29 :: x30 :: x31 :: x32 :: x33 :: x34 :: x35 :: x36 :: x37 :: x38 :: x39 :: x40 :: x41 :: x42 :: x43 :: x44 :: x45 :: x46 :: x47 :: x48 :: x49 :: x50 :: x51 :: x52 :: x53 :: x54 :: x55 :: x56 :: x57 :: x58 :: x59 :: x60 :: x61 :: x62 :: x63 :: x64 :: x65 :: x66 :: x67 :: x68 :: x69 :: x70 :: x71 :: x72 :: x73 :: x74 :: x75 :: x76 :: x77 :: x78 :: x79 :: x80 :: x81 :: x82 :: x83 :: x84 :: x85 :: x86 :: x87 :: x88 :: x89 :: x90 :: x91 :: x92 :: x93 :: x94 :: x95 :: x96 :: x97 :: x98 :: []),[.cells [vv,sv,pv],.arr 0 true 1 (eb0.map bV),.arr 0 true 1 (xb0.map bV),.cells [d,.ar 1 0,.ar 2 0]]⟩,[]⟩
      (endK [Rv.tmp 2] fun y o' => ∃ z os',Fin5 0 y o' z os' ∧ SettleQ (lp.map DefD.nm) z os') := by
  have hln := H.h5.len
  have hrow := fun o => H.h4.row o
  have hrd := fun o => H.hd.row o
  have hnl : (nmsV (lp.map DefD.nm)).length = lp.length := by simp [nmsV]
  have h6 := H.h6
  simp only [c73x3,c73x4,RUA,RUB,RUC,RUD,RUE,RUF,if_true,if_false,Int.reduceEq,Int.reduceLT,Int.reduceLE,qC,qO,qA,qS,qU,Nat.reduceEqDiff,qT,E.at,qR,Nat.reduceAdd,Nat.reduceSub,Nat.reduceLeDiff,Nat.reduceMul,qI,qP,qQ]
  refine Lfp.inv call_le hy (fun a : Bool × List Bool × List Bool => ⟨⟨(qD::.pt 0 0 :: qD::qD::d :: .pt 3 0 :: bV a.1 :: qD::qD::qD::qD::qD::qD::qD::qD::qD::qD::qD::qD::qD::qD::qD::qD::qD::qD::qD::qD::qD::qD::qD::qD::qD::qD::qD::qD::qD::qD::qD::qD::qD::qD::qD::qD::qD::qD::qD::qD::qD::qD::qD::qD::qD::qD::qD::qD::qD::qD::qD::qD::qD::qD::qD::qD::qD::qD::qD::qD::qD::qD::qD::qD::qD::qD::qD::qD::qD::qD::qD::qD::qD::qD::qD::qD::qD::qD::qD::qD::qD::qD::qD::qD::qD::qD::qD::qD::qD::qD::qD::qD::[]),[.cells [vv,sv,pv],.arr 0 true 1 (a.2.1.map bV),.arr 0 true 1 (a.2.2.map bV),.cells [d,.ar 1 0,.ar 2 0]]⟩,[]⟩) (fun a => 2 * (nF a.2.1 + nF a.2.2) + (if a.1 = true then 1 else 0))
    (fun a => a.2.1.length = lp.length ∧ a.2.2.length = lp.length) (true,eb0,xb0) ⟨h1,h2⟩ (by simp only [kill_L,killTs_nil,RUF] <;> rfl) ?_
  rintro ⟨ag,eb,xb⟩ ⟨h1',h2'⟩
  dsimp only at h1' h2'
  cases ag with
  | false =>
    simp only [c73,c73x1,c73x2,c73x3,c73x4,c73x5,c73x6,c73x7,c73x8,c73x9,c73x10,c73x11,c73x12,c73x13,c73x14,c73x15,c73x16,RUA,RUB,RUC,RUD,RUE,RUF,if_true,if_false,Int.reduceEq,Int.reduceLT,Int.reduceLE,qC,qO,qA,qS,qU,Nat.reduceEqDiff,qT,E.at,qR,Nat.reduceAdd,Nat.reduceSub,Nat.reduceLeDiff,Nat.reduceMul,qI,qP,qQ]
    exact settle_fin H.hd (by simpa using h1') (by simpa using h2') (l := 3) (a := 1) (b := 2) (by decide) rfl rfl rfl
  | true =>
    simp only [c73,c73x1,c73x2,c73x3,c73x4,c73x5,c73x6,c73x7,c73x8,c73x9,RUA,RUB,RUC,RUD,RUE,RUF,if_true,if_false,Int.reduceEq,Int.reduceLT,Int.reduceLE,qC,qO,qA,qS,qU,Nat.reduceEqDiff,qT,E.at,qR,Nat.reduceAdd,Nat.reduceSub,Nat.reduceLeDiff,Nat.reduceMul,qI,qP,qQ]
    refine Lfp.inv call_le hy (fun a : Nat × Bool × List Bool × List Bool => ⟨⟨(qD::.pt 0 0 :: qD::qD::d :: .pt 3 0 :: bV a.2.1 :: iV a.1 :: qD::qD::qD::qD::qD::qD::qD::qD::qD::qD::qD::qD::qD::qD::qD::qD::qD::qD::qD::qD::qD::qD::qD::qD::qD::qD::qD::qD::qD::qD::qD::qD::qD::qD::qD::qD::qD::qD::qD::qD::qD::qD::qD::qD::qD::qD::qD::qD::qD::qD::qD::qD::qD::qD::qD::qD::qD::qD::qD::qD::qD::qD::qD::qD::qD::qD::qD::qD::qD::qD::qD::qD::qD::qD::qD::qD::qD::qD::qD::qD::qD::qD::qD::qD::qD::qD::qD::qD::qD::qD::qD::[]),[.cells [vv,sv,pv],.arr 0 true 1 (a.2.2.1.map bV),.arr 0 true 1 (a.2.2.2.map bV),.cells [d,.ar 1 0,.ar 2 0]]⟩,[]⟩) (fun a => lp.length - a.1)
      (fun a => a.1 ≤ lp.length ∧ a.2.2.1.length = lp.length ∧ a.2.2.2.length = lp.length ∧ nF a.2.2.1 + nF a.2.2.2 ≤ nF eb + nF xb ∧ (a.2.1 = true → nF a.2.2.1 + nF a.2.2.2 < nF eb + nF xb)) (0,false,eb,xb) ⟨Nat.zero_le _,h1',h2',by simp,fun h => by cases h⟩ (by simp only [kill_L,killTs_nil,RUF] <;> rfl) ?_
    rintro ⟨i,ag,eb1,xb1⟩ ⟨hi,g1,g2,g3,g4⟩
    dsimp only at hi g1 g2 g3 g4
    by_cases hlt : i < lp.length
    · have hd1 : decide ((i : Int) < ((nmsV (lp.map DefD.nm)).length : Int)) = true := by rw [hnl]; simpa using hlt
      obtain ⟨s,pk,pn,pt,qk',qn',qm',ev2,lv2,hx0,hE0,ho1,ho2⟩ := H.get hlt
      have hI0 := fun o => H.h4.ix o hx0
      have hf0 := hE0.ok.1
      have b0 := both_c H.hd (by simp; omega) (v1 := 0) (v2 := 0) (eb := eb1) (xb := xb1) (by simpa using g1) (by simpa using g2) _ _ hE0
      have hw1 : IntKind.i64.wrap ((i : Int) + 1) = ((i + 1 : Nat) : Int) := wrap_succ (by omega)
      simp only [c73,c73x1,c73x2,c73x3,c73x4,c73x5,c73x6,c73x7,c73x8,c73x9,c73x10,c73x11,c73x12,RUA,RUB,RUC,RUD,RUE,RUF,if_true,if_false,Int.reduceEq,Int.reduceLT,Int.reduceLE,qC,qO,qA,qS,qU,Nat.reduceEqDiff,qT,E.at,qR,Nat.reduceAdd,Nat.reduceSub,Nat.reduceLeDiff,Nat.reduceMul,qI,qP,qQ,hrd,hd1,hrow,hI0,ho1,ho2]
      refine SFn.callMr (l := 3) (a := 1) (b := 2) b0 rfl (by simpa using hf0) H.hd.free rfl rfl rfl (by decide) (fun z h => by subst h; rfl) fun z hz => ?_
      subst hz
      generalize (bothS (lp.map DefD.nm) eb1 xb1 lp[i].p) = q
      rcases q with ⟨e,x⟩
      have hj1 : eb1[i]? = some eb1[i] := List.getElem?_eq_getElem (by omega)
      have hj2 : xb1[i]? = some xb1[i] := List.getElem?_eq_getElem (by omega)
      generalize eb1[i] = p1 at hj1
      generalize xb1[i] = p2 at hj2
      have hg1 : (eb1.map bV)[i]? = some (bV p1) := by rw [List.getElem?_map,hj1]; rfl
      have hg2 : (xb1.map bV)[i]? = some (bV p2) := by rw [List.getElem?_map,hj2]; rfl
      have n1 := nF_set (c := e) hj1
      have n2 := nF_set (c := x) hj2
      have hx1 : ∀ (o : List O) (l : List Bool),l.length = lp.length → o[1]? = some (.arr 0 true 1 (l.map bV)) → ixOf 1 o (.ar 1 0) (iV i) = some (.pa 1 0 i 0,o) := fun o l hl ho => by simp [ixOf,intOf,ho]; omega
      have hx2 : ∀ (o : List O) (l : List Bool),l.length = lp.length → o[2]? = some (.arr 0 true 1 (l.map bV)) → ixOf 1 o (.ar 2 0) (iV i) = some (.pa 2 0 i 0,o) := fun o l hl ho => by simp [ixOf,intOf,ho]; omega
      have hxe := fun (q0 q1 q3 : O) (r : List O) => hx1 (q0 :: .arr 0 true 1 (eb1.map bV) :: q1 :: q3 :: r) eb1 g1 rfl
      have hxx := fun (q0 q1 q3 : O) (r : List O) => hx2 (q0 :: q1 :: .arr 0 true 1 (xb1.map bV) :: q3 :: r) xb1 g2 rfl
      have hst1 : ∀ b,(eb1.map bV).set i (V.sc (Value.bool b)) = (eb1.set i b).map bV := fun b => bl_set
      have hst2 : ∀ b,(xb1.map bV).set i (V.sc (Value.bool b)) = (xb1.set i b).map bV := fun b => bl_set
      have hxe2 := fun (q0 q1 q3 : O) (r : List O) b => hx1 (q0 :: .arr 0 true 1 ((eb1.set i b).map bV) :: q1 :: q3 :: r) (eb1.set i b) (by simpa using g1) rfl
      have hxx2 := fun (q0 q1 q3 : O) (r : List O) b => hx2 (q0 :: q1 :: .arr 0 true 1 ((xb1.set i b).map bV) :: q3 :: r) (xb1.set i b) (by simpa using g2) rfl
      by_cases hc : (e && !p1 || x && !p2) = true
      · have hdec : nF (eb1.set i (p1 || e)) + nF (xb1.set i (p2 || x)) < nF eb1 + nF xb1 := by
          rcases Bool.or_eq_true_iff.1 hc with h | h
          · simp only [Bool.and_eq_true,Bool.not_eq_true'] at h
            have := n1.2 h.2 h.1; omega
          · simp only [Bool.and_eq_true,Bool.not_eq_true'] at h
            have := n2.2 h.2 h.1; omega
        clear n1 n2
        cases e <;> cases x <;> cases p1 <;> cases p2 <;> first
          | (exfalso; revert hc; decide)
          | (simp only [c73,c73x1,c73x2,c73x3,c73x4,c73x5,c73x6,c73x7,c73x8,c73x9,c73x10,c73x11,c73x12,c73x13,c73x14,c73x15,c73x16,RUA,RUB,RUC,RUD,RUE,RUF,if_true,if_false,Int.reduceEq,Int.reduceLT,Int.reduceLE,qC,qO,qA,qS,qU,Nat.reduceEqDiff,qT,E.at,qR,Nat.reduceAdd,Nat.reduceSub,Nat.reduceLeDiff,Nat.reduceMul,qI,qP,qQ,hxe,hxx,hxe2,hxx2,hg1,hg2,hst1,hst2,hw1]
             refine ⟨(i + 1,true,_,_),⟨by simp only; omega,by simpa using g1,by simpa using g2,by simp only; exact Nat.le_trans (Nat.le_of_lt hdec) g3,fun _ => by simp only; exact Nat.lt_of_lt_of_le hdec g3⟩,by simp only; omega,rfl⟩)
      · clear n1 n2
        cases e <;> cases x <;> cases p1 <;> cases p2 <;> first
          | (exfalso; revert hc; decide)
          | (simp only [c73,c73x1,c73x2,c73x3,c73x4,c73x5,c73x6,c73x7,c73x8,c73x9,c73x10,c73x11,c73x12,c73x13,c73x14,c73x15,c73x16,RUA,RUB,RUC,RUD,RUE,RUF,if_true,if_false,Int.reduceEq,Int.reduceLT,Int.reduceLE,qC,qO,qA,qS,qU,Nat.reduceEqDiff,qT,E.at,qR,Nat.reduceAdd,Nat.reduceSub,Nat.reduceLeDiff,Nat.reduceMul,qI,qP,qQ,hxe,hxx,hg1,hg2,hw1]
             exact ⟨(i + 1,ag,eb1,xb1),⟨by simp only; omega,g1,g2,g3,g4⟩,by simp only; omega,rfl⟩)
    · have hd1 : decide ((i : Int) < ((nmsV (lp.map DefD.nm)).length : Int)) = false := by rw [hnl]; simpa using hlt
      simp only [c73,c73x1,c73x2,c73x3,c73x4,c73x5,c73x6,c73x7,c73x8,c73x9,c73x10,c73x11,RUA,RUB,RUC,RUD,RUE,RUF,if_true,if_false,Int.reduceEq,Int.reduceLT,Int.reduceLE,qC,qO,qA,qS,qU,Nat.reduceEqDiff,qT,E.at,qR,Nat.reduceAdd,Nat.reduceSub,Nat.reduceLeDiff,Nat.reduceMul,qI,qP,qQ,hrd,hd1]
      refine ⟨(ag,eb1,xb1),⟨g1,g2⟩, ?_,rfl⟩
      cases ag with
      | false => simp; omega
      | true => have := g4 rfl; simp; omega
end Go.Proofs.Ytfncfdiomolieaa
end

section
set_option linter.unusedVariables false
set_option linter.unusedSimpArgs false
set_option maxRecDepth 100000
set_option maxHeartbeats 8000000
open Go.Proofs.Pe renaming putCells → qC, bslOf → qO, bsaOf → qA, bslS → qS, isUpto → qU, step → qT, intOf → qI, iop → qP, sop → qQ
open List renaming replicate → qR
open Go.Proofs.Pe.V renaming dead → qD
namespace Go.Proofs.Ytfncfdiomolieaa
open Go.Proofs.Pe


theorem settle_t1 {vv sv pv v d : V} {ps : List V} {lp : List DefD} (H : PgOk pv d ps lp) (hv : vv.one = true) (hs : sv.one = true) {yi : Nat → Sem'} (hy : YLe yi yi) (eb0 xb0 : List Bool) (h1 : eb0.length = lp.length) (h2 : xb0.length = lp.length) (t0 t1 t2 x7 x8 x9 x10 x11 x12 x13 x14 x15 x16 x17 x18 x19 x20 x21 x22 x23 x24 x25 x26 x27 x28 x29 x30 x31 x32 x33 x34 x35 x36 x37 x38 x39 x40 x41 x42 x43 x44 x45 x46 x47 x48 x49 x50 x51 x52 x53 x54 x55 x56 x57 x58 x59 x60 x61 x62 x63 x64 x65 x66 x67 x68 x69 x70 x71 x72 x73 x74 x75 x76 x77 x78 x79 x80 x81 x82 x83 x84 x85 x86 x87 x88 x89 x90 x91 x92 x93 x94 x95 x96 x97 x98 : V) :
    Pe.ev Try.prog T (Pe.Call Try.prog T) Lfp c73x3 none yi ⟨⟨(t0 :: .pt 0 0 :: t2 :: v :: d :: .pt 3 0 :: t1 :: x7 :: x8 :: x9 :: x10 :: x11 :: x12 :: x13 :: x14 :: x15 :: x16 :: x17 :: x18 :: x19 :: x20 :: x21 :: x22 :: x23 :: x24 :: x25 :: x26 :: x27 :: x28 :: x29 :: x30 :: x31 :: x32 :: x33 :: x34 :: x35 :: x36 :: x37 :: x38 :: x39 :: x40 :: x41 :: x42 :: x43 :: x44 :: x45 :: x46 :: x47 :: x48 :: x49 :: x50 :: x51 :: x52 :: x53 :: x54 :: x55 :: x56 :: x57 :: x58 :: x59 :: x60 :: x61 :: x62 :: x63 :: x64 :: x65 :: x66 :: x67 :: x68 :: x69 :: x70 :: x71 :: x72 :: x73 :: x74 :: x75 :: x76 :: x77 :: x78 :: x79 :: x80 :: x81 :: x82 :: x83 :: x84 :: x85 :: x86 :: x87 :: x88 :: x89 :: x90 :: x91 :: x92 :: x93 :: x94 :: x95 :: x96 :: x97 :: x98 :: []),[.cells [vv,sv,pv],.arr 0 true 1 (xb0.map bV),.arr 0 true 1 (eb0.map bV),.cells [d,.ar 2 0,.ar 1 0]]⟩,[]⟩
      (endK [Rv.tmp 2] fun y o' => ∃ z os',Fin5 0 y o' z os' ∧ SettleQ (lp.map DefD.nm) z os') := by
  have hln := H.h5.len
  have hrow := fun o => H.h4.row o
  have hrd := fun o => H.hd.row o
  have hnl : (nmsV (lp.map DefD.nm)).length = lp.length := by simp [nmsV]
  have h6 := H.h6
  simp only [c73x3,c73x4,RUA,RUB,RUC,RUD,RUE,RUF,if_true,if_false,Int.reduceEq,Int.reduceLT,Int.reduceLE,qC,qO,qA,qS,qU,Nat.reduceEqDiff,qT,E.at,qR,Nat.reduceAdd,Nat.reduceSub,Nat.reduceLeDiff,Nat.reduceMul,qI,qP,qQ]
  refine Lfp.inv call_le hy (fun a : Bool × List Bool × List Bool => ⟨⟨(qD::.pt 0 0 :: qD::qD::d :: .pt 3 0 :: bV a.1 :: qD::qD::qD::qD::qD::qD::qD::qD::qD::qD::qD::qD::qD::qD::qD::qD::qD::qD::qD::qD::qD::qD::qD::qD::qD::qD::qD::qD::qD::qD::qD::qD::qD::qD::qD::qD::qD::qD::qD::qD::qD::qD::qD::qD::qD::qD::qD::qD::qD::qD::qD::qD::qD::qD::qD::qD::qD::qD::qD::qD::qD::qD::qD::qD::qD::qD::qD::qD::qD::qD::qD::qD::qD::qD::qD::qD::qD::qD::qD::qD::qD::qD::qD::qD::qD::qD::qD::qD::qD::qD::qD::qD::[]),[.cells [vv,sv,pv],.arr 0 true 1 (a.2.2.map bV),.arr 0 true 1 (a.2.1.map bV),.cells [d,.ar 2 0,.ar 1 0]]⟩,[]⟩) (fun a => 2 * (nF a.2.1 + nF a.2.2) + (if a.1 = true then 1 else 0))
    (fun a => a.2.1.length = lp.length ∧ a.2.2.length = lp.length) (true,eb0,xb0) ⟨h1,h2⟩ (by simp only [kill_L,killTs_nil,RUF] <;> rfl) ?_
  rintro ⟨ag,eb,xb⟩ ⟨h1',h2'⟩
  dsimp only at h1' h2'
  cases ag with
  | false =>
    simp only [c73,c73x1,c73x2,c73x3,c73x4,c73x5,c73x6,c73x7,c73x8,c73x9,c73x10,c73x11,c73x12,c73x13,c73x14,c73x15,c73x16,RUA,RUB,RUC,RUD,RUE,RUF,if_true,if_false,Int.reduceEq,Int.reduceLT,Int.reduceLE,qC,qO,qA,qS,qU,Nat.reduceEqDiff,qT,E.at,qR,Nat.reduceAdd,Nat.reduceSub,Nat.reduceLeDiff,Nat.reduceMul,qI,qP,qQ]
    exact settle_fin H.hd (by simpa using h1') (by simpa using h2') (l := 3) (a := 2) (b := 1) (by decide) rfl rfl rfl
  | true =>
    simp only [c73,c73x1,c73x2,c73x3,c73x4,c73x5,c73x6,c73x7,c73x8,c73x9,RUA,RUB,RUC,RUD,RUE,RUF,if_true,if_false,Int.reduceEq,Int.reduceLT,Int.reduceLE,qC,qO,qA,qS,qU,Nat.reduceEqDiff,qT,E.at,qR,Nat.reduceAdd,Nat.reduceSub,Nat.reduceLeDiff,Nat.reduceMul,qI,qP,qQ]
    refine Lfp.inv call_le hy (fun a : Nat × Bool × List Bool × List Bool => ⟨⟨(qD::.pt 0 0 :: qD::qD::d :: .pt 3 0 :: bV a.2.1 :: iV a.1 :: qD::qD::qD::qD::qD::qD::qD::qD::qD::qD::qD::qD::qD::qD::qD::qD::qD::qD::qD::qD::qD::qD::qD::qD::qD::qD::qD::qD::qD::qD::qD::qD::qD::qD::qD::qD::qD::qD::qD::qD::qD::qD::qD::qD::qD::qD::qD::qD::qD::qD::qD::qD::qD::qD::qD::qD::qD::qD::qD::qD::qD::qD::qD::qD::qD::qD::qD::qD::qD::qD::qD::qD::qD::qD::qD::qD::qD::qD::qD::qD::qD::qD::qD::qD::qD::qD::qD::qD::qD::qD::qD::[]),[.cells [vv,sv,pv],.arr 0 true 1 (a.2.2.2.map bV),.arr 0 true 1 (a.2.2.1.map bV),.cells [d,.ar 2 0,.ar 1 0]]⟩,[]⟩) (fun a => lp.length - a.1)
      (fun a => a.1 ≤ lp.length ∧ a.2.2.1.length = lp.length ∧ a.2.2.2.length = lp.length ∧ nF a.2.2.1 + nF a.2.2.2 ≤ nF eb + nF xb ∧ (a.2.1 = true → nF a.2.2.1 + nF a.2.2.2 < nF eb + nF xb)) (0,false,eb,xb) ⟨Nat.zero_le _,h1',h2',by simp,fun h => by cases h⟩ (by simp only [kill_L,killTs_nil,RUF] <;> rfl) ?_
    rintro ⟨i,ag,eb1,xb1⟩ ⟨hi,g1,g2,g3,g4⟩
    dsimp only at hi g1 g2 g3 g4
    by_cases hlt : i < lp.length
    · have hd1 : decide ((i : Int) < ((nmsV (lp.map DefD.nm)).length : Int)) = true := by rw [hnl]; simpa using hlt
      obtain ⟨s,pk,pn,pt,qk',qn',qm',ev2,lv2,hx0,hE0,ho1,ho2⟩ := H.get hlt
      have hI0 := fun o => H.h4.ix o hx0
      have hf0 := hE0.ok.1
      have b0 := both_c H.hd (by simp; omega) (v1 := 0) (v2 := 0) (eb := eb1) (xb := xb1) (by simpa using g1) (by simpa using g2) _ _ hE0
      have hw1 : IntKind.i64.wrap ((i : Int) + 1) = ((i + 1 : Nat) : Int) := wrap_succ (by omega)
      simp only [c73,c73x1,c73x2,c73x3,c73x4,c73x5,c73x6,c73x7,c73x8,c73x9,c73x10,c73x11,c73x12,RUA,RUB,RUC,RUD,RUE,RUF,if_true,if_false,Int.reduceEq,Int.reduceLT,Int.reduceLE,qC,qO,qA,qS,qU,Nat.reduceEqDiff,qT,E.at,qR,Nat.reduceAdd,Nat.reduceSub,Nat.reduceLeDiff,Nat.reduceMul,qI,qP,qQ,hrd,hd1,hrow,hI0,ho1,ho2]
      refine SFn.callMr (l := 3) (a := 2) (b := 1) b0 rfl (by simpa using hf0) H.hd.free rfl rfl rfl (by decide) (fun z h => by subst h; rfl) fun z hz => ?_
      subst hz
      generalize (bothS (lp.map DefD.nm) eb1 xb1 lp[i].p) = q
      rcases q with ⟨e,x⟩
      have hj1 : eb1[i]? = some eb1[i] := List.getElem?_eq_getElem (by omega)
      have hj2 : xb1[i]? = some xb1[i] := List.getElem?_eq_getElem (by omega)
      generalize eb1[i] = p1 at hj1
      generalize xb1[i] = p2 at hj2
      have hg1 : (eb1.map bV)[i]? = some (bV p1) := by rw [List.getElem?_map,hj1]; rfl
      have hg2 : (xb1.map bV)[i]? = some (bV p2) := by rw [List.getElem?_map,hj2]; rfl
      have n1 := nF_set (c := e) hj1
      have n2 := nF_set (c := x) hj2
      have hx1 : ∀ (o : List O) (l : List Bool),l.length = lp.length → o[2]? = some (.arr 0 true 1 (l.map bV)) → ixOf 1 o (.ar 2 0) (iV i) = some (.pa 2 0 i 0,o) := fun o l hl ho => by simp [ixOf,intOf,ho]; omega
      have hx2 : ∀ (o : List O) (l : List Bool),l.length = lp.length → o[1]? = some (.arr 0 true 1 (l.map bV)) → ixOf 1 o (.ar 1 0) (iV i) = some (.pa 1 0 i 0,o) := fun o l hl ho => by simp [ixOf,intOf,ho]; omega
      have hxe := fun (q0 q1 q3 : O) (r : List O) => hx1 (q0 :: q1 :: .arr 0 true 1 (eb1.map bV) :: q3 :: r) eb1 g1 rfl
      have hxx := fun (q0 q1 q3 : O) (r : List O) => hx2 (q0 :: .arr 0 true 1 (xb1.map bV) :: q1 :: q3 :: r) xb1 g2 rfl
      have hst1 : ∀ b,(eb1.map bV).set i (V.sc (Value.bool b)) = (eb1.set i b).map bV := fun b => bl_set
      have hst2 : ∀ b,(xb1.map bV).set i (V.sc (Value.bool b)) = (xb1.set i b).map bV := fun b => bl_set
      have hxe2 := fun (q0 q1 q3 : O) (r : List O) b => hx1 (q0 :: q1 :: .arr 0 true 1 ((eb1.set i b).map bV) :: q3 :: r) (eb1.set i b) (by simpa using g1) rfl
      have hxx2 := fun (q0 q1 q3 : O) (r : List O) b => hx2 (q0 :: .arr 0 true 1 ((xb1.set i b).map bV) :: q1 :: q3 :: r) (xb1.set i b) (by simpa using g2) rfl
      by_cases hc : (e && !p1 || x && !p2) = true
      · have hdec : nF (eb1.set i (p1 || e)) + nF (xb1.set i (p2 || x)) < nF eb1 + nF xb1 := by
          rcases Bool.or_eq_true_iff.1 hc with h | h
          · simp only [Bool.and_eq_true,Bool.not_eq_true'] at h
            have := n1.2 h.2 h.1; omega
          · simp only [Bool.and_eq_true,Bool.not_eq_true'] at h
            have := n2.2 h.2 h.1; omega
        clear n1 n2
        cases e <;> cases x <;> cases p1 <;> cases p2 <;> first
          | (exfalso; revert hc; decide)
          | (simp only [c73,c73x1,c73x2,c73x3,c73x4,c73x5,c73x6,c73x7,c73x8,c73x9,c73x10,c73x11,c73x12,c73x13,c73x14,c73x15,c73x16,RUA,RUB,RUC,RUD,RUE,RUF,if_true,if_false,Int.reduceEq,Int.reduceLT,Int.reduceLE,qC,qO,qA,qS,qU,Nat.reduceEqDiff,qT,E.at,qR,Nat.reduceAdd,Nat.reduceSub,Nat.reduceLeDiff,Nat.reduceMul,qI,qP,qQ,hxe,hxx,hxe2,hxx2,hg1,hg2,hst1,hst2,hw1]
             refine ⟨(i + 1,true,_,_),⟨by simp only; omega,by simpa using g1,by simpa using g2,by simp only; exact Nat.le_trans (Nat.le_of_lt hdec) g3,fun _ => by simp only; exact Nat.lt_of_lt_of_le hdec g3⟩,by simp only; omega,rfl⟩)
      · clear n1 n2
        cases e <;> cases x <;> cases p1 <;> cases p2 <;> first
          | (exfalso; revert hc; decide)
          | (simp only [c73,c73x1,c73x2,c73x3,c73x4,c73x5,c73x6,c73x7,c73x8,c73x9,c73x10,c73x11,c73x12,c73x13,c73x14,c73x15,c73x16,RUA,RUB,RUC,RUD,RUE,RUF,if_true,if_false,Int.reduceEq,Int.reduceLT,Int.reduceLE,qC,qO,qA,qS,qU,Nat.reduceEqDiff,qT,E.at,qR,Nat.reduceAdd,Nat.reduceSub,Nat.reduceLeDiff,Nat.reduceMul,qI,qP,qQ,hxe,hxx,hg1,hg2,hw1]
             exact ⟨(i + 1,ag,eb1,xb1),⟨by simp only; omega,g1,g2,g3,g4⟩,by simp only; omega,rfl⟩)
    · have hd1 : decide ((i : Int) < ((nmsV (lp.map DefD.nm)).length : Int)) = false := by rw [hnl]; simpa using hlt
      simp only [c73,c73x1,c73x2,c73x3,c73x4,c73x5,c73x6,c73x7,c73x8,c73x9,c73x10,c73x11,RUA,RUB,RUC,RUD,RUE,RUF,if_true,if_false,Int.reduceEq,Int.reduceLT,Int.reduceLE,qC,qO,qA,qS,qU,Nat.reduceEqDiff,qT,E.at,qR,Nat.reduceAdd,Nat.reduceSub,Nat.reduceLeDiff,Nat.reduceMul,qI,qP,qQ,hrd,hd1]
      refine ⟨(ag,eb1,xb1),⟨g1,g2⟩, ?_,rfl⟩
      cases ag with
      | false => simp; omega
      | true => have := g4 rfl; simp; omega
end Go.Proofs.Ytfncfdiomolieaa
end

section
set_option linter.unusedVariables false
set_option linter.unusedSimpArgs false
set_option maxRecDepth 100000
set_option maxHeartbeats 8000000
open Go.Proofs.Pe renaming putCells → qC, bslOf → qO, bsaOf → qA, bslS → qS, isUpto → qU, step → qT, intOf → qI, iop → qP, sop → qQ
open List renaming replicate → qR
open Go.Proofs.Pe.V renaming dead → qD
namespace Go.Proofs.Ytfncfdiomolieaa
open Go.Proofs.Pe


theorem settle_c {vv sv pv : V} {vs ps : List V} {lv : List VarD} {lp : List DefD} (h1 : IsSl 2 vv vs) (h2 : All2 IsVar lv vs) (h3 : vs.length ≤ 1000) (h4 : IsSl 9 pv ps) (h5 : All2 IsDef lp ps) (h6 : ps.length ≤ 1000) (hs : sv.free1 = true) :
    SFn Try.prog T 73 [.agg [vv,sv,pv]] [] (SettleQ (lp.map DefD.nm)) := by
  have hfr : (V.agg [vv,sv,pv]).free = true := by simp only [free_agg,List.all_cons,List.all_nil,h1.free,hs,h4.free,Bool.and_self]
  have ho1 : vv.one = true := free1_one h1.free
  have ho2 : sv.one = true := free1_one hs
  have ho4 : pv.one = true := free1_one h4.free
  intro yi hy
  refine Call.step hy ?_
  rw [body_eq t73]
  simp only [c73,c73x1,RUA,RUB,RUC,RUD,RUE,RUF,if_true,if_false,Int.reduceEq,Int.reduceLT,Int.reduceLE,qC,qO,qA,qS,qU,Nat.reduceEqDiff,qT,E.at,qR,Nat.reduceAdd,Nat.reduceSub,Nat.reduceLeDiff,Nat.reduceMul,qI,qP,qQ,ho1,ho2,ho4]
  refine (names_p h1 h2 h3 h4 h5 h6 ho2).callF rfl (by simpa using hfr) fun z hz => ?_
  obtain ⟨v,d,rfl,hv,hd⟩ := hz
  have hrd := fun o => hd.row o
  have hnl : (nmsV (lp.map DefD.nm)).length = lp.length := by simp [nmsV]
  have hln := h5.len
  have hod : d.one = true := free1_one hd.free
  have e1 : ((0 : Int) ≤ (lp.length : Int)) = True := by simp
  have e2 : ((lp.length : Int) ≤ (lp.length : Int)) = True := by simp
  have e3 : ((lp.length : Int) * 1 ≤ (room : Int)) = True := by unfold room; simp; omega
  have e4 : List.replicate lp.length (V.sc (Value.bool false)) = (List.replicate lp.length false).map bV := by simp
  have hso := hd.solid
  have hce := hd.cells
  have H : PgOk pv d ps lp := ⟨h4,h5,h6,hd⟩
  simp only [c73,c73x1,c73x2,RUA,RUB,RUC,RUD,RUE,RUF,if_true,if_false,Int.reduceEq,Int.reduceLT,Int.reduceLE,qC,qO,qA,qS,qU,Nat.reduceEqDiff,qT,E.at,qR,Nat.reduceAdd,Nat.reduceSub,Nat.reduceLeDiff,Nat.reduceMul,qI,qP,qQ,hrd,hnl,e1,e2,e3,e4,hod,hso,hce,fillC,Int.le_refl,Nat.lt_irrefl,Nat.zero_lt_one]
  refine ⟨?_, ?_⟩
  · exact settle_t0 (vv := vv) (sv := sv) (v := v) H ho1 ho2 hy _ _ (by simp) (by simp) _ _ _ _ _ _ _ _ _ _ _ _ _ _ _ _ _ _ _ _ _ _ _ _ _ _ _ _ _ _ _ _ _ _ _ _ _ _ _ _ _ _ _ _ _ _ _ _ _ _ _ _ _ _ _ _ _ _ _ _ _ _ _ _ _ _ _ _ _ _ _ _ _ _ _ _ _ _ _ _ _ _ _ _ _ _ _ _ _ _ _ _ _ _ _
  · exact settle_t1 (vv := vv) (sv := sv) (v := v) H ho1 ho2 hy _ _ (by simp) (by simp) _ _ _ _ _ _ _ _ _ _ _ _ _ _ _ _ _ _ _ _ _ _ _ _ _ _ _ _ _ _ _ _ _ _ _ _ _ _ _ _ _ _ _ _ _ _ _ _ _ _ _ _ _ _ _ _ _ _ _ _ _ _ _ _ _ _ _ _ _ _ _ _ _ _ _ _ _ _ _ _ _ _ _ _ _ _ _ _ _ _ _ _ _ _ _
end Go.Proofs.Ytfncfdiomolieaa
end

section
set_option linter.unusedVariables false
set_option linter.unusedSimpArgs false
set_option maxRecDepth 100000
set_option maxHeartbeats 8000000
open Go.Proofs.Pe renaming putCells → qC, bslOf → qO, bsaOf → qA, bslS → qS, isUpto → qU, step → qT, intOf → qI, iop → qP, sop → qQ
open List renaming replicate → qR
open Go.Proofs.Pe.V renaming dead → qD
namespace Go.Proofs.Ytfncfdiomolieaa
open Go.Proofs.Pe

abbrev bO (l : List Bool) : O := .arr 0 true 1 (l.map bV)
def FrontsQ (n : Nat) : V → List O → Prop := fun z os' => (n = 0 ∧ z = nilV ∧ os' = []) ∨ ∃ (v : Nat) (ls : List (List Bool)),z = .ar 0 v ∧ ls.length = n ∧ (∀ l ∈ ls,l.length = n) ∧ os' = .arr v true 1 ((List.range n).map fun i => .ar (i + 1) 0) :: ls.map bO
def FrI (n i : Nat) (o : List O) (rv : V) : Prop := (i = 0 ∧ rv = nilV) ∨ ∃ la v cs,rv = .ar la v ∧ o[la]? = some (.arr v true 1 (cs.map fun c => .ar c 0)) ∧ cs.length = i ∧ (∀ c ∈ cs,∃ l : List Bool,l.length = n ∧ o[c]? = some (bO l)) ∧ (la :: cs).Nodup ∧ ∀ x ∈ la :: cs,4 ≤ x
theorem fronts_fin {n : Nat} {o : List O} {rv : V} (h : FrI n n o rv) : ∃ z os',Fin5 0 rv o z os' ∧ FrontsQ n z os' := by
  rcases h with ⟨rfl,rfl⟩ | ⟨la,v,cs,rfl,h1,h2,h3,h4,h5'⟩
  · exact ⟨nilV,[],⟨nilV,o,[],.inr ⟨rfl,rfl⟩,by simp,by simp,rfl,rfl⟩,.inl ⟨rfl,rfl,rfl⟩⟩
  · have hex : ∃ ls : List (List Bool),ls.length = cs.length ∧ (∀ l ∈ ls,l.length = n) ∧ ∀ (i : Nat) c l,cs[i]? = some c → ls[i]? = some l → o[c]? = some (bO l) := by
      clear h1 h2 h4 h5'
      induction cs with
      | nil => exact ⟨[],rfl,by simp,by simp⟩
      | cons c cs ih =>
        obtain ⟨ls,e1,e2,e3⟩ := ih fun c hc => h3 c (by simp [hc])
        obtain ⟨l,f1,f2⟩ := h3 c (by simp)
        refine ⟨l :: ls,by simp [e1],fun l' hl => ?_,fun i c' l' hc hl => ?_⟩
        · rcases List.mem_cons.1 hl with rfl | hl
          · exact f1
          · exact e2 l' hl
        · cases i with
          | zero => simp at hc hl; subst hc hl; exact f2
          | succ i => simp at hc hl; exact e3 i c' l' hc hl
    obtain ⟨ls,e1,e2,e3⟩ := hex
    have hN := h4
    have ho : ∀ (i c : Nat),cs[i]? = some c → outI 0 (la :: cs) c = some (i + 1) := fun i c h => outI_at hN (i := i + 1) (by simpa using h)
    refine ⟨.ar 0 v,.arr v true 1 ((List.range n).map fun i => .ar (i + 1) 0) :: ls.map bO,⟨.ar la v,o,la :: cs,.inr ⟨rfl,rfl⟩,h4,by simp,by rw [mv_ar,outI_at hN (i := 0) rfl]; rfl, ?_⟩,.inr ⟨v,ls,rfl,by omega,e2,rfl⟩⟩
    show mapO _ ([] ++ la :: cs) = _
    rw [List.nil_append,mapO_cons (y := .arr v true 1 ((List.range n).map fun i => .ar (i + 1) 0)) (by
      rw [h1,Option.bind_some,mvO_a,mapO_of (ys := (List.range n).map fun i => V.ar (i + 1) 0) (by simp [h2]) fun i x y hx hy => ?_]
      · rfl
      · simp only [List.getElem?_map,Option.map_eq_some_iff] at hx hy
        obtain ⟨c,hc,rfl⟩ := hx
        obtain ⟨j,hj,rfl⟩ := hy
        have : j = i := by
          rw [List.getElem?_range (by have := (List.getElem?_eq_some_iff.1 hj).1; simpa using this)] at hj; exact (Option.some.inj hj).symm
        subst this
        rw [mv2_ar,ho _ _ hc]; rfl),mapO_of (ys := ls.map bO) (by simp [e1]) fun i c y hc hy => ?_]
    · rfl
    · simp only [List.getElem?_map,Option.map_eq_some_iff] at hy
      obtain ⟨l,hl,rfl⟩ := hy
      rw [e3 i c l hc hl,Option.bind_some,mvO_f (bl_free l)]
theorem FrI.push {n i : Nat} {o : List O} {rv : V} (h : FrI n i o rv) (hi : i < 1000) {l : List Bool} (hl : l.length = n) (h4 : 4 ≤ o.length) :
    ∃ rv' o',appOf 1 24 (o ++ [bO l,.arr 0 true 1 [.ar o.length 0]]) rv (.ar (o.length + 1) 0) = some (rv',o') ∧ FrI n (i + 1) o' rv' ∧ ∀ j,j < 4 → o'[j]? = o[j]? := by
  have hr : rowOf (o ++ [bO l,.arr 0 true 1 [.ar o.length 0]]) (.ar (o.length + 1) 0) = some [.ar o.length 0] := by simp [rowOf]
  have hk : okRowS 1 [V.ar o.length 0] := by simp [okRowS,V.solid,V.one,V.cells]
  have hnew : (o ++ [bO l,.arr 0 true 1 [.ar o.length 0]])[o.length]? = some (bO l) := by simp
  rcases h with ⟨rfl,rfl⟩ | ⟨la,v,cs,rfl,h1,h2,h3,h5,h6⟩
  · refine ⟨_,_,aps_nil hr hk (by simp) (by unfold room; simp),.inr ⟨_,0,[o.length],rfl,by simp,rfl,fun c hc => ?_,by simp,fun x hx => ?_⟩,fun j hj => ?_⟩
    · simp at hc; subst hc
      exact ⟨l,hl,by simp⟩
    · simp at hx; omega
    · rw [List.append_assoc,List.getElem?_append_left (by omega)]
  · have hla := (List.getElem?_eq_some_iff.1 h1).1
    have h1' : (o ++ [bO l,.arr 0 true 1 [.ar o.length 0]])[la]? = some (.arr v true 1 (cs.map fun c => .ar c 0)) := by rw [List.getElem?_append_left hla]; exact h1
    have hlt : ∀ c ∈ cs,c < o.length := fun c hc => by obtain ⟨_,_,h⟩ := h3 c hc; exact (List.getElem?_eq_some_iff.1 h).1
    refine ⟨_,_,aps_ar h1' hr hk (by simp) (by simp [h2]; unfold room; omega),.inr ⟨la,v + 1,cs ++ [o.length],rfl, ?_,by simp [h2],fun c hc => ?_, ?_,fun x hx => ?_⟩,fun j hj => ?_⟩
    · rw [get_set h1']; simp
    · have hne : la ≠ c := by
        rcases List.mem_append.1 hc with hc | hc
        · intro e; subst e; rw [List.nodup_cons] at h5; exact h5.1 hc
        · simp at hc; omega
      rw [List.getElem?_set_ne hne]
      rcases List.mem_append.1 hc with hc | hc
      · obtain ⟨l',e1,e2⟩ := h3 c hc
        exact ⟨l',e1,by rw [List.getElem?_append_left (hlt c hc)]; exact e2⟩
      · simp at hc; subst hc; exact ⟨l,hl,hnew⟩
    · rw [List.nodup_cons] at h5 ⊢
      refine ⟨fun hm => ?_, ?_⟩
      · rcases List.mem_append.1 hm with hm | hm
        · exact h5.1 hm
        · simp at hm; omega
      · rw [List.nodup_append]
        exact ⟨h5.2,by simp,fun a ha b hb => by simp at hb; have := hlt a ha; omega⟩
    · simp at hx
      rcases hx with rfl | hx | rfl
      · exact h6 x (by simp)
      · exact h6 x (by simp [hx])
      · exact h4
    · have : 4 ≤ la := h6 la (by simp)
      rw [List.getElem?_set_ne (by omega),List.getElem?_append_left (by omega)]
theorem fronts_c {vv sv pv : V} {vs ps : List V} {lv : List VarD} {lp : List DefD} (h1 : IsSl 2 vv vs) (h2 : All2 IsVar lv vs) (h3 : vs.length ≤ 1000) (h4 : IsSl 9 pv ps) (h5 : All2 IsDef lp ps) (h6 : ps.length ≤ 1000) (hs : sv.free1 = true) (hok : ∀ x ∈ lp,PrOk x.p) :
    SFn Try.prog T 70 [.agg [vv,sv,pv]] [] (FrontsQ lp.length) := by
  have hfr : (V.agg [vv,sv,pv]).free = true := by simp only [free_agg,List.all_cons,List.all_nil,h1.free,hs,h4.free,Bool.and_self]
  have ho1 : vv.one = true := free1_one h1.free
  have ho2 : sv.one = true := free1_one hs
  have ho4 : pv.one = true := free1_one h4.free
  have hrow := fun o => h4.row o
  have hln := h5.len
  intro yi hy
  refine Call.step hy ?_
  rw [body_eq t70]
  simp only [c70,c70x1,RUA,RUB,RUC,RUD,RUE,RUF,if_true,if_false,Int.reduceEq,Int.reduceLT,Int.reduceLE,qC,qO,qA,qS,qU,Nat.reduceEqDiff,qT,E.at,qR,Nat.reduceAdd,Nat.reduceSub,Nat.reduceLeDiff,Nat.reduceMul,qI,qP,qQ,ho1,ho2,ho4]
  refine (settle_c h1 h2 h3 h4 h5 h6 hs).call0 rfl (by simpa using hfr) fun z os' hq => ?_
  obtain ⟨d,eb,xb,hd,e1,e2,rfl,rfl⟩ := hq
  refine ⟨.pt 1 0,[.cells [d,.ar 2 0,.ar 3 0],bO eb,bO xb],rfl,by simpa using mayS_out (σ := fun i => some (1 + i)) (a := 2) (b := 3) ⟨rfl,rfl⟩ hd.free (r := []) (os := []) rfl, ?_⟩
  have hrd := fun o => hd.row o
  have hnl : (nmsV (lp.map DefD.nm)).length = lp.length := by simp [nmsV]
  have hod : d.one = true := free1_one hd.free
  simp only [List.length_map] at e1 e2
  simp only [c70,c70x1,c70x2,c70x3,c70x4,RUA,RUB,RUC,RUD,RUE,RUF,if_true,if_false,Int.reduceEq,Int.reduceLT,Int.reduceLE,qC,qO,qA,qS,qU,Nat.reduceEqDiff,qT,E.at,qR,Nat.reduceAdd,Nat.reduceSub,Nat.reduceLeDiff,Nat.reduceMul,qI,qP,qQ]
  refine Lfp.inv call_le hy (fun a : Nat × V × List O => ⟨⟨[.dead,.pt 0 0,.dead,.pt 1 0,a.2.1,iV a.1,.dead,.dead,.dead,.dead,.dead,.dead,.dead,.dead,.dead,.dead,.dead,.dead,.dead,.dead,.dead,.dead,.dead,.dead,.dead,.dead,.dead,.dead,.dead,.dead,.dead,.dead,.dead,.dead,.dead,.dead,.dead,.dead],a.2.2⟩,[]⟩) (fun a => lp.length - a.1)
    (fun a => a.1 ≤ lp.length ∧ a.2.2[0]? = some (.cells [vv,sv,pv]) ∧ a.2.2[1]? = some (.cells [d,.ar 2 0,.ar 3 0]) ∧ a.2.2[2]? = some (bO eb) ∧ a.2.2[3]? = some (bO xb) ∧ FrI lp.length a.1 a.2.2 a.2.1) (0,nilV,[.cells [vv,sv,pv],.cells [d,.ar 2 0,.ar 3 0],bO eb,bO xb])
    ⟨Nat.zero_le _,rfl,rfl,rfl,rfl,.inl ⟨rfl,rfl⟩⟩ (by simp only [kill_L,killTs_nil,RUF] <;> rfl) ?_
  rintro ⟨i,rv,o⟩ ⟨hi,g0,g1,g2,g3,hF⟩
  dsimp only at hi g0 g1 g2 g3 hF
  by_cases hlt : i < lp.length
  · have hd1 : decide ((i : Int) < (lp.length : Int)) = true := by simpa using hlt
    obtain ⟨s,pk,pn,pt,qk',qn',qm',ev2,lv2,hx0,hE0,hv1,hv2⟩ := PgOk.get ⟨h4,h5,h6,hd⟩ hlt
    have hI0 := fun o => h4.ix o hx0
    have hf0 := hE0.ok.1
    have hp0 := hok _ (List.getElem_mem hlt)
    have hw1 : IntKind.i64.wrap ((i : Int) + 1) = ((i + 1 : Nat) : Int) := wrap_succ (by omega)
    have f1 : ((0 : Int) ≤ (lp.length : Int)) = True := by simp
    have f3 : ((lp.length : Int) * 1 ≤ (room : Int)) = True := by unfold room; simp; omega
    have f4 : List.replicate lp.length (V.sc (Value.bool false)) = (List.replicate lp.length false).map bV := by simp
    have h4o : 4 ≤ o.length := (List.getElem?_eq_some_iff.1 g3).1
    have a0 : ∀ q,(o ++ q)[0]? = some (.cells [vv,sv,pv]) := fun q => by rw [List.getElem?_append_left (by omega)]; exact g0
    have a1 : ∀ q,(o ++ q)[1]? = some (.cells [d,.ar 2 0,.ar 3 0]) := fun q => by rw [List.getElem?_append_left (by omega)]; exact g1
    have a2 : ∀ q,(o ++ q)[2]? = some (bO eb) := fun q => by rw [List.getElem?_append_left (by omega)]; exact g2
    have a3 : ∀ q,(o ++ q)[3]? = some (bO xb) := fun q => by rw [List.getElem?_append_left (by omega)]; exact g3
    simp only [c70,c70x1,c70x2,c70x3,c70x4,c70x5,c70x6,c70x7,c70x8,RUA,RUB,RUC,RUD,RUE,RUF,if_true,if_false,Int.reduceEq,Int.reduceLT,Int.reduceLE,qC,qO,qA,qS,qU,Nat.reduceEqDiff,qT,E.at,qR,Nat.reduceAdd,Nat.reduceSub,Nat.reduceLeDiff,Nat.reduceMul,qI,qP,qQ,g0,g1,hrd,hnl,hd1,f1,f3,f4,hod,Int.le_refl,Nat.zero_lt_one,a0,a1,hrow,hI0,hv1,hv2]
    have c0 := front_c hd (by simp; omega) (v1 := 0) (v2 := 0) (v := 0) (eb := eb) (xb := xb) (by simpa using e1) (by simpa using e2) _ _ hE0 hp0 (List.replicate lp.length false) (by simp)
    refine SFn.callMw (Q := fun is' => is'.length = (lp.map DefD.nm).length) (l := 1) (a := 2) (b := 3) (c := o.length) c0 rfl hf0 hd.free (a1 _) (a2 _) (a3 _) (by simp) ⟨by decide,by decide,by omega,by decide,by omega,by omega⟩ fun is2 hi2 => ?_
    have hset : ((((o ++ [O.arr 0 true 1 ((List.replicate lp.length false).map bV)]).set 1 (O.cells [d,.ar 2 0,.ar 3 0])).set 2 (bO eb)).set 3 (bO xb)).set o.length (bO is2) = o ++ [bO is2] := by
      have k1 : (o ++ [O.arr 0 true 1 ((List.replicate lp.length false).map bV)]).set 1 (O.cells [d,.ar 2 0,.ar 3 0]) = o ++ [O.arr 0 true 1 ((List.replicate lp.length false).map bV)] := List.ext_getElem? fun j => by
        rw [List.getElem?_set]; split
        · rename_i e; subst e; rw [if_pos (by simp; omega)]; exact (a1 _).symm
        · rfl
      have k2 : (o ++ [O.arr 0 true 1 ((List.replicate lp.length false).map bV)]).set 2 (bO eb) = o ++ [O.arr 0 true 1 ((List.replicate lp.length false).map bV)] := List.ext_getElem? fun j => by
        rw [List.getElem?_set]; split
        · rename_i e; subst e; rw [if_pos (by simp; omega)]; exact (a2 _).symm
        · rfl
      have k3 : (o ++ [O.arr 0 true 1 ((List.replicate lp.length false).map bV)]).set 3 (bO xb) = o ++ [O.arr 0 true 1 ((List.replicate lp.length false).map bV)] := List.ext_getElem? fun j => by
        rw [List.getElem?_set]; split
        · rename_i e; subst e; rw [if_pos (by simp; omega)]; exact (a3 _).symm
        · rfl
      rw [k1,k2,k3]; simp
    rw [hset]
    obtain ⟨rv',o',p1,p2,p3⟩ := hF.push (by omega) (l := is2) (by simpa using hi2) h4o
    have p1' : appOf 1 24 (o ++ [bO is2] ++ [.arr 0 true 1 [.ar o.length 0]]) rv (.ar (o.length + 1) 0) = some (rv',o') := by rw [List.append_assoc]; exact p1
    simp only [c70,c70x1,c70x2,c70x3,c70x4,c70x5,c70x6,c70x7,c70x8,c70x9,c70x10,c70x11,RUA,RUB,RUC,RUD,RUE,RUF,if_true,if_false,Int.reduceEq,Int.reduceLT,Int.reduceLE,qC,qO,qA,qS,qU,Nat.reduceEqDiff,qT,E.at,qR,Nat.reduceAdd,Nat.reduceSub,Nat.reduceLeDiff,Nat.reduceMul,qI,qP,qQ,hw1]
    have hln2 : (o ++ [bO is2]).length = o.length + 1 := by simp
    rw [hln2,p1']
    exact ⟨(i + 1,rv',o'),⟨by simp only; omega,by rw [p3 0 (by omega)]; exact g0,by rw [p3 1 (by omega)]; exact g1,by rw [p3 2 (by omega)]; exact g2,by rw [p3 3 (by omega)]; exact g3,p2⟩,by simp only; omega,rfl⟩
  · have hd1 : decide ((i : Int) < (lp.length : Int)) = false := by simpa using hlt
    obtain rfl : i = lp.length := by omega
    simp only [c70,c70x1,c70x2,c70x3,c70x4,c70x5,c70x6,c70x7,c70x8,c70x9,c70x10,c70x11,RUA,RUB,RUC,RUD,RUE,RUF,if_true,if_false,Int.reduceEq,Int.reduceLT,Int.reduceLE,qC,qO,qA,qS,qU,Nat.reduceEqDiff,qT,E.at,qR,Nat.reduceAdd,Nat.reduceSub,Nat.reduceLeDiff,Nat.reduceMul,qI,qP,qQ,g1,hrd,hnl,hd1]
    exact fronts_fin hF
def RS (c : O) (v n : Nat) (ls : List (List Bool)) : List O := c :: .arr v true 1 ((List.range n).map fun i => .ar (i + 2) 0) :: ls.map bO
theorem RS_row {c : O} {v n : Nat} {ls : List (List Bool)} {i : Nat} (hi : i < n) : ixOf 1 (RS c v n ls) (.ar 1 v) (iV i) = some (.pa 1 v i 0,RS c v n ls) := ix_ar rfl (by simpa using hi)
theorem RS_get {n i : Nat} (hi : i < n) : ((List.range n).map fun i => V.ar (i + 2) 0)[i]? = some (.ar (i + 2) 0) := by simp [hi]
theorem RS_at {c : O} {v n : Nat} {ls : List (List Bool)} {i : Nat} {l : List Bool} (h : ls[i]? = some l) : (RS c v n ls)[i + 2]? = some (bO l) := by simp [RS,h]
theorem RS_ix {c : O} {v n : Nat} {ls : List (List Bool)} {i j : Nat} {l : List Bool} (h : ls[i]? = some l) (hj : j < l.length) : ixOf 1 (RS c v n ls) (.ar (i + 2) 0) (iV j) = some (.pa (i + 2) 0 j 0,RS c v n ls) := ix_ar (RS_at h) (by simpa using hj)
theorem RS_set {c : O} {v n : Nat} {ls : List (List Bool)} {i : Nat} {l : List Bool} : (RS c v n ls).set (i + 2) (bO l) = RS c v n (ls.set i l) := by simp [RS,List.map_set]
def SqOk (n : Nat) (ls : List (List Bool)) : Prop := ls.length = n ∧ ∀ l ∈ ls,l.length = n
theorem SqOk.get {n : Nat} {ls : List (List Bool)} (h : SqOk n ls) {i : Nat} (hi : i < n) : ∃ l,ls[i]? = some l ∧ l.length = n := by
  have : i < ls.length := by rw [h.1]; exact hi
  exact ⟨ls[i],List.getElem?_eq_getElem this,h.2 _ (List.getElem_mem _)⟩
theorem SqOk.set {n : Nat} {ls : List (List Bool)} (h : SqOk n ls) {i : Nat} {l : List Bool} (hl : l.length = n) : SqOk n (ls.set i l) :=
  ⟨by simpa using h.1,fun x hx => by rcases List.mem_or_eq_of_mem_set hx with h1 | h1; exact h.2 x h1; subst h1; exact hl⟩
end Go.Proofs.Ytfncfdiomolieaa
end

section
set_option linter.unusedVariables false
set_option linter.unusedSimpArgs false
set_option maxRecDepth 100000
set_option maxHeartbeats 8000000
open Go.Proofs.Pe renaming putCells → qC, bslOf → qO, bsaOf → qA, bslS → qS, isUpto → qU, step → qT, intOf → qI, iop → qP, sop → qQ
open List renaming replicate → qR
open Go.Proofs.Pe.V renaming dead → qD
namespace Go.Proofs.Ytfncfdiomolieaa
open Go.Proofs.Pe

theorem round_tail {c : O} {v n : Nat} (hn : n ≤ 1000) {ls : List (List Bool)} (hs : SqOk n ls) {yi : Nat → Sem'} (hy : YLe yi yi) (t0 t1 t2 x5 x6 x7 x8 x9 x10 x11 x12 x13 x14 x15 x16 x17 x18 x19 x20 x21 x22 x23 x24 x25 x26 x27 x28 x29 x30 x31 x32 x33 x34 x35 x36 x37 x38 x39 x40 x41 x42 x43 x44 x45 x46 x47 x48 x49 x50 x51 x52 x53 x54 x55 x56 x57 x58 x59 x60 x61 x62 x63 x64 x65 x66 x67 x68 x69 x70 : V) :
    Pe.ev Try.prog T (Pe.Call Try.prog T) Lfp c64x3 none yi ⟨⟨(t0 :: t1 :: t2 :: .ar 1 v :: iV n :: x5 :: x6 :: x7 :: x8 :: x9 :: x10 :: x11 :: x12 :: x13 :: x14 :: x15 :: x16 :: x17 :: x18 :: x19 :: x20 :: x21 :: x22 :: x23 :: x24 :: x25 :: x26 :: x27 :: x28 :: x29 :: x30 :: x31 :: x32 :: x33 :: x34 :: x35 :: x36 :: x37 :: x38 :: x39 :: x40 :: x41 :: x42 :: x43 :: x44 :: x45 :: x46 :: x47 :: x48 :: x49 :: x50 :: x51 :: x52 :: x53 :: x54 :: x55 :: x56 :: x57 :: x58 :: x59 :: x60 :: x61 :: x62 :: x63 :: x64 :: x65 :: x66 :: x67 :: x68 :: x69 :: x70 :: []),RS c v n ls⟩,[]⟩ (endK [Rv.tmp 2] fun y o' => ∃ z o2,freezeT o' y = some (z,o2) ∧ ∃ b : Bool,z = bV b) := by
  simp only [c64x3,c64x4,RUA,RUB,RUC,RUD,RUE,RUF,if_true,if_false,Int.reduceEq,Int.reduceLT,Int.reduceLE,qC,qO,qA,qS,qU,Nat.reduceEqDiff,qT,E.at,qR,Nat.reduceAdd,Nat.reduceSub,Nat.reduceLeDiff,Nat.reduceMul,qI,qP,qQ]
  refine Lfp.inv call_le hy (fun a : Nat × List (List Bool) => ⟨⟨(qD::qD::qD::.ar 1 v :: iV n :: iV a.1 :: qD::qD::qD::qD::qD::qD::qD::qD::qD::qD::qD::qD::qD::qD::qD::qD::qD::qD::qD::qD::qD::qD::qD::qD::qD::qD::qD::qD::qD::qD::qD::qD::qD::qD::qD::qD::qD::qD::qD::qD::qD::qD::qD::qD::qD::qD::qD::qD::qD::qD::qD::qD::qD::qD::qD::qD::qD::qD::qD::qD::qD::qD::qD::qD::qD::[]),RS c v n a.2⟩,[]⟩) (fun a => n - a.1) (fun a => a.1 ≤ n ∧ SqOk n a.2) (0,ls) ⟨Nat.zero_le _,hs⟩ (by simp only [kill_L,killTs_nil,RUF] <;> rfl) ?_
  rintro ⟨k,ls1⟩ ⟨hk,hs1⟩
  dsimp only at hk hs1
  by_cases hlt : k < n
  · have hd1 : decide ((k : Int) < (n : Int)) = true := by simpa using hlt
    have hwk : IntKind.i64.wrap ((k : Int) + 1) = ((k + 1 : Nat) : Int) := wrap_succ (by omega)
    simp only [c64,c64x1,c64x2,c64x3,c64x4,c64x5,c64x6,c64x7,c64x8,RUA,RUB,RUC,RUD,RUE,RUF,if_true,if_false,Int.reduceEq,Int.reduceLT,Int.reduceLE,qC,qO,qA,qS,qU,Nat.reduceEqDiff,qT,E.at,qR,Nat.reduceAdd,Nat.reduceSub,Nat.reduceLeDiff,Nat.reduceMul,qI,qP,qQ,hd1]
    refine Lfp.inv call_le hy (fun a : Nat × List (List Bool) => ⟨⟨(qD::qD::qD::.ar 1 v :: iV n :: iV k :: iV a.1 :: qD::qD::qD::qD::qD::qD::qD::qD::qD::qD::qD::qD::qD::qD::qD::qD::qD::qD::qD::qD::qD::qD::qD::qD::qD::qD::qD::qD::qD::qD::qD::qD::qD::qD::qD::qD::qD::qD::qD::qD::qD::qD::qD::qD::qD::qD::qD::qD::qD::qD::qD::qD::qD::qD::qD::qD::qD::qD::qD::qD::qD::qD::qD::qD::[]),RS c v n a.2⟩,[]⟩) (fun a => n - a.1) (fun a => a.1 ≤ n ∧ SqOk n a.2) (0,ls1) ⟨Nat.zero_le _,hs1⟩ (by simp only [kill_L,killTs_nil,RUF] <;> rfl) ?_
    rintro ⟨i,ls2⟩ ⟨hi,hs2⟩
    dsimp only at hi hs2
    by_cases hlt2 : i < n
    · have hd2 : decide ((i : Int) < (n : Int)) = true := by simpa using hlt2
      have hwi : IntKind.i64.wrap ((i : Int) + 1) = ((i + 1 : Nat) : Int) := wrap_succ (by omega)
      simp only [c64,c64x1,c64x2,c64x3,c64x4,c64x5,c64x6,c64x7,c64x8,c64x9,c64x10,c64x11,c64x12,RUA,RUB,RUC,RUD,RUE,RUF,if_true,if_false,Int.reduceEq,Int.reduceLT,Int.reduceLE,qC,qO,qA,qS,qU,Nat.reduceEqDiff,qT,E.at,qR,Nat.reduceAdd,Nat.reduceSub,Nat.reduceLeDiff,Nat.reduceMul,qI,qP,qQ,hd2]
      refine Lfp.inv call_le hy (fun a : Nat × List (List Bool) => ⟨⟨(qD::qD::qD::.ar 1 v :: iV n :: iV k :: iV i :: iV a.1 :: qD::qD::qD::qD::qD::qD::qD::qD::qD::qD::qD::qD::qD::qD::qD::qD::qD::qD::qD::qD::qD::qD::qD::qD::qD::qD::qD::qD::qD::qD::qD::qD::qD::qD::qD::qD::qD::qD::qD::qD::qD::qD::qD::qD::qD::qD::qD::qD::qD::qD::qD::qD::qD::qD::qD::qD::qD::qD::qD::qD::qD::qD::qD::[]),RS c v n a.2⟩,[]⟩) (fun a => n - a.1) (fun a => a.1 ≤ n ∧ SqOk n a.2) (0,ls2) ⟨Nat.zero_le _,hs2⟩ (by simp only [kill_L,killTs_nil,RUF] <;> rfl) ?_
      rintro ⟨j,ls3⟩ ⟨hj,hs3⟩
      dsimp only at hj hs3
      by_cases hlt3 : j < n
      · have hd3 : decide ((j : Int) < (n : Int)) = true := by simpa using hlt3
        have hwj : IntKind.i64.wrap ((j : Int) + 1) = ((j + 1 : Nat) : Int) := wrap_succ (by omega)
        obtain ⟨li,l1,l2⟩ := hs3.get hlt2
        obtain ⟨lk,l3,l4⟩ := hs3.get hlt
        have b1 : li[j]? = some li[j] := List.getElem?_eq_getElem (by omega)
        have b2 : li[k]? = some li[k] := List.getElem?_eq_getElem (by omega)
        have b3 : lk[j]? = some lk[j] := List.getElem?_eq_getElem (by omega)
        generalize li[j] = p1 at b1
        generalize li[k] = p2 at b2
        generalize lk[j] = p3 at b3
        have m1 : (li.map bV)[j]? = some (bV p1) := by rw [List.getElem?_map,b1]; rfl
        have m2 : (li.map bV)[k]? = some (bV p2) := by rw [List.getElem?_map,b2]; rfl
        have m3 : (lk.map bV)[j]? = some (bV p3) := by rw [List.getElem?_map,b3]; rfl
        have r1 := RS_row (c := c) (v := v) (ls := ls3) hlt2
        have r2 := RS_row (c := c) (v := v) (ls := ls3) hlt
        have q0 : (RS c v n ls3)[1]? = some (.arr v true 1 ((List.range n).map fun i => .ar (i + 2) 0)) := rfl
        have q1 := RS_get hlt2
        have q2 := RS_get hlt
        have x1 := RS_ix (c := c) (v := v) (n := n) l1 (j := j) (by omega)
        have x2 := RS_ix (c := c) (v := v) (n := n) l1 (j := k) (by omega)
        have x3 := RS_ix (c := c) (v := v) (n := n) l3 (j := j) (by omega)
        have a1 := RS_at (c := c) (v := v) (n := n) l1
        have a3 := RS_at (c := c) (v := v) (n := n) l3
        have st : ∀ b,(li.map bV).set j (V.sc (Value.bool b)) = (li.set j b).map bV := fun b => bl_set
        have st2 : ∀ b,(RS c v n ls3).set (i + 2) (.arr 0 true 1 ((li.set j b).map bV)) = RS c v n (ls3.set i (li.set j b)) := fun b => RS_set
        have fin : ∀ b,SqOk n (ls3.set i (li.set j b)) := fun b => hs3.set (by simpa using l2)
        cases p1 <;> cases p2 <;> cases p3
        all_goals
          simp only [c64,c64x1,c64x2,c64x3,c64x4,c64x5,c64x6,c64x7,c64x8,c64x9,c64x10,c64x11,c64x12,c64x13,c64x14,c64x15,c64x16,c64x17,c64x18,c64x19,c64x20,c64x21,c64x22,c64x23,c64x24,c64x25,c64x26,RUA,RUB,RUC,RUD,RUE,RUF,if_true,if_false,Int.reduceEq,Int.reduceLT,Int.reduceLE,qC,qO,qA,qS,qU,Nat.reduceEqDiff,qT,E.at,qR,Nat.reduceAdd,Nat.reduceSub,Nat.reduceLeDiff,Nat.reduceMul,qI,qP,qQ,hd3,r1,r2,q0,q1,q2,x1,x2,x3,a1,a3,m1,m2,m3,st,st2,hwj]
          exact ⟨(j + 1,_),⟨by simp only; omega,fin _⟩,by simp only; omega,rfl⟩
      · have hd3 : decide ((j : Int) < (n : Int)) = false := by simpa using hlt3
        simp only [c64,c64x1,c64x2,c64x3,c64x4,c64x5,c64x6,c64x7,c64x8,c64x9,c64x10,c64x11,c64x12,c64x13,c64x14,c64x15,c64x16,c64x17,c64x18,c64x19,c64x20,c64x21,c64x22,c64x23,c64x24,c64x25,c64x26,RUA,RUB,RUC,RUD,RUE,RUF,if_true,if_false,Int.reduceEq,Int.reduceLT,Int.reduceLE,qC,qO,qA,qS,qU,Nat.reduceEqDiff,qT,E.at,qR,Nat.reduceAdd,Nat.reduceSub,Nat.reduceLeDiff,Nat.reduceMul,qI,qP,qQ,hd3,hwi]
        exact ⟨(i + 1,ls3),⟨by simp only; omega,hs3⟩,by simp only; omega,rfl⟩
    · have hd2 : decide ((i : Int) < (n : Int)) = false := by simpa using hlt2
      simp only [c64,c64x1,c64x2,c64x3,c64x4,c64x5,c64x6,c64x7,c64x8,c64x9,c64x10,c64x11,c64x12,c64x13,c64x14,c64x15,c64x16,c64x17,c64x18,RUA,RUB,RUC,RUD,RUE,RUF,if_true,if_false,Int.reduceEq,Int.reduceLT,Int.reduceLE,qC,qO,qA,qS,qU,Nat.reduceEqDiff,qT,E.at,qR,Nat.reduceAdd,Nat.reduceSub,Nat.reduceLeDiff,Nat.reduceMul,qI,qP,qQ,hd2,hwk]
      exact ⟨(k + 1,ls2),⟨by simp only; omega,hs2⟩,by simp only; omega,rfl⟩
  · have hd1 : decide ((k : Int) < (n : Int)) = false := by simpa using hlt
    simp only [c64,c64x1,c64x2,c64x3,c64x4,c64x5,c64x6,c64x7,c64x19,c64x20,RUA,RUB,RUC,RUD,RUE,RUF,if_true,if_false,Int.reduceEq,Int.reduceLT,Int.reduceLE,qC,qO,qA,qS,qU,Nat.reduceEqDiff,qT,E.at,qR,Nat.reduceAdd,Nat.reduceSub,Nat.reduceLeDiff,Nat.reduceMul,qI,qP,qQ,hd1]
    refine Lfp.inv call_le hy (fun a : Nat => ⟨⟨(qD::qD::qD::.ar 1 v :: iV n :: qD::qD::qD::iV a :: qD::qD::qD::qD::qD::qD::qD::qD::qD::qD::qD::qD::qD::qD::qD::qD::qD::qD::qD::qD::qD::qD::qD::qD::qD::qD::qD::qD::qD::qD::qD::qD::qD::qD::qD::qD::qD::qD::qD::qD::qD::qD::qD::qD::qD::qD::qD::qD::qD::qD::qD::qD::qD::qD::qD::qD::qD::qD::qD::qD::qD::qD::[]),RS c v n ls1⟩,[]⟩) (fun a => n - a) (fun a => a ≤ n) 0 (Nat.zero_le _) (by simp only [kill_L,killTs_nil,RUF] <;> rfl) ?_
    intro i hi
    by_cases hlt2 : i < n
    · have hd2 : decide ((i : Int) < (n : Int)) = true := by simpa using hlt2
      have hwi : IntKind.i64.wrap ((i : Int) + 1) = ((i + 1 : Nat) : Int) := wrap_succ (by omega)
      obtain ⟨li,l1,l2⟩ := hs1.get hlt2
      have b1 : li[i]? = some li[i] := List.getElem?_eq_getElem (by omega)
      generalize li[i] = p1 at b1
      have m1 : (li.map bV)[i]? = some (bV p1) := by rw [List.getElem?_map,b1]; rfl
      have r1 := RS_row (c := c) (v := v) (ls := ls1) hlt2
      have q0 : (RS c v n ls1)[1]? = some (.arr v true 1 ((List.range n).map fun i => .ar (i + 2) 0)) := rfl
      have q1 := RS_get hlt2
      have x1 := RS_ix (c := c) (v := v) (n := n) l1 (j := i) (by omega)
      have a1 := RS_at (c := c) (v := v) (n := n) l1
      cases p1 with
      | true =>
        simp only [c64,c64x1,c64x2,c64x3,c64x4,c64x5,c64x6,c64x7,c64x8,c64x9,c64x10,c64x11,c64x12,c64x13,c64x14,c64x15,c64x16,c64x17,c64x18,c64x19,c64x20,c64x21,c64x22,c64x23,c64x24,c64x25,c64x26,RUA,RUB,RUC,RUD,RUE,RUF,if_true,if_false,Int.reduceEq,Int.reduceLT,Int.reduceLE,qC,qO,qA,qS,qU,Nat.reduceEqDiff,qT,E.at,qR,Nat.reduceAdd,Nat.reduceSub,Nat.reduceLeDiff,Nat.reduceMul,qI,qP,qQ,hd2,r1,q0,q1,x1,a1,m1]
        exact ⟨_,_,rfl,_,rfl⟩
      | false =>
        simp only [c64,c64x1,c64x2,c64x3,c64x4,c64x5,c64x6,c64x7,c64x8,c64x9,c64x10,c64x11,c64x12,c64x13,c64x14,c64x15,c64x16,c64x17,c64x18,c64x19,c64x20,c64x21,c64x22,c64x23,c64x24,c64x25,c64x26,RUA,RUB,RUC,RUD,RUE,RUF,if_true,if_false,Int.reduceEq,Int.reduceLT,Int.reduceLE,qC,qO,qA,qS,qU,Nat.reduceEqDiff,qT,E.at,qR,Nat.reduceAdd,Nat.reduceSub,Nat.reduceLeDiff,Nat.reduceMul,qI,qP,qQ,hd2,r1,q0,q1,x1,a1,m1,hwi]
        exact ⟨i + 1,by omega,by omega,rfl⟩
    · have hd2 : decide ((i : Int) < (n : Int)) = false := by simpa using hlt2
      simp only [c64,c64x1,c64x2,c64x3,c64x4,c64x5,c64x6,c64x7,c64x8,c64x9,c64x10,c64x11,c64x12,c64x13,c64x14,c64x15,c64x16,c64x17,c64x18,c64x19,c64x20,c64x21,c64x22,c64x23,c64x24,c64x25,c64x26,RUA,RUB,RUC,RUD,RUE,RUF,if_true,if_false,Int.reduceEq,Int.reduceLT,Int.reduceLE,qC,qO,qA,qS,qU,Nat.reduceEqDiff,qT,E.at,qR,Nat.reduceAdd,Nat.reduceSub,Nat.reduceLeDiff,Nat.reduceMul,qI,qP,qQ,hd2]
      exact ⟨_,_,rfl,_,rfl⟩
theorem round_p {vv sv pv : V} {vs ps : List V} {lv : List VarD} {lp : List DefD} (h1 : IsSl 2 vv vs) (h2 : All2 IsVar lv vs) (h3 : vs.length ≤ 1000) (h4 : IsSl 9 pv ps) (h5 : All2 IsDef lp ps) (h6 : ps.length ≤ 1000) (hs : sv.free1 = true) (hok : ∀ x ∈ lp,PrOk x.p) (h0 : 0 < lp.length) :
    PFn Try.prog T 64 [.agg [vv,sv,pv]] fun z => ∃ b : Bool,z = bV b := by
  have hfr : (V.agg [vv,sv,pv]).free = true := by simp only [free_agg,List.all_cons,List.all_nil,h1.free,hs,h4.free,Bool.and_self]
  have ho1 : vv.one = true := free1_one h1.free
  have ho2 : sv.one = true := free1_one hs
  have ho4 : pv.one = true := free1_one h4.free
  have hln := h5.len
  intro yi hy
  refine Call.step hy ?_
  rw [body_eq t64]
  simp only [c64,c64x1,RUA,RUB,RUC,RUD,RUE,RUF,if_true,if_false,Int.reduceEq,Int.reduceLT,Int.reduceLE,qC,qO,qA,qS,qU,Nat.reduceEqDiff,qT,E.at,qR,Nat.reduceAdd,Nat.reduceSub,Nat.reduceLeDiff,Nat.reduceMul,qI,qP,qQ,ho1,ho2,ho4]
  refine (fronts_c h1 h2 h3 h4 h5 h6 hs hok).call0 rfl (by simpa using hfr) fun z os' hq => ?_
  rcases hq with ⟨e,_,_⟩ | ⟨v,ls,rfl,e1,e2,rfl⟩
  · omega
  refine ⟨.ar 1 v,.arr v true 1 ((List.range lp.length).map fun i => .ar (i + 2) 0) :: ls.map bO,rfl, ?_, ?_⟩
  · rw [mapO_cons (y := .arr v true 1 ((List.range lp.length).map fun i => .ar (i + 2) 0)) (by
      rw [mvO_a,mapO_of (ys := (List.range lp.length).map fun i => V.ar (i + 2) 0) (by simp) fun i x y hx hy => ?_]
      · rfl
      · simp only [List.getElem?_map,Option.map_eq_some_iff] at hx hy
        obtain ⟨a,ha,rfl⟩ := hx
        obtain ⟨b,hb,rfl⟩ := hy
        rw [ha] at hb; cases hb
        rw [mv2_ar]; simp; omega),mapO_id (fun y hy => ?_)]
    · rfl
    · obtain ⟨l,_,rfl⟩ := List.mem_map.1 hy
      exact mvO_f (bl_free l)
  · have hrow : rowOf (RS (.cells [vv,sv,pv]) v lp.length ls) (.ar 1 v) = some ((List.range lp.length).map fun i => .ar (i + 2) 0) := by simp [rowOf,RS]
    have hl : ((List.range lp.length).map fun i => V.ar (i + 2) 0).length = lp.length := by simp
    have hrs : [O.cells [vv,sv,pv]] ++ O.arr v true 1 ((List.range lp.length).map fun i => .ar (i + 2) 0) :: ls.map bO = RS (.cells [vv,sv,pv]) v lp.length ls := rfl
    rw [hrs]
    simp only [c64,c64x1,c64x2,RUA,RUB,RUC,RUD,RUE,RUF,if_true,if_false,Int.reduceEq,Int.reduceLT,Int.reduceLE,qC,qO,qA,qS,qU,Nat.reduceEqDiff,qT,E.at,qR,Nat.reduceAdd,Nat.reduceSub,Nat.reduceLeDiff,Nat.reduceMul,qI,qP,qQ,hrow,hl]
    exact round_tail (by omega) ⟨e1,e2⟩ hy _ _ _ _ _ _ _ _ _ _ _ _ _ _ _ _ _ _ _ _ _ _ _ _ _ _ _ _ _ _ _ _ _ _ _ _ _ _ _ _ _ _ _ _ _ _ _ _ _ _ _ _ _ _ _ _ _ _ _ _ _ _ _ _ _ _ _ _ _
end Go.Proofs.Ytfncfdiomolieaa
end

section
set_option linter.unusedVariables false
set_option linter.unusedSimpArgs false
set_option maxRecDepth 100000
set_option maxHeartbeats 8000000
open Go.Proofs.Pe renaming putCells → qC, bslOf → qO, bsaOf → qA, bslS → qS, isUpto → qU, step → qT, intOf → qI, iop → qP, sop → qQ
open List renaming replicate → qR
open Go.Proofs.Pe.V renaming dead → qD
namespace Go.Proofs.Ytfncfdiomolieaa
open Go.Proofs.Pe

structure Pg (vv sv pv : V) (vs ps : List V) (lv : List VarD) (ss : List ByteArray) (lp : List DefD) : Prop where
  h1 : IsSl 2 vv vs
  h2 : All2 IsVar lv vs
  h3 : vs.length ≤ 1000
  hs : IsSl 1 sv (nmsV ss)
  hs3 : ss.length ≤ 1000
  h4 : IsSl 9 pv ps
  h5 : All2 IsDef lp ps
  h6 : ps.length ≤ 1000
  hok : ∀ x ∈ lp,PrOk x.p
def LowQ (VN SN DN : List ByteArray) (lp : List DefD) : V → Prop := fun z => ∃ (cv cp : V) (st mn e : Int) ,z = .tup [.agg [cv,iV st,cp,iV mn],iV e] ∧ cv.free1 = true ∧ cp.free1 = true ∧ (e = 0 → ∃ us,IsSl 9 cp us ∧ All2 IsTm (lp.map fun x => lowP VN SN DN x.p) us)
theorem low_err {VN SN DN : List ByteArray} {lp : List DefD} {e : Int} (he : e ≠ 0) (o : List O) : ∃ z o2,freezeT o (.tup [.agg [nilV,iV 0,nilV,iV 0],iV e]) = some (z,o2) ∧ LowQ VN SN DN lp z :=
  ⟨_,_,frzT_tup rfl rfl,nilV,nilV,0,0,e,rfl,rfl,rfl,fun h => absurd h he⟩
theorem frzT_2 {o o1 o2 : List O} {x y x' y' : V} (h1 : freezeD o x = some (x',o1)) (h2 : freezeD o1 y = some (y',o2)) : freezeT o (.tup [x,y]) = some (.tup [x',y'],o2) := by
  simp only [freezeT,freezeDs,h1,h2,Option.map_some]
theorem tail2_frz {n k k2 : Nat} {rv rv2 : V} {vs us : List V} {tl tl2 : List O} (h : Tail n k rv vs tl) (hf : vs.all V.free = true) {o : List O} (hn : o.length = n) : ∃ w tl',freeze1 (o ++ (tl ++ tl2)) rv = some (w,o ++ (tl' ++ tl2)) ∧ IsSl k w vs ∧ tl'.length = tl.length := by
  rcases h with ⟨rfl,rfl,rfl⟩ | ⟨v,wr,rfl,rfl⟩
  · exact ⟨nilV,[],rfl,.inl ⟨rfl,rfl⟩,rfl⟩
  · refine ⟨.sl k false vs,[.arr v false k vs], ?_,.inr ⟨_,rfl⟩,rfl⟩
    simp [freeze1,← hn,hf]
theorem lower_tail {vv sv pv : V} {vs ps : List V} {lv : List VarD} {ss : List ByteArray} {lp : List DefD} (H : Pg vv sv pv vs ps lv ss lp) (h0 : 0 < lp.length) {v d : V} (hv : IsSl 1 v (nmsV (lv.map VarD.nm))) (hd : IsSl 1 d (nmsV (lp.map DefD.nm)))
    {yi : Nat → Sem'} (hy : YLe yi yi) (n mn : Int) (t0 t3 x8 x9 x10 x11 x12 x13 x14 x15 x16 x17 x18 x19 x20 x21 x22 x23 x24 x25 x26 x27 x28 x29 x30 x31 x32 x33 x34 x35 x36 x37 x38 x39 x40 x41 x42 x43 x44 x45 x46 x47 x48 x49 x50 x51 x52 x53 x54 x55 x56 x57 x58 x59 x60 x61 x62 x63 x64 x65 x66 x67 x68 x69 x70 x71 x72 x73 x74 x75 x76 x77 x78 x79 x80 x81 x82 x83 x84 x85 x86 x87 x88 x89 x90 x91 x92 x93 x94 x95 x96 x97 x98 x99 x100 x101 x102 x103 x104 x105 x106 x107 x108 x109 : V) :
    Pe.ev Try.prog T (Pe.Call Try.prog T) Lfp c52x8 none yi ⟨⟨(t0 :: .pt 0 0 :: .pt 1 0 :: t3 :: v :: d :: .pt 2 0 :: .pt 3 0 :: x8 :: x9 :: x10 :: x11 :: x12 :: x13 :: x14 :: x15 :: x16 :: x17 :: x18 :: x19 :: x20 :: x21 :: x22 :: x23 :: x24 :: x25 :: x26 :: x27 :: x28 :: x29 :: x30 :: x31 :: x32 :: x33 :: x34 :: x35 :: x36 :: x37 :: x38 :: x39 :: x40 :: x41 :: x42 :: x43 :: x44 :: x45 :: x46 :: x47 :: x48 :: x49 :: x50 :: x51 :: x52 :: x53 :: x54 :: x55 :: x56 :: x57 :: x58 :: x59 :: x60 :: x61 :: x62 :: x63 :: x64 :: x65 :: x66 :: x67 :: x68 :: x69 :: x70 :: x71 :: x72 :: x73 :: x74 :: x75 :: x76 :: x77 :: x78 :: x79 :: x80 :: x81 :: x82 :: x83 :: x84 :: x85 :: x86 :: x87 :: x88 :: x89 :: x90 :: x91 :: x92 :: x93 :: x94 :: x95 :: x96 :: x97 :: x98 :: x99 :: x100 :: x101 :: x102 :: x103 :: x104 :: x105 :: x106 :: x107 :: x108 :: x109 :: []),[.cells [vv,sv,pv],.cells [nilV,iV 0,nilV,iV 0],.cells [v,sv,d,bV false],.cells [nilV,iV n,nilV,iV mn]]⟩,[]⟩
      (endK [Rv.cell 2 true 4,Rv.tmp 3] fun y o' => ∃ z o2,freezeT o' y = some (z,o2) ∧ LowQ (lv.map VarD.nm) ss (lp.map DefD.nm) lp z) := by
  have hfr : (V.agg [vv,sv,pv]).free = true := by simp only [free_agg,List.all_cons,List.all_nil,H.h1.free,H.hs.free,H.h4.free,Bool.and_self]
  have ho1 : vv.one = true := free1_one H.h1.free
  have ho2 : sv.one = true := free1_one H.hs.free
  have ho4 : pv.one = true := free1_one H.h4.free
  have hov : v.one = true := free1_one hv.free
  have hod : d.one = true := free1_one hd.free
  have hr1 := fun o => H.h1.row o
  have hr4 := fun o => H.h4.row o
  have hl2 := H.h2.len
  have hl5 := H.h5.len
  have g3 := H.h3
  have g6 := H.h6
  have L : Low v sv d (lv.map VarD.nm) ss (lp.map DefD.nm) := ⟨hv,by simp; omega,H.hs,H.hs3,hd,by simp; omega⟩
  simp only [c52x8,c52x9,RUA,RUB,RUC,RUD,RUE,RUF,if_true,if_false,Int.reduceEq,Int.reduceLT,Int.reduceLE,qC,qO,qA,qS,qU,Nat.reduceEqDiff,qT,E.at,qR,Nat.reduceAdd,Nat.reduceSub,Nat.reduceLeDiff,Nat.reduceMul,qI,qP,qQ]
  refine Lfp.inv call_le hy (fun a : Nat × V × List O => ⟨⟨(qD::.pt 0 0 :: .pt 1 0 :: qD::qD::qD::.pt 2 0 :: .pt 3 0 :: iV a.1 :: qD::qD::qD::qD::qD::qD::qD::qD::qD::qD::qD::qD::qD::qD::qD::qD::qD::qD::qD::qD::qD::qD::qD::qD::qD::qD::qD::qD::qD::qD::qD::qD::qD::qD::qD::qD::qD::qD::qD::qD::qD::qD::qD::qD::qD::qD::qD::qD::qD::qD::qD::qD::qD::qD::qD::qD::qD::qD::qD::qD::qD::qD::qD::qD::qD::qD::qD::qD::qD::qD::qD::qD::qD::qD::qD::qD::qD::qD::qD::qD::qD::qD::qD::qD::qD::qD::qD::qD::qD::qD::qD::qD::qD::qD::qD::qD::qD::qD::qD::qD::qD::[]),.cells [vv,sv,pv] :: .cells [nilV,iV 0,nilV,iV 0] :: .cells [v,sv,d,bV false] :: .cells [a.2.1,iV n,nilV,iV mn] :: a.2.2⟩,[]⟩) (fun a => vs.length - a.1)
    (fun a => a.1 ≤ vs.length ∧ ∃ us,Tail 4 1 a.2.1 us a.2.2 ∧ us.length = a.1 ∧ us.all V.free = true) (0,nilV,[]) ⟨Nat.zero_le _,[],.nil _ _,rfl,rfl⟩ (by simp only [kill_L,killTs_nil,RUF] <;> rfl) ?_
  rintro ⟨i,rv,tl⟩ ⟨hi,us,hT,hul,huf⟩
  dsimp only at hi hT hul
  by_cases hlt : i < vs.length
  · have hd1 : decide ((i : Int) < (vs.length : Int)) = true := by simpa using hlt
    have hx : vs[i]? = some vs[i] := List.getElem?_eq_getElem hlt
    have hxl : lv[i]? = some lv[i] := List.getElem?_eq_getElem (by omega)
    have hE := H.h2.get hx hxl
    generalize vs[i] = u at hx hE
    generalize lv[i] = x at hxl hE
    rcases x with ⟨s,m⟩
    obtain rfl := hE
    have hI := fun o => H.h1.ix o hx
    have hw1 : IntKind.i64.wrap ((i : Int) + 1) = ((i + 1 : Nat) : Int) := wrap_succ (by omega)
    obtain ⟨rv',tl',p1,p2⟩ := hT.push (b := 8) (f := true) (y := iV m) rfl (by rw [hul]; unfold room; omega) (o := [.cells [vv,sv,pv],.cells [nilV,iV 0,nilV,iV 0],.cells [v,sv,d,bV false],.cells [rv,iV n,nilV,iV mn]]) rfl
    simp only [List.cons_append,List.nil_append] at p1
    have hs := p2.shape
    simp only [c52,c52x1,c52x2,c52x3,c52x4,c52x5,c52x6,c52x7,c52x8,c52x9,c52x10,c52x11,c52x12,c52x13,RUA,RUB,RUC,RUD,RUE,RUF,if_true,if_false,Int.reduceEq,Int.reduceLT,Int.reduceLE,qC,qO,qA,qS,qU,Nat.reduceEqDiff,qT,E.at,qR,Nat.reduceAdd,Nat.reduceSub,Nat.reduceLeDiff,Nat.reduceMul,qI,qP,qQ,hd1,hI,hr1,p1,hw1,hs.1,hs.2.1,hs.2.2]
    exact ⟨(i + 1,rv',tl'),⟨by simp only; omega,us ++ [iV m],p2,by simp [hul],by simpa [List.all_append,V.free,V.free1] using huf⟩,by simp only; omega,rfl⟩
  have hd1 : decide ((i : Int) < (vs.length : Int)) = false := by simpa using hlt
  have hs1 := hT.shape
  simp only [c52,c52x1,c52x2,c52x3,c52x4,c52x5,c52x6,c52x7,c52x8,c52x9,c52x10,c52x11,c52x12,c52x13,c52x14,c52x15,RUA,RUB,RUC,RUD,RUE,RUF,if_true,if_false,Int.reduceEq,Int.reduceLT,Int.reduceLE,qC,qO,qA,qS,qU,Nat.reduceEqDiff,qT,E.at,qR,Nat.reduceAdd,Nat.reduceSub,Nat.reduceLeDiff,Nat.reduceMul,qI,qP,qQ,hd1,hr1]
  refine Lfp.inv call_le hy (fun a : Nat × V × List O => ⟨⟨(qD::.pt 0 0 :: .pt 1 0 :: qD::qD::qD::.pt 2 0 :: .pt 3 0 :: qD::iV a.1 :: qD::qD::qD::qD::qD::qD::qD::qD::qD::qD::qD::qD::qD::qD::qD::qD::qD::qD::qD::qD::qD::qD::qD::qD::qD::qD::qD::qD::qD::qD::qD::qD::qD::qD::qD::qD::qD::qD::qD::qD::qD::qD::qD::qD::qD::qD::qD::qD::qD::qD::qD::qD::qD::qD::qD::qD::qD::qD::qD::qD::qD::qD::qD::qD::qD::qD::qD::qD::qD::qD::qD::qD::qD::qD::qD::qD::qD::qD::qD::qD::qD::qD::qD::qD::qD::qD::qD::qD::qD::qD::qD::qD::qD::qD::qD::qD::qD::qD::qD::qD::[]),(.cells [vv,sv,pv] :: .cells [nilV,iV 0,nilV,iV 0] :: .cells [v,sv,d,bV (false || (lp.take a.1).any fun x => badP (lv.map VarD.nm) ss (lp.map DefD.nm) x.p)] :: .cells [rv,iV n,a.2.1,iV mn] :: tl) ++ a.2.2⟩,[]⟩) (fun a => ps.length - a.1)
    (fun a => a.1 ≤ ps.length ∧ ∃ us,Tail (tl.length + 4) 9 a.2.1 us a.2.2 ∧ All2 IsTm ((lp.map fun x => lowP (lv.map VarD.nm) ss (lp.map DefD.nm) x.p).take a.1) us) (0,nilV,[]) ⟨Nat.zero_le _,[],.nil _ _,rfl⟩ (by simp only [kill_L,killTs_nil,RUF,List.append_nil,List.take_zero,List.any_nil,Bool.or_false] <;> rfl) ?_
  rintro ⟨j,rv2,tl2⟩ ⟨hj,us2,hT2,hA⟩
  dsimp only at hj hT2 hA
  have hul2 := hA.len
  have hs2 := hT2.shape
  by_cases hlt : j < ps.length
  · have hd1 : decide ((j : Int) < (ps.length : Int)) = true := by simpa using hlt
    obtain ⟨s,pk,pn,pt,qk',qn',qm',ev2,lv2,hx0,hE0,hv1,hv2⟩ := PgOk.get ⟨H.h4,H.h5,H.h6,hd⟩ (show j < lp.length by omega)
    have hxl : lp[j]? = some lp[j] := List.getElem?_eq_getElem (by omega)
    generalize lp[j] = x at hxl hE0
    have hI0 := fun o => H.h4.ix o hx0
    have hf0 := hE0.ok.1
    have hw1 : IntKind.i64.wrap ((j : Int) + 1) = ((j + 1 : Nat) : Int) := wrap_succ (by omega)
    simp only [c52,c52x1,c52x2,c52x3,c52x4,c52x5,c52x6,c52x7,c52x8,c52x9,c52x10,c52x11,c52x12,c52x13,c52x14,c52x15,c52x16,c52x17,c52x18,RUA,RUB,RUC,RUD,RUE,RUF,if_true,if_false,Int.reduceEq,Int.reduceLT,Int.reduceLE,qC,qO,qA,qS,qU,Nat.reduceEqDiff,qT,E.at,qR,Nat.reduceAdd,Nat.reduceSub,Nat.reduceLeDiff,Nat.reduceMul,qI,qP,qQ,hr4,hd1,hI0,hv1,hv2]
    refine ⟨?_, ?_⟩
    all_goals
      refine (proc_c L _ _ hE0 _).call1 rfl (by simpa using hf0) rfl (L.fr _) fun z os' hq => ?_
      obtain ⟨hz,rfl⟩ := hq
      refine ⟨_,rfl,L.fr _,freeT_of hz.ok.1, ?_⟩
      have hz1 := hz.ok
      have hz4 : decide (z.cells.length = 9) = true := by simpa using hz1.2
      obtain ⟨rv',tl',p1,p2⟩ := hT2.push (b := 120) (f := true) (y := z) (okRow1 hz.ok) (by rw [hul2]; simp; unfold room; omega) (o := .cells [vv,sv,pv] :: .cells [nilV,iV 0,nilV,iV 0] :: .cells [v,sv,d,bV ((false || (lp.take j).any fun x => badP (lv.map VarD.nm) ss (lp.map DefD.nm) x.p) || badP (lv.map VarD.nm) ss (lp.map DefD.nm) x.p)] :: .cells [rv,iV n,rv2,iV mn] :: tl) (by simp)
      simp only [List.cons_append] at p1
      have hs3 := p2.shape
      simp only [c52,c52x1,c52x2,c52x3,c52x4,c52x5,c52x6,c52x7,c52x8,c52x9,c52x10,c52x11,c52x12,c52x13,c52x14,c52x15,c52x16,c52x17,c52x18,c52x19,RUA,RUB,RUC,RUD,RUE,RUF,if_true,if_false,Int.reduceEq,Int.reduceLT,Int.reduceLE,qC,qO,qA,qS,qU,Nat.reduceEqDiff,qT,E.at,qR,Nat.reduceAdd,Nat.reduceSub,Nat.reduceLeDiff,Nat.reduceMul,qI,qP,qQ,hz1.1,hz4,p1,hw1,hs1.1,hs2.1,hs3.1,hs3.2.1,hs3.2.2]
      refine ⟨(j + 1,rv',tl'),⟨by simp only; omega,us2 ++ [z],p2, ?_⟩,by simp only; omega, ?_⟩
      · simp only [take_succ_map hxl]
        exact hA.snoc hz
      · simp only [take_succ_any hxl,Bool.or_assoc,List.cons_append]
        try rfl
  have hd1 : decide ((j : Int) < (ps.length : Int)) = false := by simpa using hlt
  rw [List.take_of_length_le (by simp; omega)] at hA
  cases hb : (lp.take j).any fun x => badP (lv.map VarD.nm) ss (lp.map DefD.nm) x.p with
  | true =>
    simp only [c52,c52x1,c52x2,c52x3,c52x4,c52x5,c52x6,c52x7,c52x8,c52x9,c52x10,c52x11,c52x12,c52x13,c52x14,c52x15,c52x16,c52x17,c52x18,c52x19,c52x20,c52x21,c52x22,RUA,RUB,RUC,RUD,RUE,RUF,if_true,if_false,Int.reduceEq,Int.reduceLT,Int.reduceLE,qC,qO,qA,qS,qU,Nat.reduceEqDiff,qT,E.at,qR,Nat.reduceAdd,Nat.reduceSub,Nat.reduceLeDiff,Nat.reduceMul,qI,qP,qQ,Bool.or_false,hr4,hd1,hb,fillC,rets,List.take]
    exact low_err (e := 4) (by decide) _
  | false =>
  by_cases hm : mn < 0
  · have hd2 : decide (mn < 0) = true := by simpa using hm
    simp only [c52,c52x1,c52x2,c52x3,c52x4,c52x5,c52x6,c52x7,c52x8,c52x9,c52x10,c52x11,c52x12,c52x13,c52x14,c52x15,c52x16,c52x17,c52x18,c52x19,c52x20,c52x21,c52x22,RUA,RUB,RUC,RUD,RUE,RUF,if_true,if_false,Int.reduceEq,Int.reduceLT,Int.reduceLE,qC,qO,qA,qS,qU,Nat.reduceEqDiff,qT,E.at,qR,Nat.reduceAdd,Nat.reduceSub,Nat.reduceLeDiff,Nat.reduceMul,qI,qP,qQ,Bool.or_false,hr4,hd1,hb,hd2,hs1.1,hs2.1,fillC,rets,List.take]
    exact low_err (e := 6) (by decide) _
  have hd2 : decide (mn < 0) = false := by simpa using hm
  simp only [c52,c52x1,c52x2,c52x3,c52x4,c52x5,c52x6,c52x7,c52x8,c52x9,c52x10,c52x11,c52x12,c52x13,c52x14,c52x15,c52x16,c52x17,c52x18,c52x19,c52x20,c52x21,c52x22,c52x23,RUA,RUB,RUC,RUD,RUE,RUF,if_true,if_false,Int.reduceEq,Int.reduceLT,Int.reduceLE,qC,qO,qA,qS,qU,Nat.reduceEqDiff,qT,E.at,qR,Nat.reduceAdd,Nat.reduceSub,Nat.reduceLeDiff,Nat.reduceMul,qI,qP,qQ,Bool.or_false,hr4,hd1,hb,hd2,hs1.1,hs2.1,ho1,ho2,ho4]
  refine (round_p H.h1 H.h2 H.h3 H.h4 H.h5 H.h6 H.hs.free H.hok h0).callB rfl (cf1 hfr _) (fun z hz => by obtain ⟨b,rfl⟩ := hz; rfl) fun z hz => ?_
  obtain ⟨b,rfl⟩ := hz
  cases b with
  | true =>
    simp only [c52,c52x1,c52x2,c52x3,c52x4,c52x5,c52x6,c52x7,c52x8,c52x9,c52x10,c52x11,c52x12,c52x13,c52x14,c52x15,c52x16,c52x17,c52x18,c52x19,c52x20,c52x21,c52x22,c52x23,RUA,RUB,RUC,RUD,RUE,RUF,if_true,if_false,Int.reduceEq,Int.reduceLT,Int.reduceLE,qC,qO,qA,qS,qU,Nat.reduceEqDiff,qT,E.at,qR,Nat.reduceAdd,Nat.reduceSub,Nat.reduceLeDiff,Nat.reduceMul,qI,qP,qQ,fillC,rets,List.take]
    exact low_err (e := 7) (by decide) _
  | false =>
  simp only [c52,c52x1,c52x2,c52x3,c52x4,c52x5,c52x6,c52x7,c52x8,c52x9,c52x10,c52x11,c52x12,c52x13,c52x14,c52x15,c52x16,c52x17,c52x18,c52x19,c52x20,c52x21,c52x22,c52x23,c52x24,RUA,RUB,RUC,RUD,RUE,RUF,if_true,if_false,Int.reduceEq,Int.reduceLT,Int.reduceLE,qC,qO,qA,qS,qU,Nat.reduceEqDiff,qT,E.at,qR,Nat.reduceAdd,Nat.reduceSub,Nat.reduceLeDiff,Nat.reduceMul,qI,qP,qQ,hs1.1,hs2.1,hs1.2.1,hs1.2.2,hs2.2.1,hs2.2.2,rets,List.take]
  obtain ⟨w1,tl',f1,f2,f3⟩ := tail2_frz (k2 := 9) (rv2 := rv2) (us := us2) (tl2 := tl2) hT huf (o := [.cells [vv,sv,pv],.cells [rv,iV n,rv2,iV mn],.cells [v,sv,d,bV false],.cells [rv,iV n,rv2,iV mn]]) rfl
  obtain ⟨w2,tl3,f4,f5⟩ := hT2.frz1 (hA.free fun _ _ h => h.ok.1) (o := .cells [vv,sv,pv] :: .cells [rv,iV n,rv2,iV mn] :: .cells [v,sv,d,bV false] :: .cells [rv,iV n,rv2,iV mn] :: tl') (by simp [f3])
  simp only [List.cons_append,List.nil_append] at f1 f4
  have hz : freezes (.cells [vv,sv,pv] :: .cells [rv,iV n,rv2,iV mn] :: .cells [v,sv,d,bV false] :: .cells [rv,iV n,rv2,iV mn] :: (tl ++ tl2)) [rv,iV n,rv2,iV mn] = some ([w1,iV n,w2,iV mn],.cells [vv,sv,pv] :: .cells [rv,iV n,rv2,iV mn] :: .cells [v,sv,d,bV false] :: .cells [rv,iV n,rv2,iV mn] :: (tl' ++ tl3)) := by
    rw [frzs_cons f1,frzs_cons (y := iV n) rfl,frzs_cons f4,frzs_cons (y := iV mn) rfl]; rfl
  have hz2 : freezeD (.cells [vv,sv,pv] :: .cells [rv,iV n,rv2,iV mn] :: .cells [v,sv,d,bV false] :: .cells [rv,iV n,rv2,iV mn] :: (tl ++ tl2)) (.agg [rv,iV n,rv2,iV mn]) = some (.agg [w1,iV n,w2,iV mn],.cells [vv,sv,pv] :: .cells [rv,iV n,rv2,iV mn] :: .cells [v,sv,d,bV false] :: .cells [rv,iV n,rv2,iV mn] :: (tl' ++ tl3)) := by
    simp only [freezeD,Pe.freeze,hz,Option.map_some]
  have hz3 : ∀ o,freezeD o (V.sc (Value.int IntKind.i64 0)) = some (iV 0,o) := fun o => rfl
  have hz4 := frzT_2 hz2 (hz3 _)
  exact ⟨.tup [.agg [w1,iV n,w2,iV mn],iV 0],_,hz4,w1,w2,n,mn,0,rfl,f2.free,f5.free,fun _ => ⟨us2,f5,hA⟩⟩
theorem lower_b {vv sv pv : V} {vs ps : List V} {lv : List VarD} {ss : List ByteArray} {lp : List DefD} (H : Pg vv sv pv vs ps lv ss lp) (h0 : 0 < lp.length) :
    PFn Try.prog T 52 [.agg [vv,sv,pv]] (LowQ (lv.map VarD.nm) ss (lp.map DefD.nm) lp) := by
  have hfr : (V.agg [vv,sv,pv]).free = true := by simp only [free_agg,List.all_cons,List.all_nil,H.h1.free,H.hs.free,H.h4.free,Bool.and_self]
  have ho1 : vv.one = true := free1_one H.h1.free
  have ho2 : sv.one = true := free1_one H.hs.free
  have ho4 : pv.one = true := free1_one H.h4.free
  have hr1 := fun o => H.h1.row o
  have hr2 := fun o => H.hs.row o
  have hr4 := fun o => H.h4.row o
  have hsl := nms_len ss
  have hl2 := H.h2.len
  have hl5 := H.h5.len
  have g3 := H.h3
  have g6 := H.h6
  have gs3 := H.hs3
  intro yi hy
  refine Call.step hy ?_
  rw [body_eq t52]
  by_cases c1 : (20 : Int) < (vs.length : Int)
  · have d1 : decide ((20 : Int) < (vs.length : Int)) = true := by simpa using c1
    simp only [c52,c52x1,c52x2,RUA,RUB,RUC,RUD,RUE,RUF,if_true,if_false,Int.reduceEq,Int.reduceLT,Int.reduceLE,qC,qO,qA,qS,qU,Nat.reduceEqDiff,qT,E.at,qR,Nat.reduceAdd,Nat.reduceSub,Nat.reduceLeDiff,Nat.reduceMul,qI,qP,qQ,ho1,ho2,ho4,hr1,d1,fillC,rets,List.take]
    exact low_err (e := 3) (by decide) _
  have d1 : decide ((20 : Int) < (vs.length : Int)) = false := by simpa using c1
  by_cases c2 : (10 : Int) < (ss.length : Int)
  · have d2 : decide ((10 : Int) < (ss.length : Int)) = true := by simpa using c2
    simp only [c52,c52x1,c52x2,RUA,RUB,RUC,RUD,RUE,RUF,if_true,if_false,Int.reduceEq,Int.reduceLT,Int.reduceLE,qC,qO,qA,qS,qU,Nat.reduceEqDiff,qT,E.at,qR,Nat.reduceAdd,Nat.reduceSub,Nat.reduceLeDiff,Nat.reduceMul,qI,qP,qQ,ho1,ho2,ho4,hr1,hr2,hsl,d1,d2,fillC,rets,List.take]
    exact low_err (e := 3) (by decide) _
  have d2 : decide ((10 : Int) < (ss.length : Int)) = false := by simpa using c2
  by_cases c3 : (20 : Int) < (ps.length : Int)
  · have d3 : decide ((20 : Int) < (ps.length : Int)) = true := by simpa using c3
    simp only [c52,c52x1,c52x2,RUA,RUB,RUC,RUD,RUE,RUF,if_true,if_false,Int.reduceEq,Int.reduceLT,Int.reduceLE,qC,qO,qA,qS,qU,Nat.reduceEqDiff,qT,E.at,qR,Nat.reduceAdd,Nat.reduceSub,Nat.reduceLeDiff,Nat.reduceMul,qI,qP,qQ,ho1,ho2,ho4,hr1,hr2,hr4,hsl,d1,d2,d3,fillC,rets,List.take]
    exact low_err (e := 3) (by decide) _
  have d3 : decide ((20 : Int) < (ps.length : Int)) = false := by simpa using c3
  simp only [c52,c52x1,c52x2,c52x3,RUA,RUB,RUC,RUD,RUE,RUF,if_true,if_false,Int.reduceEq,Int.reduceLT,Int.reduceLE,qC,qO,qA,qS,qU,Nat.reduceEqDiff,qT,E.at,qR,Nat.reduceAdd,Nat.reduceSub,Nat.reduceLeDiff,Nat.reduceMul,qI,qP,qQ,ho1,ho2,ho4,hr1,hr2,hr4,hsl,d1,d2,d3]
  refine (names_p H.h1 H.h2 g3 H.h4 H.h5 g6 ho2).callF rfl (by simpa using hfr) fun z hz => ?_
  obtain ⟨v,d,rfl,hv,hd⟩ := hz
  have hov : v.one = true := free1_one hv.free
  have hod : d.one = true := free1_one hd.free
  simp only [c52,c52x1,c52x2,c52x3,c52x4,RUA,RUB,RUC,RUD,RUE,RUF,if_true,if_false,Int.reduceEq,Int.reduceLT,Int.reduceLE,qC,qO,qA,qS,qU,Nat.reduceEqDiff,qT,E.at,qR,Nat.reduceAdd,Nat.reduceSub,Nat.reduceLeDiff,Nat.reduceMul,qI,qP,qQ]
  refine (twice_p hv (by unfold maxLen; simp; omega)).callE rfl (cf1 hv.freeV _) rfl ?_
  cases b1 : twiceB (lv.map VarD.nm) with
  | true =>
    simp only [c52,c52x1,c52x2,c52x3,c52x4,c52x5,RUA,RUB,RUC,RUD,RUE,RUF,if_true,if_false,Int.reduceEq,Int.reduceLT,Int.reduceLE,qC,qO,qA,qS,qU,Nat.reduceEqDiff,qT,E.at,qR,Nat.reduceAdd,Nat.reduceSub,Nat.reduceLeDiff,Nat.reduceMul,qI,qP,qQ,fillC,rets,List.take]
    exact low_err (e := 5) (by decide) _
  | false =>
  simp only [c52,c52x1,c52x2,c52x3,c52x4,RUA,RUB,RUC,RUD,RUE,RUF,if_true,if_false,Int.reduceEq,Int.reduceLT,Int.reduceLE,qC,qO,qA,qS,qU,Nat.reduceEqDiff,qT,E.at,qR,Nat.reduceAdd,Nat.reduceSub,Nat.reduceLeDiff,Nat.reduceMul,qI,qP,qQ]
  refine (twice_p H.hs (by unfold maxLen; omega)).callE rfl (cf1 H.hs.freeV _) rfl ?_
  cases b2 : twiceB ss with
  | true =>
    simp only [c52,c52x1,c52x2,c52x3,c52x4,c52x5,RUA,RUB,RUC,RUD,RUE,RUF,if_true,if_false,Int.reduceEq,Int.reduceLT,Int.reduceLE,qC,qO,qA,qS,qU,Nat.reduceEqDiff,qT,E.at,qR,Nat.reduceAdd,Nat.reduceSub,Nat.reduceLeDiff,Nat.reduceMul,qI,qP,qQ,fillC,rets,List.take]
    exact low_err (e := 5) (by decide) _
  | false =>
  simp only [c52,c52x1,c52x2,c52x3,c52x4,RUA,RUB,RUC,RUD,RUE,RUF,if_true,if_false,Int.reduceEq,Int.reduceLT,Int.reduceLE,qC,qO,qA,qS,qU,Nat.reduceEqDiff,qT,E.at,qR,Nat.reduceAdd,Nat.reduceSub,Nat.reduceLeDiff,Nat.reduceMul,qI,qP,qQ]
  refine (twice_p hd (by unfold maxLen; simp; omega)).callE rfl (cf1 hd.freeV _) rfl ?_
  cases b3 : twiceB (lp.map DefD.nm) with
  | true =>
    simp only [c52,c52x1,c52x2,c52x3,c52x4,c52x5,RUA,RUB,RUC,RUD,RUE,RUF,if_true,if_false,Int.reduceEq,Int.reduceLT,Int.reduceLE,qC,qO,qA,qS,qU,Nat.reduceEqDiff,qT,E.at,qR,Nat.reduceAdd,Nat.reduceSub,Nat.reduceLeDiff,Nat.reduceMul,qI,qP,qQ,fillC,rets,List.take]
    exact low_err (e := 5) (by decide) _
  | false =>
  have hsv := hv.solid
  have hsd := hd.solid
  have hcv := hv.cells
  have hcd := hd.cells
  have hss := H.hs.solid
  have hcs := H.hs.cells
  simp only [c52,c52x1,c52x2,c52x3,c52x4,c52x5,c52x6,RUA,RUB,RUC,RUD,RUE,RUF,if_true,if_false,Int.reduceEq,Int.reduceLT,Int.reduceLE,qC,qO,qA,qS,qU,Nat.reduceEqDiff,qT,E.at,qR,Nat.reduceAdd,Nat.reduceSub,Nat.reduceLeDiff,Nat.reduceMul,qI,qP,qQ,ho2,hov,hod,fillC,hsv,hsd,hcv,hcd,hss,hcs]
  simp only [c52,c52x1,c52x2,c52x3,c52x4,c52x5,c52x6,c52x7,RUA,RUB,RUC,RUD,RUE,RUF,if_true,if_false,Int.reduceEq,Int.reduceLT,Int.reduceLE,qC,qO,qA,qS,qU,Nat.reduceEqDiff,qT,E.at,qR,Nat.reduceAdd,Nat.reduceSub,Nat.reduceLeDiff,Nat.reduceMul,qI,qP,qQ,hr2,hsl]
  refine ⟨?_, ?_⟩
  all_goals
    refine (find_p hd (by unfold maxLen; simp; omega) _).callE rfl (find_fr hd _ _) rfl ?_
    simp only [c52,c52x1,c52x2,c52x3,c52x4,c52x5,c52x6,c52x7,RUA,RUB,RUC,RUD,RUE,RUF,if_true,if_false,Int.reduceEq,Int.reduceLT,Int.reduceLE,qC,qO,qA,qS,qU,Nat.reduceEqDiff,qT,E.at,qR,Nat.reduceAdd,Nat.reduceSub,Nat.reduceLeDiff,Nat.reduceMul,qI,qP,qQ,fillC]
    exact lower_tail H h0 hv hd hy _ _ _ _ _ _ _ _ _ _ _ _ _ _ _ _ _ _ _ _ _ _ _ _ _ _ _ _ _ _ _ _ _ _ _ _ _ _ _ _ _ _ _ _ _ _ _ _ _ _ _ _ _ _ _ _ _ _ _ _ _ _ _ _ _ _ _ _ _ _ _ _ _ _ _ _ _ _ _ _ _ _ _ _ _ _ _ _ _ _ _ _ _ _ _ _ _ _ _ _ _ _ _ _ _ _
end Go.Proofs.Ytfncfdiomolieaa
end

section
set_option linter.unusedVariables false
set_option linter.unusedSimpArgs false
set_option maxRecDepth 100000
set_option maxHeartbeats 8000000
open Go.Proofs.Pe renaming putCells → qC, bslOf → qO, bsaOf → qA, bslS → qS, isUpto → qU, step → qT, intOf → qI, iop → qP, sop → qQ
open List renaming replicate → qR
open Go.Proofs.Pe.V renaming dead → qD
namespace Go.Proofs.Ytfncfdiomolieaa
open Go.Proofs.Pe
theorem IsTm.agg {p : Tm} {b : V} (h : IsTm p b) : ∃ k a c nm ek en em ev lv,b = .agg [iV k,iV a,iV c,sV nm,iV ek,iV en,sV em,ev,lv] ∧ ev.one = true ∧ lv.one = true ∧ ev.free1 = true ∧ lv.free1 = true := by
  rcases p with ⟨k,a,c,nm,⟨ek,en,em,el⟩,l⟩
  obtain ⟨ev,evs,lv,vs,e,g1,_,_,g2,_⟩ := h
  exact ⟨k,a,c,nm,ek,en,em,ev,lv,e,free1_one g1.free,free1_one g2.free,g1.free,g2.free⟩
theorem ref4_p {vv sv pv : V} {vs ps : List V} {lv : List VarD} {ss : List ByteArray} {lp : List DefD} (H : Pg vv sv pv vs ps lv ss lp) (h0 : 0 < lp.length) :
    PFn Try.prog T 36 [.agg [vv,sv,pv]] fun z => ∃ (t : V) (b : Bool),z = .tup [t,bV b] ∧ t.free = true ∧ t.cells.length = 9 ∧ (b = true → IsTm (lowP (lv.map VarD.nm) ss (lp.map DefD.nm) (lp[0]'h0).p) t) := by
  have hfr : (V.agg [vv,sv,pv]).free = true := by simp only [free_agg,List.all_cons,List.all_nil,H.h1.free,H.hs.free,H.h4.free,Bool.and_self]
  have ho1 : vv.one = true := free1_one H.h1.free
  have ho2 : sv.one = true := free1_one H.hs.free
  have ho4 : pv.one = true := free1_one H.h4.free
  intro yi hy
  refine Call.step hy ?_
  rw [body_eq t36]
  simp only [c36,c36x1,RUA,RUB,RUC,RUD,RUE,RUF,if_true,if_false,Int.reduceEq,Int.reduceLT,Int.reduceLE,qC,qO,qA,qS,qU,Nat.reduceEqDiff,qT,E.at,qR,Nat.reduceAdd,Nat.reduceSub,Nat.reduceLeDiff,Nat.reduceMul,qI,qP,qQ,ho1,ho2,ho4]
  refine (lower_b H h0).callF rfl (by simpa using hfr) fun z hz => ?_
  obtain ⟨cv,cp,st,mn,e,rfl,q1,q2,q3⟩ := hz
  have hq1 : cv.one = true := free1_one q1
  have hq2 : cp.one = true := free1_one q2
  by_cases he : e = 0
  · subst he
    obtain ⟨us,u1,u2⟩ := q3 rfl
    have hul := u2.len
    simp only [List.length_map] at hul
    have h0' : 0 < us.length := by omega
    have hx : us[0]? = some us[0] := List.getElem?_eq_getElem h0'
    have hxl : (lp.map fun x => lowP (lv.map VarD.nm) ss (lp.map DefD.nm) x.p)[0]? = some (lowP (lv.map VarD.nm) ss (lp.map DefD.nm) (lp[0]'h0).p) := by simp [h0]
    have hE := u2.get hx hxl
    generalize us[0] = u at hx hE
    obtain ⟨k,a,c,nm,ek,en,em,ev,lv',rfl,o1,o2,o3,o4⟩ := IsTm.agg hE
    have hI := u1.ix0 hx
    simp only [c36,c36x1,c36x2,c36x3,c36x4,RUA,RUB,RUC,RUD,RUE,RUF,if_true,if_false,Int.reduceEq,Int.reduceLT,Int.reduceLE,qC,qO,qA,qS,qU,Nat.reduceEqDiff,qT,E.at,qR,Nat.reduceAdd,Nat.reduceSub,Nat.reduceLeDiff,Nat.reduceMul,qI,qP,qQ,hq1,hq2,hI,o1,o2,rets,List.take]
    exact ⟨_,_,frzT_tup hE.ok.1 rfl,_,true,rfl,hE.ok.1,hE.ok.2,fun _ => hE⟩
  · have hd : decide (e = 0) = false := by simpa using he
    simp only [c36,c36x1,c36x2,c36x3,c36x4,RUA,RUB,RUC,RUD,RUE,RUF,if_true,if_false,Int.reduceEq,Int.reduceLT,Int.reduceLE,qC,qO,qA,qS,qU,Nat.reduceEqDiff,qT,E.at,qR,Nat.reduceAdd,Nat.reduceSub,Nat.reduceLeDiff,Nat.reduceMul,qI,qP,qQ,hq1,hq2,hd,fillC,rets,List.take]
    exact ⟨_,_,frzT_tup rfl rfl,_,false,rfl,rfl,rfl,fun h => by cases h⟩
end Go.Proofs.Ytfncfdiomolieaa
end

section
set_option linter.unusedVariables false
set_option linter.unusedSimpArgs false
set_option maxRecDepth 100000
set_option maxHeartbeats 8000000
open Go.Proofs.Pe renaming putCells → qC, bslOf → qO, bsaOf → qA, bslS → qS, isUpto → qU, step → qT, intOf → qI, iop → qP, sop → qQ
open List renaming replicate → qR
open Go.Proofs.Pe.V renaming dead → qD
namespace Go.Proofs.Ytfncfdiomolieaa
open Go.Proofs.Pe
theorem within5_p (a : Int) (n : Int) (hn : 0 < n) (hn2 : n ≤ 1000000) : PFn Try.prog T 53 [iV a,iV n] fun z => z = iV (withinI a n) := by
  intro yi hy
  refine Call.step hy ?_
  rw [body_eq t53]
  have h0 : ¬ n = 0 := by omega
  have h1 := Int.tmod_lt_of_pos a hn
  have h2 := neg_lt_tmod a hn
  by_cases hlt : a.tmod n < 0
  · have hd : decide (a.tmod n < 0) = true := by simpa using hlt
    have hw : IntKind.i64.wrap (a.tmod n + n) = withinI a n := by rw [wrap_ok (by omega) (by omega)]; unfold withinI; rw [if_pos hlt]
    simp only [c53,c53x1,c53x2,c53x3,c53x4,RUA,RUB,RUC,RUD,RUE,RUF,if_true,if_false,Int.reduceEq,Int.reduceLT,Int.reduceLE,qC,qO,qA,qS,qU,Nat.reduceEqDiff,qT,E.at,qR,Nat.reduceAdd,Nat.reduceSub,Nat.reduceLeDiff,Nat.reduceMul,qI,qP,qQ,h0,hd,hw]
    exact ⟨_,_,rfl,rfl⟩
  · have hw : a.tmod n = withinI a n := by unfold withinI; rw [if_neg hlt]
    have hd : decide (a.tmod n < 0) = false := by simpa using hlt
    simp only [c53,c53x1,c53x2,c53x3,c53x4,RUA,RUB,RUC,RUD,RUE,RUF,if_true,if_false,Int.reduceEq,Int.reduceLT,Int.reduceLE,qC,qO,qA,qS,qU,Nat.reduceEqDiff,qT,E.at,qR,Nat.reduceAdd,Nat.reduceSub,Nat.reduceLeDiff,Nat.reduceMul,qI,qP,qQ,h0,hd]
    exact ⟨_,_,rfl,by rw [hw]⟩
def WaitQ (x : Tm) : V → List O → Prop := fun z os' => IsTm x z ∧ ∃ c' : Int,os' = [.cells [iV c']]
theorem waiting_tail {k a b ek en : Int} {nm em : ByteArray} {ev lv : V} {es : List V} {el : List Ex} {xl : List Tm} {evs : List V} (e1 : IsSl 4 ev evs) (e2 : evs.length ≤ cap) (e3 : IsExs el evs) (g1 : IsSl 9 lv es) (g2 : es.length ≤ cap) (g3 : All2 IsTm xl es)
    (ih : ∀ x ∈ xl,∀ u,IsTm x u → ∀ (c : Int) (push : Bool),SFn Try.prog T 37 [u,iV 0,.pt 0 0,bV push] [.cells [iV c]] (WaitQ x)) {yi : Nat → Sem'} (hy : YLe yi yi) (c : Int) (push : Bool) (t0 x5 x6 x7 x10 x11 x12 x13 x14 x15 x16 x17 x18 x19 x20 x21 x22 x23 x24 x25 x26 x27 x28 x29 x30 x31 x32 x33 x34 x35 x36 x37 x38 x39 x40 x41 x42 x43 x44 x45 x46 x47 x48 x49 x50 x51 x52 x53 x54 x55 x56 x57 x58 x59 x60 x61 x62 x63 x64 x65 x66 x67 : V) :
    Pe.ev Try.prog T (Pe.Call Try.prog T) Lfp c37x8 none yi ⟨⟨(t0 :: iV 0 :: .pt 0 0 :: bV push :: .pt 1 0 :: x5 :: x6 :: x7 :: .pt 2 0 :: .pt 3 0 :: x10 :: x11 :: x12 :: x13 :: x14 :: x15 :: x16 :: x17 :: x18 :: x19 :: x20 :: x21 :: x22 :: x23 :: x24 :: x25 :: x26 :: x27 :: x28 :: x29 :: x30 :: x31 :: x32 :: x33 :: x34 :: x35 :: x36 :: x37 :: x38 :: x39 :: x40 :: x41 :: x42 :: x43 :: x44 :: x45 :: x46 :: x47 :: x48 :: x49 :: x50 :: x51 :: x52 :: x53 :: x54 :: x55 :: x56 :: x57 :: x58 :: x59 :: x60 :: x61 :: x62 :: x63 :: x64 :: x65 :: x66 :: x67 :: []),[.cells [iV c],.cells [iV k,iV a,iV b,sV nm,iV ek,iV en,sV em,ev,lv],.cells [iV 0,iV 0,iV 0,sV (ByteArray.mk #[]),iV 0,iV 0,sV (ByteArray.mk #[]),nilV,nilV],.cells [iV k,iV a,iV b,sV nm,iV ek,iV en,sV em,ev,nilV]]⟩,[]⟩
      (endK [Rv.cell 8 true 9] fun y o' => ∃ z os',Fin5 1 y o' z os' ∧ WaitQ (.mk k a b nm (.mk ek en em el) xl) z os') := by
  have hln := g3.len
  have hone : lv.one = true := free1_one g1.free
  have hone1 : ev.one = true := free1_one e1.free
  have hrow := fun o => g1.row o
  unfold cap at g2
  simp only [c37x8,c37x9,RUA,RUB,RUC,RUD,RUE,RUF,if_true,if_false,Int.reduceEq,Int.reduceLT,Int.reduceLE,qC,qO,qA,qS,qU,Nat.reduceEqDiff,qT,E.at,qR,Nat.reduceAdd,Nat.reduceSub,Nat.reduceLeDiff,Nat.reduceMul,qI,qP,qQ]
  refine Lfp.inv call_le hy (fun s : Nat × Int × V × List O => ⟨⟨(qD::iV 0 :: .pt 0 0 :: bV push :: .pt 1 0 :: qD::qD::qD::.pt 2 0 :: .pt 3 0 :: qD::iV s.1 :: qD::qD::qD::qD::qD::qD::qD::qD::qD::qD::qD::qD::qD::qD::qD::qD::qD::qD::qD::qD::qD::qD::qD::qD::qD::qD::qD::qD::qD::qD::qD::qD::qD::qD::qD::qD::qD::qD::qD::qD::qD::qD::qD::qD::qD::qD::qD::qD::qD::qD::qD::qD::qD::qD::qD::qD::[]),.cells [iV s.2.1] :: .cells [iV k,iV a,iV b,sV nm,iV ek,iV en,sV em,ev,lv] :: .cells [iV 0,iV 0,iV 0,sV (ByteArray.mk #[]),iV 0,iV 0,sV (ByteArray.mk #[]),nilV,nilV] :: .cells [iV k,iV a,iV b,sV nm,iV ek,iV en,sV em,ev,s.2.2.1] :: s.2.2.2⟩,[]⟩) (fun s => es.length - s.1)
    (fun s => s.1 ≤ es.length ∧ ∃ us,Tail 4 9 s.2.2.1 us s.2.2.2 ∧ All2 IsTm (xl.take s.1) us) (0,c,nilV,[]) ⟨Nat.zero_le _,[],.nil _ _,rfl⟩ (by simp only [kill_L,killTs_nil,RUF] <;> rfl) ?_
  rintro ⟨i,c1,rv,tl⟩ ⟨hi,us,hT,hA⟩
  dsimp only at hi hT hA
  have hul := hA.len
  have hs1 := hT.shape
  by_cases hlt : i < es.length
  · have hd1 : decide ((i : Int) < (es.length : Int)) = true := by simpa using hlt
    have hx : es[i]? = some es[i] := List.getElem?_eq_getElem hlt
    have hxl : xl[i]? = some xl[i] := List.getElem?_eq_getElem (by omega)
    have hE := g3.get hx hxl
    have hxm : xl[i] ∈ xl := List.getElem_mem _
    generalize es[i] = w at hx hE
    generalize xl[i] = y at hxl hE hxm
    have hI := fun o => g1.ix o hx
    have hw1 : IntKind.i64.wrap ((i : Int) + 1) = ((i + 1 : Nat) : Int) := wrap_succ (by omega)
    have hfr := hE.ok.1
    obtain ⟨k',a',b',nm',ek',en',em',ev',lv',rfl,o1,o2,o3,o4⟩ := IsTm.agg hE
    have hz : ∀ q,mapO (V.mv2 (inS [0])) [V.agg [iV k',iV a',iV b',sV nm',iV ek',iV en',sV em',ev',lv'],iV 0,.pt 0 0,bV q] = some [V.agg [iV k',iV a',iV b',sV nm',iV ek',iV en',sV em',ev',lv'],iV 0,.pt 0 0,bV q] := fun q => by
      rw [mapO_cons (mv2_free hfr),mapO_cons mv2_sc,mapO_cons (y := .pt 0 0) (by rw [mv2_pt,in1]; rfl),mapO_cons mv2_sc]; rfl
    have hcm : ∀ q o,evCallV.commits' o [V.agg [iV k',iV a',iV b',sV nm',iV ek',iV en',sV em',ev',lv'],iV 0,.pt 0 0,bV q] = some ([V.agg [iV k',iV a',iV b',sV nm',iV ek',iV en',sV em',ev',lv'],iV 0,.pt 0 0,bV q],o) := fun q o => cm_free hfr (cm_free rfl (cm_pt (cm_free rfl cm_nil)))
    have hp : ∃ q : Bool,True := ⟨true,trivial⟩
    cases push <;> cases h3 : decide (k = 3)
    all_goals
      simp only [c37,c37x1,c37x2,c37x3,c37x4,c37x5,c37x6,c37x7,c37x8,c37x9,c37x10,c37x11,c37x12,RUA,RUB,RUC,RUD,RUE,RUF,if_true,if_false,Int.reduceEq,Int.reduceLT,Int.reduceLE,qC,qO,qA,qS,qU,Nat.reduceEqDiff,qT,E.at,qR,Nat.reduceAdd,Nat.reduceSub,Nat.reduceLeDiff,Nat.reduceMul,qI,qP,qQ,hd1,hrow,hI,o1,o2,h3]
      refine ⟨?_, ?_⟩
      all_goals
        refine (ih _ hxm _ hE c1 _).callP rfl (hcm _ _) (hz _) rfl rfl fun z os' hq => ?_
        obtain ⟨hz,c2,rfl⟩ := hq
        refine ⟨_,rfl,rfl,freeT_of hz.ok.1, ?_⟩
        have hz1 := hz.ok
        have hz4 : decide (z.cells.length = 9) = true := by simpa using hz1.2
        obtain ⟨rv',tl',p1,p2⟩ := hT.push (b := 120) (f := true) (y := z) (okRow1 hz.ok) (by rw [hul]; simp; unfold room; omega) (o := [.cells [iV c2],.cells [iV k,iV a,iV b,sV nm,iV ek,iV en,sV em,ev,lv],.cells [iV 0,iV 0,iV 0,sV (ByteArray.mk #[]),iV 0,iV 0,sV (ByteArray.mk #[]),nilV,nilV],.cells [iV k,iV a,iV b,sV nm,iV ek,iV en,sV em,ev,rv]]) rfl
        simp only [List.cons_append,List.nil_append] at p1
        have hs := p2.shape
        simp only [c37,c37x1,c37x2,c37x3,c37x4,c37x5,c37x6,c37x7,c37x8,c37x9,c37x10,c37x11,c37x12,c37x13,c37x14,RUA,RUB,RUC,RUD,RUE,RUF,if_true,if_false,Int.reduceEq,Int.reduceLT,Int.reduceLE,qC,qO,qA,qS,qU,Nat.reduceEqDiff,qT,E.at,qR,Nat.reduceAdd,Nat.reduceSub,Nat.reduceLeDiff,Nat.reduceMul,qI,qP,qQ,hz1.1,hz4,p1,hw1,hs.1,hs.2.1,hs.2.2]
        refine ⟨(i + 1,c2,rv',tl'),⟨by simp only; omega,us ++ [z],p2, ?_⟩,by simp only; omega,rfl⟩
        simp only [List.take_add_one,hxl]
        exact hA.snoc hz
  · have hd1 : decide ((i : Int) < (es.length : Int)) = false := by simpa using hlt
    rw [List.take_of_length_le (by omega)] at hA
    simp only [c37,c37x1,c37x2,c37x3,c37x4,c37x5,c37x6,c37x7,c37x8,c37x9,c37x10,c37x11,c37x12,c37x13,c37x14,RUA,RUB,RUC,RUD,RUE,RUF,if_true,if_false,Int.reduceEq,Int.reduceLT,Int.reduceLE,qC,qO,qA,qS,qU,Nat.reduceEqDiff,qT,E.at,qR,Nat.reduceAdd,Nat.reduceSub,Nat.reduceLeDiff,Nat.reduceMul,qI,qP,qQ,hd1,hrow,hone1,hs1.1,hs1.2.1,hs1.2.2,rets,List.take]
    obtain ⟨w,tl',f1',f2'⟩ := hT.frz1 (hA.free fun _ _ h => h.ok.1) (o := [.cells [iV c1],.cells [iV k,iV a,iV b,sV nm,iV ek,iV en,sV em,ev,lv],.cells [iV k,iV a,iV b,sV nm,iV ek,iV en,sV em,ev,rv],.cells [iV k,iV a,iV b,sV nm,iV ek,iV en,sV em,ev,rv]]) rfl
    simp only [List.cons_append,List.nil_append] at f1'
    have hf := frzT_ag (cs := [iV k,iV a,iV b,sV nm,iV ek,iV en,sV em,ev,rv]) (o := _) (by rw [frzs_cons (y := iV k) rfl,frzs_cons (y := iV a) rfl,frzs_cons (y := iV b) rfl,frzs_cons (y := sV nm) rfl,frzs_cons (y := iV ek) rfl,frzs_cons (y := iV en) rfl,frzs_cons (y := sV em) rfl,frzs_cons (e1.frz1 _),frzs_cons f1']; rfl)
    exact ⟨_,_,fin1F hf rfl (by simp only [V.freeT,free_agg,List.all_cons,List.all_nil,free1_sc,f2'.free,e1.free,Bool.and_self]),⟨ev,evs,w,us,rfl,e1,e2,e3,f2',by unfold cap; have := hA.len; omega,isTms_all.2 hA⟩,c1,rfl⟩
theorem waiting_b {k a b ek en : Int} {nm em : ByteArray} {el : List Ex} {xl : List Tm} {u : V} (h : IsTm (.mk k a b nm (.mk ek en em el) xl) u)
    (ih : ∀ x ∈ xl,∀ u,IsTm x u → ∀ (c : Int) (push : Bool),SFn Try.prog T 37 [u,iV 0,.pt 0 0,bV push] [.cells [iV c]] (WaitQ x)) (c : Int) (push : Bool) :
    SFn Try.prog T 37 [u,iV 0,.pt 0 0,bV push] [.cells [iV c]] (WaitQ (.mk k a b nm (.mk ek en em el) xl)) := by
  obtain ⟨ev,evs,lv,es,rfl,e1,e2,e3,g1,g2,g3⟩ := h
  rw [isTms_all] at g3
  have hone : lv.one = true := free1_one g1.free
  have hone1 : ev.one = true := free1_one e1.free
  intro yi hy
  refine Call.step hy ?_
  rw [body_eq t37]
  cases h1 : decide (k = 1) with
  | false =>
    simp only [c37,c37x1,c37x2,c37x3,c37x4,RUA,RUB,RUC,RUD,RUE,RUF,if_true,if_false,Int.reduceEq,Int.reduceLT,Int.reduceLE,qC,qO,qA,qS,qU,Nat.reduceEqDiff,qT,E.at,qR,Nat.reduceAdd,Nat.reduceSub,Nat.reduceLeDiff,Nat.reduceMul,qI,qP,qQ,hone,hone1,h1]
    exact waiting_tail e1 e2 e3 g1 g2 g3 ih hy _ _ _ _ _ _ _ _ _ _ _ _ _ _ _ _ _ _ _ _ _ _ _ _ _ _ _ _ _ _ _ _ _ _ _ _ _ _ _ _ _ _ _ _ _ _ _ _ _ _ _ _ _ _ _ _ _ _ _ _ _ _ _ _
  | true =>
    cases push with
    | true =>
      simp only [c37,c37x1,c37x2,c37x3,c37x4,c37x5,c37x6,c37x7,RUA,RUB,RUC,RUD,RUE,RUF,if_true,if_false,Int.reduceEq,Int.reduceLT,Int.reduceLE,qC,qO,qA,qS,qU,Nat.reduceEqDiff,qT,E.at,qR,Nat.reduceAdd,Nat.reduceSub,Nat.reduceLeDiff,Nat.reduceMul,qI,qP,qQ,hone,hone1,h1]
      exact waiting_tail e1 e2 e3 g1 g2 g3 ih hy _ _ _ _ _ _ _ _ _ _ _ _ _ _ _ _ _ _ _ _ _ _ _ _ _ _ _ _ _ _ _ _ _ _ _ _ _ _ _ _ _ _ _ _ _ _ _ _ _ _ _ _ _ _ _ _ _ _ _ _ _ _ _ _
    | false =>
      simp only [c37,c37x1,c37x2,c37x3,c37x4,c37x5,c37x6,c37x7,RUA,RUB,RUC,RUD,RUE,RUF,if_true,if_false,Int.reduceEq,Int.reduceLT,Int.reduceLE,qC,qO,qA,qS,qU,Nat.reduceEqDiff,qT,E.at,qR,Nat.reduceAdd,Nat.reduceSub,Nat.reduceLeDiff,Nat.reduceMul,qI,qP,qQ,hone,hone1,h1]
      rw [q_shr (x := 27) (y := 30) rfl rfl rfl (u64_nonneg _)]
      have hz0 : ∀ n : Nat,Int.fdiv 0 (2 ^ n) = 0 := fun n => by simp
      simp only [hz0]
      have hw : withinI 0 2 = 0 := by decide
      have hw2 := within5_p 0 2 (by decide) (by decide)
      rw [hw] at hw2
      refine hw2.callE rfl rfl rfl ?_
      simp only [c37,c37x1,c37x2,c37x3,c37x4,c37x5,c37x6,c37x7,RUA,RUB,RUC,RUD,RUE,RUF,if_true,if_false,Int.reduceEq,Int.reduceLT,Int.reduceLE,qC,qO,qA,qS,qU,Nat.reduceEqDiff,qT,E.at,qR,Nat.reduceAdd,Nat.reduceSub,Nat.reduceLeDiff,Nat.reduceMul,qI,qP,qQ]
      exact waiting_tail e1 e2 e3 g1 g2 g3 ih hy _ _ _ _ _ _ _ _ _ _ _ _ _ _ _ _ _ _ _ _ _ _ _ _ _ _ _ _ _ _ _ _ _ _ _ _ _ _ _ _ _ _ _ _ _ _ _ _ _ _ _ _ _ _ _ _ _ _ _ _ _ _ _ _
theorem waiting_c : ∀ (x : Tm) (u : V),IsTm x u → ∀ (c : Int) (push : Bool),SFn Try.prog T 37 [u,iV 0,.pt 0 0,bV push] [.cells [iV c]] (WaitQ x)
  | .mk k a b nm (.mk ek en em el) xl,u,h,c,push => waiting_b h (fun x hx u hu => waiting_c x u hu) c push
termination_by x => SizeOf.sizeOf x
decreasing_by have := List.sizeOf_lt_of_mem hx; simp; omega
end Go.Proofs.Ytfncfdiomolieaa
end

section
set_option linter.unusedVariables false
set_option linter.unusedSimpArgs false
set_option maxRecDepth 100000
set_option maxHeartbeats 8000000
open Go.Proofs.Pe renaming putCells → qC, bslOf → qO, bsaOf → qA, bslS → qS, isUpto → qU, step → qT, intOf → qI, iop → qP, sop → qQ
open List renaming replicate → qR
open Go.Proofs.Pe.V renaming dead → qD
namespace Go.Proofs.Ytfncfdiomolieaa
open Go.Proofs.Pe
theorem wl0 : IntKind.i64.wrap (0 + 1) = 1 := by decide
theorem wl1 : IntKind.i64.wrap (1 + 1) = 2 := by decide
theorem wl2 : IntKind.i64.wrap (2 + 1) = 3 := by decide
theorem wl3 : IntKind.i64.wrap (3 + 1) = 4 := by decide
theorem wl4 : IntKind.i64.wrap (4 + 1) = 5 := by decide
theorem vx0 (o : List O) : ixOf 1 o vV (iV 0) = some (.ep [sV (nmV.getD 0 emp)],o) := rfl
theorem vx1 (o : List O) : ixOf 1 o vV (iV 1) = some (.ep [sV (nmV.getD 1 emp)],o) := rfl
theorem vx2 (o : List O) : ixOf 1 o vV (iV 2) = some (.ep [sV (nmV.getD 2 emp)],o) := rfl
theorem dx0 (o : List O) : ixOf 1 o dV (iV 0) = some (.ep [sV (nmD.getD 0 emp)],o) := rfl
theorem dx1 (o : List O) : ixOf 1 o dV (iV 1) = some (.ep [sV (nmD.getD 1 emp)],o) := rfl
theorem dx2 (o : List O) : ixOf 1 o dV (iV 2) = some (.ep [sV (nmD.getD 2 emp)],o) := rfl
theorem dx3 (o : List O) : ixOf 1 o dV (iV 3) = some (.ep [sV (nmD.getD 3 emp)],o) := rfl
theorem dx4 (o : List O) : ixOf 1 o dV (iV 4) = some (.ep [sV (nmD.getD 4 emp)],o) := rfl
def zP (s : ByteArray) : V := .agg [sV s,iV 0,sV (ByteArray.mk #[]),sV (ByteArray.mk #[]),iV 0,iV 0,sV (ByteArray.mk #[]),nilV,nilV]
theorem prZ : prP (.agg [iV 0,sV (ByteArray.mk #[]),sV (ByteArray.mk #[]),iV 0,iV 0,sV (ByteArray.mk #[]),nilV,nilV]) := prLeaf 0 (by decide) _ _
def ShapeQ : V → List O → Prop := fun z os' => ∃ (v1 v2 : Nat) (vs ps : List V),z = .agg [.ar 0 v1,sVl,.ar 1 v2] ∧ os' = [.arr v1 true 2 vs,.arr v2 true 9 ps] ∧ vs.length = 3 ∧ (∀ x ∈ vs,∃ s n,x = .agg [sV s,iV n]) ∧ ps.length = 5 ∧ ∀ x ∈ ps,∃ s b,x = .agg (sV s :: b) ∧ prP (.agg b)
theorem shape_fin {o : List O} {l1 l2 v1 v2 : Nat} {vs ps : List V} (h1 : o[l1]? = some (.arr v1 true 2 vs)) (h2 : o[l2]? = some (.arr v2 true 9 ps)) (hn : l1 ≠ l2) (e1 : vs.length = 3) (e2 : ∀ x ∈ vs,∃ s n,x = .agg [sV s,iV n]) (e3 : ps.length = 5) (e4 : ∀ x ∈ ps,∃ s b,x = .agg (sV s :: b) ∧ prP (.agg b)) :
    ∃ z os',Fin5 0 (.agg [.ar l1 v1,sVl,.ar l2 v2]) o z os' ∧ ShapeQ z os' := by
  have hN : [l1,l2].Nodup := by simp [hn]
  have f1 : vs.all V.free = true := by rw [List.all_eq_true]; intro x hx; obtain ⟨s,n,rfl⟩ := e2 x hx; rfl
  have f2 : ps.all V.free = true := by
    rw [List.all_eq_true]; intro x hx; obtain ⟨s,b,rfl,hb⟩ := e4 x hx
    have := hb.ok.1
    simp only [free_agg,List.all_cons,free1_sc,Bool.true_and] at this ⊢; exact this
  refine ⟨.agg [.ar 0 v1,sVl,.ar 1 v2],[.arr v1 true 2 vs,.arr v2 true 9 ps],⟨.agg [.ar l1 v1,sVl,.ar l2 v2],o,[l1,l2],.inr ⟨rfl,rfl⟩,hN,by simp, ?_, ?_⟩,v1,v2,vs,ps,rfl,rfl,e1,e2,e3,e4⟩
  · show Option.map _ (mapO _ _) = _
    rw [mapO_cons (y := .ar 0 v1) (by rw [mv1_ar,outI_at hN (i := 0) rfl]; rfl),mapO_cons (mv1_free rfl),mapO_cons (y := .ar 1 v2) (by rw [mv1_ar,outI_at hN (i := 1) rfl]; rfl)]; rfl
  · show mapO _ ([] ++ [l1,l2]) = _
    rw [List.nil_append,mapO_cons (y := .arr v1 true 2 vs) (by rw [h1,Option.bind_some,mvO_f f1]),mapO_cons (y := .arr v2 true 9 ps) (by rw [h2,Option.bind_some,mvO_f f2])]; rfl
theorem shape1_c {a b : Int} {x : R3} {u : V} (hu : IsR3 x u) : SFn Try.prog T 35 [.agg [iV a,iV b,.sl 5 true [u]]] [] ShapeQ := by
  have hu5 := hu.ok
  rcases x with ⟨k,a3,b3,e,l⟩
  have hu' := hu
  obtain ⟨ev,evs,lv,vs,rfl,h1,h2,h3,h4,h5,h6⟩ := hu
  have hone : lv.one = true := free1_one h4.free
  have hone1 : ev.one = true := free1_one h1.free
  have hbx : ∀ o,ixOf 5 o (.sl 5 true [.agg [iV k,iV a3,iV b3,ev,lv]]) (iV 0) = some (.ep [iV k,iV a3,iV b3,ev,lv],o) := fun o => rfl
  have rr : ∀ o,rowOf o (.sl 5 true [.agg [iV k,iV a3,iV b3,ev,lv]]) = some [.agg [iV k,iV a3,iV b3,ev,lv]] := fun o => rfl
  have okz : ∀ s,okRow 9 [zP s] := fun s => rfl
  have hro : ∀ (k n : Nat),n ≤ 6 → k ≤ 200 → n * k ≤ room := fun k n h1 h2 => by
    have : n * k ≤ 6 * 200 := Nat.mul_le_mul h1 h2
    unfold room; omega
  intro yi hy
  have hst : ∀ c,BLe (Pe.ev Try.prog T (Pe.Call Try.prog T) Lfp c none yi) (Pe.ev Try.prog T (Pe.Call Try.prog T) Lfp c none yi) := fun c => ev_mono call_le lfp_le c none yi yi hy
  refine Call.step hy ?_
  rw [body_eq t35]
  simp only [c35,c35x1,RUA,RUB,RUC,RUD,RUE,RUF,if_true,if_false,Int.reduceEq,Int.reduceLT,Int.reduceLE,qC,qO,qA,qS,qU,Nat.reduceEqDiff,qT,E.at,qR,Nat.reduceAdd,Nat.reduceSub,Nat.reduceLeDiff,Nat.reduceMul,qI,qP,qQ]
  refine stacks_p.callF rfl (by simp) fun z hz => ?_
  subst hz
  have e1 : sVl.one = true := rfl
  have e2 : sVl.solid = true := rfl
  have e3 : sVl.cells = [sVl] := rfl
  simp only [c35,c35x1,c35x2,c35x3,RUA,RUB,RUC,RUD,RUE,RUF,if_true,if_false,Int.reduceEq,Int.reduceLT,Int.reduceLE,qC,qO,qA,qS,qU,Nat.reduceEqDiff,qT,E.at,qR,Nat.reduceAdd,Nat.reduceSub,Nat.reduceLeDiff,Nat.reduceMul,qI,qP,qQ,fillC,e1,e2,e3]
  refine Lfp.step (hst _) ?_
  simp only [c35,c35x1,c35x2,c35x3,c35x4,c35x5,c35x6,c35x7,RUA,RUB,RUC,RUD,RUE,RUF,if_true,if_false,Int.reduceEq,Int.reduceLT,Int.reduceLE,qC,qO,qA,qS,qU,Nat.reduceEqDiff,qT,E.at,qR,Nat.reduceAdd,Nat.reduceSub,Nat.reduceLeDiff,Nat.reduceMul,qI,qP,qQ,vx0,wl0]
  refine vars_p.callF rfl (by simp) fun z hz => ?_
  subst hz
  simp only [c35,c35x1,c35x2,c35x3,c35x4,c35x5,c35x6,c35x7,RUA,RUB,RUC,RUD,RUE,RUF,if_true,if_false,Int.reduceEq,Int.reduceLT,Int.reduceLE,qC,qO,qA,qS,qU,Nat.reduceEqDiff,qT,E.at,qR,Nat.reduceAdd,Nat.reduceSub,Nat.reduceLeDiff,Nat.reduceMul,qI,qP,qQ,vx0,wl0]
  refine (within3_p _ 9 (by decide) (by decide)).callE rfl rfl rfl ?_
  simp only [c35,c35x1,c35x2,c35x3,c35x4,c35x5,c35x6,c35x7,RUA,RUB,RUC,RUD,RUE,RUF,if_true,if_false,Int.reduceEq,Int.reduceLT,Int.reduceLE,qC,qO,qA,qS,qU,Nat.reduceEqDiff,qT,E.at,qR,Nat.reduceAdd,Nat.reduceSub,Nat.reduceLeDiff,Nat.reduceMul,qI,qP,qQ,fillC]
  first
    | refine oKa_nil rfl (hro _ _ (by decide) (by decide)) ?_
    | refine oKa_ar rfl rfl (hro _ _ (by simp) (by decide)) ?_
  simp only [c35,c35x1,c35x2,c35x3,c35x4,c35x5,c35x6,c35x7,RUA,RUB,RUC,RUD,RUE,RUF,if_true,if_false,Int.reduceEq,Int.reduceLT,Int.reduceLE,qC,qO,qA,qS,qU,Nat.reduceEqDiff,qT,E.at,qR,Nat.reduceAdd,Nat.reduceSub,Nat.reduceLeDiff,Nat.reduceMul,qI,qP,qQ,wl0]
  refine Lfp.step (hst _) ?_
  simp only [c35,c35x1,c35x2,c35x3,c35x4,c35x5,c35x6,c35x7,RUA,RUB,RUC,RUD,RUE,RUF,if_true,if_false,Int.reduceEq,Int.reduceLT,Int.reduceLE,qC,qO,qA,qS,qU,Nat.reduceEqDiff,qT,E.at,qR,Nat.reduceAdd,Nat.reduceSub,Nat.reduceLeDiff,Nat.reduceMul,qI,qP,qQ,vx1,wl1]
  refine vars_p.callF rfl (by simp) fun z hz => ?_
  subst hz
  simp only [c35,c35x1,c35x2,c35x3,c35x4,c35x5,c35x6,c35x7,RUA,RUB,RUC,RUD,RUE,RUF,if_true,if_false,Int.reduceEq,Int.reduceLT,Int.reduceLE,qC,qO,qA,qS,qU,Nat.reduceEqDiff,qT,E.at,qR,Nat.reduceAdd,Nat.reduceSub,Nat.reduceLeDiff,Nat.reduceMul,qI,qP,qQ,vx1,wl1]
  refine (within3_p _ 9 (by decide) (by decide)).callE rfl rfl rfl ?_
  simp only [c35,c35x1,c35x2,c35x3,c35x4,c35x5,c35x6,c35x7,RUA,RUB,RUC,RUD,RUE,RUF,if_true,if_false,Int.reduceEq,Int.reduceLT,Int.reduceLE,qC,qO,qA,qS,qU,Nat.reduceEqDiff,qT,E.at,qR,Nat.reduceAdd,Nat.reduceSub,Nat.reduceLeDiff,Nat.reduceMul,qI,qP,qQ,fillC]
  first
    | refine oKa_nil rfl (hro _ _ (by decide) (by decide)) ?_
    | refine oKa_ar rfl rfl (hro _ _ (by simp) (by decide)) ?_
  simp only [c35,c35x1,c35x2,c35x3,c35x4,c35x5,c35x6,c35x7,RUA,RUB,RUC,RUD,RUE,RUF,if_true,if_false,Int.reduceEq,Int.reduceLT,Int.reduceLE,qC,qO,qA,qS,qU,Nat.reduceEqDiff,qT,E.at,qR,Nat.reduceAdd,Nat.reduceSub,Nat.reduceLeDiff,Nat.reduceMul,qI,qP,qQ,wl1]
  refine Lfp.step (hst _) ?_
  simp only [c35,c35x1,c35x2,c35x3,c35x4,c35x5,c35x6,c35x7,RUA,RUB,RUC,RUD,RUE,RUF,if_true,if_false,Int.reduceEq,Int.reduceLT,Int.reduceLE,qC,qO,qA,qS,qU,Nat.reduceEqDiff,qT,E.at,qR,Nat.reduceAdd,Nat.reduceSub,Nat.reduceLeDiff,Nat.reduceMul,qI,qP,qQ,vx2,wl2]
  refine vars_p.callF rfl (by simp) fun z hz => ?_
  subst hz
  simp only [c35,c35x1,c35x2,c35x3,c35x4,c35x5,c35x6,c35x7,RUA,RUB,RUC,RUD,RUE,RUF,if_true,if_false,Int.reduceEq,Int.reduceLT,Int.reduceLE,qC,qO,qA,qS,qU,Nat.reduceEqDiff,qT,E.at,qR,Nat.reduceAdd,Nat.reduceSub,Nat.reduceLeDiff,Nat.reduceMul,qI,qP,qQ,vx2,wl2]
  refine (within3_p _ 9 (by decide) (by decide)).callE rfl rfl rfl ?_
  simp only [c35,c35x1,c35x2,c35x3,c35x4,c35x5,c35x6,c35x7,RUA,RUB,RUC,RUD,RUE,RUF,if_true,if_false,Int.reduceEq,Int.reduceLT,Int.reduceLE,qC,qO,qA,qS,qU,Nat.reduceEqDiff,qT,E.at,qR,Nat.reduceAdd,Nat.reduceSub,Nat.reduceLeDiff,Nat.reduceMul,qI,qP,qQ,fillC]
  first
    | refine oKa_nil rfl (hro _ _ (by decide) (by decide)) ?_
    | refine oKa_ar rfl rfl (hro _ _ (by simp) (by decide)) ?_
  simp only [c35,c35x1,c35x2,c35x3,c35x4,c35x5,c35x6,c35x7,RUA,RUB,RUC,RUD,RUE,RUF,if_true,if_false,Int.reduceEq,Int.reduceLT,Int.reduceLE,qC,qO,qA,qS,qU,Nat.reduceEqDiff,qT,E.at,qR,Nat.reduceAdd,Nat.reduceSub,Nat.reduceLeDiff,Nat.reduceMul,qI,qP,qQ,wl2]
  refine Lfp.step (hst _) ?_
  simp only [c35,c35x1,c35x2,c35x3,c35x4,c35x5,c35x6,c35x7,c35x8,c35x9,RUA,RUB,RUC,RUD,RUE,RUF,if_true,if_false,Int.reduceEq,Int.reduceLT,Int.reduceLE,qC,qO,qA,qS,qU,Nat.reduceEqDiff,qT,E.at,qR,Nat.reduceAdd,Nat.reduceSub,Nat.reduceLeDiff,Nat.reduceMul,qI,qP,qQ]
  refine Lfp.step (hst _) ?_
  simp only [c35,c35x1,c35x2,c35x3,c35x4,c35x5,c35x6,c35x7,c35x8,c35x9,c35x10,c35x11,c35x12,c35x13,RUA,RUB,RUC,RUD,RUE,RUF,if_true,if_false,Int.reduceEq,Int.reduceLT,Int.reduceLE,qC,qO,qA,qS,qU,Nat.reduceEqDiff,qT,E.at,qR,Nat.reduceAdd,Nat.reduceSub,Nat.reduceLeDiff,Nat.reduceMul,qI,qP,qQ,dx0]
  refine defs_p.callF rfl (by simp) fun z hz => ?_
  subst hz
  simp only [c35,c35x1,c35x2,c35x3,c35x4,c35x5,c35x6,c35x7,c35x8,c35x9,c35x10,c35x11,c35x12,c35x13,c35x14,RUA,RUB,RUC,RUD,RUE,RUF,if_true,if_false,Int.reduceEq,Int.reduceLT,Int.reduceLE,qC,qO,qA,qS,qU,Nat.reduceEqDiff,qT,E.at,qR,Nat.reduceAdd,Nat.reduceSub,Nat.reduceLeDiff,Nat.reduceMul,qI,qP,qQ,dx0,fillC,rr]
  simp only [c35,c35x1,c35x2,c35x3,c35x4,c35x5,c35x6,c35x7,c35x8,c35x9,c35x10,c35x11,c35x12,c35x13,c35x14,RUA,RUB,RUC,RUD,RUE,RUF,if_true,if_false,Int.reduceEq,Int.reduceLT,Int.reduceLE,qC,qO,qA,qS,qU,Nat.reduceEqDiff,qT,E.at,qR,Nat.reduceAdd,Nat.reduceSub,Nat.reduceLeDiff,Nat.reduceMul,qI,qP,qQ,hbx,hone,hone1]
  refine (make3_p _ _ hu' 0).callF rfl (fun x hx => by simp only [List.mem_cons,List.not_mem_nil,or_false] at hx; rcases hx with rfl | rfl <;> first | exact hu5.1 | rfl) fun z hz => ?_
  have hz' := hz
  obtain ⟨pk,pn,pt,qk,qn,qm,pe,pl,rfl,hp1,hp2⟩ := prP.agg hz
  have okd : ∀ s,okRow 9 [.agg [sV s,iV pk,sV pn,sV pt,iV qk,iV qn,sV qm,pe,pl]] := fun s => okRow1 (by
    have := hz'.ok.1
    simp only [free_agg,List.all_cons,List.all_nil,free1_sc,Bool.true_and] at this ⊢
    exact ⟨this,rfl⟩)
  have hfe : pe.free1 = true ∧ pl.free1 = true := by
    have := hz'.ok.1
    simpa only [free_agg,List.all_cons,List.all_nil,free1_sc,Bool.true_and,Bool.and_true,Bool.and_eq_true] using this
  simp only [c35,c35x1,c35x2,c35x3,c35x4,c35x5,c35x6,c35x7,c35x8,c35x9,c35x10,c35x11,c35x12,c35x13,c35x14,RUA,RUB,RUC,RUD,RUE,RUF,if_true,if_false,Int.reduceEq,Int.reduceLT,Int.reduceLE,qC,qO,qA,qS,qU,Nat.reduceEqDiff,qT,E.at,qR,Nat.reduceAdd,Nat.reduceSub,Nat.reduceLeDiff,Nat.reduceMul,qI,qP,qQ,hp1,hp2]
  try simp only [c35,c35x1,c35x2,c35x3,c35x4,c35x5,c35x6,c35x7,c35x8,c35x9,c35x10,c35x11,c35x12,c35x13,c35x14,c35x15,RUA,RUB,RUC,RUD,RUE,RUF,if_true,if_false,Int.reduceEq,Int.reduceLT,Int.reduceLE,qC,qO,qA,qS,qU,Nat.reduceEqDiff,qT,E.at,qR,Nat.reduceAdd,Nat.reduceSub,Nat.reduceLeDiff,Nat.reduceMul,qI,qP,qQ,hp1,hp2,hfe.1,hfe.2]
  first
    | refine oKa_nil (okd _) (hro _ _ (by decide) (by decide)) ?_
    | refine oKa_ar rfl (okd _) (hro _ _ (by simp) (by decide)) ?_
  try simp only [c35,c35x1,c35x2,c35x3,c35x4,c35x5,c35x6,c35x7,c35x8,c35x9,c35x10,c35x11,c35x12,c35x13,c35x14,c35x15,c35x16,RUA,RUB,RUC,RUD,RUE,RUF,if_true,if_false,Int.reduceEq,Int.reduceLT,Int.reduceLE,qC,qO,qA,qS,qU,Nat.reduceEqDiff,qT,E.at,qR,Nat.reduceAdd,Nat.reduceSub,Nat.reduceLeDiff,Nat.reduceMul,qI,qP,qQ,wl0]
  refine Lfp.step (hst _) ?_
  simp only [c35,c35x1,c35x2,c35x3,c35x4,c35x5,c35x6,c35x7,c35x8,c35x9,c35x10,c35x11,c35x12,c35x13,RUA,RUB,RUC,RUD,RUE,RUF,if_true,if_false,Int.reduceEq,Int.reduceLT,Int.reduceLE,qC,qO,qA,qS,qU,Nat.reduceEqDiff,qT,E.at,qR,Nat.reduceAdd,Nat.reduceSub,Nat.reduceLeDiff,Nat.reduceMul,qI,qP,qQ,dx1]
  refine defs_p.callF rfl (by simp) fun z hz => ?_
  subst hz
  simp only [c35,c35x1,c35x2,c35x3,c35x4,c35x5,c35x6,c35x7,c35x8,c35x9,c35x10,c35x11,c35x12,c35x13,c35x14,RUA,RUB,RUC,RUD,RUE,RUF,if_true,if_false,Int.reduceEq,Int.reduceLT,Int.reduceLE,qC,qO,qA,qS,qU,Nat.reduceEqDiff,qT,E.at,qR,Nat.reduceAdd,Nat.reduceSub,Nat.reduceLeDiff,Nat.reduceMul,qI,qP,qQ,dx1,fillC,rr]
  try simp only [c35,c35x1,c35x2,c35x3,c35x4,c35x5,c35x6,c35x7,c35x8,c35x9,c35x10,c35x11,c35x12,c35x13,c35x14,c35x15,RUA,RUB,RUC,RUD,RUE,RUF,if_true,if_false,Int.reduceEq,Int.reduceLT,Int.reduceLE,qC,qO,qA,qS,qU,Nat.reduceEqDiff,qT,E.at,qR,Nat.reduceAdd,Nat.reduceSub,Nat.reduceLeDiff,Nat.reduceMul,qI,qP,qQ,rr]
  first
    | refine oKa_nil rfl (hro _ _ (by decide) (by decide)) ?_
    | refine oKa_ar rfl rfl (hro _ _ (by simp) (by decide)) ?_
  try simp only [c35,c35x1,c35x2,c35x3,c35x4,c35x5,c35x6,c35x7,c35x8,c35x9,c35x10,c35x11,c35x12,c35x13,c35x14,c35x15,c35x16,RUA,RUB,RUC,RUD,RUE,RUF,if_true,if_false,Int.reduceEq,Int.reduceLT,Int.reduceLE,qC,qO,qA,qS,qU,Nat.reduceEqDiff,qT,E.at,qR,Nat.reduceAdd,Nat.reduceSub,Nat.reduceLeDiff,Nat.reduceMul,qI,qP,qQ,wl1]
  refine Lfp.step (hst _) ?_
  simp only [c35,c35x1,c35x2,c35x3,c35x4,c35x5,c35x6,c35x7,c35x8,c35x9,c35x10,c35x11,c35x12,c35x13,RUA,RUB,RUC,RUD,RUE,RUF,if_true,if_false,Int.reduceEq,Int.reduceLT,Int.reduceLE,qC,qO,qA,qS,qU,Nat.reduceEqDiff,qT,E.at,qR,Nat.reduceAdd,Nat.reduceSub,Nat.reduceLeDiff,Nat.reduceMul,qI,qP,qQ,dx2]
  refine defs_p.callF rfl (by simp) fun z hz => ?_
  subst hz
  simp only [c35,c35x1,c35x2,c35x3,c35x4,c35x5,c35x6,c35x7,c35x8,c35x9,c35x10,c35x11,c35x12,c35x13,c35x14,RUA,RUB,RUC,RUD,RUE,RUF,if_true,if_false,Int.reduceEq,Int.reduceLT,Int.reduceLE,qC,qO,qA,qS,qU,Nat.reduceEqDiff,qT,E.at,qR,Nat.reduceAdd,Nat.reduceSub,Nat.reduceLeDiff,Nat.reduceMul,qI,qP,qQ,dx2,fillC,rr]
  try simp only [c35,c35x1,c35x2,c35x3,c35x4,c35x5,c35x6,c35x7,c35x8,c35x9,c35x10,c35x11,c35x12,c35x13,c35x14,c35x15,RUA,RUB,RUC,RUD,RUE,RUF,if_true,if_false,Int.reduceEq,Int.reduceLT,Int.reduceLE,qC,qO,qA,qS,qU,Nat.reduceEqDiff,qT,E.at,qR,Nat.reduceAdd,Nat.reduceSub,Nat.reduceLeDiff,Nat.reduceMul,qI,qP,qQ,rr]
  first
    | refine oKa_nil rfl (hro _ _ (by decide) (by decide)) ?_
    | refine oKa_ar rfl rfl (hro _ _ (by simp) (by decide)) ?_
  try simp only [c35,c35x1,c35x2,c35x3,c35x4,c35x5,c35x6,c35x7,c35x8,c35x9,c35x10,c35x11,c35x12,c35x13,c35x14,c35x15,c35x16,RUA,RUB,RUC,RUD,RUE,RUF,if_true,if_false,Int.reduceEq,Int.reduceLT,Int.reduceLE,qC,qO,qA,qS,qU,Nat.reduceEqDiff,qT,E.at,qR,Nat.reduceAdd,Nat.reduceSub,Nat.reduceLeDiff,Nat.reduceMul,qI,qP,qQ,wl2]
  refine Lfp.step (hst _) ?_
  simp only [c35,c35x1,c35x2,c35x3,c35x4,c35x5,c35x6,c35x7,c35x8,c35x9,c35x10,c35x11,c35x12,c35x13,RUA,RUB,RUC,RUD,RUE,RUF,if_true,if_false,Int.reduceEq,Int.reduceLT,Int.reduceLE,qC,qO,qA,qS,qU,Nat.reduceEqDiff,qT,E.at,qR,Nat.reduceAdd,Nat.reduceSub,Nat.reduceLeDiff,Nat.reduceMul,qI,qP,qQ,dx3]
  refine defs_p.callF rfl (by simp) fun z hz => ?_
  subst hz
  simp only [c35,c35x1,c35x2,c35x3,c35x4,c35x5,c35x6,c35x7,c35x8,c35x9,c35x10,c35x11,c35x12,c35x13,c35x14,RUA,RUB,RUC,RUD,RUE,RUF,if_true,if_false,Int.reduceEq,Int.reduceLT,Int.reduceLE,qC,qO,qA,qS,qU,Nat.reduceEqDiff,qT,E.at,qR,Nat.reduceAdd,Nat.reduceSub,Nat.reduceLeDiff,Nat.reduceMul,qI,qP,qQ,dx3,fillC,rr]
  try simp only [c35,c35x1,c35x2,c35x3,c35x4,c35x5,c35x6,c35x7,c35x8,c35x9,c35x10,c35x11,c35x12,c35x13,c35x14,c35x15,RUA,RUB,RUC,RUD,RUE,RUF,if_true,if_false,Int.reduceEq,Int.reduceLT,Int.reduceLE,qC,qO,qA,qS,qU,Nat.reduceEqDiff,qT,E.at,qR,Nat.reduceAdd,Nat.reduceSub,Nat.reduceLeDiff,Nat.reduceMul,qI,qP,qQ,rr]
  first
    | refine oKa_nil rfl (hro _ _ (by decide) (by decide)) ?_
    | refine oKa_ar rfl rfl (hro _ _ (by simp) (by decide)) ?_
  try simp only [c35,c35x1,c35x2,c35x3,c35x4,c35x5,c35x6,c35x7,c35x8,c35x9,c35x10,c35x11,c35x12,c35x13,c35x14,c35x15,c35x16,RUA,RUB,RUC,RUD,RUE,RUF,if_true,if_false,Int.reduceEq,Int.reduceLT,Int.reduceLE,qC,qO,qA,qS,qU,Nat.reduceEqDiff,qT,E.at,qR,Nat.reduceAdd,Nat.reduceSub,Nat.reduceLeDiff,Nat.reduceMul,qI,qP,qQ,wl3]
  refine Lfp.step (hst _) ?_
  simp only [c35,c35x1,c35x2,c35x3,c35x4,c35x5,c35x6,c35x7,c35x8,c35x9,c35x10,c35x11,c35x12,c35x13,RUA,RUB,RUC,RUD,RUE,RUF,if_true,if_false,Int.reduceEq,Int.reduceLT,Int.reduceLE,qC,qO,qA,qS,qU,Nat.reduceEqDiff,qT,E.at,qR,Nat.reduceAdd,Nat.reduceSub,Nat.reduceLeDiff,Nat.reduceMul,qI,qP,qQ,dx4]
  refine defs_p.callF rfl (by simp) fun z hz => ?_
  subst hz
  simp only [c35,c35x1,c35x2,c35x3,c35x4,c35x5,c35x6,c35x7,c35x8,c35x9,c35x10,c35x11,c35x12,c35x13,c35x14,RUA,RUB,RUC,RUD,RUE,RUF,if_true,if_false,Int.reduceEq,Int.reduceLT,Int.reduceLE,qC,qO,qA,qS,qU,Nat.reduceEqDiff,qT,E.at,qR,Nat.reduceAdd,Nat.reduceSub,Nat.reduceLeDiff,Nat.reduceMul,qI,qP,qQ,dx4,fillC,rr]
  try simp only [c35,c35x1,c35x2,c35x3,c35x4,c35x5,c35x6,c35x7,c35x8,c35x9,c35x10,c35x11,c35x12,c35x13,c35x14,c35x15,RUA,RUB,RUC,RUD,RUE,RUF,if_true,if_false,Int.reduceEq,Int.reduceLT,Int.reduceLE,qC,qO,qA,qS,qU,Nat.reduceEqDiff,qT,E.at,qR,Nat.reduceAdd,Nat.reduceSub,Nat.reduceLeDiff,Nat.reduceMul,qI,qP,qQ,rr]
  first
    | refine oKa_nil rfl (hro _ _ (by decide) (by decide)) ?_
    | refine oKa_ar rfl rfl (hro _ _ (by simp) (by decide)) ?_
  try simp only [c35,c35x1,c35x2,c35x3,c35x4,c35x5,c35x6,c35x7,c35x8,c35x9,c35x10,c35x11,c35x12,c35x13,c35x14,c35x15,c35x16,RUA,RUB,RUC,RUD,RUE,RUF,if_true,if_false,Int.reduceEq,Int.reduceLT,Int.reduceLE,qC,qO,qA,qS,qU,Nat.reduceEqDiff,qT,E.at,qR,Nat.reduceAdd,Nat.reduceSub,Nat.reduceLeDiff,Nat.reduceMul,qI,qP,qQ,wl4]
  refine Lfp.step (hst _) ?_
  simp only [c35,c35x1,c35x2,c35x3,c35x4,c35x5,c35x6,c35x7,c35x8,c35x9,c35x10,c35x11,c35x12,c35x13,c35x14,c35x15,c35x16,c35x17,RUA,RUB,RUC,RUD,RUE,RUF,if_true,if_false,Int.reduceEq,Int.reduceLT,Int.reduceLE,qC,qO,qA,qS,qU,Nat.reduceEqDiff,qT,E.at,qR,Nat.reduceAdd,Nat.reduceSub,Nat.reduceLeDiff,Nat.reduceMul,qI,qP,qQ,e1,rets,List.take]
  refine shape_fin rfl rfl (by decide) rfl ?_ rfl ?_
  · intro x hx
    simp only [List.mem_cons,List.not_mem_nil,or_false] at hx
    rcases hx with rfl | rfl | rfl <;> exact ⟨_,_,rfl⟩
  · intro x hx
    simp only [List.mem_cons,List.not_mem_nil,or_false] at hx
    rcases hx with rfl | rfl | rfl | rfl | rfl
    · exact ⟨_,_,rfl,hz'⟩
    all_goals exact ⟨_,_,rfl,prZ⟩
end Go.Proofs.Ytfncfdiomolieaa
end

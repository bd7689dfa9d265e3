/- Parts of the texts that the claim's proof needs: functions of the program as the evaluator reads them, and what they come to. Conditions: those that its theorems state. -/
import Derived.Test.YtjfnhpnfkknmoaaDoorTC

section
set_option linter.unusedVariables false
set_option linter.unusedSimpArgs false
set_option maxRecDepth 100000
set_option maxHeartbeats 4000000
open Go.Proofs.Pe renaming putCells → qC, bslOf → qO, bsaOf → qA, bslS → qS, isUpto → qU, step → qT, intOf → qI, iop → qP, sop → qQ
open List renaming replicate → qR
open Go.Proofs.Pe.V renaming dead → qD
namespace Go.Proofs.YtjfnhpnfkknmoaaDoor
open Go.Proofs.Pe

/-! ### The document's names -/
abbrev vrs (l : List Ex) : List ByteArray := varsN (nodesL l)
theorem vrs_take {l : List Ex} {i : Nat} {x : Ex} (h : l[i]? = some x) : vrs (l.take (i + 1)) = vrs (l.take i) ++ varsN (nodes x) := by
  unfold vrs; rw [nodesL_take h]; simp [varsN]
theorem rn_loop {k n : Int} {nm : ByteArray} {l : List Ex} {u : V} (hk : k ≠ 2) (hu : IsEx (.mk k n nm l) u) (hb : (nodesL l).length ≤ 1000)
    (ih : ∀ y ∈ l,∀ u,IsEx y u → PFn Tryd.prog T 28 [u] fun z => IsSl 1 z (nmsV (ddN (varsN (nodes y))))) : PFn Tryd.prog T 28 [u] fun z => IsSl 1 z (nmsV (ddN (vrs l))) := by
  obtain ⟨lv,vs,rfl,e1,e2,e3⟩ := hu
  rw [isExs_all] at e3
  have hln := e3.len
  have hone : lv.one = true := free1_one e1.free
  have hrow := fun o => e1.row o
  have hd2 : decide (k = 2) = false := by simpa using hk
  unfold cap at e2
  have hvl : ∀ i,(vrs (l.take i)).length ≤ 1000 := fun i => by
    have h1 := varsN_len (nodesL (l.take i))
    have h2 : (nodesL (l.take i)).length ≤ (nodesL l).length := by
      conv => rhs; rw [← List.take_append_drop i l,nodesL_append]
      simp
    unfold vrs; omega
  intro yi hy
  refine Call.step hy ?_
  rw [body_eq t28]
  simp only [c28,c28x1,c28x2,c28x3,c28x4,c28x5,RUA,RUB,RUC,RUD,RUE,RUF,if_true,if_false,Int.reduceEq,Int.reduceLT,Int.reduceLE,qC,qO,qA,qS,qU,Nat.reduceEqDiff,qT,E.at,qR,Nat.reduceAdd,Nat.reduceSub,Nat.reduceLeDiff,Nat.reduceMul,qI,qP,qQ,hone,hd2]
  refine Lfp.inv call_le hy (fun a : Nat × List O × V => ⟨⟨(qD::.pt 0 0 :: qD::a.2.2 :: iV a.1 :: qD::qD::qD::qD::qD::qD::qD::qD::qD::qD::qD::qD::qD::qD::qD::qD::qD::qD::qD::qD::qD::qD::qD::qD::qD::qD::qD::qD::qD::qD::qD::qD::qD::qD::qD::qD::qD::qD::qD::qD::qD::qD::qD::qD::qD::qD::qD::qD::qD::qD::qD::qD::qD::qD::qD::qD::qD::[]),a.2.1⟩,[]⟩) (fun a => vs.length - a.1)
    (fun a => a.1 ≤ vs.length ∧ a.2.1[0]? = some (.cells [iV k,iV n,sV nm,lv]) ∧ ∃ A,RowAt a.2.1 1 a.2.2 (nmsV (ddN (vrs (l.take a.1)))) A) (0,[.cells [iV k,iV n,sV nm,lv]],nilV)
    ⟨Nat.zero_le _,rfl,[],.inl ⟨rfl,rfl,rfl⟩⟩ (by simp only [kill_L,killTs_nil,RUF] <;> rfl) ?_
  rintro ⟨i,o',out⟩ ⟨hi,h0,A,hr⟩
  dsimp only at hi h0 hr
  by_cases hlt : i < vs.length
  · have hd : decide ((i : Int) < (vs.length : Int)) = true := by simpa using hlt
    have hx : vs[i]? = some vs[i] := List.getElem?_eq_getElem hlt
    have hxl : l[i]? = some l[i] := List.getElem?_eq_getElem (by omega)
    have hmem : l[i] ∈ l := List.getElem_mem _
    have hE := e3.get hx hxl
    have hvt := vrs_take hxl
    have hvt1 := hvl (i + 1)
    have hvt0 := hvl i
    generalize vs[i] = w at hx hE
    generalize l[i] = y at hxl hE hmem hvt
    have hI := fun o => e1.ix o hx
    have hC := ih y hmem w hE
    have hE' := hE
    obtain ⟨a,b,c,dd,rfl,ho⟩ := ex_agg hE
    have hw1 : IntKind.i64.wrap ((i : Int) + 1) = ((i + 1 : Nat) : Int) := wrap_succ (by omega)
    simp only [c28,c28x1,c28x2,c28x3,c28x4,c28x5,c28x6,c28x7,c28x8,c28x9,RUA,RUB,RUC,RUD,RUE,RUF,if_true,if_false,Int.reduceEq,Int.reduceLT,Int.reduceLE,qC,qO,qA,qS,qU,Nat.reduceEqDiff,qT,E.at,qR,Nat.reduceAdd,Nat.reduceSub,Nat.reduceLeDiff,Nat.reduceMul,qI,qP,qQ,hd,h0,hrow,hI,ho]
    refine hC.callF rfl (fun x hx => by simp only [List.mem_singleton] at hx; subst hx; exact hE'.ok.1) fun z hz => ?_
    have hL : (ddN (varsN (nodes y))).length ≤ 1000 := by
      have h1 := foldN_len (varsN (nodes y)) []
      have e : ddN (varsN (nodes y)) = (varsN (nodes y)).foldl addN [] := rfl
      have := congrArg List.length hvt
      simp at this h1
      rw [e]; omega
    have hmg : ddN (vrs (l.take (i + 1))) = (ddN (varsN (nodes y))).foldl addN (ddN (vrs (l.take i))) := by
      rw [dd_merge,hvt]; simp [ddN,List.foldl_append]
    have hD : (ddN (vrs (l.take i))).length ≤ 1000 := by
      have h1 := foldN_len (vrs (l.take i)) []
      have e : ddN (vrs (l.take i)) = (vrs (l.take i)).foldl addN [] := rfl
      simp at h1
      rw [e]; omega
    generalize ddN (varsN (nodes y)) = L at hz hL hmg
    generalize ddN (vrs (l.take i)) = D at hr hD hmg
    have hrz := fun o => hz.row o
    have hLl := nms_len L
    simp only [c28,c28x1,c28x2,c28x3,c28x4,c28x5,c28x6,c28x7,c28x8,c28x9,c28x10,RUA,RUB,RUC,RUD,RUE,RUF,if_true,if_false,Int.reduceEq,Int.reduceLT,Int.reduceLE,qC,qO,qA,qS,qU,Nat.reduceEqDiff,qT,E.at,qR,Nat.reduceAdd,Nat.reduceSub,Nat.reduceLeDiff,Nat.reduceMul,qI,qP,qQ]
    refine Lfp.inv call_le hy (fun a : Nat × List O × V => ⟨⟨(qD::.pt 0 0 :: qD::a.2.2 :: iV i :: z :: iV a.1 :: qD::qD::qD::qD::qD::qD::qD::qD::qD::qD::qD::qD::qD::qD::qD::qD::qD::qD::qD::qD::qD::qD::qD::qD::qD::qD::qD::qD::qD::qD::qD::qD::qD::qD::qD::qD::qD::qD::qD::qD::qD::qD::qD::qD::qD::qD::qD::qD::qD::qD::qD::qD::qD::qD::qD::[]),a.2.1⟩,[]⟩) (fun a => L.length - a.1)
      (fun a => a.1 ≤ L.length ∧ a.2.1[0]? = some (.cells [iV k,iV n,sV nm,lv]) ∧ ∃ A,RowAt a.2.1 1 a.2.2 (nmsV ((L.take a.1).foldl addN D)) A) (0,o',out) ⟨Nat.zero_le _,h0,A,hr⟩ (by simp only [kill_L,killTs_nil,RUF] <;> rfl) ?_
    rintro ⟨q,o2,out2⟩ ⟨hq,h02,A2,hr2⟩
    dsimp only at hq h02 hr2
    by_cases hql : q < L.length
    · have hd3 : decide ((q : Int) < ((nmsV L).length : Int)) = true := by rw [hLl]; simpa using hql
      have hs : L[q]? = some L[q] := List.getElem?_eq_getElem hql
      have htk : (L.take (q + 1)).foldl addN D = addN ((L.take q).foldl addN D) L[q] := by rw [List.take_add_one,hs,Option.toList_some,List.foldl_append]; rfl
      have hMl : ((L.take q).foldl addN D).length ≤ 2000 := by
        have := foldN_len (L.take q) D
        simp at this; omega
      generalize L[q] = s at hs htk
      generalize (L.take q).foldl addN D = M at hr2 htk hMl
      have hIs := fun o => hz.ix o (nms_get hs)
      have hro := hr2.row
      have hMn := nms_len M
      have hwq : IntKind.i64.wrap ((q : Int) + 1) = ((q + 1 : Nat) : Int) := wrap_succ (by omega)
      simp only [c28,c28x1,c28x2,c28x3,c28x4,c28x5,c28x6,c28x7,c28x8,c28x9,c28x10,c28x11,c28x12,c28x13,c28x14,c28x15,RUA,RUB,RUC,RUD,RUE,RUF,if_true,if_false,Int.reduceEq,Int.reduceLT,Int.reduceLE,qC,qO,qA,qS,qU,Nat.reduceEqDiff,qT,E.at,qR,Nat.reduceAdd,Nat.reduceSub,Nat.reduceLeDiff,Nat.reduceMul,qI,qP,qQ,hd3,hrz]
      refine Lfp.inv call_le hy (fun a : Nat × Bool => ⟨⟨(qD::.pt 0 0 :: qD::out2 :: iV i :: z :: iV q :: bV a.2 :: iV a.1 :: qD::qD::qD::qD::qD::qD::qD::qD::qD::qD::qD::qD::qD::qD::qD::qD::qD::qD::qD::qD::qD::qD::qD::qD::qD::qD::qD::qD::qD::qD::qD::qD::qD::qD::qD::qD::qD::qD::qD::qD::qD::qD::qD::qD::qD::qD::qD::qD::qD::qD::qD::qD::qD::[]),o2⟩,[]⟩) (fun a => M.length - a.1)
        (fun a => a.1 ≤ M.length ∧ a.2 = decide (s ∈ M.take a.1)) (0,false) ⟨Nat.zero_le _,by simp⟩ (by simp only [kill_L,killTs_nil,RUF] <;> rfl) ?_
      rintro ⟨j,is⟩ ⟨hj,his⟩
      dsimp only at hj his
      by_cases hjl : j < M.length
      · have hd4 : decide ((j : Int) < ((nmsV M).length : Int)) = true := by rw [hMn]; simpa using hjl
        have ht : M[j]? = some M[j] := List.getElem?_eq_getElem hjl
        have hmt : M.take (j + 1) = M.take j ++ [M[j]] := by rw [List.take_add_one,ht]; rfl
        generalize M[j] = t at ht hmt
        have hMj := nms_get ht
        have hwj : IntKind.i64.wrap ((j : Int) + 1) = ((j + 1 : Nat) : Int) := wrap_succ (by omega)
        have hRV : RowV o2 1 out2 (nmsV M) A2 := .inr hr2
        cases is with
        | true =>
          simp only [c28,c28x1,c28x2,c28x3,c28x4,c28x5,c28x6,c28x7,c28x8,c28x9,c28x10,c28x11,c28x12,c28x13,c28x14,c28x15,c28x16,c28x17,c28x18,c28x19,c28x20,c28x21,c28x22,c28x23,c28x24,RUA,RUB,RUC,RUD,RUE,RUF,if_true,if_false,Int.reduceEq,Int.reduceLT,Int.reduceLE,qC,qO,qA,qS,qU,Nat.reduceEqDiff,qT,E.at,qR,Nat.reduceAdd,Nat.reduceSub,Nat.reduceLeDiff,Nat.reduceMul,qI,qP,qQ,hro,hd4,hwj]
          refine ⟨(j + 1,true),⟨by simp only; omega, ?_⟩,by simp only; omega,rfl⟩
          have hm : s ∈ M.take j := by simpa using his.symm
          simp only
          rw [hmt]; simp [hm]
        | false =>
          have hm : s ∉ M.take j := by simpa using his.symm
          have fin : decide (t = s) = decide (s ∈ M.take (j + 1)) := by
            rw [hmt]
            by_cases e : t = s
            · simp [e]
            · have e' : ¬ s = t := fun h => e h.symm
              simp [e,e',hm]
          rcases hRV.cases hMj with hI2 | ⟨la,v,wr,hI2,hla⟩
          · simp only [c28,c28x1,c28x2,c28x3,c28x4,c28x5,c28x6,c28x7,c28x8,c28x9,c28x10,c28x11,c28x12,c28x13,c28x14,c28x15,c28x16,c28x17,c28x18,c28x19,c28x20,c28x21,c28x22,c28x23,c28x24,RUA,RUB,RUC,RUD,RUE,RUF,if_true,if_false,Int.reduceEq,Int.reduceLT,Int.reduceLE,qC,qO,qA,qS,qU,Nat.reduceEqDiff,qT,E.at,qR,Nat.reduceAdd,Nat.reduceSub,Nat.reduceLeDiff,Nat.reduceMul,qI,qP,qQ,hro,hd4,hwj,hI2,hIs,ba_eq]
            exact ⟨(j + 1,decide (t = s)),⟨by simp only; omega,fin⟩,by simp only; omega,rfl⟩
          · simp only [c28,c28x1,c28x2,c28x3,c28x4,c28x5,c28x6,c28x7,c28x8,c28x9,c28x10,c28x11,c28x12,c28x13,c28x14,c28x15,c28x16,c28x17,c28x18,c28x19,c28x20,c28x21,c28x22,c28x23,c28x24,RUA,RUB,RUC,RUD,RUE,RUF,if_true,if_false,Int.reduceEq,Int.reduceLT,Int.reduceLE,qC,qO,qA,qS,qU,Nat.reduceEqDiff,qT,E.at,qR,Nat.reduceAdd,Nat.reduceSub,Nat.reduceLeDiff,Nat.reduceMul,qI,qP,qQ,hro,hd4,hwj,hI2,hla,hMj,hIs,ba_eq]
            exact ⟨(j + 1,decide (t = s)),⟨by simp only; omega,fin⟩,by simp only; omega,rfl⟩
      · have hd4 : decide ((j : Int) < ((nmsV M).length : Int)) = false := by rw [hMn]; simpa using hjl
        rw [List.take_of_length_le (by omega)] at his
        cases is with
        | true =>
          have hm : s ∈ M := by simpa using his.symm
          simp only [c28,c28x1,c28x2,c28x3,c28x4,c28x5,c28x6,c28x7,c28x8,c28x9,c28x10,c28x11,c28x12,c28x13,c28x14,c28x15,c28x16,c28x17,c28x18,c28x19,c28x20,c28x21,c28x22,c28x23,c28x24,RUA,RUB,RUC,RUD,RUE,RUF,if_true,if_false,Int.reduceEq,Int.reduceLT,Int.reduceLE,qC,qO,qA,qS,qU,Nat.reduceEqDiff,qT,E.at,qR,Nat.reduceAdd,Nat.reduceSub,Nat.reduceLeDiff,Nat.reduceMul,qI,qP,qQ,hro,hd4,hwq]
          exact ⟨(q + 1,o2,out2),⟨by simp only; omega,h02,A2,by simp only; rw [htk,show addN M s = M from if_pos hm]; exact hr2⟩,by simp only; omega,rfl⟩
        | false =>
          have hm : s ∉ M := by simpa using his.symm
          obtain ⟨rv',B1,A',ha,hr3,hfr,hA'⟩ := hr2.push (b := 16) (f := true) (y := sV s) rfl (by rw [nms_len]; unfold room; omega)
          simp only [c28,c28x1,c28x2,c28x3,c28x4,c28x5,c28x6,c28x7,c28x8,c28x9,c28x10,c28x11,c28x12,c28x13,c28x14,c28x15,c28x16,c28x17,c28x18,c28x19,c28x20,c28x21,c28x22,c28x23,c28x24,RUA,RUB,RUC,RUD,RUE,RUF,if_true,if_false,Int.reduceEq,Int.reduceLT,Int.reduceLE,qC,qO,qA,qS,qU,Nat.reduceEqDiff,qT,E.at,qR,Nat.reduceAdd,Nat.reduceSub,Nat.reduceLeDiff,Nat.reduceMul,qI,qP,qQ,hro,hd4,hwq,hIs,ha]
          refine ⟨(q + 1,B1,rv'),⟨by simp only; omega,hfr.cells h02 (hr2.notCells h02),A', ?_⟩,by simp only; omega,rfl⟩
          simp only
          rw [htk,show addN M s = M ++ [s] from if_neg hm,← nms_snoc]
          exact hr3
    · have hd3 : decide ((q : Int) < ((nmsV L).length : Int)) = false := by rw [hLl]; simpa using hql
      rw [List.take_of_length_le (by omega)] at hr2
      simp only [c28,c28x1,c28x2,c28x3,c28x4,c28x5,c28x6,c28x7,c28x8,c28x9,c28x10,c28x11,c28x12,c28x13,c28x14,c28x15,c28x16,c28x17,c28x18,c28x19,c28x20,c28x21,c28x22,c28x23,c28x24,RUA,RUB,RUC,RUD,RUE,RUF,if_true,if_false,Int.reduceEq,Int.reduceLT,Int.reduceLE,qC,qO,qA,qS,qU,Nat.reduceEqDiff,qT,E.at,qR,Nat.reduceAdd,Nat.reduceSub,Nat.reduceLeDiff,Nat.reduceMul,qI,qP,qQ,hd3,hrz,hw1]
      exact ⟨(i + 1,o2,out2),⟨by simp only; omega,h02,A2,by simp only; rw [hmg]; exact hr2⟩,by simp only; omega,rfl⟩
  · have hd : decide ((i : Int) < (vs.length : Int)) = false := by simpa using hlt
    rw [List.take_of_length_le (by omega)] at hr
    obtain ⟨w,o1,q1,q2⟩ := RowAt.frzD hr (nms_free _)
    simp only [c28,c28x1,c28x2,c28x3,c28x4,c28x5,c28x6,c28x7,c28x8,c28x9,c28x10,c28x11,c28x12,c28x13,c28x14,c28x15,c28x16,c28x17,c28x18,c28x19,c28x20,c28x21,c28x22,c28x23,c28x24,RUA,RUB,RUC,RUD,RUE,RUF,if_true,if_false,Int.reduceEq,Int.reduceLT,Int.reduceLE,qC,qO,qA,qS,qU,Nat.reduceEqDiff,qT,E.at,qR,Nat.reduceAdd,Nat.reduceSub,Nat.reduceLeDiff,Nat.reduceMul,qI,qP,qQ,hd,h0,hrow]
    refine ⟨w,o1, ?_,q2⟩
    rcases hr with ⟨rfl,_,_⟩ | ⟨la,v,wr,rfl,_,_⟩ <;> exact q1
theorem rnames_p {n : Nat} {x : Ex} (h : WfT n x) : (nodes x).length ≤ 1000 → ∀ u,IsEx x u → PFn Tryd.prog T 28 [u] fun z => IsSl 1 z (nmsV (ddN (varsN (nodes x)))) := by
  induction h with
  | @num n m hm =>
    intro hb u hu
    have := rn_loop (k := 1) (l := []) (by omega) hu (by simp [nodesL]) (fun y hy => by cases hy)
    simpa [vrs,nodes,nodesL,varsN,varN] using this
  | @var n t ht =>
    intro hb u hu
    obtain ⟨lv,vs,rfl,e1,e2,e3⟩ := hu
    have hone : lv.one = true := free1_one e1.free
    have e : nmsV (ddN (varsN (nodes (.mk 2 0 ⟨t.toArray⟩ [])))) = [sV ⟨t.toArray⟩] := by simp [nodes,nodesL,varsN,varN,ddN,addN,nmsV]
    rw [e]
    intro yi hy
    refine Call.step hy ?_
    rw [body_eq t28]
    simp only [c28,c28x1,c28x2,c28x3,c28x4,c28x5,c28x6,c28x7,c28x8,c28x9,c28x10,c28x11,c28x12,c28x13,c28x14,c28x15,c28x16,c28x17,c28x18,c28x19,c28x20,c28x21,c28x22,c28x23,c28x24,RUA,RUB,RUC,RUD,RUE,RUF,if_true,if_false,Int.reduceEq,Int.reduceLT,Int.reduceLE,qC,qO,qA,qS,qU,Nat.reduceEqDiff,qT,E.at,qR,Nat.reduceAdd,Nat.reduceSub,Nat.reduceLeDiff,Nat.reduceMul,qI,qP,qQ,hone]
    exact ⟨_,_,frzT_free rfl,.inr ⟨_,rfl⟩⟩
  | @one n k x hk hx ih =>
    intro hb u hu
    have e1 : (nodes x).length ≤ 1000 := by simp [nodes,nodesL] at hb; omega
    have := rn_loop (k := k) (l := [x]) (by omega) hu (by simp [nodesL]; omega) (fun y hy v hv => by simp only [List.mem_singleton] at hy; rw [hy] at hv ⊢; exact ih e1 v hv)
    have e : varsN (nodes (.mk k 0 emp [x])) = vrs [x] := by
      have : ¬ (k : Int) = 2 := by omega
      simp [nodes,varsN,varN,this]
    rw [e]; exact this
  | @two n k x y hk1 hk2 hx hy ih1 ih2 =>
    intro hb u hu
    have e1 : (nodes x).length + (nodes y).length ≤ 1000 := by simp [nodes,nodesL] at hb; omega
    have := rn_loop (k := k) (l := [x,y]) (by omega) hu (by simp [nodesL]; omega) (fun z hz v hv => by
      simp only [List.mem_cons,List.not_mem_nil,or_false] at hz
      rcases hz with hz | hz
      · rw [hz] at hv ⊢; exact ih1 (by omega) v hv
      · rw [hz] at hv ⊢; exact ih2 (by omega) v hv)
    have e : varsN (nodes (.mk k 0 emp [x,y])) = vrs [x,y] := by
      have : ¬ (k : Int) = 2 := by omega
      simp [nodes,varsN,varN,this]
    rw [e]; exact this
end Go.Proofs.YtjfnhpnfkknmoaaDoor
end

section
set_option linter.unusedVariables false
set_option linter.unusedSimpArgs false
set_option maxRecDepth 100000
set_option maxHeartbeats 4000000
open Go.Proofs.Pe renaming putCells → qC, bslOf → qO, bsaOf → qA, bslS → qS, isUpto → qU, step → qT, intOf → qI, iop → qP, sop → qQ
open List renaming replicate → qR
open Go.Proofs.Pe.V renaming dead → qD
namespace Go.Proofs.YtjfnhpnfkknmoaaDoor
open Go.Proofs.Pe

theorem itoa_p {m : Nat} (h : m < e18) : PFn Tryd.prog T 47 [iV m] fun z => z = tV (digB m) := by
  have := extI_p (P := Tryd.prog) (T := T) (k := 47) rfl rfl (n := m) (by omega) (by unfold e18 at h; omega)
  rw [itoaF_nat] at this; exact this
theorem sgns_len : sgnsV.length = 18 := by simp [sgnsV]
theorem kindOf_p {k : Nat} (hk : k < 18) {n : Int} {nm : ByteArray} {lv : V} (ho : lv.one = true) : PFn Tryd.prog T 45 [.agg [iV k,iV n,sV nm,lv]] fun z => z = iV k := by
  have d1 : decide ((k : Int) < 0) = false := by simp
  have d2 : decide (((18 : Nat) : Int) ≤ (k : Int)) = false := by simp; omega
  intro yi hy
  refine Call.step hy ?_
  rw [body_eq t45]
  simp only [c45,c45x1,RUA,RUB,RUC,RUD,RUE,RUF,if_true,if_false,Int.reduceEq,Int.reduceLT,Int.reduceLE,qC,qO,qA,qS,qU,Nat.reduceEqDiff,qT,E.at,qR,Nat.reduceAdd,Nat.reduceSub,Nat.reduceLeDiff,Nat.reduceMul,qI,qP,qQ,ho,d1]
  refine pcall signs_l rfl (by simp) ?_
  simp only [c45,c45x1,c45x2,c45x3,RUA,RUB,RUC,RUD,RUE,RUF,if_true,if_false,Int.reduceEq,Int.reduceLT,Int.reduceLE,qC,qO,qA,qS,qU,Nat.reduceEqDiff,qT,E.at,qR,Nat.reduceAdd,Nat.reduceSub,Nat.reduceLeDiff,Nat.reduceMul,qI,qP,qQ,ho,d1,sgns_len,d2]
  exact ⟨_,_,frzT_free rfl,rfl⟩
theorem part_t {x : Ex} {v : V} (hv : IsEx x v) (hl : (textE x).length ≤ 1000000) (ih : PFn Tryd.prog T 23 [v] fun z => z = tV (textE x)) : PFn Tryd.prog T 46 [v] fun z => z = tV (brE x (textE x)) := by
  have hv' := hv
  rcases x with ⟨k,n,nm,l⟩
  obtain ⟨lv,vs,rfl,e1,e2,e3⟩ := hv
  rw [isExs_all] at e3
  have hln := e3.len
  have ho : lv.one = true := free1_one e1.free
  have hrow := fun o => e1.row o
  generalize textE (.mk k n nm l) = t at hl ih ⊢
  have hs1 := catOk (n := 1 + t.length) (by omega)
  have hs2 := catOk (n := t.length + 1 + 1) (by omega)
  intro yi hy
  refine Call.step hy ?_
  rw [body_eq t46]
  by_cases h2 : l.length = 2
  · have hd : decide ((vs.length : Int) = 2) = true := by simp; omega
    try simp only [c46,c46x1,c46x2,RUA,RUB,RUC,RUD,RUE,RUF,if_true,if_false,Int.reduceEq,Int.reduceLT,Int.reduceLE,qC,qO,qA,qS,qU,Nat.reduceEqDiff,qT,E.at,qR,Nat.reduceAdd,Nat.reduceSub,Nat.reduceLeDiff,Nat.reduceMul,qI,qP,qQ,ho,hrow,hd]
    refine pcall ih rfl (fun x hx => by simp only [List.mem_singleton] at hx; subst hx; exact hv'.ok.1) ?_
    try simp only [c46,c46x1,c46x2,c46x3,RUA,RUB,RUC,RUD,RUE,RUF,if_true,if_false,Int.reduceEq,Int.reduceLT,Int.reduceLE,qC,qO,qA,qS,qU,Nat.reduceEqDiff,qT,E.at,qR,Nat.reduceAdd,Nat.reduceSub,Nat.reduceLeDiff,Nat.reduceMul,qI,qP,qQ,ho,hs1,hs2]
    match l,h2 with
    | [a,b],_ => exact ⟨_,_,frzT_free rfl,rfl⟩
  · have hd : decide ((vs.length : Int) = 2) = false := by simp; omega
    try simp only [c46,c46x1,c46x2,c46x3,RUA,RUB,RUC,RUD,RUE,RUF,if_true,if_false,Int.reduceEq,Int.reduceLT,Int.reduceLE,qC,qO,qA,qS,qU,Nat.reduceEqDiff,qT,E.at,qR,Nat.reduceAdd,Nat.reduceSub,Nat.reduceLeDiff,Nat.reduceMul,qI,qP,qQ,ho,hrow,hd]
    refine pcall ih rfl (fun x hx => by simp only [List.mem_singleton] at hx; subst hx; exact hv'.ok.1) ?_
    try simp only [c46,c46x1,c46x2,c46x3,RUA,RUB,RUC,RUD,RUE,RUF,if_true,if_false,Int.reduceEq,Int.reduceLT,Int.reduceLE,qC,qO,qA,qS,qU,Nat.reduceEqDiff,qT,E.at,qR,Nat.reduceAdd,Nat.reduceSub,Nat.reduceLeDiff,Nat.reduceMul,qI,qP,qQ,ho]
    exact ⟨_,_,frzT_free rfl,by rw [br_not h2]⟩

theorem text_p {n : Nat} {x : Ex} (h : WfT n x) : ∀ v,IsEx x v → (textE x).length ≤ 1000000 → PFn Tryd.prog T 23 [v] fun z => z = tV (textE x) := by
  induction h with
  | @num n m hm =>
    intro v hv hl
    obtain ⟨lv,vs,rfl,e1,e2,e3⟩ := hv
    rw [show vs = [] from e3] at e1
    have ho : lv.one = true := free1_one e1.free
    have hrow := fun o => e1.row o
    intro yi hy
    refine Call.step hy ?_
    rw [body_eq t23]
    try simp only [c23,c23x1,c23x2,c23x3,c23x4,c23x5,c23x6,c23x7,RUA,RUB,RUC,RUD,RUE,RUF,if_true,if_false,Int.reduceEq,Int.reduceLT,Int.reduceLE,qC,qO,qA,qS,qU,Nat.reduceEqDiff,qT,E.at,qR,Nat.reduceAdd,Nat.reduceSub,Nat.reduceLeDiff,Nat.reduceMul,qI,qP,qQ,ho,hrow]
    refine pcall (itoa_p hm) rfl (by simp [V.free,V.free1]) ?_
    try simp only [c23,c23x1,c23x2,c23x3,c23x4,c23x5,c23x6,c23x7,RUA,RUB,RUC,RUD,RUE,RUF,if_true,if_false,Int.reduceEq,Int.reduceLT,Int.reduceLE,qC,qO,qA,qS,qU,Nat.reduceEqDiff,qT,E.at,qR,Nat.reduceAdd,Nat.reduceSub,Nat.reduceLeDiff,Nat.reduceMul,qI,qP,qQ]
    exact ⟨_,_,frzT_free rfl,by rw [text_num]⟩
  | @var n t ht =>
    intro v hv hl
    obtain ⟨lv,vs,rfl,e1,e2,e3⟩ := hv
    rw [show vs = [] from e3] at e1
    have ho : lv.one = true := free1_one e1.free
    have hrow := fun o => e1.row o
    intro yi hy
    refine Call.step hy ?_
    rw [body_eq t23]
    try simp only [c23,c23x1,c23x2,c23x3,c23x4,c23x5,c23x6,c23x7,RUA,RUB,RUC,RUD,RUE,RUF,if_true,if_false,Int.reduceEq,Int.reduceLT,Int.reduceLE,qC,qO,qA,qS,qU,Nat.reduceEqDiff,qT,E.at,qR,Nat.reduceAdd,Nat.reduceSub,Nat.reduceLeDiff,Nat.reduceMul,qI,qP,qQ,ho,hrow]
    exact ⟨_,_,frzT_free rfl,by rw [text_var]⟩
  | @one n k x hk hx ih =>
    intro v hv hl
    have hv' := hv
    obtain ⟨lv,vs,rfl,e1,e2,e3⟩ := hv
    obtain ⟨u,us,rfl,hu,e4⟩ := e3
    rw [show us = [] from e4] at e1
    have ho : lv.one = true := free1_one e1.free
    have hrow := fun o => e1.row o
    have hI0 := e1.ix0 rfl
    rw [text_one] at hl ⊢
    have hb := br_len x (textE x)
    have hP := part_t hu (by simp at hl; omega) (ih u hu (by simp at hl; omega))
    obtain ⟨a,b,c,dd,rfl,ho2⟩ := ex_agg hu
    have hI : ∀ o,ixOf 1 o (.sl 1 true sgnsV) (iV k) = some (.ep [tV (kTxt k)],o) := fun o => IsSl.ix (.inr ⟨_,rfl⟩) o (sgns_get (by omega))
    have hs := catOk (n := (kTxt k).length + (brE x (textE x)).length) (by simp at hl; omega)
    intro yi hy
    refine Call.step hy ?_
    rw [body_eq t23]
    try simp only [c23,c23x1,c23x2,c23x3,RUA,RUB,RUC,RUD,RUE,RUF,if_true,if_false,Int.reduceEq,Int.reduceLT,Int.reduceLE,qC,qO,qA,qS,qU,Nat.reduceEqDiff,qT,E.at,qR,Nat.reduceAdd,Nat.reduceSub,Nat.reduceLeDiff,Nat.reduceMul,qI,qP,qQ,ho,hrow,hI0,ho2]
    refine pcall signs_l rfl (by simp) ?_
    try simp only [c23,c23x1,c23x2,c23x3,RUA,RUB,RUC,RUD,RUE,RUF,if_true,if_false,Int.reduceEq,Int.reduceLT,Int.reduceLE,qC,qO,qA,qS,qU,Nat.reduceEqDiff,qT,E.at,qR,Nat.reduceAdd,Nat.reduceSub,Nat.reduceLeDiff,Nat.reduceMul,qI,qP,qQ,ho]
    refine pcall (kindOf_p (by omega) ho) rfl (fun x hx => by simp only [List.mem_singleton] at hx; subst hx; exact hv'.ok.1) ?_
    try simp only [c23,c23x1,c23x2,c23x3,RUA,RUB,RUC,RUD,RUE,RUF,if_true,if_false,Int.reduceEq,Int.reduceLT,Int.reduceLE,qC,qO,qA,qS,qU,Nat.reduceEqDiff,qT,E.at,qR,Nat.reduceAdd,Nat.reduceSub,Nat.reduceLeDiff,Nat.reduceMul,qI,qP,qQ,hI]
    refine pcall hP rfl (fun x hx => by simp only [List.mem_singleton] at hx; subst hx; exact hu.ok.1) ?_
    try simp only [c23,c23x1,c23x2,c23x3,RUA,RUB,RUC,RUD,RUE,RUF,if_true,if_false,Int.reduceEq,Int.reduceLT,Int.reduceLE,qC,qO,qA,qS,qU,Nat.reduceEqDiff,qT,E.at,qR,Nat.reduceAdd,Nat.reduceSub,Nat.reduceLeDiff,Nat.reduceMul,qI,qP,qQ,hs]
    exact ⟨_,_,frzT_free rfl,rfl⟩
  | @two n k x y hk1 hk2 hx hy ih1 ih2 =>
    intro v hv hl
    have hv' := hv
    obtain ⟨lv,vs,rfl,e1,e2,e3⟩ := hv
    obtain ⟨u,us,rfl,hu,e4⟩ := e3
    obtain ⟨u2,us2,rfl,hu2,e5⟩ := e4
    rw [show us2 = [] from e5] at e1
    have ho : lv.one = true := free1_one e1.free
    have hrow := fun o => e1.row o
    have hI0 := e1.ix0 rfl
    have hI1 := e1.ix1 rfl
    rw [text_two] at hl ⊢
    have hb := br_len x (textE x)
    have hb2 := br_len y (textE y)
    have hP := part_t hu (by simp at hl; omega) (ih1 u hu (by simp at hl; omega))
    have hP2 := part_t hu2 (by simp at hl; omega) (ih2 u2 hu2 (by simp at hl; omega))
    obtain ⟨a,b,c,dd,rfl,ho2⟩ := ex_agg hu
    obtain ⟨a',b',c',dd',rfl,ho3⟩ := ex_agg hu2
    generalize brE x (textE x) = p at hl hP
    generalize brE y (textE y) = q at hl hP2
    have hI : ∀ o,ixOf 1 o (.sl 1 true sgnsV) (iV k) = some (.ep [tV (kTxt k)],o) := fun o => IsSl.ix (.inr ⟨_,rfl⟩) o (sgns_get (by omega))
    have hs1 := catOk (n := p.length + 1) (by simp at hl; omega)
    have hs2 := catOk (n := (p ++ [32]).length + (kTxt k).length) (by simp at hl ⊢; omega)
    have hs3 := catOk (n := (p ++ [32] ++ kTxt k).length + 1) (by simp at hl ⊢; omega)
    have hs4 := catOk (n := (p ++ [32] ++ kTxt k ++ [32]).length + q.length) (by simp at hl ⊢; omega)
    intro yi hy
    refine Call.step hy ?_
    rw [body_eq t23]
    try simp only [c23,c23x1,c23x2,c23x3,c23x4,RUA,RUB,RUC,RUD,RUE,RUF,if_true,if_false,Int.reduceEq,Int.reduceLT,Int.reduceLE,qC,qO,qA,qS,qU,Nat.reduceEqDiff,qT,E.at,qR,Nat.reduceAdd,Nat.reduceSub,Nat.reduceLeDiff,Nat.reduceMul,qI,qP,qQ,ho,hrow,hI0,hI1,ho2,ho3]
    refine pcall hP rfl (fun x hx => by simp only [List.mem_singleton] at hx; subst hx; exact hu.ok.1) ?_
    try simp only [c23,c23x1,c23x2,c23x3,c23x4,RUA,RUB,RUC,RUD,RUE,RUF,if_true,if_false,Int.reduceEq,Int.reduceLT,Int.reduceLE,qC,qO,qA,qS,qU,Nat.reduceEqDiff,qT,E.at,qR,Nat.reduceAdd,Nat.reduceSub,Nat.reduceLeDiff,Nat.reduceMul,qI,qP,qQ,hs1]
    refine pcall signs_l rfl (by simp) ?_
    try simp only [c23,c23x1,c23x2,c23x3,c23x4,RUA,RUB,RUC,RUD,RUE,RUF,if_true,if_false,Int.reduceEq,Int.reduceLT,Int.reduceLE,qC,qO,qA,qS,qU,Nat.reduceEqDiff,qT,E.at,qR,Nat.reduceAdd,Nat.reduceSub,Nat.reduceLeDiff,Nat.reduceMul,qI,qP,qQ,ho]
    refine pcall (kindOf_p (by omega) ho) rfl (fun x hx => by simp only [List.mem_singleton] at hx; subst hx; exact hv'.ok.1) ?_
    try simp only [c23,c23x1,c23x2,c23x3,c23x4,RUA,RUB,RUC,RUD,RUE,RUF,if_true,if_false,Int.reduceEq,Int.reduceLT,Int.reduceLE,qC,qO,qA,qS,qU,Nat.reduceEqDiff,qT,E.at,qR,Nat.reduceAdd,Nat.reduceSub,Nat.reduceLeDiff,Nat.reduceMul,qI,qP,qQ,hI,hs2,hs3]
    refine pcall hP2 rfl (fun x hx => by simp only [List.mem_singleton] at hx; subst hx; exact hu2.ok.1) ?_
    try simp only [c23,c23x1,c23x2,c23x3,c23x4,RUA,RUB,RUC,RUD,RUE,RUF,if_true,if_false,Int.reduceEq,Int.reduceLT,Int.reduceLE,qC,qO,qA,qS,qU,Nat.reduceEqDiff,qT,E.at,qR,Nat.reduceAdd,Nat.reduceSub,Nat.reduceLeDiff,Nat.reduceMul,qI,qP,qQ,hs4]
    exact ⟨_,_,frzT_free rfl,by simp⟩

/-! ### The document's -/
theorem sign_all : ((List.range 13).all fun i => evCallB Tryd.prog T 60 noYB 50 [.sc (.int .i64 ((5 + i : Nat) : Int))] [] (froB (isTx (kTxt (5 + i))))) = true := by kernel_rfl
theorem sign_p {k : Nat} (h1 : 5 ≤ k) (h2 : k ≤ 17) : PFn Tryd.prog T 50 [iV k] fun z => z = tV (kTxt k) := by
  have := List.all_eq_true.1 sign_all (k - 5) (by simp; omega)
  rw [show 5 + (k - 5) = k by omega] at this
  exact (PFn.ofB 60 this).mono fun z h => isTx_eq h
theorem digits_p : ∀ (f n : Nat),1 ≤ f → f ≤ 18 → n < 10 ^ f → PFn Tryd.prog T 48 [iV n] fun z => z = tV (digF f n)
  | 0,n,h,_,_ => by omega
  | f + 1,n,_,hf,hn => by
    have hp := pow18 (k := f + 1) hf
    have d0 : decide ((n : Int) < 0) = false := by simp
    intro yi hy
    refine Call.step hy ?_
    rw [body_eq t48]
    by_cases h10 : n < 10
    · have d1 : decide ((10 : Int) ≤ (n : Int)) = false := by simp; omega
      have w1 : IntKind.i64.wrap (48 + (n : Int)) = ((48 + n : Nat) : Int) := by rw [wrap_ok (by omega) (by omega)]; omega
      have w2 : IntKind.u8.wrap ((48 + n : Nat) : Int) = ((UInt8.ofNat (48 + n)).toNat : Int) := by
        rw [dg_nat h10]; unfold IntKind.wrap; simp [IntKind.bits,IntKind.signed]; omega
      have e : digF (f + 1) n = [UInt8.ofNat (48 + n)] := by rw [digF,if_pos h10]
      rw [e]
      simp only [c48,c48x1,c48x2,c48x3,c48x4,c48x5,RUA,RUB,RUC,RUD,RUE,RUF,if_true,if_false,Int.reduceEq,Int.reduceLT,Int.reduceLE,qC,qO,qA,qS,qU,Nat.reduceEqDiff,qT,E.at,qR,Nat.reduceAdd,Nat.reduceSub,Nat.reduceLeDiff,Nat.reduceMul,qI,qP,qQ,d0,d1,w1,w2]
      exact ⟨_,_,frzT_free rfl,by show tV [UInt8.ofNat ((UInt8.ofNat (48 + n)).toNat : Int).toNat] = _; rw [Int.toNat_natCast,ofNat_toNat]⟩
    · have d1 : decide ((10 : Int) ≤ (n : Int)) = true := by simp; omega
      have hf1 : 1 ≤ f := by
        cases f with
        | zero => simp at hn; omega
        | succ f => omega
      rw [Nat.pow_succ] at hn
      have h1 := digits_p f (n / 10) hf1 (by omega) (by omega)
      have h2 := digits_p f (n % 10) hf1 (by omega) (Nat.lt_of_lt_of_le (Nat.mod_lt _ (by omega)) (by
        have : 10 ^ 1 ≤ 10 ^ f := Nat.pow_le_pow_right (by omega) hf1
        omega))
      have q1 : (n : Int).tdiv 10 = ((n / 10 : Nat) : Int) := rfl
      have q2 : (n : Int).tmod 10 = ((n % 10 : Nat) : Int) := rfl
      have hl1 := digF_len f (n / 10) f (by omega) hf1 (Nat.le_refl _)
      have hl2 := digF_len f (n % 10) f (Nat.lt_of_lt_of_le (Nat.mod_lt _ (by omega)) (by
        have : 10 ^ 1 ≤ 10 ^ f := Nat.pow_le_pow_right (by omega) hf1
        omega)) hf1 (Nat.le_refl _)
      have e2 : digF f (n % 10) = [UInt8.ofNat (48 + n % 10)] := by
        cases f with
        | zero => omega
        | succ f => rw [digF,if_pos (Nat.mod_lt _ (by omega))]
      have e : digF (f + 1) n = digF f (n / 10) ++ digF f (n % 10) := by rw [digF,if_neg h10,e2]
      rw [e]
      have hs := catOk (n := (digF f (n / 10)).length + (digF f (n % 10)).length) (by omega)
      have z10 : ¬ (10 : Int) = 0 := by omega
      have w3 : IntKind.i64.wrap ((n / 10 : Nat) : Int) = ((n / 10 : Nat) : Int) := wrap_ok (by omega) (by omega)
      have w4 : IntKind.i64.wrap ((n % 10 : Nat) : Int) = ((n % 10 : Nat) : Int) := wrap_ok (by omega) (by omega)
      try simp only [c48,c48x1,c48x2,c48x3,c48x4,RUA,RUB,RUC,RUD,RUE,RUF,if_true,if_false,Int.reduceEq,Int.reduceLT,Int.reduceLE,qC,qO,qA,qS,qU,Nat.reduceEqDiff,qT,E.at,qR,Nat.reduceAdd,Nat.reduceSub,Nat.reduceLeDiff,Nat.reduceMul,qI,qP,qQ,d0,d1,q1,w3,z10]
      refine pcall h1 rfl (by simp [V.free,V.free1]) ?_
      try simp only [c48,c48x1,c48x2,c48x3,c48x4,RUA,RUB,RUC,RUD,RUE,RUF,if_true,if_false,Int.reduceEq,Int.reduceLT,Int.reduceLE,qC,qO,qA,qS,qU,Nat.reduceEqDiff,qT,E.at,qR,Nat.reduceAdd,Nat.reduceSub,Nat.reduceLeDiff,Nat.reduceMul,qI,qP,qQ,q2,w4,z10]
      refine pcall h2 rfl (by simp [V.free,V.free1]) ?_
      try simp only [c48,c48x1,c48x2,c48x3,c48x4,RUA,RUB,RUC,RUD,RUE,RUF,if_true,if_false,Int.reduceEq,Int.reduceLT,Int.reduceLE,qC,qO,qA,qS,qU,Nat.reduceEqDiff,qT,E.at,qR,Nat.reduceAdd,Nat.reduceSub,Nat.reduceLeDiff,Nat.reduceMul,qI,qP,qQ,hs]
      exact ⟨_,_,frzT_free rfl,rfl⟩
theorem dig18 {m : Nat} (h : m < e18) : digF 18 m = digB m := by
  rw [digB,← dec_dig 18 m (by omega) (by unfold e18 at h; omega),← dec_dig 20 m (by omega) (by unfold e18 at h; omega)]
theorem brk_t {x : Ex} {v : V} (hv : IsEx x v) (hl : (textE x).length ≤ 1000000) (ih : PFn Tryd.prog T 24 [v] fun z => z = tV (textE x)) : PFn Tryd.prog T 49 [v] fun z => z = tV (brE x (textE x)) := by
  have hv' := hv
  rcases x with ⟨k,n,nm,l⟩
  obtain ⟨lv,vs,rfl,e1,e2,e3⟩ := hv
  rw [isExs_all] at e3
  have hln := e3.len
  have ho : lv.one = true := free1_one e1.free
  have hrow := fun o => e1.row o
  generalize textE (.mk k n nm l) = t at hl ih ⊢
  have hs1 := catOk (n := 1 + t.length) (by omega)
  have hs2 := catOk (n := t.length + 1 + 1) (by omega)
  intro yi hy
  refine Call.step hy ?_
  rw [body_eq t49]
  by_cases h2 : l.length = 2
  · have hd : decide ((vs.length : Int) = 2) = true := by simp; omega
    try simp only [c49,c49x1,c49x2,RUA,RUB,RUC,RUD,RUE,RUF,if_true,if_false,Int.reduceEq,Int.reduceLT,Int.reduceLE,qC,qO,qA,qS,qU,Nat.reduceEqDiff,qT,E.at,qR,Nat.reduceAdd,Nat.reduceSub,Nat.reduceLeDiff,Nat.reduceMul,qI,qP,qQ,ho,hrow,hd]
    refine pcall ih rfl (fun x hx => by simp only [List.mem_singleton] at hx; subst hx; exact hv'.ok.1) ?_
    try simp only [c49,c49x1,c49x2,c49x3,RUA,RUB,RUC,RUD,RUE,RUF,if_true,if_false,Int.reduceEq,Int.reduceLT,Int.reduceLE,qC,qO,qA,qS,qU,Nat.reduceEqDiff,qT,E.at,qR,Nat.reduceAdd,Nat.reduceSub,Nat.reduceLeDiff,Nat.reduceMul,qI,qP,qQ,ho,hs1,hs2]
    match l,h2 with
    | [a,b],_ => exact ⟨_,_,frzT_free rfl,rfl⟩
  · have hd : decide ((vs.length : Int) = 2) = false := by simp; omega
    try simp only [c49,c49x1,c49x2,c49x3,RUA,RUB,RUC,RUD,RUE,RUF,if_true,if_false,Int.reduceEq,Int.reduceLT,Int.reduceLE,qC,qO,qA,qS,qU,Nat.reduceEqDiff,qT,E.at,qR,Nat.reduceAdd,Nat.reduceSub,Nat.reduceLeDiff,Nat.reduceMul,qI,qP,qQ,ho,hrow,hd]
    refine pcall ih rfl (fun x hx => by simp only [List.mem_singleton] at hx; subst hx; exact hv'.ok.1) ?_
    try simp only [c49,c49x1,c49x2,c49x3,RUA,RUB,RUC,RUD,RUE,RUF,if_true,if_false,Int.reduceEq,Int.reduceLT,Int.reduceLE,qC,qO,qA,qS,qU,Nat.reduceEqDiff,qT,E.at,qR,Nat.reduceAdd,Nat.reduceSub,Nat.reduceLeDiff,Nat.reduceMul,qI,qP,qQ,ho]
    exact ⟨_,_,frzT_free rfl,by rw [br_not h2]⟩

theorem rtext_p {n : Nat} {x : Ex} (h : WfT n x) : ∀ v,IsEx x v → (textE x).length ≤ 1000000 → PFn Tryd.prog T 24 [v] fun z => z = tV (textE x) := by
  induction h with
  | @num n m hm =>
    intro v hv hl
    obtain ⟨lv,vs,rfl,e1,e2,e3⟩ := hv
    have ho : lv.one = true := free1_one e1.free
    have hd := digits_p 18 m (by omega) (by omega) (by unfold e18 at hm; omega)
    rw [dig18 hm] at hd
    intro yi hy
    refine Call.step hy ?_
    rw [body_eq t24]
    try simp only [c24,c24x1,c24x2,c24x3,c24x4,c24x5,c24x6,c24x7,RUA,RUB,RUC,RUD,RUE,RUF,if_true,if_false,Int.reduceEq,Int.reduceLT,Int.reduceLE,qC,qO,qA,qS,qU,Nat.reduceEqDiff,qT,E.at,qR,Nat.reduceAdd,Nat.reduceSub,Nat.reduceLeDiff,Nat.reduceMul,qI,qP,qQ,ho]
    refine pcall hd rfl (by simp [V.free,V.free1]) ?_
    try simp only [c24,c24x1,c24x2,c24x3,c24x4,c24x5,c24x6,c24x7,RUA,RUB,RUC,RUD,RUE,RUF,if_true,if_false,Int.reduceEq,Int.reduceLT,Int.reduceLE,qC,qO,qA,qS,qU,Nat.reduceEqDiff,qT,E.at,qR,Nat.reduceAdd,Nat.reduceSub,Nat.reduceLeDiff,Nat.reduceMul,qI,qP,qQ]
    exact ⟨_,_,frzT_free rfl,by rw [text_num]⟩
  | @var n t ht =>
    intro v hv hl
    obtain ⟨lv,vs,rfl,e1,e2,e3⟩ := hv
    have ho : lv.one = true := free1_one e1.free
    intro yi hy
    refine Call.step hy ?_
    rw [body_eq t24]
    try simp only [c24,c24x1,c24x2,c24x3,c24x4,c24x5,c24x6,c24x7,RUA,RUB,RUC,RUD,RUE,RUF,if_true,if_false,Int.reduceEq,Int.reduceLT,Int.reduceLE,qC,qO,qA,qS,qU,Nat.reduceEqDiff,qT,E.at,qR,Nat.reduceAdd,Nat.reduceSub,Nat.reduceLeDiff,Nat.reduceMul,qI,qP,qQ,ho]
    exact ⟨_,_,frzT_free rfl,by rw [text_var]⟩
  | @one n k x hk hx ih =>
    intro v hv hl
    have hv' := hv
    obtain ⟨lv,vs,rfl,e1,e2,e3⟩ := hv
    obtain ⟨u,us,rfl,hu,e4⟩ := e3
    rw [show us = [] from e4] at e1
    have ho : lv.one = true := free1_one e1.free
    have hI0 := e1.ix0 rfl
    rw [text_one] at hl ⊢
    have hb := br_len x (textE x)
    have hP := brk_t hu (by simp at hl; omega) (ih u hu (by simp at hl; omega))
    obtain ⟨a,b,c,dd,rfl,ho2⟩ := ex_agg hu
    have hs := catOk (n := 1 + (brE x (textE x)).length) (by simp at hl; omega)
    intro yi hy
    refine Call.step hy ?_
    rw [body_eq t24]
    rcases hk with rfl | rfl
    · have n1 : ((3 : Nat) : Int) = 3 := rfl
      try simp only [c24,c24x1,c24x2,c24x3,c24x4,c24x5,RUA,RUB,RUC,RUD,RUE,RUF,if_true,if_false,Int.reduceEq,Int.reduceLT,Int.reduceLE,qC,qO,qA,qS,qU,Nat.reduceEqDiff,qT,E.at,qR,Nat.reduceAdd,Nat.reduceSub,Nat.reduceLeDiff,Nat.reduceMul,qI,qP,qQ,ho,hI0,ho2,n1]
      refine pcall hP rfl (fun x hx => by simp only [List.mem_singleton] at hx; subst hx; exact hu.ok.1) ?_
      try simp only [c24,c24x1,c24x2,c24x3,c24x4,c24x5,c24x6,c24x7,RUA,RUB,RUC,RUD,RUE,RUF,if_true,if_false,Int.reduceEq,Int.reduceLT,Int.reduceLE,qC,qO,qA,qS,qU,Nat.reduceEqDiff,qT,E.at,qR,Nat.reduceAdd,Nat.reduceSub,Nat.reduceLeDiff,Nat.reduceMul,qI,qP,qQ,hs]
      exact ⟨_,_,frzT_free rfl,rfl⟩
    · have n1 : ((4 : Nat) : Int) = 4 := rfl
      try simp only [c24,c24x1,c24x2,c24x3,c24x4,c24x5,c24x6,RUA,RUB,RUC,RUD,RUE,RUF,if_true,if_false,Int.reduceEq,Int.reduceLT,Int.reduceLE,qC,qO,qA,qS,qU,Nat.reduceEqDiff,qT,E.at,qR,Nat.reduceAdd,Nat.reduceSub,Nat.reduceLeDiff,Nat.reduceMul,qI,qP,qQ,ho,hI0,ho2,n1]
      refine pcall hP rfl (fun x hx => by simp only [List.mem_singleton] at hx; subst hx; exact hu.ok.1) ?_
      try simp only [c24,c24x1,c24x2,c24x3,c24x4,c24x5,c24x6,c24x7,RUA,RUB,RUC,RUD,RUE,RUF,if_true,if_false,Int.reduceEq,Int.reduceLT,Int.reduceLE,qC,qO,qA,qS,qU,Nat.reduceEqDiff,qT,E.at,qR,Nat.reduceAdd,Nat.reduceSub,Nat.reduceLeDiff,Nat.reduceMul,qI,qP,qQ,hs]
      exact ⟨_,_,frzT_free rfl,rfl⟩
  | @two n k x y hk1 hk2 hx hy ih1 ih2 =>
    intro v hv hl
    have hv' := hv
    obtain ⟨lv,vs,rfl,e1,e2,e3⟩ := hv
    obtain ⟨u,us,rfl,hu,e4⟩ := e3
    obtain ⟨u2,us2,rfl,hu2,e5⟩ := e4
    rw [show us2 = [] from e5] at e1
    have ho : lv.one = true := free1_one e1.free
    have hI0 := e1.ix0 rfl
    have hI1 := e1.ix1 rfl
    rw [text_two] at hl ⊢
    have hb := br_len x (textE x)
    have hb2 := br_len y (textE y)
    have hP := brk_t hu (by simp at hl; omega) (ih1 u hu (by simp at hl; omega))
    have hP2 := brk_t hu2 (by simp at hl; omega) (ih2 u2 hu2 (by simp at hl; omega))
    obtain ⟨a,b,c,dd,rfl,ho2⟩ := ex_agg hu
    obtain ⟨a',b',c',dd',rfl,ho3⟩ := ex_agg hu2
    generalize brE x (textE x) = p at hl hP
    generalize brE y (textE y) = q at hl hP2
    have hs1 := catOk (n := p.length + 1) (by simp at hl; omega)
    have hs2 := catOk (n := (p ++ [32]).length + (kTxt k).length) (by simp at hl ⊢; omega)
    have hs3 := catOk (n := (p ++ [32] ++ kTxt k).length + 1) (by simp at hl ⊢; omega)
    have hs4 := catOk (n := (p ++ [32] ++ kTxt k ++ [32]).length + q.length) (by simp at hl ⊢; omega)
    have k1 : decide ((k : Int) = 1) = false := by simp; omega
    have k2 : decide ((k : Int) = 2) = false := by simp; omega
    have k3 : decide ((k : Int) = 3) = false := by simp; omega
    have k4 : decide ((k : Int) = 4) = false := by simp; omega
    intro yi hy
    refine Call.step hy ?_
    rw [body_eq t24]
    try simp only [c24,c24x1,c24x2,c24x3,c24x4,c24x5,c24x6,c24x7,RUA,RUB,RUC,RUD,RUE,RUF,if_true,if_false,Int.reduceEq,Int.reduceLT,Int.reduceLE,qC,qO,qA,qS,qU,Nat.reduceEqDiff,qT,E.at,qR,Nat.reduceAdd,Nat.reduceSub,Nat.reduceLeDiff,Nat.reduceMul,qI,qP,qQ,ho,hI0,hI1,ho2,ho3,k1,k2,k3,k4]
    refine pcall hP rfl (fun x hx => by simp only [List.mem_singleton] at hx; subst hx; exact hu.ok.1) ?_
    try simp only [c24,c24x1,c24x2,c24x3,c24x4,c24x5,c24x6,c24x7,RUA,RUB,RUC,RUD,RUE,RUF,if_true,if_false,Int.reduceEq,Int.reduceLT,Int.reduceLE,qC,qO,qA,qS,qU,Nat.reduceEqDiff,qT,E.at,qR,Nat.reduceAdd,Nat.reduceSub,Nat.reduceLeDiff,Nat.reduceMul,qI,qP,qQ,hs1]
    refine pcall (sign_p hk1 hk2) rfl (by simp [V.free,V.free1]) ?_
    try simp only [c24,c24x1,c24x2,c24x3,c24x4,c24x5,c24x6,c24x7,RUA,RUB,RUC,RUD,RUE,RUF,if_true,if_false,Int.reduceEq,Int.reduceLT,Int.reduceLE,qC,qO,qA,qS,qU,Nat.reduceEqDiff,qT,E.at,qR,Nat.reduceAdd,Nat.reduceSub,Nat.reduceLeDiff,Nat.reduceMul,qI,qP,qQ,hs2,hs3]
    refine pcall hP2 rfl (fun x hx => by simp only [List.mem_singleton] at hx; subst hx; exact hu2.ok.1) ?_
    try simp only [c24,c24x1,c24x2,c24x3,c24x4,c24x5,c24x6,c24x7,RUA,RUB,RUC,RUD,RUE,RUF,if_true,if_false,Int.reduceEq,Int.reduceLT,Int.reduceLE,qC,qO,qA,qS,qU,Nat.reduceEqDiff,qT,E.at,qR,Nat.reduceAdd,Nat.reduceSub,Nat.reduceLeDiff,Nat.reduceMul,qI,qP,qQ,hs4]
    exact ⟨_,_,frzT_free rfl,by simp⟩
end Go.Proofs.YtjfnhpnfkknmoaaDoor
end

section
set_option linter.unusedVariables false
set_option linter.unusedSimpArgs false
set_option maxRecDepth 100000
set_option maxHeartbeats 4000000
open Go.Proofs.Pe renaming putCells → qC, bslOf → qO, bsaOf → qA, bslS → qS, isUpto → qU, step → qT, intOf → qI, iop → qP, sop → qQ
open List renaming replicate → qR
open Go.Proofs.Pe.V renaming dead → qD
namespace Go.Proofs.YtjfnhpnfkknmoaaDoor
open Go.Proofs.Pe

/-! ### Numbers are read -/
theorem nilI_sca {tt tr : TypeId} {x : Nat} {op : Oper} {ts : List V} {o : List O} (ho : op.op = .binOp .neq tt (.tmp x) (.const .nilIface) tr) (hx : ts.getD x .dead = .sc .nilIface)
    (hr : pureRun Tryd.prog (eqGuard .neq tt (.tmp x) (.const .nilIface) .nilIface .nilIface >>= fun _ => binOp .neq tt .nilIface .nilIface) = some (.bool false)) : Pe.step Tryd.prog ⟨ts,o⟩ (.sca op) = some (bV false,o) := by
  have e1 : scEnv ⟨ts,o⟩ (.tmp x) = some .nilIface := by
    show (some (E.tmp x)).bind _ = _
    simp only [Option.bind_some,E.ev,hx]; rfl
  have e2 : scEnv ⟨ts,o⟩ (.const .nilIface) = some .nilIface := rfl
  refine sca_of (v := .bool false) (fun z hz => ?_) ?_ rfl
  · rw [ho] at hz
    simp [Op.operands] at hz
    rcases hz with rfl | rfl
    · rw [e1]; rfl
    · rw [e2]; rfl
  · simp only [execOp,ho,getD_sc e1,getD_sc e2]
    show pureRun Tryd.prog ((eqGuard _ _ _ _ _ _ >>= fun _ => binOp _ _ _ _) >>= fun r => pure (Next.value r)) = _
    rw [pureRun_bind2 hr]; rfl
theorem q_nilI {tt tr : TypeId} {x : Nat} {op : Oper} {ts : List V} {o : List O} {yi : Nat → Sem'} {ca : Ca} {K : V → List O → Prop} (ho : op.op = .binOp .neq tt (.tmp x) (.const .nilIface) tr) (hx : ts.getD x .dead = .sc .nilIface)
    (hr : pureRun Tryd.prog (eqGuard .neq tt (.tmp x) (.const .nilIface) .nilIface .nilIface >>= fun _ => binOp .neq tt .nilIface .nilIface) = some (.bool false)) : evK Tryd.prog T ca yi (.sca op) ts o K = K (bV false) o := by
  rw [q_sca,nilI_sca ho hx hr]; rfl
theorem atoi76 {t : List UInt8} (h0 : t ≠ []) (h1 : t.length ≤ 18) (hd : ∀ c ∈ t,isDg c = true) : PFn Tryd.prog T 76 [tV t] fun z => z = .tup [iV (numI t),.sc .nilIface] := by
  obtain ⟨c0,t',rfl⟩ := List.exists_cons_of_ne_nil h0
  have hc0 := hd c0 (by simp)
  have hlen : 0 < (c0 :: t').length := by simp
  have hg0 : (c0 :: t')[0]? = some c0 := rfl
  generalize c0 :: t' = t at h1 hd hlen hg0
  simp [isDg] at hc0
  have hn := numI_lt hd
  intro yi hy
  refine Call.step hy ?_
  rw [body_eq t76]
  have d1 : decide ((0 : Int) < (t.length : Int)) = true := by simpa using hlen
  have d2 : decide ((t.length : Int) < 19) = true := by simp; omega
  have d3 : decide ((c0.toNat : Int) = 45) = false := by simp; omega
  have d4 : decide ((c0.toNat : Int) = 43) = false := by simp; omega
  have hb : bytesV ⟨t.toArray⟩ = t.map cV := by simp [bytesV,btl]
  have hsz : t.length ≤ room := by unfold room; omega
  simp only [c76,c76x1,c76x2,c76x3,c76x4,c76x5,c76x6,c76x7,c76x8,c76x9,c76x10,RUA,RUB,RUC,RUD,RUE,RUF,if_true,if_false,Int.reduceEq,Int.reduceLT,Int.reduceLE,qC,qO,qA,qS,qU,Nat.reduceEqDiff,qT,E.at,qR,Nat.reduceAdd,Nat.reduceSub,Nat.reduceLeDiff,Nat.reduceMul,qI,qP,qQ,d1,d2,hg0,d3,d4,hb,hsz]
  refine Lfp.inv call_le hy (fun k : Nat => ⟨⟨(qD::qD::qD::qD::qD::tV t :: iV (numI (t.take k)) :: qD::qD::qD::qD::qD::qD::qD::qD::qD::qD::qD::qD::qD::qD::qD::qD::qD::qD::qD::qD::qD::qD::qD::qD::qD::qD::qD::qD::qD::qD::qD::qD::qD::qD::qD::qD::qD::qD::qD::qD::.ar 0 0 :: iV (t.map cV).length :: iV k :: qD::qD::qD::qD::qD::qD::qD::qD::qD::qD::qD::qD::qD::qD::qD::qD::qD::qD::qD::qD::qD::qD::qD::qD::qD::qD::qD::[]),[O.arr 0 true 1 (t.map cV)]⟩,[]⟩) (fun k => t.length - k)
    (fun k => k ≤ t.length) 0 (Nat.zero_le _) (by simp only [kill_L,killTs_nil,RUF] <;> rfl) ?_
  intro k hk
  have hp := pow18 (k := k) (by omega)
  have hnk := hn k hk
  by_cases hlt : k < t.length
  · have e1 : decide ((k : Int) < ((t.map cV).length : Int)) = true := by simpa using hlt
    have hx : t[k]? = some t[k] := List.getElem?_eq_getElem hlt
    have hc := hd _ (List.getElem_mem hlt)
    generalize t[k] = c at hx hc
    simp [isDg] at hc
    have hk1 := numI_take hx
    have hn1 := hn (k + 1) (by omega)
    have hp1 := pow18 (k := k + 1) (by omega)
    have hI : (t.map cV)[k]? = some (cV c) := by rw [List.getElem?_map,hx]; rfl
    have w1 : IntKind.u8.wrap ((c.toNat : Int) - 48) = ((c.toNat - 48 : Nat) : Int) := by
      unfold IntKind.wrap; simp [IntKind.bits,IntKind.signed]; omega
    have e2 : decide ((9 : Int) < ((c.toNat - 48 : Nat) : Int)) = false := by simp; omega
    have w2 : IntKind.i64.wrap (((c.toNat - 48 : Nat) : Int)) = ((c.toNat - 48 : Nat) : Int) := wrap_ok (by omega) (by omega)
    have w3 : IntKind.i64.wrap ((numI (t.take k) : Int) * 10) = ((numI (t.take k) * 10 : Nat) : Int) := by rw [wrap_ok (by omega) (by omega)]; omega
    have w4 : IntKind.i64.wrap (((numI (t.take k) * 10 : Nat) : Int) + ((c.toNat - 48 : Nat) : Int)) = ((numI (t.take (k + 1)) : Nat) : Int) := by rw [wrap_ok (by omega) (by omega),hk1]; omega
    have w5 : IntKind.i64.wrap ((k : Int) + 1) = ((k + 1 : Nat) : Int) := wrap_succ (by omega)
    have hX : ixOf 1 [O.arr 0 true 1 (t.map cV)] (.ar 0 0) (iV k) = some (.pa 0 0 k 0,[O.arr 0 true 1 (t.map cV)]) := ix_ar rfl (by simpa using hlt)
    simp only [c76,c76x1,c76x2,c76x3,c76x4,c76x5,c76x6,c76x7,c76x8,c76x9,c76x10,c76x11,c76x12,c76x13,c76x14,c76x15,c76x16,c76x17,c76x18,c76x19,c76x20,c76x21,c76x22,c76x23,RUA,RUB,RUC,RUD,RUE,RUF,if_true,if_false,Int.reduceEq,Int.reduceLT,Int.reduceLE,qC,qO,qA,qS,qU,Nat.reduceEqDiff,qT,E.at,qR,Nat.reduceAdd,Nat.reduceSub,Nat.reduceLeDiff,Nat.reduceMul,qI,qP,qQ,e1,hX,hI,w1,e2,w2,w3,w4,w5]
    exact ⟨k + 1,by omega,by omega,rfl⟩
  · have e1 : decide ((k : Int) < ((t.map cV).length : Int)) = false := by simpa using hlt
    have ht : t.take k = t := List.take_of_length_le (by omega)
    simp only [c76,c76x1,c76x2,c76x3,c76x4,c76x5,c76x6,c76x7,c76x8,c76x9,c76x10,c76x11,c76x12,c76x13,c76x14,c76x15,c76x16,c76x17,c76x18,c76x19,c76x20,c76x21,c76x22,c76x23,RUA,RUB,RUC,RUD,RUE,RUF,if_true,if_false,Int.reduceEq,Int.reduceLT,Int.reduceLE,qC,qO,qA,qS,qU,Nat.reduceEqDiff,qT,E.at,qR,Nat.reduceAdd,Nat.reduceSub,Nat.reduceLeDiff,Nat.reduceMul,qI,qP,qQ,e1,hg0,d3,ht]
    exact ⟨_,_,frzT_tup rfl rfl,rfl⟩
theorem atoi_p {t : List UInt8} (h0 : t ≠ []) (h1 : t.length ≤ 18) (hd : ∀ c ∈ t,isDg c = true) : PFn Tryd.prog T 68 [tV t] fun z => z = .tup [iV (numI t),.sc .nilIface] := by
  intro yi hy
  refine Call.step hy ?_
  rw [body_eq t68]
  simp only [c68,c68x1,c68x2,c68x3,c68x4,RUA,RUB,RUC,RUD,RUE,RUF,if_true,if_false,Int.reduceEq,Int.reduceLT,Int.reduceLE,qC,qO,qA,qS,qU,Nat.reduceEqDiff,qT,E.at,qR,Nat.reduceAdd,Nat.reduceSub,Nat.reduceLeDiff,Nat.reduceMul,qI,qP,qQ]
  refine pcall (atoi76 h0 h1 hd) rfl (by simp [V.free,V.free1]) ?_
  simp only [c68,c68x1,c68x2,c68x3,c68x4,RUA,RUB,RUC,RUD,RUE,RUF,if_true,if_false,Int.reduceEq,Int.reduceLT,Int.reduceLE,qC,qO,qA,qS,qU,Nat.reduceEqDiff,qT,E.at,qR,Nat.reduceAdd,Nat.reduceSub,Nat.reduceLeDiff,Nat.reduceMul,qI,qP,qQ]
  rw [q_nilI rfl rfl (by kernel_rfl)]
  simp only [c68,c68x1,c68x2,c68x3,c68x4,RUA,RUB,RUC,RUD,RUE,RUF,if_true,if_false,Int.reduceEq,Int.reduceLT,Int.reduceLE,qC,qO,qA,qS,qU,Nat.reduceEqDiff,qT,E.at,qR,Nat.reduceAdd,Nat.reduceSub,Nat.reduceLeDiff,Nat.reduceMul,qI,qP,qQ]
  exact ⟨_,_,frzT_tup rfl rfl,rfl⟩
end Go.Proofs.YtjfnhpnfkknmoaaDoor
end

section
set_option linter.unusedVariables false
set_option linter.unusedSimpArgs false
set_option maxRecDepth 100000
set_option maxHeartbeats 4000000
open Go.Proofs.Pe renaming putCells → qC, bslOf → qO, bsaOf → qA, bslS → qS, isUpto → qU, step → qT, intOf → qI, iop → qP, sop → qQ
open List renaming replicate → qR
open Go.Proofs.Pe.V renaming dead → qD
namespace Go.Proofs.YtjfnhpnfkknmoaaDoor
open Go.Proofs.Pe

/-! ### The reader of expressions -/
def Post (w : V) (d : Nat) (r : PR) (z : V) (os' : List O) : Prop := match r with
  | .ok x j => IsEx x z ∧ os' = [.cells [w,iV j,iV d,iV 0]]
  | .bad e j => (∃ x,IsEx x z) ∧ e ≠ 0 ∧ os' = [.cells [w,iV j,iV d,iV e]]
def Post2 (w : V) (d : Nat) (r : PR) (z : V) (os' : List O) : Prop := match r with
  | .ok x j => IsEx x z ∧ os' = [.cells [w,iV j,iV d,iV 0],bxO]
  | .bad e j => (∃ x,IsEx x z) ∧ e ≠ 0 ∧ os' = [.cells [w,iV j,iV d,iV e],bxO]
def oneR (k : Int) : PR → PR
  | .ok x j => .ok (.mk k 0 emp [x]) j
  | .bad e j => .bad e j
def brR (l : List Sg) : PR → PR
  | .ok x j => if markAt l j = [41] then .ok x (j + 1) else .bad 2 j
  | .bad e j => .bad e j
theorem mark_lt {l : List Sg} {j : Nat} {t : List UInt8} (h : markAt l j = t) (ht : t ≠ []) : j < l.length := by
  unfold markAt at h
  split at h
  · rename_i s hs; exact (List.getElem?_eq_some_iff.1 hs).1
  · exact absurd h.symm ht
section
variable {w : V} {l : List Sg} (hw : IsSl 3 w (l.map Sg.v))
include hw
theorem pfr (a b c : Int) : ([w,iV a,iV b,iV c].all V.free1) = true := by simp [hw.free,free1_sc]
theorem fail_c (i d e : Nat) : SFn Tryd.prog T 67 [.pt 0 0,iV e] [.cells [w,iV i,iV d,iV 0]] fun z os' => IsEx (.mk 0 0 emp []) z ∧ os' = [.cells [w,iV i,iV d,iV e]] := by
  have hone : w.one = true := free1_one hw.free
  intro yi hy
  refine Call.step hy ?_
  rw [body_eq t67]
  simp only [c67,c67x1,c67x2,c67x3,RUA,RUB,RUC,RUD,RUE,RUF,if_true,if_false,Int.reduceEq,Int.reduceLT,Int.reduceLE,qC,qO,qA,qS,qU,Nat.reduceEqDiff,qT,E.at,qR,Nat.reduceAdd,Nat.reduceSub,Nat.reduceLeDiff,Nat.reduceMul,qI,qP,qQ,hone,fillC,rets,List.take]
  exact ⟨_,_,fin1 (pfr hw _ _ _) (freeT_of zIs.ok.1),zIs,rfl⟩
theorem within_c {g : FuncId} {i d : Nat} {r : PR} (hm : T.mode g = 5) (hd : d < 20) (hi : i < lim) (h : SFn Tryd.prog T g [.pt 1 0] [.cells [w,iV (i + 1 : Nat),iV (d + 1 : Nat),iV 0],bxO] (Post2 w (d + 1) r)) :
    SFn Tryd.prog T 70 [.pt 0 0,.fn (.func g) [] [.pt 1 0]] [.cells [w,iV i,iV d,iV 0],bxO] (Post2 w d r) := by
  unfold lim at hi
  have hone : w.one = true := free1_one hw.free
  have e1 : decide ((20 : Int) ≤ (d : Int)) = false := by simp; omega
  have w1 : IntKind.i64.wrap ((i : Int) + 1) = ((i + 1 : Nat) : Int) := wrap_succ (by omega)
  have w2 : IntKind.i64.wrap ((d : Int) + 1) = ((d + 1 : Nat) : Int) := wrap_succ (by omega)
  have w3 : IntKind.i64.wrap (((d + 1 : Nat) : Int) - 1) = (d : Int) := by rw [wrap_ok (by omega) (by omega)]; omega
  intro yi hy
  refine Call.step hy ?_
  rw [body_eq t70]
  simp only [c70,c70x1,c70x2,c70x3,c70x4,c70x5,RUA,RUB,RUC,RUD,RUE,RUF,if_true,if_false,Int.reduceEq,Int.reduceLT,Int.reduceLE,qC,qO,qA,qS,qU,Nat.reduceEqDiff,qT,E.at,qR,Nat.reduceAdd,Nat.reduceSub,Nat.reduceLeDiff,Nat.reduceMul,qI,qP,qQ,hone,e1,w1,w2]
  refine SFn.call01 (a1 := []) (xs := []) (b1 := [.pt 1 0]) h hm (cm_pt cm_nil) rfl (pfr hw _ _ _) fun z os' hq => ?_
  rcases r with ⟨x,j⟩ | ⟨e,j⟩
  · obtain ⟨hx,rfl⟩ := hq
    have hx' := hx
    obtain ⟨a,b,c,dd,rfl,ho⟩ := ex_agg hx
    refine ⟨_,rfl,pfr hw _ _ _,freeT_of hx'.ok.1, ?_⟩
    simp only [c70,c70x1,c70x2,c70x3,c70x4,c70x5,c70x6,c70x7,RUA,RUB,RUC,RUD,RUE,RUF,if_true,if_false,Int.reduceEq,Int.reduceLT,Int.reduceLE,qC,qO,qA,qS,qU,Nat.reduceEqDiff,qT,E.at,qR,Nat.reduceAdd,Nat.reduceSub,Nat.reduceLeDiff,Nat.reduceMul,qI,qP,qQ,hone,ho,w3,rets,List.take]
    exact ⟨_,_,fin2 (pfr hw _ _ _) (freeT_of hx'.ok.1),hx',rfl⟩
  · obtain ⟨⟨x,hx⟩,he,rfl⟩ := hq
    have hx' := hx
    obtain ⟨a,b,c,dd,rfl,ho⟩ := ex_agg hx
    refine ⟨_,rfl,pfr hw _ _ _,freeT_of hx'.ok.1, ?_⟩
    simp only [c70,c70x1,c70x2,c70x3,c70x4,c70x5,c70x6,c70x7,RUA,RUB,RUC,RUD,RUE,RUF,if_true,if_false,Int.reduceEq,Int.reduceLT,Int.reduceLE,qC,qO,qA,qS,qU,Nat.reduceEqDiff,qT,E.at,qR,Nat.reduceAdd,Nat.reduceSub,Nat.reduceLeDiff,Nat.reduceMul,qI,qP,qQ,hone,ho,w3,rets,List.take]
    exact ⟨_,_,fin2 (pfr hw _ _ _) (freeT_of hx'.ok.1),⟨_,hx'⟩,he,rfl⟩
theorem within_f {g : FuncId} {i d : Nat} (hd : 20 ≤ d) : SFn Tryd.prog T 70 [.pt 0 0,.fn (.func g) [] [.pt 1 0]] [.cells [w,iV i,iV d,iV 0],bxO] (Post2 w d (.bad 3 i)) := by
  have hone : w.one = true := free1_one hw.free
  have e1 : decide ((20 : Int) ≤ (d : Int)) = true := by simp; omega
  intro yi hy
  refine Call.step hy ?_
  rw [body_eq t70]
  simp only [c70,c70x1,c70x2,c70x3,RUA,RUB,RUC,RUD,RUE,RUF,if_true,if_false,Int.reduceEq,Int.reduceLT,Int.reduceLE,qC,qO,qA,qS,qU,Nat.reduceEqDiff,qT,E.at,qR,Nat.reduceAdd,Nat.reduceSub,Nat.reduceLeDiff,Nat.reduceMul,qI,qP,qQ,hone,e1]
  refine (fail_c hw i d 3).call1 rfl (by simp [V.free,V.free1]) rfl (pfr hw _ _ _) fun z os' hq => ?_
  obtain ⟨hx,rfl⟩ := hq
  have hx' := hx
  obtain ⟨a,b,c,dd,rfl,ho⟩ := ex_agg hx
  refine ⟨_,rfl,pfr hw _ _ _,freeT_of hx'.ok.1, ?_⟩
  simp only [c70,c70x1,c70x2,c70x3,c70x4,c70x5,c70x6,c70x7,RUA,RUB,RUC,RUD,RUE,RUF,if_true,if_false,Int.reduceEq,Int.reduceLT,Int.reduceLE,qC,qO,qA,qS,qU,Nat.reduceEqDiff,qT,E.at,qR,Nat.reduceAdd,Nat.reduceSub,Nat.reduceLeDiff,Nat.reduceMul,qI,qP,qQ,hone,ho,rets,List.take]
  exact ⟨_,_,fin2 (pfr hw _ _ _) (freeT_of hx'.ok.1),⟨_,hx'⟩,by omega,rfl⟩
theorem not_c {i d : Nat} {r : PR} (h : SFn Tryd.prog T 58 [.pt 0 0] [.cells [w,iV i,iV d,iV 0]] (Post w d r)) : SFn Tryd.prog T 71 [.pt 1 0] [.cells [w,iV i,iV d,iV 0],bxO] (Post2 w d (oneR 3 r)) := by
  have hone : w.one = true := free1_one hw.free
  intro yi hy
  refine Call.step hy ?_
  rw [body_eq t71]
  simp only [c71,c71x1,RUA,RUB,RUC,RUD,RUE,RUF,if_true,if_false,Int.reduceEq,Int.reduceLT,Int.reduceLE,qC,qO,qA,qS,qU,Nat.reduceEqDiff,qT,E.at,qR,Nat.reduceAdd,Nat.reduceSub,Nat.reduceLeDiff,Nat.reduceMul,qI,qP,qQ,hone]
  refine h.call1 rfl (by simp) rfl (pfr hw _ _ _) fun z os' hq => ?_
  have key : ∀ x,IsEx x z → z.free = true ∧ decide (z.cells.length = 4) = true := fun x h => ⟨h.ok.1,by simpa using h.ok.2⟩
  rcases r with ⟨x,j⟩ | ⟨e,j⟩
  · obtain ⟨hx,rfl⟩ := hq
    obtain ⟨k1,k2⟩ := key x hx
    refine ⟨_,rfl,pfr hw _ _ _,freeT_of k1, ?_⟩
    simp only [c71,c71x1,RUA,RUB,RUC,RUD,RUE,RUF,if_true,if_false,Int.reduceEq,Int.reduceLT,Int.reduceLE,qC,qO,qA,qS,qU,Nat.reduceEqDiff,qT,E.at,qR,Nat.reduceAdd,Nat.reduceSub,Nat.reduceLeDiff,Nat.reduceMul,qI,qP,qQ,hone,k1,k2,fillC,rets,List.take]
    exact ⟨_,_,fin2 (pfr hw _ _ _) (freeT_of (ex_one (k := 3) hx).ok.1),ex_one hx,rfl⟩
  · obtain ⟨⟨x,hx⟩,he,rfl⟩ := hq
    obtain ⟨k1,k2⟩ := key x hx
    refine ⟨_,rfl,pfr hw _ _ _,freeT_of k1, ?_⟩
    simp only [c71,c71x1,RUA,RUB,RUC,RUD,RUE,RUF,if_true,if_false,Int.reduceEq,Int.reduceLT,Int.reduceLE,qC,qO,qA,qS,qU,Nat.reduceEqDiff,qT,E.at,qR,Nat.reduceAdd,Nat.reduceSub,Nat.reduceLeDiff,Nat.reduceMul,qI,qP,qQ,hone,k1,k2,fillC,rets,List.take]
    exact ⟨_,_,fin2 (pfr hw _ _ _) (freeT_of (ex_one (k := 3) hx).ok.1),⟨_,ex_one hx⟩,he,rfl⟩
theorem neg_c {i d : Nat} {r : PR} (h : SFn Tryd.prog T 58 [.pt 0 0] [.cells [w,iV i,iV d,iV 0]] (Post w d r)) : SFn Tryd.prog T 72 [.pt 1 0] [.cells [w,iV i,iV d,iV 0],bxO] (Post2 w d (oneR 4 r)) := by
  have hone : w.one = true := free1_one hw.free
  intro yi hy
  refine Call.step hy ?_
  rw [body_eq t72]
  simp only [c72,c72x1,RUA,RUB,RUC,RUD,RUE,RUF,if_true,if_false,Int.reduceEq,Int.reduceLT,Int.reduceLE,qC,qO,qA,qS,qU,Nat.reduceEqDiff,qT,E.at,qR,Nat.reduceAdd,Nat.reduceSub,Nat.reduceLeDiff,Nat.reduceMul,qI,qP,qQ,hone]
  refine h.call1 rfl (by simp) rfl (pfr hw _ _ _) fun z os' hq => ?_
  have key : ∀ x,IsEx x z → z.free = true ∧ decide (z.cells.length = 4) = true := fun x h => ⟨h.ok.1,by simpa using h.ok.2⟩
  rcases r with ⟨x,j⟩ | ⟨e,j⟩
  · obtain ⟨hx,rfl⟩ := hq
    obtain ⟨k1,k2⟩ := key x hx
    refine ⟨_,rfl,pfr hw _ _ _,freeT_of k1, ?_⟩
    simp only [c72,c72x1,RUA,RUB,RUC,RUD,RUE,RUF,if_true,if_false,Int.reduceEq,Int.reduceLT,Int.reduceLE,qC,qO,qA,qS,qU,Nat.reduceEqDiff,qT,E.at,qR,Nat.reduceAdd,Nat.reduceSub,Nat.reduceLeDiff,Nat.reduceMul,qI,qP,qQ,hone,k1,k2,fillC,rets,List.take]
    exact ⟨_,_,fin2 (pfr hw _ _ _) (freeT_of (ex_one (k := 4) hx).ok.1),ex_one hx,rfl⟩
  · obtain ⟨⟨x,hx⟩,he,rfl⟩ := hq
    obtain ⟨k1,k2⟩ := key x hx
    refine ⟨_,rfl,pfr hw _ _ _,freeT_of k1, ?_⟩
    simp only [c72,c72x1,RUA,RUB,RUC,RUD,RUE,RUF,if_true,if_false,Int.reduceEq,Int.reduceLT,Int.reduceLE,qC,qO,qA,qS,qU,Nat.reduceEqDiff,qT,E.at,qR,Nat.reduceAdd,Nat.reduceSub,Nat.reduceLeDiff,Nat.reduceMul,qI,qP,qQ,hone,k1,k2,fillC,rets,List.take]
    exact ⟨_,_,fin2 (pfr hw _ _ _) (freeT_of (ex_one (k := 4) hx).ok.1),⟨_,ex_one hx⟩,he,rfl⟩
theorem bra_c (hl : l.length ≤ lim) {i d : Nat} {r : PR} (h : SFn Tryd.prog T 35 [.pt 0 0,iV 0] [.cells [w,iV i,iV d,iV 0]] (Post w d r)) : SFn Tryd.prog T 73 [.pt 1 0] [.cells [w,iV i,iV d,iV 0],bxO] (Post2 w d (brR l r)) := by
  have hone : w.one = true := free1_one hw.free
  unfold lim at hl
  intro yi hy
  refine Call.step hy ?_
  rw [body_eq t73]
  simp only [c73,c73x1,RUA,RUB,RUC,RUD,RUE,RUF,if_true,if_false,Int.reduceEq,Int.reduceLT,Int.reduceLE,qC,qO,qA,qS,qU,Nat.reduceEqDiff,qT,E.at,qR,Nat.reduceAdd,Nat.reduceSub,Nat.reduceLeDiff,Nat.reduceMul,qI,qP,qQ,hone]
  refine h.call1 rfl (by simp [V.free,V.free1]) rfl (pfr hw _ _ _) fun z os' hq => ?_
  rcases r with ⟨x,j⟩ | ⟨e,j⟩
  · obtain ⟨hx,rfl⟩ := hq
    have hx' := hx
    obtain ⟨a,b,c,dd,rfl,ho⟩ := ex_agg hx
    refine ⟨_,rfl,pfr hw _ _ _,freeT_of hx'.ok.1, ?_⟩
    simp only [c73,c73x1,c73x2,RUA,RUB,RUC,RUD,RUE,RUF,if_true,if_false,Int.reduceEq,Int.reduceLT,Int.reduceLE,qC,qO,qA,qS,qU,Nat.reduceEqDiff,qT,E.at,qR,Nat.reduceAdd,Nat.reduceSub,Nat.reduceLeDiff,Nat.reduceMul,qI,qP,qQ,hone,ho]
    refine call3 rfl (cm_pt cm_nil) (pmark_c noY_le hw rfl ⟨Sim.refl _ _, ?_⟩)
    by_cases hm : markAt l j = [41]
    · have hb : (markAt l j == [41]) = true := by simpa using hm
      have hj := mark_lt hm (by simp)
      have w1 : IntKind.i64.wrap ((j : Int) + 1) = ((j + 1 : Nat) : Int) := wrap_succ (by omega)
      simp only [c73,c73x1,c73x2,c73x3,c73x4,c73x5,c73x6,RUA,RUB,RUC,RUD,RUE,RUF,if_true,if_false,Int.reduceEq,Int.reduceLT,Int.reduceLE,qC,qO,qA,qS,qU,Nat.reduceEqDiff,qT,E.at,qR,Nat.reduceAdd,Nat.reduceSub,Nat.reduceLeDiff,Nat.reduceMul,qI,qP,qQ,hone,ho,hb,w1,rets,List.take]
      refine ⟨_,_,fin2 (pfr hw _ _ _) (freeT_of hx'.ok.1), ?_⟩
      simp only [brR,if_pos hm]
      exact ⟨hx',rfl⟩
    · have hb : (markAt l j == [41]) = false := by simpa using hm
      simp only [c73,c73x1,c73x2,c73x3,c73x4,RUA,RUB,RUC,RUD,RUE,RUF,if_true,if_false,Int.reduceEq,Int.reduceLT,Int.reduceLE,qC,qO,qA,qS,qU,Nat.reduceEqDiff,qT,E.at,qR,Nat.reduceAdd,Nat.reduceSub,Nat.reduceLeDiff,Nat.reduceMul,qI,qP,qQ,hone,ho,hb]
      refine (fail_c hw j d 2).call1 rfl (by simp [V.free,V.free1]) rfl (pfr hw _ _ _) fun z os' hq => ?_
      obtain ⟨hx2,rfl⟩ := hq
      have hx2' := hx2
      obtain ⟨a2,b2,c2,d2,rfl,ho2⟩ := ex_agg hx2
      refine ⟨_,rfl,pfr hw _ _ _,freeT_of hx2'.ok.1, ?_⟩
      simp only [c73,c73x1,c73x2,c73x3,c73x4,c73x5,c73x6,RUA,RUB,RUC,RUD,RUE,RUF,if_true,if_false,Int.reduceEq,Int.reduceLT,Int.reduceLE,qC,qO,qA,qS,qU,Nat.reduceEqDiff,qT,E.at,qR,Nat.reduceAdd,Nat.reduceSub,Nat.reduceLeDiff,Nat.reduceMul,qI,qP,qQ,hone,ho,ho2,rets,List.take]
      refine ⟨_,_,fin2 (pfr hw _ _ _) (freeT_of hx2'.ok.1), ?_⟩
      simp only [brR,if_neg hm]
      exact ⟨⟨_,hx2'⟩,by omega,rfl⟩
  · obtain ⟨⟨x,hx⟩,he,rfl⟩ := hq
    have hx' := hx
    obtain ⟨a,b,c,dd,rfl,ho⟩ := ex_agg hx
    have hd : decide ((e : Int) = 0) = false := by simp; omega
    refine ⟨_,rfl,pfr hw _ _ _,freeT_of hx'.ok.1, ?_⟩
    simp only [c73,c73x1,c73x2,c73x3,c73x4,c73x5,c73x6,RUA,RUB,RUC,RUD,RUE,RUF,if_true,if_false,Int.reduceEq,Int.reduceLT,Int.reduceLE,qC,qO,qA,qS,qU,Nat.reduceEqDiff,qT,E.at,qR,Nat.reduceAdd,Nat.reduceSub,Nat.reduceLeDiff,Nat.reduceMul,qI,qP,qQ,hone,ho,hd,rets,List.take]
    exact ⟨_,_,fin2 (pfr hw _ _ _) (freeT_of hx'.ok.1),⟨_,hx'⟩,he,rfl⟩
end
end Go.Proofs.YtjfnhpnfkknmoaaDoor
end

section
set_option linter.unusedVariables false
set_option linter.unusedSimpArgs false
set_option maxRecDepth 100000
set_option maxHeartbeats 4000000
open Go.Proofs.Pe renaming putCells → qC, bslOf → qO, bsaOf → qA, bslS → qS, isUpto → qU, step → qT, intOf → qI, iop → qP, sop → qQ
open List renaming replicate → qR
open Go.Proofs.Pe.V renaming dead → qD
namespace Go.Proofs.YtjfnhpnfkknmoaaDoor
open Go.Proofs.Pe

section
variable {w : V} {l : List Sg} (hw : IsSl 3 w (l.map Sg.v))
include hw
theorem un_w33 {i d : Nat} {r : PR} {s : Sg} (h : l[i]? = some s) (hk : s.k = 3) (ht : s.t = [33]) (hr : SFn Tryd.prog T 70 [.pt 0 0,.fn (.func 71) [] [.pt 1 0]] [.cells [w,iV i,iV d,iV 0],bxO] (Post2 w d r)) :
    SFn Tryd.prog T 58 [.pt 0 0] [.cells [w,iV i,iV d,iV 0]] (Post w d r) := by
  have hone : w.one = true := free1_one hw.free
  have hrow := fun o => hw.row o
  have hlen : (l.map Sg.v).length = l.length := by simp
  have hlt := (List.getElem?_eq_some_iff.1 h).1
  have hI := fun o => sg_ix hw h o
  have hd : decide ((l.length : Int) ≤ (i : Int)) = false := by simp; omega
  have k2 : decide ((s.k : Int) = 2) = false := by rw [hk]; rfl
  have k1 : decide ((s.k : Int) = 1) = false := by rw [hk]; rfl
  have k3 : decide ((s.k : Int) = 3) = true := by rw [hk]; rfl
  have b33 : (s.t == [33]) = true := by rw [ht]; rfl
  have b45 : (s.t == [45]) = false := by rw [ht]; rfl
  have b40 : (s.t == [40]) = false := by rw [ht]; rfl
  intro yi hy
  refine Call.step hy ?_
  rw [body_eq t58]
  simp only [c58,c58x1,c58x2,c58x3,c58x4,c58x5,c58x6,c58x7,c58x8,c58x9,c58x10,c58x11,c58x12,c58x13,c58x14,c58x15,c58x16,RUA,RUB,RUC,RUD,RUE,RUF,if_true,if_false,Int.reduceEq,Int.reduceLT,Int.reduceLE,qC,qO,qA,qS,qU,Nat.reduceEqDiff,qT,E.at,qR,Nat.reduceAdd,Nat.reduceSub,Nat.reduceLeDiff,Nat.reduceMul,qI,qP,qQ,hone,hrow,hlen,hI,hd,k1,k2,k3,b33,b45,b40]
  refine hr.call01 (a1 := []) (xs := [.pt 0 0,.fn (.func 71) [] [.pt 1 0]]) (b1 := []) rfl (cm_pt (cm_keep rfl cm_nil)) rfl (pfr hw _ _ _) fun z os' hq => ?_
  rcases r with ⟨x,j⟩ | ⟨e,j⟩
  · obtain ⟨hx,rfl⟩ := hq
    have hx' := hx
    obtain ⟨a,b,c,dd,rfl,ho⟩ := ex_agg hx
    refine ⟨_,rfl,pfr hw _ _ _,freeT_of hx'.ok.1, ?_⟩
    simp only [c58,c58x1,c58x2,c58x3,c58x4,c58x5,c58x6,c58x7,c58x8,c58x9,c58x10,c58x11,c58x12,c58x13,c58x14,c58x15,c58x16,RUA,RUB,RUC,RUD,RUE,RUF,if_true,if_false,Int.reduceEq,Int.reduceLT,Int.reduceLE,qC,qO,qA,qS,qU,Nat.reduceEqDiff,qT,E.at,qR,Nat.reduceAdd,Nat.reduceSub,Nat.reduceLeDiff,Nat.reduceMul,qI,qP,qQ,hone,ho,rets,List.take]
    exact ⟨_,_,fin1 (pfr hw _ _ _) (freeT_of hx'.ok.1),hx',rfl⟩
  · obtain ⟨⟨x,hx⟩,he,rfl⟩ := hq
    have hx' := hx
    obtain ⟨a,b,c,dd,rfl,ho⟩ := ex_agg hx
    refine ⟨_,rfl,pfr hw _ _ _,freeT_of hx'.ok.1, ?_⟩
    simp only [c58,c58x1,c58x2,c58x3,c58x4,c58x5,c58x6,c58x7,c58x8,c58x9,c58x10,c58x11,c58x12,c58x13,c58x14,c58x15,c58x16,RUA,RUB,RUC,RUD,RUE,RUF,if_true,if_false,Int.reduceEq,Int.reduceLT,Int.reduceLE,qC,qO,qA,qS,qU,Nat.reduceEqDiff,qT,E.at,qR,Nat.reduceAdd,Nat.reduceSub,Nat.reduceLeDiff,Nat.reduceMul,qI,qP,qQ,hone,ho,rets,List.take]
    exact ⟨_,_,fin1 (pfr hw _ _ _) (freeT_of hx'.ok.1),⟨_,hx'⟩,he,rfl⟩
theorem un_w45 {i d : Nat} {r : PR} {s : Sg} (h : l[i]? = some s) (hk : s.k = 3) (ht : s.t = [45]) (hr : SFn Tryd.prog T 70 [.pt 0 0,.fn (.func 72) [] [.pt 1 0]] [.cells [w,iV i,iV d,iV 0],bxO] (Post2 w d r)) :
    SFn Tryd.prog T 58 [.pt 0 0] [.cells [w,iV i,iV d,iV 0]] (Post w d r) := by
  have hone : w.one = true := free1_one hw.free
  have hrow := fun o => hw.row o
  have hlen : (l.map Sg.v).length = l.length := by simp
  have hlt := (List.getElem?_eq_some_iff.1 h).1
  have hI := fun o => sg_ix hw h o
  have hd : decide ((l.length : Int) ≤ (i : Int)) = false := by simp; omega
  have k2 : decide ((s.k : Int) = 2) = false := by rw [hk]; rfl
  have k1 : decide ((s.k : Int) = 1) = false := by rw [hk]; rfl
  have k3 : decide ((s.k : Int) = 3) = true := by rw [hk]; rfl
  have b33 : (s.t == [33]) = false := by rw [ht]; rfl
  have b45 : (s.t == [45]) = true := by rw [ht]; rfl
  have b40 : (s.t == [40]) = false := by rw [ht]; rfl
  intro yi hy
  refine Call.step hy ?_
  rw [body_eq t58]
  simp only [c58,c58x1,c58x2,c58x3,c58x4,c58x5,c58x6,c58x7,c58x8,c58x9,c58x10,c58x11,c58x12,c58x13,c58x14,c58x15,c58x16,RUA,RUB,RUC,RUD,RUE,RUF,if_true,if_false,Int.reduceEq,Int.reduceLT,Int.reduceLE,qC,qO,qA,qS,qU,Nat.reduceEqDiff,qT,E.at,qR,Nat.reduceAdd,Nat.reduceSub,Nat.reduceLeDiff,Nat.reduceMul,qI,qP,qQ,hone,hrow,hlen,hI,hd,k1,k2,k3,b33,b45,b40]
  refine hr.call01 (a1 := []) (xs := [.pt 0 0,.fn (.func 72) [] [.pt 1 0]]) (b1 := []) rfl (cm_pt (cm_keep rfl cm_nil)) rfl (pfr hw _ _ _) fun z os' hq => ?_
  rcases r with ⟨x,j⟩ | ⟨e,j⟩
  · obtain ⟨hx,rfl⟩ := hq
    have hx' := hx
    obtain ⟨a,b,c,dd,rfl,ho⟩ := ex_agg hx
    refine ⟨_,rfl,pfr hw _ _ _,freeT_of hx'.ok.1, ?_⟩
    simp only [c58,c58x1,c58x2,c58x3,c58x4,c58x5,c58x6,c58x7,c58x8,c58x9,c58x10,c58x11,c58x12,c58x13,c58x14,c58x15,c58x16,RUA,RUB,RUC,RUD,RUE,RUF,if_true,if_false,Int.reduceEq,Int.reduceLT,Int.reduceLE,qC,qO,qA,qS,qU,Nat.reduceEqDiff,qT,E.at,qR,Nat.reduceAdd,Nat.reduceSub,Nat.reduceLeDiff,Nat.reduceMul,qI,qP,qQ,hone,ho,rets,List.take]
    exact ⟨_,_,fin1 (pfr hw _ _ _) (freeT_of hx'.ok.1),hx',rfl⟩
  · obtain ⟨⟨x,hx⟩,he,rfl⟩ := hq
    have hx' := hx
    obtain ⟨a,b,c,dd,rfl,ho⟩ := ex_agg hx
    refine ⟨_,rfl,pfr hw _ _ _,freeT_of hx'.ok.1, ?_⟩
    simp only [c58,c58x1,c58x2,c58x3,c58x4,c58x5,c58x6,c58x7,c58x8,c58x9,c58x10,c58x11,c58x12,c58x13,c58x14,c58x15,c58x16,RUA,RUB,RUC,RUD,RUE,RUF,if_true,if_false,Int.reduceEq,Int.reduceLT,Int.reduceLE,qC,qO,qA,qS,qU,Nat.reduceEqDiff,qT,E.at,qR,Nat.reduceAdd,Nat.reduceSub,Nat.reduceLeDiff,Nat.reduceMul,qI,qP,qQ,hone,ho,rets,List.take]
    exact ⟨_,_,fin1 (pfr hw _ _ _) (freeT_of hx'.ok.1),⟨_,hx'⟩,he,rfl⟩
theorem un_w40 {i d : Nat} {r : PR} {s : Sg} (h : l[i]? = some s) (hk : s.k = 3) (ht : s.t = [40]) (hr : SFn Tryd.prog T 70 [.pt 0 0,.fn (.func 73) [] [.pt 1 0]] [.cells [w,iV i,iV d,iV 0],bxO] (Post2 w d r)) :
    SFn Tryd.prog T 58 [.pt 0 0] [.cells [w,iV i,iV d,iV 0]] (Post w d r) := by
  have hone : w.one = true := free1_one hw.free
  have hrow := fun o => hw.row o
  have hlen : (l.map Sg.v).length = l.length := by simp
  have hlt := (List.getElem?_eq_some_iff.1 h).1
  have hI := fun o => sg_ix hw h o
  have hd : decide ((l.length : Int) ≤ (i : Int)) = false := by simp; omega
  have k2 : decide ((s.k : Int) = 2) = false := by rw [hk]; rfl
  have k1 : decide ((s.k : Int) = 1) = false := by rw [hk]; rfl
  have k3 : decide ((s.k : Int) = 3) = true := by rw [hk]; rfl
  have b33 : (s.t == [33]) = false := by rw [ht]; rfl
  have b45 : (s.t == [45]) = false := by rw [ht]; rfl
  have b40 : (s.t == [40]) = true := by rw [ht]; rfl
  intro yi hy
  refine Call.step hy ?_
  rw [body_eq t58]
  simp only [c58,c58x1,c58x2,c58x3,c58x4,c58x5,c58x6,c58x7,c58x8,c58x9,c58x10,c58x11,c58x12,c58x13,c58x14,c58x15,c58x16,RUA,RUB,RUC,RUD,RUE,RUF,if_true,if_false,Int.reduceEq,Int.reduceLT,Int.reduceLE,qC,qO,qA,qS,qU,Nat.reduceEqDiff,qT,E.at,qR,Nat.reduceAdd,Nat.reduceSub,Nat.reduceLeDiff,Nat.reduceMul,qI,qP,qQ,hone,hrow,hlen,hI,hd,k1,k2,k3,b33,b45,b40]
  refine hr.call01 (a1 := []) (xs := [.pt 0 0,.fn (.func 73) [] [.pt 1 0]]) (b1 := []) rfl (cm_pt (cm_keep rfl cm_nil)) rfl (pfr hw _ _ _) fun z os' hq => ?_
  rcases r with ⟨x,j⟩ | ⟨e,j⟩
  · obtain ⟨hx,rfl⟩ := hq
    have hx' := hx
    obtain ⟨a,b,c,dd,rfl,ho⟩ := ex_agg hx
    refine ⟨_,rfl,pfr hw _ _ _,freeT_of hx'.ok.1, ?_⟩
    simp only [c58,c58x1,c58x2,c58x3,c58x4,c58x5,c58x6,c58x7,c58x8,c58x9,c58x10,c58x11,c58x12,c58x13,c58x14,c58x15,c58x16,RUA,RUB,RUC,RUD,RUE,RUF,if_true,if_false,Int.reduceEq,Int.reduceLT,Int.reduceLE,qC,qO,qA,qS,qU,Nat.reduceEqDiff,qT,E.at,qR,Nat.reduceAdd,Nat.reduceSub,Nat.reduceLeDiff,Nat.reduceMul,qI,qP,qQ,hone,ho,rets,List.take]
    exact ⟨_,_,fin1 (pfr hw _ _ _) (freeT_of hx'.ok.1),hx',rfl⟩
  · obtain ⟨⟨x,hx⟩,he,rfl⟩ := hq
    have hx' := hx
    obtain ⟨a,b,c,dd,rfl,ho⟩ := ex_agg hx
    refine ⟨_,rfl,pfr hw _ _ _,freeT_of hx'.ok.1, ?_⟩
    simp only [c58,c58x1,c58x2,c58x3,c58x4,c58x5,c58x6,c58x7,c58x8,c58x9,c58x10,c58x11,c58x12,c58x13,c58x14,c58x15,c58x16,RUA,RUB,RUC,RUD,RUE,RUF,if_true,if_false,Int.reduceEq,Int.reduceLT,Int.reduceLE,qC,qO,qA,qS,qU,Nat.reduceEqDiff,qT,E.at,qR,Nat.reduceAdd,Nat.reduceSub,Nat.reduceLeDiff,Nat.reduceMul,qI,qP,qQ,hone,ho,rets,List.take]
    exact ⟨_,_,fin1 (pfr hw _ _ _) (freeT_of hx'.ok.1),⟨_,hx'⟩,he,rfl⟩
theorem un_e {i d : Nat} (h : l[i]? = none) : SFn Tryd.prog T 58 [.pt 0 0] [.cells [w,iV i,iV d,iV 0]] (Post w d (.bad 2 i)) := by
  have hone : w.one = true := free1_one hw.free
  have hrow := fun o => hw.row o
  have hlen : (l.map Sg.v).length = l.length := by simp
  have hd : decide ((l.length : Int) ≤ (i : Int)) = true := by have := List.getElem?_eq_none_iff.1 h; simp; omega
  intro yi hy
  refine Call.step hy ?_
  rw [body_eq t58]
  simp only [c58,c58x1,c58x2,c58x3,c58x4,c58x5,c58x6,c58x7,c58x8,c58x9,c58x10,c58x11,c58x12,c58x13,c58x14,c58x15,c58x16,RUA,RUB,RUC,RUD,RUE,RUF,if_true,if_false,Int.reduceEq,Int.reduceLT,Int.reduceLE,qC,qO,qA,qS,qU,Nat.reduceEqDiff,qT,E.at,qR,Nat.reduceAdd,Nat.reduceSub,Nat.reduceLeDiff,Nat.reduceMul,qI,qP,qQ,hone,hrow,hlen,hd]
  refine (fail_c hw i d 2).call1 rfl (by simp [V.free,V.free1]) rfl (pfr hw _ _ _) fun z os' hq => ?_
  obtain ⟨hx,rfl⟩ := hq
  have hx' := hx
  obtain ⟨a,b,c,dd,rfl,ho⟩ := ex_agg hx
  refine ⟨_,rfl,pfr hw _ _ _,freeT_of hx'.ok.1, ?_⟩
  simp only [c58,c58x1,c58x2,c58x3,c58x4,c58x5,c58x6,c58x7,c58x8,c58x9,c58x10,c58x11,c58x12,c58x13,c58x14,c58x15,c58x16,RUA,RUB,RUC,RUD,RUE,RUF,if_true,if_false,Int.reduceEq,Int.reduceLT,Int.reduceLE,qC,qO,qA,qS,qU,Nat.reduceEqDiff,qT,E.at,qR,Nat.reduceAdd,Nat.reduceSub,Nat.reduceLeDiff,Nat.reduceMul,qI,qP,qQ,hone,ho,rets,List.take]
  exact ⟨_,_,fin1 (pfr hw _ _ _) (freeT_of hx'.ok.1),⟨_,hx'⟩,by omega,rfl⟩
theorem un_x {i d : Nat} {s : Sg} (h : l[i]? = some s) (hk : s.k ≠ 1) (hk2 : s.k ≠ 2) (hk3 : s.k ≠ 3) : SFn Tryd.prog T 58 [.pt 0 0] [.cells [w,iV i,iV d,iV 0]] (Post w d (.bad 2 i)) := by
  have hone : w.one = true := free1_one hw.free
  have hrow := fun o => hw.row o
  have hlen : (l.map Sg.v).length = l.length := by simp
  have hlt := (List.getElem?_eq_some_iff.1 h).1
  have hI := fun o => sg_ix hw h o
  have hd : decide ((l.length : Int) ≤ (i : Int)) = false := by simp; omega
  have k2 : decide ((s.k : Int) = 2) = false := by simp; omega
  have k1 : decide ((s.k : Int) = 1) = false := by simp; omega
  have k3 : decide ((s.k : Int) = 3) = false := by simp; omega
  intro yi hy
  refine Call.step hy ?_
  rw [body_eq t58]
  simp only [c58,c58x1,c58x2,c58x3,c58x4,c58x5,c58x6,c58x7,c58x8,c58x9,c58x10,c58x11,c58x12,c58x13,c58x14,c58x15,c58x16,RUA,RUB,RUC,RUD,RUE,RUF,if_true,if_false,Int.reduceEq,Int.reduceLT,Int.reduceLE,qC,qO,qA,qS,qU,Nat.reduceEqDiff,qT,E.at,qR,Nat.reduceAdd,Nat.reduceSub,Nat.reduceLeDiff,Nat.reduceMul,qI,qP,qQ,hone,hrow,hlen,hI,hd,k1,k2,k3]
  refine (fail_c hw i d 2).call1 rfl (by simp [V.free,V.free1]) rfl (pfr hw _ _ _) fun z os' hq => ?_
  obtain ⟨hx,rfl⟩ := hq
  have hx' := hx
  obtain ⟨a,b,c,dd,rfl,ho⟩ := ex_agg hx
  refine ⟨_,rfl,pfr hw _ _ _,freeT_of hx'.ok.1, ?_⟩
  simp only [c58,c58x1,c58x2,c58x3,c58x4,c58x5,c58x6,c58x7,c58x8,c58x9,c58x10,c58x11,c58x12,c58x13,c58x14,c58x15,c58x16,RUA,RUB,RUC,RUD,RUE,RUF,if_true,if_false,Int.reduceEq,Int.reduceLT,Int.reduceLE,qC,qO,qA,qS,qU,Nat.reduceEqDiff,qT,E.at,qR,Nat.reduceAdd,Nat.reduceSub,Nat.reduceLeDiff,Nat.reduceMul,qI,qP,qQ,hone,ho,rets,List.take]
  exact ⟨_,_,fin1 (pfr hw _ _ _) (freeT_of hx'.ok.1),⟨_,hx'⟩,by omega,rfl⟩
theorem un_m {i d : Nat} {s : Sg} (h : l[i]? = some s) (hk : s.k = 3) (h1 : s.t ≠ [33]) (h2 : s.t ≠ [45]) (h3 : s.t ≠ [40]) : SFn Tryd.prog T 58 [.pt 0 0] [.cells [w,iV i,iV d,iV 0]] (Post w d (.bad 2 i)) := by
  have hone : w.one = true := free1_one hw.free
  have hrow := fun o => hw.row o
  have hlen : (l.map Sg.v).length = l.length := by simp
  have hlt := (List.getElem?_eq_some_iff.1 h).1
  have hI := fun o => sg_ix hw h o
  have hd : decide ((l.length : Int) ≤ (i : Int)) = false := by simp; omega
  have k2 : decide ((s.k : Int) = 2) = false := by simp; omega
  have k1 : decide ((s.k : Int) = 1) = false := by simp; omega
  have k3 : decide ((s.k : Int) = 3) = true := by simp; omega
  have b33 : (s.t == [33]) = false := by simpa using h1
  have b45 : (s.t == [45]) = false := by simpa using h2
  have b40 : (s.t == [40]) = false := by simpa using h3
  intro yi hy
  refine Call.step hy ?_
  rw [body_eq t58]
  simp only [c58,c58x1,c58x2,c58x3,c58x4,c58x5,c58x6,c58x7,c58x8,c58x9,c58x10,c58x11,c58x12,c58x13,c58x14,c58x15,c58x16,RUA,RUB,RUC,RUD,RUE,RUF,if_true,if_false,Int.reduceEq,Int.reduceLT,Int.reduceLE,qC,qO,qA,qS,qU,Nat.reduceEqDiff,qT,E.at,qR,Nat.reduceAdd,Nat.reduceSub,Nat.reduceLeDiff,Nat.reduceMul,qI,qP,qQ,hone,hrow,hlen,hI,hd,k1,k2,k3,b33,b45,b40]
  refine (fail_c hw i d 2).call1 rfl (by simp [V.free,V.free1]) rfl (pfr hw _ _ _) fun z os' hq => ?_
  obtain ⟨hx,rfl⟩ := hq
  have hx' := hx
  obtain ⟨a,b,c,dd,rfl,ho⟩ := ex_agg hx
  refine ⟨_,rfl,pfr hw _ _ _,freeT_of hx'.ok.1, ?_⟩
  simp only [c58,c58x1,c58x2,c58x3,c58x4,c58x5,c58x6,c58x7,c58x8,c58x9,c58x10,c58x11,c58x12,c58x13,c58x14,c58x15,c58x16,RUA,RUB,RUC,RUD,RUE,RUF,if_true,if_false,Int.reduceEq,Int.reduceLT,Int.reduceLE,qC,qO,qA,qS,qU,Nat.reduceEqDiff,qT,E.at,qR,Nat.reduceAdd,Nat.reduceSub,Nat.reduceLeDiff,Nat.reduceMul,qI,qP,qQ,hone,ho,rets,List.take]
  exact ⟨_,_,fin1 (pfr hw _ _ _) (freeT_of hx'.ok.1),⟨_,hx'⟩,by omega,rfl⟩
theorem un_k {i d : Nat} {s : Sg} (h : l[i]? = some s) (hs : SgOk s) (hk : s.k = 1) (hn : isName s.t = false) : SFn Tryd.prog T 58 [.pt 0 0] [.cells [w,iV i,iV d,iV 0]] (Post w d (.bad 2 i)) := by
  have hone : w.one = true := free1_one hw.free
  have hrow := fun o => hw.row o
  have hlen : (l.map Sg.v).length = l.length := by simp
  have hlt := (List.getElem?_eq_some_iff.1 h).1
  have hI := fun o => sg_ix hw h o
  have hd : decide ((l.length : Int) ≤ (i : Int)) = false := by simp; omega
  have k2 : decide ((s.k : Int) = 2) = false := by simp; omega
  have k1 : decide ((s.k : Int) = 1) = true := by simp; omega
  have k3 : decide ((s.k : Int) = 3) = false := by simp; omega
  intro yi hy
  refine Call.step hy ?_
  rw [body_eq t58]
  simp only [c58,c58x1,c58x2,c58x3,c58x4,c58x5,c58x6,c58x7,c58x8,RUA,RUB,RUC,RUD,RUE,RUF,if_true,if_false,Int.reduceEq,Int.reduceLT,Int.reduceLE,qC,qO,qA,qS,qU,Nat.reduceEqDiff,qT,E.at,qR,Nat.reduceAdd,Nat.reduceSub,Nat.reduceLeDiff,Nat.reduceMul,qI,qP,qQ,hone,hrow,hlen,hI,hd,k1,k2,k3]
  refine pcall (name_p (s := s.t) (by have := hs.1; unfold lim; omega)) rfl (by simp [V.free,V.free1]) ?_
  rw [hn]
  simp only [c58,c58x1,c58x2,c58x3,c58x4,c58x5,c58x6,c58x7,c58x8,c58x9,c58x10,c58x11,c58x12,c58x13,c58x14,c58x15,c58x16,RUA,RUB,RUC,RUD,RUE,RUF,if_true,if_false,Int.reduceEq,Int.reduceLT,Int.reduceLE,qC,qO,qA,qS,qU,Nat.reduceEqDiff,qT,E.at,qR,Nat.reduceAdd,Nat.reduceSub,Nat.reduceLeDiff,Nat.reduceMul,qI,qP,qQ,hone,hrow,hlen,hI,hd,k1,k2,k3]
  refine (fail_c hw i d 2).call1 rfl (by simp [V.free,V.free1]) rfl (pfr hw _ _ _) fun z os' hq => ?_
  obtain ⟨hx,rfl⟩ := hq
  have hx' := hx
  obtain ⟨a,b,c,dd,rfl,ho⟩ := ex_agg hx
  refine ⟨_,rfl,pfr hw _ _ _,freeT_of hx'.ok.1, ?_⟩
  simp only [c58,c58x1,c58x2,c58x3,c58x4,c58x5,c58x6,c58x7,c58x8,c58x9,c58x10,c58x11,c58x12,c58x13,c58x14,c58x15,c58x16,RUA,RUB,RUC,RUD,RUE,RUF,if_true,if_false,Int.reduceEq,Int.reduceLT,Int.reduceLE,qC,qO,qA,qS,qU,Nat.reduceEqDiff,qT,E.at,qR,Nat.reduceAdd,Nat.reduceSub,Nat.reduceLeDiff,Nat.reduceMul,qI,qP,qQ,hone,ho,rets,List.take]
  exact ⟨_,_,fin1 (pfr hw _ _ _) (freeT_of hx'.ok.1),⟨_,hx'⟩,by omega,rfl⟩
theorem un_v (hl : l.length ≤ lim) {i d : Nat} {s : Sg} (h : l[i]? = some s) (hs : SgOk s) (hk : s.k = 1) (hn : isName s.t = true) : SFn Tryd.prog T 58 [.pt 0 0] [.cells [w,iV i,iV d,iV 0]] (Post w d (.ok (.mk 2 0 ⟨s.t.toArray⟩ []) (i + 1))) := by
  have hone : w.one = true := free1_one hw.free
  have hrow := fun o => hw.row o
  have hlen : (l.map Sg.v).length = l.length := by simp
  have hlt := (List.getElem?_eq_some_iff.1 h).1
  have hI := fun o => sg_ix hw h o
  have hd : decide ((l.length : Int) ≤ (i : Int)) = false := by simp; omega
  have k2 : decide ((s.k : Int) = 2) = false := by simp; omega
  have k1 : decide ((s.k : Int) = 1) = true := by simp; omega
  have k3 : decide ((s.k : Int) = 3) = false := by simp; omega
  unfold lim at hl
  have w1 : IntKind.i64.wrap ((i : Int) + 1) = ((i + 1 : Nat) : Int) := wrap_succ (by omega)
  intro yi hy
  refine Call.step hy ?_
  rw [body_eq t58]
  simp only [c58,c58x1,c58x2,c58x3,c58x4,c58x5,c58x6,c58x7,c58x8,RUA,RUB,RUC,RUD,RUE,RUF,if_true,if_false,Int.reduceEq,Int.reduceLT,Int.reduceLE,qC,qO,qA,qS,qU,Nat.reduceEqDiff,qT,E.at,qR,Nat.reduceAdd,Nat.reduceSub,Nat.reduceLeDiff,Nat.reduceMul,qI,qP,qQ,hone,hrow,hlen,hI,hd,k1,k2,k3]
  refine pcall (name_p (s := s.t) (by have := hs.1; unfold lim; omega)) rfl (by simp [V.free,V.free1]) ?_
  rw [hn]
  have hE : IsEx (.mk 2 0 ⟨s.t.toArray⟩ []) (.agg [iV 2,iV 0,tV s.t,nilV]) := ⟨nilV,[],rfl,.inl ⟨rfl,rfl⟩,by simp,rfl⟩
  simp only [c58,c58x1,c58x2,c58x3,c58x4,c58x5,c58x6,c58x7,c58x8,c58x9,c58x10,c58x11,c58x12,c58x13,c58x14,c58x15,c58x16,RUA,RUB,RUC,RUD,RUE,RUF,if_true,if_false,Int.reduceEq,Int.reduceLT,Int.reduceLE,qC,qO,qA,qS,qU,Nat.reduceEqDiff,qT,E.at,qR,Nat.reduceAdd,Nat.reduceSub,Nat.reduceLeDiff,Nat.reduceMul,qI,qP,qQ,hone,hrow,hlen,hI,hd,k1,k2,k3,w1,fillC,rets,List.take]
  exact ⟨_,_,fin1 (pfr hw _ _ _) (freeT_of hE.ok.1),hE,rfl⟩
theorem un_n (hl : l.length ≤ lim) {i d : Nat} {s : Sg} (h : l[i]? = some s) (hs : SgOk s) (hk : s.k = 2) : SFn Tryd.prog T 58 [.pt 0 0] [.cells [w,iV i,iV d,iV 0]] (Post w d (.ok (.mk 1 (numI s.t) emp []) (i + 1))) := by
  have hone : w.one = true := free1_one hw.free
  have hrow := fun o => hw.row o
  have hlen : (l.map Sg.v).length = l.length := by simp
  have hlt := (List.getElem?_eq_some_iff.1 h).1
  have hI := fun o => sg_ix hw h o
  have hd : decide ((l.length : Int) ≤ (i : Int)) = false := by simp; omega
  have k2 : decide ((s.k : Int) = 2) = true := by simp; omega
  have k1 : decide ((s.k : Int) = 1) = false := by simp; omega
  have k3 : decide ((s.k : Int) = 3) = false := by simp; omega
  unfold lim at hl
  have w1 : IntKind.i64.wrap ((i : Int) + 1) = ((i + 1 : Nat) : Int) := wrap_succ (by omega)
  obtain ⟨q1,q2,q3⟩ := hs.2 hk
  intro yi hy
  refine Call.step hy ?_
  rw [body_eq t58]
  simp only [c58,c58x1,c58x2,c58x3,c58x4,c58x5,RUA,RUB,RUC,RUD,RUE,RUF,if_true,if_false,Int.reduceEq,Int.reduceLT,Int.reduceLE,qC,qO,qA,qS,qU,Nat.reduceEqDiff,qT,E.at,qR,Nat.reduceAdd,Nat.reduceSub,Nat.reduceLeDiff,Nat.reduceMul,qI,qP,qQ,hone,hrow,hlen,hI,hd,k1,k2,k3]
  refine pcall (atoi_p q1 q2 q3) rfl (by simp [V.free,V.free1]) ?_
  have hE : IsEx (.mk 1 (numI s.t) emp []) (.agg [iV 1,iV (numI s.t),sV emp,nilV]) := ⟨nilV,[],rfl,.inl ⟨rfl,rfl⟩,by simp,rfl⟩
  simp only [c58,c58x1,c58x2,c58x3,c58x4,c58x5,c58x6,c58x7,c58x8,c58x9,c58x10,c58x11,c58x12,c58x13,c58x14,c58x15,c58x16,RUA,RUB,RUC,RUD,RUE,RUF,if_true,if_false,Int.reduceEq,Int.reduceLT,Int.reduceLE,qC,qO,qA,qS,qU,Nat.reduceEqDiff,qT,E.at,qR,Nat.reduceAdd,Nat.reduceSub,Nat.reduceLeDiff,Nat.reduceMul,qI,qP,qQ,hone,hrow,hlen,hI,hd,k1,k2,k3,w1,fillC,rets,List.take]
  exact ⟨_,_,fin1 (pfr hw _ _ _) (freeT_of hE.ok.1),hE,rfl⟩
end
def G (w : V) : W → Nat → Nat → PR → Prop
  | .un,d,i,r => SFn Tryd.prog T 58 [.pt 0 0] [.cells [w,iV i,iV d,iV 0]] (Post w d r)
  | .bin lv,d,i,r => SFn Tryd.prog T 35 [.pt 0 0,iV lv] [.cells [w,iV i,iV d,iV 0]] (Post w d r)
  | .lp _ _,_,_,_ => True
theorem un_c {w : V} {l : List Sg} (hw : IsSl 3 w (l.map Sg.v)) (hl : l.length ≤ lim) (hok : ∀ s ∈ l,SgOk s) {n d i : Nat} {r : PR} (h : PS l (n + 1) .un d i r) (ih : ∀ w' d i r,PS l n w' d i r → G w w' d i r) : G w .un d i r := by
  have hs : ∀ {i : Nat} {s : Sg},l[i]? = some s → SgOk s ∧ i < lim := fun h => ⟨hok _ (List.mem_of_getElem? h),Nat.lt_of_lt_of_le (List.getElem?_eq_some_iff.1 h).1 hl⟩
  cases h with
  | unE h => exact un_e hw h
  | unN h hk => exact un_n hw hl h (hs h).1 hk
  | unV h hk hn => exact un_v hw hl h (hs h).1 hk hn
  | unW h hk hn => exact un_k hw h (hs h).1 hk hn
  | unX h hk hk2 hk3 => exact un_x hw h hk hk2 hk3
  | unM h hk h1 h2 h3 => exact un_m hw h hk h1 h2 h3
  | unD h hk ht hd =>
    rcases ht with ht | ht | ht
    · exact un_w33 hw h hk ht (within_f hw hd)
    · exact un_w45 hw h hk ht (within_f hw hd)
    · exact un_w40 hw h hk ht (within_f hw hd)
  | unS h hk ht hd h1 =>
    rcases ht with ⟨ht,rfl⟩ | ⟨ht,rfl⟩
    · exact un_w33 hw h hk ht (within_c hw rfl hd (hs h).2 (not_c hw (ih _ _ _ _ h1)))
    · exact un_w45 hw h hk ht (within_c hw rfl hd (hs h).2 (neg_c hw (ih _ _ _ _ h1)))
  | unSB h hk ht hd h1 =>
    rcases ht with ht | ht
    · exact un_w33 hw h hk ht (within_c hw rfl hd (hs h).2 (not_c hw (ih _ _ _ _ h1)))
    · exact un_w45 hw h hk ht (within_c hw rfl hd (hs h).2 (neg_c hw (ih _ _ _ _ h1)))
  | unP h hk ht hd h1 hm =>
    have := bra_c hw hl (ih _ _ _ _ h1)
    simp only [brR,if_pos hm] at this
    exact un_w40 hw h hk ht (within_c hw rfl hd (hs h).2 this)
  | unPM h hk ht hd h1 hm =>
    have := bra_c hw hl (ih _ _ _ _ h1)
    simp only [brR,if_neg hm] at this
    exact un_w40 hw h hk ht (within_c hw rfl hd (hs h).2 this)
  | unPB h hk ht hd h1 =>
    exact un_w40 hw h hk ht (within_c hw rfl hd (hs h).2 (bra_c hw hl (ih _ _ _ _ h1)))
end Go.Proofs.YtjfnhpnfkknmoaaDoor
end

section
set_option linter.unusedVariables false
set_option linter.unusedSimpArgs false
set_option maxRecDepth 100000
set_option maxHeartbeats 8000000
open Go.Proofs.Pe renaming putCells → qC, bslOf → qO, bsaOf → qA, bslS → qS, isUpto → qU, step → qT, intOf → qI, iop → qP, sop → qQ
open List renaming replicate → qR
open Go.Proofs.Pe.V renaming dead → qD
namespace Go.Proofs.YtjfnhpnfkknmoaaDoor
open Go.Proofs.Pe

abbrev z4O : O := .cells [iV 0,iV 0,sV (ByteArray.mk #[]),nilV]
def KP (w : V) (d : Nat) (r : PR) : V → List O → Prop := fun y o' => ∃ z os',Fin5 1 y o' z os' ∧ Post w d r z os'
def PsiB (w : V) (d : Nat) (r : PR) : X → Fr → Prop := fun x3 f3 => match x3 with
  | .goto _ => endK [Rv.cell 4 true 4] (KP w d r) .normal f3
  | x => endK [Rv.cell 4 true 4] (KP w d r) x f3
abbrev LoopB (yi : Nat → Sem') : Fr → (X → Fr → Prop) → Prop := Lfp (gBody 0 (Pe.ev Tryd.prog T (Pe.Call Tryd.prog T) Lfp (.seq .skip c35x5) none yi))
section
variable {w : V} {l : List Sg} (hw : IsSl 3 w (l.map Sg.v))
include hw
theorem head_e {lv d j e : Nat} (he : e ≠ 0) {a b : Int} {c : ByteArray} {xv : V} {tl : List O} {yi : Nat → Sem'} (hy : YLe yi yi) (C : X → Fr → Prop)
    (hret : ∀ f',endK [Rv.cell 4 true 4] (KP w d (.bad e j)) .ret f' → C .ret f') (x6 x7 x8 x9 x10 x11 x12 x13 x14 x15 x16 x17 x18 x19 x20 x21 x22 x23 x24 x25 x26 x27 x28 x29 x30 x31 x32 x33 x34 x35 x36 x37 x38 x39 x40 x41 x42 x43 x44 x45 x46 x47 x48 x49 : V) :
    Pe.ev Tryd.prog T (Pe.Call Tryd.prog T) Lfp c35x5 none yi ⟨⟨(.pt 0 0 :: iV lv :: qD::qD::.pt 1 0 :: .pt 2 0 :: x6 :: x7 :: x8 :: x9 :: x10 :: x11 :: x12 :: x13 :: x14 :: x15 :: x16 :: x17 :: x18 :: x19 :: x20 :: x21 :: x22 :: x23 :: x24 :: x25 :: x26 :: x27 :: x28 :: x29 :: x30 :: x31 :: x32 :: x33 :: x34 :: x35 :: x36 :: x37 :: x38 :: x39 :: x40 :: x41 :: x42 :: x43 :: x44 :: x45 :: x46 :: x47 :: x48 :: x49 :: []),.cells [w,iV j,iV d,iV e] :: z4O :: .cells [iV a,iV b,sV c,xv] :: tl⟩,[]⟩ C := by
  have hone : w.one = true := free1_one hw.free
  have he0 : decide ((e : Int) = 0) = false := by simp; omega
  simp only [c35,c35x1,c35x2,c35x3,c35x4,c35x5,c35x6,RUA,RUB,RUC,RUD,RUE,RUF,if_true,if_false,Int.reduceEq,Int.reduceLT,Int.reduceLE,qC,qO,qA,qS,qU,Nat.reduceEqDiff,qT,E.at,qR,Nat.reduceAdd,Nat.reduceSub,Nat.reduceLeDiff,Nat.reduceMul,qI,qP,qQ,hone,he0,fillC]
  refine hret _ ?_
  simp only [KP,RUA,RUB,RUC,RUD,RUE,RUF,if_true,if_false,Int.reduceEq,Int.reduceLT,Int.reduceLE,qC,qO,qA,qS,qU,Nat.reduceEqDiff,qT,E.at,qR,Nat.reduceAdd,Nat.reduceSub,Nat.reduceLeDiff,Nat.reduceMul,qI,qP,qQ,hone,rets,List.take]
  exact ⟨_,_,fin1 (pfr hw _ _ _) (freeT_of zIs.ok.1),⟨_,zIs⟩,he,rfl⟩
theorem head_c (hl : l.length ≤ lim) {lv : Nat} (hlv : lv < 5) {N : Nat} (ihb : ∀ m,m < N → ∀ d i r,PS l m (.bin (lv + 1)) d i r → G w (.bin (lv + 1)) d i r) :
    ∀ (n : Nat),n ≤ N → ∀ (d j : Nat) (r : PR) (x : Ex),PS l n (.lp lv x) d j r → ∀ (a b : Int) (c : ByteArray) (xv : V) (tl : List O),IsEx x (.agg [iV a,iV b,sV c,xv]) → ∀ {yi : Nat → Sem'} (hy : YLe yi yi) (C : X → Fr → Prop)
    (hret : ∀ f',endK [Rv.cell 4 true 4] (KP w d r) .ret f' → C .ret f') (hgo : ∀ f',LoopB yi f' (PsiB w d r) → C (.goto 0) f') (x6 x7 x8 x9 x10 x11 x12 x13 x14 x15 x16 x17 x18 x19 x20 x21 x22 x23 x24 x25 x26 x27 x28 x29 x30 x31 x32 x33 x34 x35 x36 x37 x38 x39 x40 x41 x42 x43 x44 x45 x46 x47 x48 x49 : V),
    Pe.ev Tryd.prog T (Pe.Call Tryd.prog T) Lfp c35x5 none yi ⟨⟨(.pt 0 0 :: iV lv :: qD::qD::.pt 1 0 :: .pt 2 0 :: x6 :: x7 :: x8 :: x9 :: x10 :: x11 :: x12 :: x13 :: x14 :: x15 :: x16 :: x17 :: x18 :: x19 :: x20 :: x21 :: x22 :: x23 :: x24 :: x25 :: x26 :: x27 :: x28 :: x29 :: x30 :: x31 :: x32 :: x33 :: x34 :: x35 :: x36 :: x37 :: x38 :: x39 :: x40 :: x41 :: x42 :: x43 :: x44 :: x45 :: x46 :: x47 :: x48 :: x49 :: []),.cells [w,iV j,iV d,iV 0] :: z4O :: .cells [iV a,iV b,sV c,xv] :: tl⟩,[]⟩ C := by
  have hone : w.one = true := free1_one hw.free
  have hrl : ∀ o,rowOf o (.sl 2 true lvlsV) = some lvlsV := fun o => rfl
  have hI : ∀ o,ixOf 2 o (.sl 2 true lvlsV) (iV lv) = some (.ep [iV (lvLo lv),iV (lvHi lv)],o) := fun o => IsSl.ix (.inr ⟨_,rfl⟩) o (lvls_get hlv)
  have hnil := kind_nil lv hlv
  have wl : IntKind.i64.wrap ((lv : Int) + 1) = ((lv + 1 : Nat) : Int) := wrap_succ (by omega)
  intro n
  induction n with
  | zero => intro _ d j r x h; cases h
  | succ n ih =>
    intro hN d j r x h a b c xv tl hx yi hy C hret hgo x6 x7 x8 x9 x10 x11 x12 x13 x14 x15 x16 x17 x18 x19 x20 x21 x22 x23 x24 x25 x26 x27 x28 x29 x30 x31 x32 x33 x34 x35 x36 x37 x38 x39 x40 x41 x42 x43 x44 x45 x46 x47 x48 x49
    have hxo : xv.one = true := by obtain ⟨a',b',c',d',e,h1⟩ := ex_agg hx; cases e; exact h1
    simp only [c35,c35x1,c35x2,c35x3,c35x4,c35x5,c35x6,c35x7,RUA,RUB,RUC,RUD,RUE,RUF,if_true,if_false,Int.reduceEq,Int.reduceLT,Int.reduceLE,qC,qO,qA,qS,qU,Nat.reduceEqDiff,qT,E.at,qR,Nat.reduceAdd,Nat.reduceSub,Nat.reduceLeDiff,Nat.reduceMul,qI,qP,qQ,hone]
    refine pcall levels_p rfl (by simp) ?_
    simp only [c35,c35x1,c35x2,c35x3,c35x4,c35x5,c35x6,c35x7,RUA,RUB,RUC,RUD,RUE,RUF,if_true,if_false,Int.reduceEq,Int.reduceLT,Int.reduceLE,qC,qO,qA,qS,qU,Nat.reduceEqDiff,qT,E.at,qR,Nat.reduceAdd,Nat.reduceSub,Nat.reduceLeDiff,Nat.reduceMul,qI,qP,qQ,hone,hI]
    refine call3 rfl (cm_pt (cm_free rfl cm_nil)) (pkind_c noY_le hw hlv rfl fun bb => ⟨(Frm.app _ _ []).sim, ?_⟩)
    by_cases hk0 : kindM lv (markAt l j) = 0
    · have hr : r = .ok x j := by
        cases h with
        | lpE h => rfl
        | lpB h h1 => exact absurd hk0 h
        | lp2 h h1 => exact absurd hk0 h
        | lp h h0 h1 h2 => exact absurd hk0 h
      subst hr
      rw [hk0]
      simp only [c35,c35x1,c35x2,c35x3,c35x4,c35x5,c35x6,c35x7,c35x8,c35x9,RUA,RUB,RUC,RUD,RUE,RUF,if_true,if_false,Int.reduceEq,Int.reduceLT,Int.reduceLE,qC,qO,qA,qS,qU,Nat.reduceEqDiff,qT,E.at,qR,Nat.reduceAdd,Nat.reduceSub,Nat.reduceLeDiff,Nat.reduceMul,qI,qP,qQ,hone,hxo]
      refine hret _ ?_
      simp only [KP,RUA,RUB,RUC,RUD,RUE,RUF,if_true,if_false,Int.reduceEq,Int.reduceLT,Int.reduceLE,qC,qO,qA,qS,qU,Nat.reduceEqDiff,qT,E.at,qR,Nat.reduceAdd,Nat.reduceSub,Nat.reduceLeDiff,Nat.reduceMul,qI,qP,qQ,hone,hxo,rets,List.take]
      exact ⟨_,_,fin1 (pfr hw _ _ _) (freeT_of hx.ok.1),hx,rfl⟩
    · have hj : j < l.length := by
        by_cases hm : markAt l j = []
        · exact absurd (by rw [hm]; exact hnil) hk0
        · exact mark_lt rfl hm
      have hkd : decide ((kindM lv (markAt l j) : Int) = 0) = false := by simp; omega
      have wj : IntKind.i64.wrap ((j : Int) + 1) = ((j + 1 : Nat) : Int) := wrap_succ (by unfold lim at hl; omega)
      have hxf : xv.free1 = true := by
        have := hx.ok.1
        simp only [free_agg,List.all_cons,List.all_nil,free1_sc,Bool.and_true,Bool.true_and] at this
        exact this
      have key : ∀ (y : Ex) z,IsEx y z → z.free = true ∧ decide (z.cells.length = 4) = true := fun y z h => ⟨h.ok.1,by simpa using h.ok.2⟩
      generalize hkk : kindM lv (markAt l j) = kk at hk0 hkd
      have hbin : ∃ rb,PS l n (.bin (lv + 1)) d (j + 1) rb ∧ match rb with
          | .bad e j2 => r = .bad e j2
          | .ok y j2 => if lv = 2 then r = .ok (.mk kk 0 emp [x,y]) j2 else PS l n (.lp lv (.mk kk 0 emp [x,y])) d j2 r := by
        cases h with
        | lpE h => rw [hkk] at h; exact absurd h hk0
        | lpB h h1 => exact ⟨_,h1,rfl⟩
        | lp2 h h1 => exact ⟨_,h1,by rw [hkk]; simp⟩
        | lp h h0 h1 h2 => rw [hkk] at h2; exact ⟨_,h1,by simp only [if_neg h0]; exact h2⟩
      obtain ⟨rb,hb1,hb2⟩ := hbin
      have hB := ihb n (by omega) _ _ _ hb1
      simp only [c35,c35x1,c35x2,c35x3,c35x4,c35x5,c35x6,c35x7,c35x8,c35x9,c35x10,c35x11,RUA,RUB,RUC,RUD,RUE,RUF,if_true,if_false,Int.reduceEq,Int.reduceLT,Int.reduceLE,qC,qO,qA,qS,qU,Nat.reduceEqDiff,qT,E.at,qR,Nat.reduceAdd,Nat.reduceSub,Nat.reduceLeDiff,Nat.reduceMul,qI,qP,qQ,hone,hxo,hkd,wj,wl]
      refine ⟨?_, ?_⟩
      all_goals
        refine SFn.call1 hB rfl (by simp [V.free,V.free1]) rfl (pfr hw _ _ _) fun z os' hq => ?_
        rcases rb with ⟨y,j2⟩ | ⟨e,j2⟩
        · obtain ⟨hz,rfl⟩ := hq
          obtain ⟨k1,k2⟩ := key y z hz
          have hx' := ex_two (k := kk) hx hz
          refine ⟨_,rfl,pfr hw _ _ _,freeT_of k1, ?_⟩
          by_cases h2 : lv = 2
          · have hd2 : decide ((lv : Int) = 2) = true := by simp; omega
            simp only [if_pos h2] at hb2
            subst hb2
            simp only [c35,c35x1,c35x2,c35x3,c35x4,c35x5,c35x6,c35x7,c35x8,c35x9,c35x10,c35x11,c35x12,c35x13,c35x14,RUA,RUB,RUC,RUD,RUE,RUF,if_true,if_false,Int.reduceEq,Int.reduceLT,Int.reduceLE,qC,qO,qA,qS,qU,Nat.reduceEqDiff,qT,E.at,qR,Nat.reduceAdd,Nat.reduceSub,Nat.reduceLeDiff,Nat.reduceMul,qI,qP,qQ,hone,hxo,hxf,k1,k2,fillC,hd2]
            refine hret _ ?_
            simp only [KP,RUA,RUB,RUC,RUD,RUE,RUF,if_true,if_false,Int.reduceEq,Int.reduceLT,Int.reduceLE,qC,qO,qA,qS,qU,Nat.reduceEqDiff,qT,E.at,qR,Nat.reduceAdd,Nat.reduceSub,Nat.reduceLeDiff,Nat.reduceMul,qI,qP,qQ,hone,hxo,rets,List.take]
            exact ⟨_,_,fin1 (pfr hw _ _ _) (freeT_of hx'.ok.1),hx',rfl⟩
          · have hd2 : decide ((lv : Int) = 2) = false := by simp; omega
            simp only [if_neg h2] at hb2
            simp only [c35,c35x1,c35x2,c35x3,c35x4,c35x5,c35x6,c35x7,c35x8,c35x9,c35x10,c35x11,c35x12,c35x13,c35x14,RUA,RUB,RUC,RUD,RUE,RUF,if_true,if_false,Int.reduceEq,Int.reduceLT,Int.reduceLE,qC,qO,qA,qS,qU,Nat.reduceEqDiff,qT,E.at,qR,Nat.reduceAdd,Nat.reduceSub,Nat.reduceLeDiff,Nat.reduceMul,qI,qP,qQ,hone,hxo,hxf,k1,k2,fillC,hd2]
            refine hgo _ (Lfp.step (gBody_mono (ev_mono call_le lfp_le _ _ _ _ hy)) ?_)
            unfold gBody
            simp only [s_seq,s_skip]
            refine ih (by omega) _ _ _ _ hb2 _ _ _ _ _ hx' hy _ ?_ ?_ _ _ _ _ _ _ _ _ _ _ _ _ _ _ _ _ _ _ _ _ _ _ _ _ _ _ _ _ _ _ _ _ _ _ _ _ _ _ _ _ _ _ _ _
            · exact fun f' h => h
            · exact fun f' h => h
        · obtain ⟨⟨y,hz⟩,he,rfl⟩ := hq
          obtain ⟨k1,k2⟩ := key y z hz
          have hx' := ex_two (k := kk) hx hz
          dsimp only at hb2
          subst hb2
          refine ⟨_,rfl,pfr hw _ _ _,freeT_of k1, ?_⟩
          by_cases h2 : lv = 2
          · have hd2 : decide ((lv : Int) = 2) = true := by simp; omega
            simp only [c35,c35x1,c35x2,c35x3,c35x4,c35x5,c35x6,c35x7,c35x8,c35x9,c35x10,c35x11,c35x12,c35x13,c35x14,RUA,RUB,RUC,RUD,RUE,RUF,if_true,if_false,Int.reduceEq,Int.reduceLT,Int.reduceLE,qC,qO,qA,qS,qU,Nat.reduceEqDiff,qT,E.at,qR,Nat.reduceAdd,Nat.reduceSub,Nat.reduceLeDiff,Nat.reduceMul,qI,qP,qQ,hone,hxo,hxf,k1,k2,fillC,hd2]
            refine hret _ ?_
            simp only [KP,RUA,RUB,RUC,RUD,RUE,RUF,if_true,if_false,Int.reduceEq,Int.reduceLT,Int.reduceLE,qC,qO,qA,qS,qU,Nat.reduceEqDiff,qT,E.at,qR,Nat.reduceAdd,Nat.reduceSub,Nat.reduceLeDiff,Nat.reduceMul,qI,qP,qQ,hone,hxo,rets,List.take]
            exact ⟨_,_,fin1 (pfr hw _ _ _) (freeT_of hx'.ok.1),⟨_,hx'⟩,he,rfl⟩
          · have hd2 : decide ((lv : Int) = 2) = false := by simp; omega
            simp only [c35,c35x1,c35x2,c35x3,c35x4,c35x5,c35x6,c35x7,c35x8,c35x9,c35x10,c35x11,c35x12,c35x13,c35x14,RUA,RUB,RUC,RUD,RUE,RUF,if_true,if_false,Int.reduceEq,Int.reduceLT,Int.reduceLE,qC,qO,qA,qS,qU,Nat.reduceEqDiff,qT,E.at,qR,Nat.reduceAdd,Nat.reduceSub,Nat.reduceLeDiff,Nat.reduceMul,qI,qP,qQ,hone,hxo,hxf,k1,k2,fillC,hd2]
            refine hgo _ (Lfp.step (gBody_mono (ev_mono call_le lfp_le _ _ _ _ hy)) ?_)
            unfold gBody
            simp only [s_seq,s_skip]
            refine head_e hw he hy _ ?_ _ _ _ _ _ _ _ _ _ _ _ _ _ _ _ _ _ _ _ _ _ _ _ _ _ _ _ _ _ _ _ _ _ _ _ _ _ _ _ _ _ _ _ _
            exact fun f' h => h
end
end Go.Proofs.YtjfnhpnfkknmoaaDoor
end

section
set_option linter.unusedVariables false
set_option linter.unusedSimpArgs false
set_option maxRecDepth 100000
set_option maxHeartbeats 8000000
open Go.Proofs.Pe renaming putCells → qC, bslOf → qO, bsaOf → qA, bslS → qS, isUpto → qU, step → qT, intOf → qI, iop → qP, sop → qQ
open List renaming replicate → qR
open Go.Proofs.Pe.V renaming dead → qD
namespace Go.Proofs.YtjfnhpnfkknmoaaDoor
open Go.Proofs.Pe

theorem bin_c {w : V} {l : List Sg} (hw : IsSl 3 w (l.map Sg.v)) (hl : l.length ≤ lim) {n lv d i : Nat} {r : PR} (h : PS l (n + 1) (.bin lv) d i r) (ih : ∀ m,m ≤ n → ∀ w' d i r,PS l m w' d i r → G w w' d i r) : G w (.bin lv) d i r := by
  have hone : w.one = true := free1_one hw.free
  have hrl : ∀ o,rowOf o (.sl 2 true lvlsV) = some lvlsV := fun o => rfl
  have hll : lvlsV.length = 5 := rfl
  intro yi hy
  refine Call.step hy ?_
  rw [body_eq t35]
  cases h with
  | bin5 h1 =>
    have hB := ih n (Nat.le_refl _) _ _ _ _ h1
    simp only [c35,c35x1,RUA,RUB,RUC,RUD,RUE,RUF,if_true,if_false,Int.reduceEq,Int.reduceLT,Int.reduceLE,qC,qO,qA,qS,qU,Nat.reduceEqDiff,qT,E.at,qR,Nat.reduceAdd,Nat.reduceSub,Nat.reduceLeDiff,Nat.reduceMul,qI,qP,qQ,s_scopeG,hone]
    refine pcall levels_p rfl (by simp) ?_
    have hd : decide (((5 : Nat) : Int) = 5) = true := rfl
    simp only [c35,c35x1,c35x2,c35x3,RUA,RUB,RUC,RUD,RUE,RUF,if_true,if_false,Int.reduceEq,Int.reduceLT,Int.reduceLE,qC,qO,qA,qS,qU,Nat.reduceEqDiff,qT,E.at,qR,Nat.reduceAdd,Nat.reduceSub,Nat.reduceLeDiff,Nat.reduceMul,qI,qP,qQ,s_scopeG,hone,hrl,hll,hd]
    refine SFn.call1 hB rfl (by simp) rfl (pfr hw _ _ _) fun z os' hq => ?_
    rcases r with ⟨x,j⟩ | ⟨e,j⟩
    · obtain ⟨hx,rfl⟩ := hq
      have hx' := hx
      obtain ⟨a,b,c,dd,rfl,ho⟩ := ex_agg hx
      refine ⟨_,rfl,pfr hw _ _ _,freeT_of hx'.ok.1, ?_⟩
      simp only [c35,c35x1,c35x2,c35x3,RUA,RUB,RUC,RUD,RUE,RUF,if_true,if_false,Int.reduceEq,Int.reduceLT,Int.reduceLE,qC,qO,qA,qS,qU,Nat.reduceEqDiff,qT,E.at,qR,Nat.reduceAdd,Nat.reduceSub,Nat.reduceLeDiff,Nat.reduceMul,qI,qP,qQ,hone,ho,rets,List.take]
      exact ⟨_,_,fin1 (pfr hw _ _ _) (freeT_of hx'.ok.1),hx',rfl⟩
    · obtain ⟨⟨x,hx⟩,he,rfl⟩ := hq
      have hx' := hx
      obtain ⟨a,b,c,dd,rfl,ho⟩ := ex_agg hx
      refine ⟨_,rfl,pfr hw _ _ _,freeT_of hx'.ok.1, ?_⟩
      simp only [c35,c35x1,c35x2,c35x3,RUA,RUB,RUC,RUD,RUE,RUF,if_true,if_false,Int.reduceEq,Int.reduceLT,Int.reduceLE,qC,qO,qA,qS,qU,Nat.reduceEqDiff,qT,E.at,qR,Nat.reduceAdd,Nat.reduceSub,Nat.reduceLeDiff,Nat.reduceMul,qI,qP,qQ,hone,ho,rets,List.take]
      exact ⟨_,_,fin1 (pfr hw _ _ _) (freeT_of hx'.ok.1),⟨_,hx'⟩,he,rfl⟩
  | binB hlv h1 =>
    have hB := ih n (Nat.le_refl _) _ _ _ _ h1
    have wl : IntKind.i64.wrap ((lv : Int) + 1) = ((lv + 1 : Nat) : Int) := wrap_succ (by omega)
    have hd : decide ((lv : Int) = ((5 : Nat) : Int)) = false := by simp; omega
    simp only [c35,c35x1,RUA,RUB,RUC,RUD,RUE,RUF,if_true,if_false,Int.reduceEq,Int.reduceLT,Int.reduceLE,qC,qO,qA,qS,qU,Nat.reduceEqDiff,qT,E.at,qR,Nat.reduceAdd,Nat.reduceSub,Nat.reduceLeDiff,Nat.reduceMul,qI,qP,qQ,s_scopeG,hone]
    refine pcall levels_p rfl (by simp) ?_
    simp only [c35,c35x1,c35x2,c35x3,c35x4,RUA,RUB,RUC,RUD,RUE,RUF,if_true,if_false,Int.reduceEq,Int.reduceLT,Int.reduceLE,qC,qO,qA,qS,qU,Nat.reduceEqDiff,qT,E.at,qR,Nat.reduceAdd,Nat.reduceSub,Nat.reduceLeDiff,Nat.reduceMul,qI,qP,qQ,s_scopeG,hone,hrl,hll,hd,wl]
    refine SFn.call1 hB rfl (by simp [V.free,V.free1]) rfl (pfr hw _ _ _) fun z os' hq => ?_
    obtain ⟨⟨x,hx⟩,he,rfl⟩ := hq
    have hx' := hx
    obtain ⟨a,b,c,dd,rfl,ho⟩ := ex_agg hx
    refine ⟨_,rfl,pfr hw _ _ _,freeT_of hx'.ok.1, ?_⟩
    simp only [c35,c35x1,c35x2,c35x3,c35x4,RUA,RUB,RUC,RUD,RUE,RUF,if_true,if_false,Int.reduceEq,Int.reduceLT,Int.reduceLE,qC,qO,qA,qS,qU,Nat.reduceEqDiff,qT,E.at,qR,Nat.reduceAdd,Nat.reduceSub,Nat.reduceLeDiff,Nat.reduceMul,qI,qP,qQ,hone,ho]
    refine head_e hw he hy _ ?_ _ _ _ _ _ _ _ _ _ _ _ _ _ _ _ _ _ _ _ _ _ _ _ _ _ _ _ _ _ _ _ _ _ _ _ _ _ _ _ _ _ _ _ _
    exact fun f' h => h
  | bin hlv h1 h2 =>
    have hB := ih n (Nat.le_refl _) _ _ _ _ h1
    have wl : IntKind.i64.wrap ((lv : Int) + 1) = ((lv + 1 : Nat) : Int) := wrap_succ (by omega)
    have hd : decide ((lv : Int) = ((5 : Nat) : Int)) = false := by simp; omega
    simp only [c35,c35x1,RUA,RUB,RUC,RUD,RUE,RUF,if_true,if_false,Int.reduceEq,Int.reduceLT,Int.reduceLE,qC,qO,qA,qS,qU,Nat.reduceEqDiff,qT,E.at,qR,Nat.reduceAdd,Nat.reduceSub,Nat.reduceLeDiff,Nat.reduceMul,qI,qP,qQ,s_scopeG,hone]
    refine pcall levels_p rfl (by simp) ?_
    simp only [c35,c35x1,c35x2,c35x3,c35x4,RUA,RUB,RUC,RUD,RUE,RUF,if_true,if_false,Int.reduceEq,Int.reduceLT,Int.reduceLE,qC,qO,qA,qS,qU,Nat.reduceEqDiff,qT,E.at,qR,Nat.reduceAdd,Nat.reduceSub,Nat.reduceLeDiff,Nat.reduceMul,qI,qP,qQ,s_scopeG,hone,hrl,hll,hd,wl]
    refine SFn.call1 hB rfl (by simp [V.free,V.free1]) rfl (pfr hw _ _ _) fun z os' hq => ?_
    obtain ⟨hx,rfl⟩ := hq
    have hx' := hx
    obtain ⟨a,b,c,dd,rfl,ho⟩ := ex_agg hx
    refine ⟨_,rfl,pfr hw _ _ _,freeT_of hx'.ok.1, ?_⟩
    simp only [c35,c35x1,c35x2,c35x3,c35x4,RUA,RUB,RUC,RUD,RUE,RUF,if_true,if_false,Int.reduceEq,Int.reduceLT,Int.reduceLE,qC,qO,qA,qS,qU,Nat.reduceEqDiff,qT,E.at,qR,Nat.reduceAdd,Nat.reduceSub,Nat.reduceLeDiff,Nat.reduceMul,qI,qP,qQ,hone,ho]
    refine head_c hw hl hlv (N := n) (fun m hm d i r h => ih m (by omega) _ _ _ _ h) n (Nat.le_refl _) _ _ _ _ h2 _ _ _ _ _ hx' hy _ ?_ ?_ _ _ _ _ _ _ _ _ _ _ _ _ _ _ _ _ _ _ _ _ _ _ _ _ _ _ _ _ _ _ _ _ _ _ _ _ _ _ _ _ _ _ _ _
    · exact fun f' h => h
    · exact fun f' h => h
theorem reads {w : V} {l : List Sg} (hw : IsSl 3 w (l.map Sg.v)) (hl : l.length ≤ lim) (hok : ∀ s ∈ l,SgOk s) : ∀ (n : Nat),∀ m,m ≤ n → ∀ w' d i r,PS l m w' d i r → G w w' d i r := by
  intro n
  induction n with
  | zero =>
    intro m hm w' d i r h
    have : m = 0 := by omega
    subst this
    cases h
  | succ n ih =>
    intro m hm w' d i r h
    by_cases hmn : m ≤ n
    · exact ih m hmn w' d i r h
    have : m = n + 1 := by omega
    subst this
    cases w' with
    | un => exact un_c hw hl hok h (ih n (Nat.le_refl _))
    | bin lv => exact bin_c hw hl h ih
    | lp lv x => exact trivial
def PV : PR → V → Prop
  | .ok x j,z => ∃ zx,z = .tup [zx,iV j,iV 0] ∧ IsEx x zx
  | .bad e j,z => ∃ zx,z = .tup [zx,iV j,iV e] ∧ IsEx (.mk 0 0 emp []) zx
theorem parse_p {w : V} {l : List Sg} (hw : IsSl 3 w (l.map Sg.v)) (hl : l.length ≤ lim) (hok : ∀ s ∈ l,SgOk s) {n : Nat} {r : PR} (h : PS l n (.bin 0) 0 0 r) : PFn Tryd.prog T 16 [w] (PV r) := by
  have hone : w.one = true := free1_one hw.free
  have hws : w.solid = true := hw.solid
  have hwc : w.cells = [w] := hw.cells
  have hB : SFn Tryd.prog T 35 [.pt 0 0,iV 0] [.cells [w,iV 0,iV 0,iV 0]] (Post w 0 r) := reads hw hl hok n n (Nat.le_refl _) _ _ _ _ h
  intro yi hy
  refine Call.step hy ?_
  rw [body_eq t16]
  simp only [c16,c16x1,c16x2,RUA,RUB,RUC,RUD,RUE,RUF,if_true,if_false,Int.reduceEq,Int.reduceLT,Int.reduceLE,qC,qO,qA,qS,qU,Nat.reduceEqDiff,qT,E.at,qR,Nat.reduceAdd,Nat.reduceSub,Nat.reduceLeDiff,Nat.reduceMul,qI,qP,qQ,hone,hws,hwc,fillC]
  refine SFn.callP (l := 1) (zs := [.pt 0 0,iV 0]) hB rfl (cm_pt (cm_free rfl cm_nil)) rfl rfl (pfr hw 0 0 0) fun z os' hq => ?_
  rcases r with ⟨x,j⟩ | ⟨e,j⟩
  · obtain ⟨hx,rfl⟩ := hq
    have hx' := hx
    obtain ⟨a,b,c,dd,rfl,ho⟩ := ex_agg hx
    refine ⟨_,rfl,pfr hw _ _ _,freeT_of hx'.ok.1, ?_⟩
    simp only [c16,c16x1,c16x2,c16x3,c16x4,c16x5,RUA,RUB,RUC,RUD,RUE,RUF,if_true,if_false,Int.reduceEq,Int.reduceLT,Int.reduceLE,qC,qO,qA,qS,qU,Nat.reduceEqDiff,qT,E.at,qR,Nat.reduceAdd,Nat.reduceSub,Nat.reduceLeDiff,Nat.reduceMul,qI,qP,qQ,hone,ho,rets,List.take]
    repeat' apply And.intro
    all_goals exact ⟨_,_,frzT_3 (frzD_free hx'.ok.1) rfl rfl,_,rfl,hx'⟩
  · obtain ⟨⟨x,hx⟩,he,rfl⟩ := hq
    have hx' := hx
    obtain ⟨a,b,c,dd,rfl,ho⟩ := ex_agg hx
    have hd : decide ((e : Int) = 0) = false := by simp; omega
    refine ⟨_,rfl,pfr hw _ _ _,freeT_of hx'.ok.1, ?_⟩
    simp only [c16,c16x1,c16x2,c16x3,c16x4,c16x5,RUA,RUB,RUC,RUD,RUE,RUF,if_true,if_false,Int.reduceEq,Int.reduceLT,Int.reduceLE,qC,qO,qA,qS,qU,Nat.reduceEqDiff,qT,E.at,qR,Nat.reduceAdd,Nat.reduceSub,Nat.reduceLeDiff,Nat.reduceMul,qI,qP,qQ,hone,ho,hd,fillC,rets,List.take]
    repeat' apply And.intro
    all_goals exact ⟨_,_,frzT_3 (frzD_free zIs.ok.1) rfl rfl,_,rfl,zIs⟩
end Go.Proofs.YtjfnhpnfkknmoaaDoor
end

section
set_option linter.unusedVariables false
set_option linter.unusedSimpArgs false
set_option maxRecDepth 100000
set_option maxHeartbeats 4000000
open Go.Proofs.Pe renaming putCells → qC, bslOf → qO, bsaOf → qA, bslS → qS, isUpto → qU, step → qT, intOf → qI, iop → qP, sop → qQ
open List renaming replicate → qR
open Go.Proofs.Pe.V renaming dead → qD
namespace Go.Proofs.YtjfnhpnfkknmoaaDoor
open Go.Proofs.Pe

theorem rwT : RwTypes Tryd.prog 75 46 := ⟨Tryd.underlying3,Tryd.underlying46,by kernel_rfl,_,Tryd.underlying75,rfl⟩
theorem size_p : ∀ (r : Nat),r ≤ 9 → ∀ {l : List Rw} {lv : V} {vs : List V},IsSl 3 lv vs → All2 IsRw l vs → vs.length ≤ maxLen → ∀ {d : Int},d = 9 - r → PFn Tryd.prog T 42 [lv,iV d] fun z => z = iV (szL r l)
  | 0,_,l,lv,vs,h1,h2,h3,d,hd => by
    obtain rfl : d = 9 := by omega
    intro yi hy
    refine Call.step hy ?_
    rw [body_eq t42]
    simp only [c42,c42x1,c42x2,c42x3,c42x4,c42x5,c42x6,c42x7,c42x8,c42x9,c42x10,RUA,RUB,RUC,RUD,RUE,RUF,if_true,if_false,Int.reduceEq,Int.reduceLT,Int.reduceLE,qC,qO,qA,qS,qU,Nat.reduceEqDiff,qT,E.at,qR,Nat.reduceAdd,Nat.reduceSub,Nat.reduceLeDiff,Nat.reduceMul,qI,qP,qQ]
    exact ⟨_,_,rfl,rfl⟩
  | r + 1,hr,l,lv,vs,h1,h2,h3,d,hd => by
    have hq : decide (8 < d) = false := by simp; omega
    have hlen := h2.len
    unfold maxLen at h3
    intro yi hy
    refine Call.step hy ?_
    rw [body_eq t42]
    simp only [c42,c42x1,c42x2,c42x3,c42x4,c42x5,RUA,RUB,RUC,RUD,RUE,RUF,if_true,if_false,Int.reduceEq,Int.reduceLT,Int.reduceLE,qC,qO,qA,qS,qU,Nat.reduceEqDiff,qT,E.at,qR,Nat.reduceAdd,Nat.reduceSub,Nat.reduceLeDiff,Nat.reduceMul,qI,qP,qQ,hq]
    refine Lfp.inv call_le hy (fun a : Nat × Int => ⟨⟨[lv,iV d,.dead,.dead,.dead,iV a.2,iV a.1,.dead,.dead,.dead,.dead,.dead,.dead,.dead,.dead,.dead,.dead,.dead,.dead,.dead,.dead,.dead,.dead,.dead,.dead,.dead,.dead,.dead,.dead,.dead,.dead],[]⟩,[]⟩) (fun a => vs.length - a.1)
      (fun a => a.1 ≤ vs.length ∧ 0 ≤ a.2 ∧ a.2 ≤ 3000 ∧ szLoop (szL r) (l.drop a.1) a.2 = szL (r + 1) l) (0,0) ⟨Nat.zero_le _,by omega,by omega,rfl⟩ (by simp only [kill_L,killTs_nil,RUF] <;> rfl) ?_
    rintro ⟨i,n⟩ ⟨hi,hn0,hn1,hs⟩
    dsimp only at hi hn0 hn1 hs
    by_cases hlt : i < vs.length
    · have hd1 : decide ((i : Int) < (vs.length : Int)) = true := by simpa using hlt
      by_cases hn : n ≤ 20
      · have hd2 : decide (n ≤ 20) = true := by simpa using hn
        have hx : vs[i]? = some vs[i] := List.getElem?_eq_getElem hlt
        have hlx : i < l.length := by omega
        have hxl : l[i]? = some l[i] := List.getElem?_eq_getElem hlx
        have hE := h2.get hx hxl
        generalize hgv : vs[i] = u at hx hE
        generalize hgx : l[i] = x at hxl hE
        rcases x with ⟨k,m,xl⟩
        rw [szLoop_drop hxl hn] at hs
        obtain ⟨lv1,us,rfl,_,_,g1,g2,g3⟩ := hE
        rw [isRws_all] at g3
        have hI := fun o => h1.ix o hx
        have hw1 : IntKind.i64.wrap ((i : Int) + 1) = ((i + 1 : Nat) : Int) := wrap_succ (by omega)
        have hw2 : IntKind.i64.wrap (d + 1) = d + 1 := wrap_in (by unfold I64; omega)
        have hrow := fun o => h1.row o
        simp only [c42,c42x1,c42x2,c42x3,c42x4,c42x5,c42x6,c42x7,c42x8,c42x9,c42x10,RUA,RUB,RUC,RUD,RUE,RUF,if_true,if_false,Int.reduceEq,Int.reduceLT,Int.reduceLE,qC,qO,qA,qS,qU,Nat.reduceEqDiff,qT,E.at,qR,Nat.reduceAdd,Nat.reduceSub,Nat.reduceLeDiff,Nat.reduceMul,qI,qP,qQ,hd1,hd2,hI,hrow,hw2]
        have hb := szL_le r xl
        refine (size_p r (by omega) g1 g3 g2 (d := d + 1) (by omega)).callE rfl (cf2 g1.freeV rfl _) rfl ?_
        have hw3 : IntKind.i64.wrap (n + 1) = n + 1 := wrap_in (by unfold I64; omega)
        have hw4 : IntKind.i64.wrap (n + 1 + szL r xl) = n + 1 + szL r xl := wrap_in (by unfold I64; omega)
        simp only [c42,c42x1,c42x2,c42x3,c42x4,c42x5,c42x6,c42x7,c42x8,c42x9,c42x10,RUA,RUB,RUC,RUD,RUE,RUF,if_true,if_false,Int.reduceEq,Int.reduceLT,Int.reduceLE,qC,qO,qA,qS,qU,Nat.reduceEqDiff,qT,E.at,qR,Nat.reduceAdd,Nat.reduceSub,Nat.reduceLeDiff,Nat.reduceMul,qI,qP,qQ,hw1,hw3,hw4]
        exact ⟨(i + 1,n + 1 + szL r xl),⟨by simp only; omega,by simp only; omega,by simp only; omega,hs⟩,by simp only; omega,rfl⟩
      · have hd2 : decide (n ≤ 20) = false := by simpa using hn
        rw [szLoop_stop hn] at hs
        have hrow := fun o => h1.row o
        simp only [c42,c42x1,c42x2,c42x3,c42x4,c42x5,c42x6,c42x7,c42x8,c42x9,c42x10,RUA,RUB,RUC,RUD,RUE,RUF,if_true,if_false,Int.reduceEq,Int.reduceLT,Int.reduceLE,qC,qO,qA,qS,qU,Nat.reduceEqDiff,qT,E.at,qR,Nat.reduceAdd,Nat.reduceSub,Nat.reduceLeDiff,Nat.reduceMul,qI,qP,qQ,hd1,hd2,hrow]
        exact ⟨_,_,rfl,by rw [hs]⟩
    · have hd1 : decide ((i : Int) < (vs.length : Int)) = false := by simpa using hlt
      have hrow := fun o => h1.row o
      rw [List.drop_eq_nil_of_le (by omega)] at hs
      simp only [c42,c42x1,c42x2,c42x3,c42x4,c42x5,c42x6,c42x7,c42x8,c42x9,c42x10,RUA,RUB,RUC,RUD,RUE,RUF,if_true,if_false,Int.reduceEq,Int.reduceLT,Int.reduceLE,qC,qO,qA,qS,qU,Nat.reduceEqDiff,qT,E.at,qR,Nat.reduceAdd,Nat.reduceSub,Nat.reduceLeDiff,Nat.reduceMul,qI,qP,qQ,hd1,hrow]
      exact ⟨_,_,rfl,by rw [← hs]; rfl⟩
theorem few_p {l : List Rw} {lv : V} {vs : List V} (h1 : IsSl 3 lv vs) (h2 : All2 IsRw l vs) (h3 : vs.length ≤ maxLen) : PFn Tryd.prog T 20 [lv] fun z => z = bV (decide (szL 9 l ≤ 20)) := by
  intro yi hy
  refine Call.step hy ?_
  rw [body_eq t20]
  simp only [c20,c20x1,RUA,RUB,RUC,RUD,RUE,RUF,if_true,if_false,Int.reduceEq,Int.reduceLT,Int.reduceLE,qC,qO,qA,qS,qU,Nat.reduceEqDiff,qT,E.at,qR,Nat.reduceAdd,Nat.reduceSub,Nat.reduceLeDiff,Nat.reduceMul,qI,qP,qQ]
  refine (size_p 9 (by omega) h1 h2 h3 (d := 0) (by omega)).callE rfl (cf2 h1.freeV rfl _) rfl ?_
  simp only [c20,c20x1,RUA,RUB,RUC,RUD,RUE,RUF,if_true,if_false,Int.reduceEq,Int.reduceLT,Int.reduceLE,qC,qO,qA,qS,qU,Nat.reduceEqDiff,qT,E.at,qR,Nat.reduceAdd,Nat.reduceSub,Nat.reduceLeDiff,Nat.reduceMul,qI,qP,qQ]
  exact ⟨_,_,rfl,rfl⟩
end Go.Proofs.YtjfnhpnfkknmoaaDoor
end

section
set_option linter.unusedVariables false
set_option linter.unusedSimpArgs false
set_option maxRecDepth 100000
set_option maxHeartbeats 4000000
open Go.Proofs.Pe renaming putCells → qC, bslOf → qO, bsaOf → qA, bslS → qS, isUpto → qU, step → qT, intOf → qI, iop → qP, sop → qQ
open List renaming replicate → qR
open Go.Proofs.Pe.V renaming dead → qD
namespace Go.Proofs.YtjfnhpnfkknmoaaDoor
open Go.Proofs.Pe

theorem frE {x : Ex} {z : V} (h : IsEx x z) (o : List O) : ∃ w o2,freezeT o z = some (w,o2) ∧ IsEx x w := ⟨z,o,frzT_free h.ok.1,h⟩
theorem part_p {nm : List ByteArray} {nv : V} (hn : IsSl 1 nv (nm.map sV)) {k n : Int} {l : List Rw} {u : V} (h : IsRw (.mk k n l) u) (i : Nat) (hi : i < 1000)
    (ih : ∀ x ∈ l,∀ u,IsRw x u → PFn Tryd.prog T 43 [u,nv] (IsEx (mkS nm x))) : PFn Tryd.prog T 62 [u,iV i,nv] (IsEx (ptS n (l.map (mkS nm)) i)) := by
  obtain ⟨lv,vs,rfl,hk,hnn,h1,h2,h3⟩ := h
  rw [isRws_all] at h3
  have hlen := h3.len
  have hone : lv.one = true := free1_one h1.free
  have hrow := fun o => h1.row o
  intro yi hy
  refine Call.step hy ?_
  rw [body_eq t62]
  by_cases hlt : i < vs.length
  · have hd1 : decide ((i : Int) < (vs.length : Int)) = true := by simpa using hlt
    have hx : vs[i]? = some vs[i] := List.getElem?_eq_getElem hlt
    have hxl : l[i]? = some l[i] := List.getElem?_eq_getElem (by omega)
    have hE := h3.get hx hxl
    have hmem : l[i] ∈ l := List.getElem_mem _
    have he : ptS n (l.map (mkS nm)) i = mkS nm l[i] := by
      unfold ptS; rw [List.getD_eq_getElem?_getD,List.getElem?_map,hxl]; rfl
    rw [he]
    generalize hgv : vs[i] = u at hx hE
    generalize hgx : l[i] = x at hxl hE hmem
    have hE' := hE
    rcases x with ⟨k1,n1,l1⟩
    obtain ⟨lv1,us,rfl,_,_,g1,g2,g3⟩ := hE
    have hI := fun o => h1.ix o hx
    simp only [c62,c62x1,c62x2,c62x3,RUA,RUB,RUC,RUD,RUE,RUF,if_true,if_false,Int.reduceEq,Int.reduceLT,Int.reduceLE,qC,qO,qA,qS,qU,Nat.reduceEqDiff,qT,E.at,qR,Nat.reduceAdd,Nat.reduceSub,Nat.reduceLeDiff,Nat.reduceMul,qI,qP,qQ,hone,hd1,hrow,hI]
    refine (ih _ hmem _ hE').callF rfl (fun x hx => by simp only [List.mem_cons,List.not_mem_nil,or_false] at hx; rcases hx with rfl | rfl <;> first | exact hE'.ok.1 | exact hn.freeV) fun z hz => ?_
    have hz' := hz
    generalize mkS nm (.mk k1 n1 l1) = e at hz hz'
    rcases e with ⟨a,b,c,d⟩
    obtain ⟨zv,zs,rfl,q1,q2,q3⟩ := hz
    have honez : zv.one = true := free1_one q1.free
    simp only [c62,c62x1,c62x2,c62x3,RUA,RUB,RUC,RUD,RUE,RUF,if_true,if_false,Int.reduceEq,Int.reduceLT,Int.reduceLE,qC,qO,qA,qS,qU,Nat.reduceEqDiff,qT,E.at,qR,Nat.reduceAdd,Nat.reduceSub,Nat.reduceLeDiff,Nat.reduceMul,qI,qP,qQ,honez,rets]
    exact frE hz' _
  · have hd1 : decide ((i : Int) < (vs.length : Int)) = false := by simpa using hlt
    have he : ptS n (l.map (mkS nm)) i = .mk 1 (withinI (IntKind.i64.wrap (n + i)) 5) emp [] := by
      unfold ptS; rw [List.getD_eq_getElem?_getD,List.getElem?_map,List.getElem?_eq_none (by omega)]; rfl
    rw [he]
    simp only [c62,c62x1,c62x2,c62x3,RUA,RUB,RUC,RUD,RUE,RUF,if_true,if_false,Int.reduceEq,Int.reduceLT,Int.reduceLE,qC,qO,qA,qS,qU,Nat.reduceEqDiff,qT,E.at,qR,Nat.reduceAdd,Nat.reduceSub,Nat.reduceLeDiff,Nat.reduceMul,qI,qP,qQ,hone,hd1,hrow]
    refine (within_p _ 5 (by decide) (by decide)).callE rfl rfl rfl ?_
    simp only [c62,c62x1,c62x2,c62x3,RUA,RUB,RUC,RUD,RUE,RUF,if_true,if_false,Int.reduceEq,Int.reduceLT,Int.reduceLE,qC,qO,qA,qS,qU,Nat.reduceEqDiff,qT,E.at,qR,Nat.reduceAdd,Nat.reduceSub,Nat.reduceLeDiff,Nat.reduceMul,qI,qP,qQ,hone,fillC,rets]
    exact frE (x := .mk 1 _ emp []) ⟨nilV,[],rfl,.inl ⟨rfl,rfl⟩,by simp,rfl⟩ _
theorem numsRow (i : Nat) (hi : i < 8) (o : List O) : ixOf 1 o (.sl 1 true [iV 0,iV 1,iV 2,iV 7,iV 99,iV 999999999999999999,iV 5,iV 3]) (iV i) = some (.ep [iV (nums.getD i 0)],o) := by
  have : i = 0 ∨ i = 1 ∨ i = 2 ∨ i = 3 ∨ i = 4 ∨ i = 5 ∨ i = 6 ∨ i = 7 := by omega
  rcases this with rfl | rfl | rfl | rfl | rfl | rfl | rfl | rfl <;> rfl
theorem natI {a n : Int} (h : 0 < n) : ∃ i : Nat,withinI a n = i ∧ (i : Int) < n := by
  have := withinI_ok a h
  exact ⟨(withinI a n).toNat,by omega,by omega⟩
theorem make_p {nm : List ByteArray} {nv : V} (hn : IsSl 1 nv (nm.map sV)) (hnl : nm.length ≤ 1000) : ∀ (x : Rw) (u : V),IsRw x u → PFn Tryd.prog T 43 [u,nv] (IsEx (mkS nm x))
  | .mk k n l,u,h => by
    have h' := h
    have ih : ∀ x ∈ l,∀ u,IsRw x u → PFn Tryd.prog T 43 [u,nv] (IsEx (mkS nm x)) := fun x hx u hu => make_p hn hnl x u hu
    have hp0 := part_p hn h' 0 (by omega) ih
    have hp1 := part_p hn h' 1 (by omega) ih
    rw [mkS_eq]
    generalize l.map (mkS nm) = ps at hp0 hp1
    obtain ⟨lv,vs,rfl,hk,hnn,h1,h2,h3⟩ := h
    have hone : lv.one = true := free1_one h1.free
    have hrow := fun o => h1.row o
    have hrn := fun o => hn.row o
    have hfr : ∀ x : V,x ∈ [V.agg [iV k,iV n,lv],iV 0,nv] → x.free = true := fun x hx => by
      simp only [List.mem_cons,List.not_mem_nil,or_false] at hx; rcases hx with rfl | rfl | rfl <;> first | exact h'.ok.1 | exact hn.freeV | rfl
    have hfr1 : ∀ x : V,x ∈ [V.agg [iV k,iV n,lv],iV 1,nv] → x.free = true := fun x hx => by
      simp only [List.mem_cons,List.not_mem_nil,or_false] at hx; rcases hx with rfl | rfl | rfl <;> first | exact h'.ok.1 | exact hn.freeV | rfl
    unfold mkC
    intro yi hy
    refine Call.step hy ?_
    rw [body_eq t43]
    simp only [c43,c43x1,RUA,RUB,RUC,RUD,RUE,RUF,if_true,if_false,Int.reduceEq,Int.reduceLT,Int.reduceLE,qC,qO,qA,qS,qU,Nat.reduceEqDiff,qT,E.at,qR,Nat.reduceAdd,Nat.reduceSub,Nat.reduceLeDiff,Nat.reduceMul,qI,qP,qQ,hone]
    refine (within_p _ 24 (by decide) (by decide)).callE rfl rfl rfl ?_
    obtain ⟨w1,w2⟩ := withinI_ok k (n := 24) (by decide)
    generalize withinI k 24 = kk at w1 w2
    by_cases c4 : kk < 4
    · have d4 : decide (kk < 4) = true := by simpa using c4
      rw [if_pos c4]
      simp only [c43,c43x1,c43x2,c43x3,c43x4,c43x5,c43x6,c43x7,RUA,RUB,RUC,RUD,RUE,RUF,if_true,if_false,Int.reduceEq,Int.reduceLT,Int.reduceLE,qC,qO,qA,qS,qU,Nat.reduceEqDiff,qT,E.at,qR,Nat.reduceAdd,Nat.reduceSub,Nat.reduceLeDiff,Nat.reduceMul,qI,qP,qQ,hone,d4]
      refine (within_p _ 8 (by decide) (by decide)).callE rfl rfl rfl ?_
      obtain ⟨i,hi,hi2⟩ := natI (a := n) (n := 8) (by decide)
      rw [hi]
      have hI := fun o => numsRow i (by omega) o
      simp only [c43,c43x1,c43x2,c43x3,c43x4,c43x5,c43x6,c43x7,RUA,RUB,RUC,RUD,RUE,RUF,if_true,if_false,Int.reduceEq,Int.reduceLT,Int.reduceLE,qC,qO,qA,qS,qU,Nat.reduceEqDiff,qT,E.at,qR,Nat.reduceAdd,Nat.reduceSub,Nat.reduceLeDiff,Nat.reduceMul,qI,qP,qQ,hone,hI,fillC,rets]
      exact frE (x := .mk 1 _ emp []) ⟨nilV,[],rfl,.inl ⟨rfl,rfl⟩,by simp,rfl⟩ _
    rw [if_neg c4]
    have d4 : decide (kk < 4) = false := by simpa using c4
    by_cases c9 : kk < 9
    · have d9 : decide (kk < 9) = true := by simpa using c9
      rw [if_pos c9]
      by_cases e : nm = []
      · rw [if_pos e]
        subst e
        simp only [c43,c43x1,c43x2,c43x3,c43x4,c43x5,c43x6,c43x7,RUA,RUB,RUC,RUD,RUE,RUF,if_true,if_false,Int.reduceEq,Int.reduceLT,Int.reduceLE,qC,qO,qA,qS,qU,Nat.reduceEqDiff,qT,E.at,qR,Nat.reduceAdd,Nat.reduceSub,Nat.reduceLeDiff,Nat.reduceMul,qI,qP,qQ,hone,d4,d9,hrn]
        refine (within_p _ 3 (by decide) (by decide)).callE rfl rfl rfl ?_
        simp only [c43,c43x1,c43x2,c43x3,c43x4,c43x5,c43x6,c43x7,RUA,RUB,RUC,RUD,RUE,RUF,if_true,if_false,Int.reduceEq,Int.reduceLT,Int.reduceLE,qC,qO,qA,qS,qU,Nat.reduceEqDiff,qT,E.at,qR,Nat.reduceAdd,Nat.reduceSub,Nat.reduceLeDiff,Nat.reduceMul,qI,qP,qQ,hone,fillC,rets]
        exact frE (x := .mk 2 _ emp []) ⟨nilV,[],rfl,.inl ⟨rfl,rfl⟩,by simp,rfl⟩ _
      · rw [if_neg e]
        have hl : 0 < nm.length := List.length_pos_iff.2 e
        have dl : decide ((0 : Int) < (nm.length : Int)) = true := by simpa using hl
        simp only [c43,c43x1,c43x2,c43x3,c43x4,c43x5,c43x6,c43x7,RUA,RUB,RUC,RUD,RUE,RUF,if_true,if_false,Int.reduceEq,Int.reduceLT,Int.reduceLE,qC,qO,qA,qS,qU,Nat.reduceEqDiff,qT,E.at,qR,Nat.reduceAdd,Nat.reduceSub,Nat.reduceLeDiff,Nat.reduceMul,qI,qP,qQ,hone,d4,d9,hrn,List.length_map,dl]
        refine (within_p _ (nm.length : Int) (by omega) (by omega)).callE rfl rfl rfl ?_
        obtain ⟨i,hi,hi2⟩ := natI (a := n) (n := (nm.length : Int)) (by omega)
        rw [hi]
        have hI := fun o => hn.ix o (n := i) (y := sV (nm.getD i emp)) (by rw [List.getElem?_map,List.getD_eq_getElem?_getD,List.getElem?_eq_getElem (by omega)]; rfl)
        simp only [c43,c43x1,c43x2,c43x3,c43x4,c43x5,c43x6,c43x7,RUA,RUB,RUC,RUD,RUE,RUF,if_true,if_false,Int.reduceEq,Int.reduceLT,Int.reduceLE,qC,qO,qA,qS,qU,Nat.reduceEqDiff,qT,E.at,qR,Nat.reduceAdd,Nat.reduceSub,Nat.reduceLeDiff,Nat.reduceMul,qI,qP,qQ,hone,hI,fillC,rets]
        exact frE (x := .mk 2 0 _ []) ⟨nilV,[],rfl,.inl ⟨rfl,rfl⟩,by simp,rfl⟩ _
    rw [if_neg c9]
    have d9 : decide (kk < 9) = false := by simpa using c9
    by_cases e9 : kk = 9
    · rw [if_pos e9]
      subst e9
      simp only [c43,c43x1,c43x2,c43x3,c43x4,c43x5,c43x6,c43x7,RUA,RUB,RUC,RUD,RUE,RUF,if_true,if_false,Int.reduceEq,Int.reduceLT,Int.reduceLE,qC,qO,qA,qS,qU,Nat.reduceEqDiff,qT,E.at,qR,Nat.reduceAdd,Nat.reduceSub,Nat.reduceLeDiff,Nat.reduceMul,qI,qP,qQ,hone,hrn]
      refine hp0.callF rfl hfr fun z hz => ?_
      have hz' := hz.ok
      have hz4 : decide (z.cells.length = 4) = true := by simpa using hz'.2
      simp only [c43,c43x1,c43x2,c43x3,c43x4,c43x5,c43x6,c43x7,RUA,RUB,RUC,RUD,RUE,RUF,if_true,if_false,Int.reduceEq,Int.reduceLT,Int.reduceLE,qC,qO,qA,qS,qU,Nat.reduceEqDiff,qT,E.at,qR,Nat.reduceAdd,Nat.reduceSub,Nat.reduceLeDiff,Nat.reduceMul,qI,qP,qQ,hone,hz'.1,hz4,fillC,rets]
      exact frE (x := .mk 3 0 emp [_]) ⟨_,[z],rfl,.inr ⟨_,rfl⟩,by simp [cap],z,[],rfl,hz,rfl⟩ _
    rw [if_neg e9]
    have f9 : decide (kk = 9) = false := by simpa using e9
    by_cases e10 : kk = 10
    · rw [if_pos e10]
      subst e10
      simp only [c43,c43x1,c43x2,c43x3,c43x4,c43x5,c43x6,c43x7,RUA,RUB,RUC,RUD,RUE,RUF,if_true,if_false,Int.reduceEq,Int.reduceLT,Int.reduceLE,qC,qO,qA,qS,qU,Nat.reduceEqDiff,qT,E.at,qR,Nat.reduceAdd,Nat.reduceSub,Nat.reduceLeDiff,Nat.reduceMul,qI,qP,qQ,hone,hrn]
      refine hp0.callF rfl hfr fun z hz => ?_
      have hz' := hz.ok
      have hz4 : decide (z.cells.length = 4) = true := by simpa using hz'.2
      simp only [c43,c43x1,c43x2,c43x3,c43x4,c43x5,c43x6,c43x7,RUA,RUB,RUC,RUD,RUE,RUF,if_true,if_false,Int.reduceEq,Int.reduceLT,Int.reduceLE,qC,qO,qA,qS,qU,Nat.reduceEqDiff,qT,E.at,qR,Nat.reduceAdd,Nat.reduceSub,Nat.reduceLeDiff,Nat.reduceMul,qI,qP,qQ,hone,hz'.1,hz4,fillC,rets]
      exact frE (x := .mk 4 0 emp [_]) ⟨_,[z],rfl,.inr ⟨_,rfl⟩,by simp [cap],z,[],rfl,hz,rfl⟩ _
    rw [if_neg e10]
    have f10 : decide (kk = 10) = false := by simpa using e10
    have hw : IntKind.i64.wrap (IntKind.i64.wrap (5 + kk) - 11) = 5 + kk - 11 := by
      rw [wrap_in (n := 5 + kk) (by unfold I64; omega),wrap_in (by unfold I64; omega)]
    simp only [c43,c43x1,c43x2,c43x3,c43x4,c43x5,c43x6,c43x7,RUA,RUB,RUC,RUD,RUE,RUF,if_true,if_false,Int.reduceEq,Int.reduceLT,Int.reduceLE,qC,qO,qA,qS,qU,Nat.reduceEqDiff,qT,E.at,qR,Nat.reduceAdd,Nat.reduceSub,Nat.reduceLeDiff,Nat.reduceMul,qI,qP,qQ,hone,hrn,d4,d9,f9,f10,hw]
    refine hp0.callF rfl hfr fun z hz => ?_
    have hz' := hz.ok
    have hz4 : decide (z.cells.length = 4) = true := by simpa using hz'.2
    refine hp1.callF rfl hfr1 fun y hy' => ?_
    have hy2 := hy'.ok
    have hy4 : decide (y.cells.length = 4) = true := by simpa using hy2.2
    simp only [c43,c43x1,c43x2,c43x3,c43x4,c43x5,c43x6,c43x7,RUA,RUB,RUC,RUD,RUE,RUF,if_true,if_false,Int.reduceEq,Int.reduceLT,Int.reduceLE,qC,qO,qA,qS,qU,Nat.reduceEqDiff,qT,E.at,qR,Nat.reduceAdd,Nat.reduceSub,Nat.reduceLeDiff,Nat.reduceMul,qI,qP,qQ,hone,hz'.1,hz4,hy2.1,hy4,fillC,rets]
    exact frE (x := .mk _ 0 emp [_,_]) ⟨_,[z,y],rfl,.inr ⟨_,rfl⟩,by simp [cap],z,[y],rfl,hz,y,[],rfl,hy',rfl⟩ _
termination_by x => SizeOf.sizeOf x
decreasing_by have := List.sizeOf_lt_of_mem hx; simp; omega
end Go.Proofs.YtjfnhpnfkknmoaaDoor
end

section
set_option linter.unusedVariables false
set_option linter.unusedSimpArgs false
set_option maxRecDepth 100000
set_option maxHeartbeats 4000000
namespace Go.Proofs.YtjfnhpnfkknmoaaDoor
open Go.Proofs.Pe

end Go.Proofs.YtjfnhpnfkknmoaaDoor
end

section
set_option linter.unusedVariables false
set_option linter.unusedSimpArgs false
set_option maxRecDepth 100000
set_option maxHeartbeats 4000000
namespace Go.Proofs.YtjfnhpnfkknmoaaDoor
open Go.Proofs.Pe

end Go.Proofs.YtjfnhpnfkknmoaaDoor
end

section
set_option linter.unusedVariables false
set_option linter.unusedSimpArgs false
set_option maxRecDepth 100000
set_option maxHeartbeats 4000000
namespace Go.Proofs.YtjfnhpnfkknmoaaDoor
open Go.Proofs.Pe

end Go.Proofs.YtjfnhpnfkknmoaaDoor
end

section
set_option linter.unusedVariables false
set_option linter.unusedSimpArgs false
set_option maxRecDepth 100000
set_option maxHeartbeats 4000000
namespace Go.Proofs.YtjfnhpnfkknmoaaDoor
open Go.Proofs.Pe

end Go.Proofs.YtjfnhpnfkknmoaaDoor
end

section
set_option linter.unusedVariables false
set_option linter.unusedSimpArgs false
set_option maxRecDepth 100000
set_option maxHeartbeats 4000000
open Go.Proofs.Pe renaming putCells → qC, bslOf → qO, bsaOf → qA, bslS → qS, isUpto → qU, step → qT, intOf → qI, iop → qP, sop → qQ
open List renaming replicate → qR
open Go.Proofs.Pe.V renaming dead → qD
namespace Go.Proofs.YtjfnhpnfkknmoaaDoor
open Go.Proofs.Pe

theorem one_p {nm : List ByteArray} {nv : V} (hn : IsSl 1 nv (nm.map sV)) (hnl : nm.length ≤ 1000) {l : List Rw} {lv : V} {vs : List V} (h1 : IsSl 3 lv vs) (h2 : All2 IsRw l vs) :
    PFn Tryd.prog T 21 [lv,nv] (IsEx (oneS nm l)) := by
  have hrow := fun o => h1.row o
  intro yi hy
  refine Call.step hy ?_
  rw [body_eq t21]
  cases l with
  | nil =>
    rw [show vs = [] from h2] at h1
    have hrow := fun o => h1.row o
    simp only [c21,c21x1,c21x2,c21x3,RUA,RUB,RUC,RUD,RUE,RUF,if_true,if_false,Int.reduceEq,Int.reduceLT,Int.reduceLE,qC,qO,qA,qS,qU,Nat.reduceEqDiff,qT,E.at,qR,Nat.reduceAdd,Nat.reduceSub,Nat.reduceLeDiff,Nat.reduceMul,qI,qP,qQ,hrow,fillC,rets]
    exact frE (x := .mk 1 1 emp []) ⟨nilV,[],rfl,.inl ⟨rfl,rfl⟩,by simp,rfl⟩ _
  | cons r l =>
    obtain ⟨v,ws,rfl,hr,_⟩ := h2
    have hr' := hr
    have hI := h1.ix0 rfl
    rcases r with ⟨k,n,rl⟩
    have hlen : decide (((v :: ws).length : Int) = 0) = false := by simp; omega
    show Pe.ev _ _ _ _ _ _ _ _ _
    obtain ⟨lv1,us,rfl,_,_,g1,g2,g3⟩ := hr
    have hlen' : decide (((ws.length + 1 : Nat) : Int) = 0) = false := by simp; omega
    simp only [c21,c21x1,c21x2,c21x3,RUA,RUB,RUC,RUD,RUE,RUF,if_true,if_false,Int.reduceEq,Int.reduceLT,Int.reduceLE,qC,qO,qA,qS,qU,Nat.reduceEqDiff,qT,E.at,qR,Nat.reduceAdd,Nat.reduceSub,Nat.reduceLeDiff,Nat.reduceMul,qI,qP,qQ,hrow,hlen',hI]
    refine (make_p hn hnl _ _ hr').callF rfl (fun x hx => by simp only [List.mem_cons,List.not_mem_nil,or_false] at hx; rcases hx with rfl | rfl <;> first | exact hr'.ok.1 | exact hn.freeV) fun z hz => ?_
    have hz' := hz
    show Pe.oK _ _
    have e : oneS nm (Rw.mk k n rl :: l) = mkS nm (Rw.mk k n rl) := rfl
    rw [e]
    generalize mkS nm (Rw.mk k n rl) = ee at hz hz' ⊢
    rcases ee with ⟨a,b,c,d⟩
    obtain ⟨zv,zs,rfl,q1,q2,q3⟩ := hz
    have honez : zv.one = true := free1_one q1.free
    simp only [c21,c21x1,c21x2,c21x3,RUA,RUB,RUC,RUD,RUE,RUF,if_true,if_false,Int.reduceEq,Int.reduceLT,Int.reduceLE,qC,qO,qA,qS,qU,Nat.reduceEqDiff,qT,E.at,qR,Nat.reduceAdd,Nat.reduceSub,Nat.reduceLeDiff,Nat.reduceMul,qI,qP,qQ,honez,rets]
    exact frE hz' _
end Go.Proofs.YtjfnhpnfkknmoaaDoor
end

section
set_option linter.unusedVariables false
set_option linter.unusedSimpArgs false
set_option maxRecDepth 100000
namespace Go.Proofs.Pe
/-! ### What is made of raw ones by names may be written -/
def nm3T : List (List UInt8) := [[120],[121],[116,111,116,97,108]]
def nm3 : List ByteArray := nm3T.map fun t => ⟨t.toArray⟩
theorem nm3_get (i : Nat) (h : i < 3) : ∃ t,nm3.getD i emp = ⟨t.toArray⟩ ∧ isName t = true := by
  have : i = 0 ∨ i = 1 ∨ i = 2 := by omega
  rcases this with rfl | rfl | rfl
  · exact ⟨[120],rfl,by decide⟩
  · exact ⟨[121],rfl,by decide⟩
  · exact ⟨[116,111,116,97,108],rfl,by decide⟩
def cnt (x : Ex) : Nat := (nodes x).length
theorem cnt_zero (k n : Int) (nm : ByteArray) : cnt (.mk k n nm []) = 1 := by simp [cnt,nodes,nodesL]
theorem cnt_one (k n : Int) (nm : ByteArray) (x : Ex) : cnt (.mk k n nm [x]) = 1 + cnt x := by simp [cnt,nodes,nodesL]; omega
theorem cnt_two (k n : Int) (nm : ByteArray) (x y : Ex) : cnt (.mk k n nm [x,y]) = 1 + (cnt x + cnt y) := by simp [cnt,nodes,nodesL]; omega
def sumF (f : List Rw → Int) : List Rw → Int
  | [] => 0
  | x :: l => 1 + f x.l + sumF f l
theorem sumF_nn {f : List Rw → Int} (hf : ∀ l,0 ≤ f l) : ∀ l,0 ≤ sumF f l
  | [] => Int.le_refl _
  | x :: l => by have := sumF_nn hf l; have := hf x.l; unfold sumF; omega
theorem szLoop_sum {f : List Rw → Int} : ∀ (l : List Rw) (n : Int),szLoop f l n ≤ 20 → szLoop f l n = n + sumF f l
  | [],n,_ => by simp [szLoop,sumF]
  | x :: l,n,h => by
    by_cases hn : n ≤ 20
    · have e : szLoop f (x :: l) n = szLoop f l (n + 1 + f x.l) := by show (if n ≤ 20 then _ else _) = _; rw [if_pos hn]
      rw [e] at h ⊢
      rw [szLoop_sum l _ h]
      show _ = n + (1 + f x.l + sumF f l)
      omega
    · rw [szLoop_stop hn] at h; omega
theorem sumF_mem {f : List Rw → Int} (hf : ∀ l,0 ≤ f l) : ∀ {l : List Rw} {x : Rw},x ∈ l → 1 + f x.l ≤ sumF f l
  | y :: l,x,h => by
    have h1 := sumF_nn hf l
    have h2 := hf y.l
    unfold sumF
    rcases List.mem_cons.1 h with rfl | h
    · omega
    · have := sumF_mem hf h; omega
theorem nums_nat (i : Nat) : ∃ m : Nat,nums.getD i 0 = m ∧ m < e18 := by
  unfold nums e18
  rcases i with _ | _ | _ | _ | _ | _ | _ | _ | i
  · exact ⟨0,rfl,by omega⟩
  · exact ⟨1,rfl,by omega⟩
  · exact ⟨2,rfl,by omega⟩
  · exact ⟨7,rfl,by omega⟩
  · exact ⟨99,rfl,by omega⟩
  · exact ⟨999999999999999999,rfl,by omega⟩
  · exact ⟨5,rfl,by omega⟩
  · exact ⟨3,rfl,by omega⟩
  · exact ⟨0,rfl,by omega⟩
theorem mkS_T : ∀ (r : Nat) (l : List Rw),szL r l ≤ 20 → ∀ x ∈ l,WfT r (mkS nm3 x) ∧ (cnt (mkS nm3 x) : Int) ≤ 2 * (1 + szL (r - 1) x.l) + 1
  | 0,l,h,x,hx => by simp [szL] at h
  | r + 1,l,h,x,hx => by
    have hnn : ∀ r l,0 ≤ szL r l := fun r l => (szL_le r l).1
    have hs : szL (r + 1) l = sumF (szL r) l := by
      have := szLoop_sum (f := szL r) l 0 h
      simpa [szL] using this
    have hx1 := sumF_mem (hnn r) hx
    rcases x with ⟨k,n,xl⟩
    change 1 + szL r xl ≤ _ at hx1
    show WfT (r + 1) (mkS nm3 (.mk k n xl)) ∧ (cnt (mkS nm3 (.mk k n xl)) : Int) ≤ 2 * (1 + szL r xl) + 1
    have ih := mkS_T r xl (by omega)
    have hxl : szL r xl = sumF (szL (r - 1)) xl := by
      cases r with
      | zero =>
        have e0 : szL 0 xl = 1000 := rfl
        rw [e0] at hx1
        omega
      | succ r =>
        have := szLoop_sum (f := szL r) xl 0 (by show szL (r + 1) xl ≤ 20; omega)
        simpa [szL] using this
    rw [mkS_eq]
    have hdef : ∀ i : Nat,∃ m : Nat,withinI (IntKind.i64.wrap (n + i)) 5 = m ∧ m < e18 := fun i => by
      have := withinI_ok (IntKind.i64.wrap (n + i)) (n := 5) (by decide)
      exact ⟨(withinI (IntKind.i64.wrap (n + i)) 5).toNat,by omega,by unfold e18; omega⟩
    have hpt : ∀ i,WfT r (ptS n (xl.map (mkS nm3)) i) ∧ ((xl[i]? = none ∧ cnt (ptS n (xl.map (mkS nm3)) i) = 1) ∨ ∃ y,xl[i]? = some y ∧ (cnt (ptS n (xl.map (mkS nm3)) i) : Int) ≤ 2 * (1 + szL (r - 1) y.l) + 1) := fun i => by
      unfold ptS
      rw [List.getD_eq_getElem?_getD,List.getElem?_map]
      cases he : xl[i]? with
      | none =>
        obtain ⟨m,e,hm⟩ := hdef i
        simp only [Option.map_none,Option.getD_none]
        rw [e]
        exact ⟨.num hm,.inl ⟨trivial,cnt_zero _ _ _⟩⟩
      | some y =>
        have := ih y (List.mem_of_getElem? he)
        exact ⟨this.1,.inr ⟨y,rfl,this.2⟩⟩
    obtain ⟨w0,c0⟩ := hpt 0
    obtain ⟨w1,c1⟩ := hpt 1
    have hc : (cnt (ptS n (xl.map (mkS nm3)) 0) : Int) + cnt (ptS n (xl.map (mkS nm3)) 1) ≤ 2 * szL r xl + 2 ∧ (cnt (ptS n (xl.map (mkS nm3)) 0) : Int) ≤ 2 * szL r xl + 1 := by
      rw [hxl]
      generalize cnt (ptS n (xl.map (mkS nm3)) 0) = a at c0
      generalize cnt (ptS n (xl.map (mkS nm3)) 1) = b at c1
      match xl,c0,c1 with
      | [],c0,c1 =>
        simp at c0 c1
        simp [sumF]; omega
      | [y],c0,c1 =>
        simp at c0 c1
        have := hnn (r - 1) y.l
        simp [sumF]; omega
      | y :: z :: t,c0,c1 =>
        simp at c0 c1
        have h1 := hnn (r - 1) y.l
        have h2 := hnn (r - 1) z.l
        have h3 := sumF_nn (hnn (r - 1)) t
        simp [sumF]; omega
    have h2 := withinI_ok n (n := 3) (by decide)
    have h1 := withinI_ok k (n := 24) (by decide)
    have h0 := hnn r xl
    unfold mkC
    split
    · obtain ⟨m,e,hm⟩ := nums_nat (withinI n 8).toNat
      rw [e]
      exact ⟨.num hm,by rw [cnt_zero]; omega⟩
    split
    · rw [if_neg (by decide)]
      obtain ⟨t,e,ht⟩ := nm3_get (withinI n nm3.length).toNat (by
        have : (nm3.length : Int) = 3 := rfl
        rw [this]; omega)
      rw [e]
      exact ⟨.var ht,by rw [cnt_zero]; omega⟩
    split
    · exact ⟨.one (k := 3) (.inl rfl) w0,by rw [cnt_one]; omega⟩
    split
    · exact ⟨.one (k := 4) (.inr rfl) w0,by rw [cnt_one]; omega⟩
    · obtain ⟨q,hq⟩ : ∃ q : Nat,5 + withinI k 24 - 11 = q := ⟨(5 + withinI k 24 - 11).toNat,by omega⟩
      rw [hq]
      exact ⟨.two (by omega) (by omega) w0 w1,by rw [cnt_two]; omega⟩
theorem kTxt_len (k : Nat) : (kTxt k).length ≤ 2 := by
  unfold kTxt; split <;> simp
theorem text_cnt {n : Nat} {x : Ex} (h : WfT n x) : (textE x).length ≤ 26 * cnt x := by
  induction h with
  | num h => rw [text_num,cnt_zero]; have := (digB_len h).2; omega
  | var h =>
    rw [text_var,cnt_zero]
    obtain ⟨c,r,e,_,_,h20⟩ := isName_cons h
    omega
  | @one n k x hk hx ih =>
    rw [text_one,cnt_one]
    have h1 := kTxt_len k
    have h2 := br_len x (textE x)
    simp; omega
  | @two n k x y hk1 hk2 hx hy ih1 ih2 =>
    rw [text_two,cnt_two]
    have h1 := kTxt_len k
    have h2 := br_len x (textE x)
    have h3 := br_len y (textE y)
    simp; omega
theorem one_T {l : List Rw} (h : szL 9 l ≤ 20) : WfT 9 (oneS nm3 l) ∧ cnt (oneS nm3 l) ≤ 41 ∧ (textE (oneS nm3 l)).length ≤ 1066 := by
  have key : WfT 9 (oneS nm3 l) ∧ cnt (oneS nm3 l) ≤ 41 := by
    cases l with
    | nil => exact ⟨.num (m := 1) (by unfold e18; omega),by show cnt (.mk 1 1 emp []) ≤ 41; rw [cnt_zero]; omega⟩
    | cons x l =>
      obtain ⟨h1,h2⟩ := mkS_T 9 (x :: l) h x (by simp)
      refine ⟨h1, ?_⟩
      have hs := szLoop_sum (f := szL 8) (x :: l) 0 h
      have hm := sumF_mem (f := szL 8) (fun l => (szL_le 8 l).1) (l := x :: l) (x := x) (by simp)
      have e : szL 9 (x :: l) = szLoop (szL 8) (x :: l) 0 := rfl
      rw [e,hs] at h
      change (cnt (mkS nm3 x) : Int) ≤ 2 * (1 + szL 8 x.l) + 1 at h2
      show cnt (mkS nm3 x) ≤ 41
      omega
  refine ⟨key.1,key.2, ?_⟩
  have := text_cnt key.1
  omega
end Go.Proofs.Pe
end

section
set_option linter.unusedVariables false
set_option linter.unusedSimpArgs false
set_option maxRecDepth 100000
set_option maxHeartbeats 4000000
open Go.Proofs.Pe renaming putCells → qC, bslOf → qO, bsaOf → qA, bslS → qS, isUpto → qU, step → qT, intOf → qI, iop → qP, sop → qQ
open List renaming replicate → qR
open Go.Proofs.Pe.V renaming dead → qD
namespace Go.Proofs.YtjfnhpnfkknmoaaDoor
open Go.Proofs.Pe

theorem same_p : ∀ (x : Ex) (v u : V),IsEx x v → IsEx x u → PFn Tryd.prog T 25 [v,u] fun z => z = bV true
  | .mk k n nm l,v,u,hv,hu => by
    obtain ⟨lv,vs,rfl,e1,e2,e3⟩ := hv
    obtain ⟨lu,us,rfl,g1,g2,g3⟩ := hu
    rw [isExs_all] at e3 g3
    have ih : ∀ x ∈ l,∀ (v u : V),IsEx x v → IsEx x u → PFn Tryd.prog T 25 [v,u] fun z => z = bV true := fun x hx => same_p x
    have hl1 := e3.len
    have hl2 := g3.len
    have ho1 : lv.one = true := free1_one e1.free
    have ho2 : lu.one = true := free1_one g1.free
    have hr1 := fun o => e1.row o
    have hr2 := fun o => g1.row o
    have dd : ∀ a : Int,decide (a = a) = true := fun a => by simp
    unfold cap at e2
    intro yi hy
    refine Call.step hy ?_
    rw [body_eq t25]
    simp only [c25,c25x1,c25x2,c25x3,c25x4,RUA,RUB,RUC,RUD,RUE,RUF,if_true,if_false,Int.reduceEq,Int.reduceLT,Int.reduceLE,qC,qO,qA,qS,qU,Nat.reduceEqDiff,qT,E.at,qR,Nat.reduceAdd,Nat.reduceSub,Nat.reduceLeDiff,Nat.reduceMul,qI,qP,qQ,ho1,ho2,hr1,hr2,hl1,hl2,dd]
    refine Lfp.inv call_le hy (fun i : Nat => ⟨⟨[.dead,.dead,.pt 0 0,.pt 1 0,.dead,iV i,.dead,.dead,.dead,.dead,.dead,.dead,.dead,.dead,.dead,.dead,.dead,.dead,.dead,.dead,.dead,.dead,.dead,.dead,.dead,.dead,.dead,.dead,.dead,.dead,.dead,.dead,.dead,.dead,.dead,.dead,.dead,.dead,.dead,.dead,.dead,.dead,.dead,.dead,.dead,.dead,.dead,.dead,.dead,.dead,.dead,.dead,.dead],[.cells [iV k,iV n,sV nm,lv],.cells [iV k,iV n,sV nm,lu]]⟩,[]⟩) (fun i => l.length - i)
      (fun i => i ≤ l.length) 0 (Nat.zero_le _) (by simp only [kill_L,killTs_nil,RUF] <;> rfl) ?_
    intro i hi
    by_cases hlt : i < l.length
    · have hd : decide ((i : Int) < (l.length : Int)) = true := by simpa using hlt
      have hxl : l[i]? = some l[i] := List.getElem?_eq_getElem hlt
      have hx1 : vs[i]? = some (vs[i]'(by omega)) := List.getElem?_eq_getElem (by omega)
      have hx2 : us[i]? = some (us[i]'(by omega)) := List.getElem?_eq_getElem (by omega)
      have hmem : l[i] ∈ l := List.getElem_mem _
      have hE1 := e3.get hx1 hxl
      have hE2 := g3.get hx2 hxl
      generalize vs[i]'(by omega) = w1 at hx1 hE1
      generalize us[i]'(by omega) = w2 at hx2 hE2
      have hC := ih l[i] hmem w1 w2 hE1 hE2
      have hE1' := hE1
      have hE2' := hE2
      obtain ⟨a,b,c,d1,rfl,q1⟩ := ex_agg hE1
      obtain ⟨a2,b2,c2,d2,rfl,q2⟩ := ex_agg hE2
      have hI1 := fun o => e1.ix o hx1
      have hI2 := fun o => g1.ix o hx2
      have hw1 : IntKind.i64.wrap ((i : Int) + 1) = ((i + 1 : Nat) : Int) := wrap_succ (by omega)
      simp only [c25,c25x1,c25x2,c25x3,c25x4,c25x5,c25x6,c25x7,RUA,RUB,RUC,RUD,RUE,RUF,if_true,if_false,Int.reduceEq,Int.reduceLT,Int.reduceLE,qC,qO,qA,qS,qU,Nat.reduceEqDiff,qT,E.at,qR,Nat.reduceAdd,Nat.reduceSub,Nat.reduceLeDiff,Nat.reduceMul,qI,qP,qQ,hd,hr1,hl1,hI1,hI2,q1,q2]
      refine hC.callF rfl (fun x hx => by simp only [List.mem_cons,List.not_mem_nil,or_false] at hx; rcases hx with rfl | rfl <;> first | exact hE1'.ok.1 | exact hE2'.ok.1) fun z hz => ?_
      subst hz
      simp only [c25,c25x1,c25x2,c25x3,c25x4,c25x5,c25x6,c25x7,c25x8,c25x9,c25x10,RUA,RUB,RUC,RUD,RUE,RUF,if_true,if_false,Int.reduceEq,Int.reduceLT,Int.reduceLE,qC,qO,qA,qS,qU,Nat.reduceEqDiff,qT,E.at,qR,Nat.reduceAdd,Nat.reduceSub,Nat.reduceLeDiff,Nat.reduceMul,qI,qP,qQ,hw1]
      exact ⟨i + 1,by omega,by omega,rfl⟩
    · have hd : decide ((i : Int) < (l.length : Int)) = false := by simpa using hlt
      simp only [c25,c25x1,c25x2,c25x3,c25x4,c25x5,c25x6,c25x7,c25x8,c25x9,c25x10,RUA,RUB,RUC,RUD,RUE,RUF,if_true,if_false,Int.reduceEq,Int.reduceLT,Int.reduceLE,qC,qO,qA,qS,qU,Nat.reduceEqDiff,qT,E.at,qR,Nat.reduceAdd,Nat.reduceSub,Nat.reduceLeDiff,Nat.reduceMul,qI,qP,qQ,hd,hr1,hl1]
      exact ⟨_,_,frzT_free rfl,rfl⟩
termination_by x => SizeOf.sizeOf x
decreasing_by have := List.sizeOf_lt_of_mem hx; simp; omega
theorem rwords_p {v u : V} {ns : List ByteArray} (hv : IsSl 1 v (nmsV ns)) (hu : IsSl 1 u (nmsV ns)) (hl : ns.length ≤ lim) : PFn Tryd.prog T 26 [v,u] fun z => z = bV true := by
  unfold lim at hl
  have hr1 := fun o => hv.row o
  have hr2 := fun o => hu.row o
  have hln := nms_len ns
  have dd : ∀ a : Int,decide (a = a) = true := fun a => by simp
  intro yi hy
  refine Call.step hy ?_
  rw [body_eq t26]
  simp only [c26,c26x1,c26x2,c26x3,c26x4,RUA,RUB,RUC,RUD,RUE,RUF,if_true,if_false,Int.reduceEq,Int.reduceLT,Int.reduceLE,qC,qO,qA,qS,qU,Nat.reduceEqDiff,qT,E.at,qR,Nat.reduceAdd,Nat.reduceSub,Nat.reduceLeDiff,Nat.reduceMul,qI,qP,qQ,hr1,hr2,hln,dd]
  refine Lfp.inv call_le hy (fun i : Nat => ⟨⟨[v,u,.dead,.dead,.dead,iV i,.dead,.dead,.dead,.dead,.dead,.dead,.dead,.dead,.dead,.dead,.dead,.dead,.dead,.dead,.dead,.dead,.dead,.dead,.dead,.dead],[]⟩,[]⟩) (fun i => ns.length - i)
    (fun i => i ≤ ns.length) 0 (Nat.zero_le _) (by simp only [kill_L,killTs_nil,RUF] <;> rfl) ?_
  intro i hi
  by_cases hlt : i < ns.length
  · have hd : decide ((i : Int) < (ns.length : Int)) = true := by simpa using hlt
    have hx : ns[i]? = some ns[i] := List.getElem?_eq_getElem hlt
    generalize ns[i] = s at hx
    have hI1 := fun o => hv.ix o (nms_get hx)
    have hI2 := fun o => hu.ix o (nms_get hx)
    have hw1 : IntKind.i64.wrap ((i : Int) + 1) = ((i + 1 : Nat) : Int) := wrap_succ (by omega)
    simp only [c26,c26x1,c26x2,c26x3,c26x4,c26x5,c26x6,c26x7,c26x8,c26x9,c26x10,RUA,RUB,RUC,RUD,RUE,RUF,if_true,if_false,Int.reduceEq,Int.reduceLT,Int.reduceLE,qC,qO,qA,qS,qU,Nat.reduceEqDiff,qT,E.at,qR,Nat.reduceAdd,Nat.reduceSub,Nat.reduceLeDiff,Nat.reduceMul,qI,qP,qQ,hd,hr1,hln,hI1,hI2,hw1]
    exact ⟨i + 1,by omega,by omega,rfl⟩
  · have hd : decide ((i : Int) < (ns.length : Int)) = false := by simpa using hlt
    simp only [c26,c26x1,c26x2,c26x3,c26x4,c26x5,c26x6,c26x7,c26x8,c26x9,c26x10,RUA,RUB,RUC,RUD,RUE,RUF,if_true,if_false,Int.reduceEq,Int.reduceLT,Int.reduceLE,qC,qO,qA,qS,qU,Nat.reduceEqDiff,qT,E.at,qR,Nat.reduceAdd,Nat.reduceSub,Nat.reduceLeDiff,Nat.reduceMul,qI,qP,qQ,hd,hr1,hln]
    exact ⟨_,_,frzT_free rfl,rfl⟩
theorem names22 : PFn Tryd.prog T 22 [] fun z => z = .sl 1 true (nm3.map sV) := by
  intro yi hy
  refine Call.step hy ?_
  rw [body_eq t22]
  simp only [c22,c22x1,RUA,RUB,RUC,RUD,RUE,RUF,if_true,if_false,Int.reduceEq,Int.reduceLT,Int.reduceLE,qC,qO,qA,qS,qU,Nat.reduceEqDiff,qT,E.at,qR,Nat.reduceAdd,Nat.reduceSub,Nat.reduceLeDiff,Nat.reduceMul,qI,qP,qQ]
  exact ⟨_,_,frzT_free rfl,rfl⟩
end Go.Proofs.YtjfnhpnfkknmoaaDoor
end

section
set_option linter.unusedVariables false
set_option linter.unusedSimpArgs false
set_option maxRecDepth 100000
set_option maxHeartbeats 8000000
open Go.Proofs.Pe renaming putCells → qC, bslOf → qO, bsaOf → qA, bslS → qS, isUpto → qU, step → qT, intOf → qI, iop → qP, sop → qQ
open List renaming replicate → qR
open Go.Proofs.Pe.V renaming dead → qD
namespace Go.Proofs.YtjfnhpnfkknmoaaDoor
open Go.Proofs.Pe

theorem rawArg {x : V} (hx : ∃ n,VT Tryd.prog n 46 [x]) : ∃ l vs,IsSl 3 x vs ∧ All2 IsRw l vs ∧ vs.length ≤ maxLen := by
  obtain ⟨n,hn⟩ := hx
  exact (rw_of rwT n).2 x hn
theorem written {e : Ex} (hW : WfT 9 e) (hlen : (textE e).length ≤ 1066) : ∃ l : List Sg,SR (textE e) 0 [] (.ok l) ∧ l.map kt = tokE e ∧ (∀ s ∈ l,SgOk s) ∧ l.length ≤ lim ∧ ∃ n,PS l n (.bin 0) 0 0 (.ok e l.length) := by
  obtain ⟨l,h1,h2⟩ := lex_text hW [] (fun c hc => by simp at hc) 0 []
  have hS := h2 (.ok l) (by rw [List.nil_append]; exact .done rfl)
  rw [List.append_nil] at hS
  have hll : l.length = (tokE e).length := by rw [← h1]; simp
  have ha : AtK l 0 (tokE e) := fun q p hq => by rw [Nat.zero_add,h1]; exact hq
  have hm : markAt l (0 + (tokE e).length) = [] := mark_none (by rw [Nat.zero_add,h1]; simp)
  obtain ⟨n,hn⟩ := bin_text hW (d := 0) (i := 0) (by omega) ha (fun v hv => by rw [hm]; exact kind_nil v hv)
  rw [Nat.zero_add,← hll] at hn
  refine ⟨l,hS,h1,hS.sgOk l rfl (by simp), ?_,n,hn⟩
  have := SR.len hS l rfl
  unfold lim; simp at this; omega
theorem exprBack_call (x : V) (hx : ∃ n,VT Tryd.prog n 46 [x]) : Pe.Call Tryd.prog T noY 9 [x] [] (fun y _ => y = .sc (.bool true)) := by
  obtain ⟨l,vs,h1,h2,h3⟩ := rawArg hx
  unfold maxLen at h3
  refine Call.step noY_le ?_
  rw [body_eq t9]
  simp only [c9,c9x1,c9x2,RUA,RUB,RUC,RUD,RUE,RUF,if_true,if_false,Int.reduceEq,Int.reduceLT,Int.reduceLE,qC,qO,qA,qS,qU,Nat.reduceEqDiff,qT,E.at,qR,Nat.reduceAdd,Nat.reduceSub,Nat.reduceLeDiff,Nat.reduceMul,qI,qP,qQ]
  refine known_p.callE rfl rfl rfl ?_
  simp only [c9,c9x1,c9x2,c9x3,RUA,RUB,RUC,RUD,RUE,RUF,if_true,if_false,Int.reduceEq,Int.reduceLT,Int.reduceLE,qC,qO,qA,qS,qU,Nat.reduceEqDiff,qT,E.at,qR,Nat.reduceAdd,Nat.reduceSub,Nat.reduceLeDiff,Nat.reduceMul,qI,qP,qQ]
  refine (few_p h1 h2 h3).callE rfl (cf1 h1.freeV _) rfl ?_
  cases hf : decide (szL 9 l ≤ 20) with
  | false => simp only [c9,c9x1,c9x2,c9x3,c9x4,RUA,RUB,RUC,RUD,RUE,RUF,if_true,if_false,Int.reduceEq,Int.reduceLT,Int.reduceLE,qC,qO,qA,qS,qU,Nat.reduceEqDiff,qT,E.at,qR,Nat.reduceAdd,Nat.reduceSub,Nat.reduceLeDiff,Nat.reduceMul,qI,qP,qQ]
  | true =>
    obtain ⟨hW,hc,hl⟩ := one_T (l := l) (by simpa using hf)
    try simp only [c9,c9x1,c9x2,c9x3,c9x4,c9x5,RUA,RUB,RUC,RUD,RUE,RUF,if_true,if_false,Int.reduceEq,Int.reduceLT,Int.reduceLE,qC,qO,qA,qS,qU,Nat.reduceEqDiff,qT,E.at,qR,Nat.reduceAdd,Nat.reduceSub,Nat.reduceLeDiff,Nat.reduceMul,qI,qP,qQ]
    refine pcall names22 rfl (by simp) ?_
    refine (one_p (nm := nm3) (.inr ⟨_,rfl⟩) (by decide) h1 h2).callF rfl (fun x hx => by simp only [List.mem_cons,List.not_mem_nil,or_false] at hx; rcases hx with rfl | rfl <;> first | exact h1.freeV | rfl) fun z hz => ?_
    generalize oneS nm3 l = e at hz hW hc hl
    have hz' := hz
    obtain ⟨a,b,c,d,rfl,ho⟩ := ex_agg hz
    obtain ⟨sg,hS,hkt,hok,hsl,n,hP⟩ := written hW hl
    have fr1 : ∀ x,x ∈ [V.agg [iV a,iV b,sV c,d]] → x.free = true := fun x hx => by simp only [List.mem_singleton] at hx; subst hx; exact hz'.ok.1
    try simp only [c9,c9x1,c9x2,c9x3,c9x4,c9x5,c9x6,RUA,RUB,RUC,RUD,RUE,RUF,if_true,if_false,Int.reduceEq,Int.reduceLT,Int.reduceLE,qC,qO,qA,qS,qU,Nat.reduceEqDiff,qT,E.at,qR,Nat.reduceAdd,Nat.reduceSub,Nat.reduceLeDiff,Nat.reduceMul,qI,qP,qQ,ho]
    refine pcall (text_p hW _ hz' (by omega)) rfl fr1 ?_
    try simp only [c9,c9x1,c9x2,c9x3,c9x4,c9x5,c9x6,c9x7,RUA,RUB,RUC,RUD,RUE,RUF,if_true,if_false,Int.reduceEq,Int.reduceLT,Int.reduceLE,qC,qO,qA,qS,qU,Nat.reduceEqDiff,qT,E.at,qR,Nat.reduceAdd,Nat.reduceSub,Nat.reduceLeDiff,Nat.reduceMul,qI,qP,qQ,ho]
    refine (rsigns_p (by omega) hS).callF rfl (by simp [V.free,V.free1]) fun z2 hz2 => ?_
    obtain ⟨w,rfl,hw⟩ := hz2
    have hrw := fun o => hw.row o
    have hwl : (sg.map Sg.v).length = sg.length := by simp
    try simp only [c9,c9x1,c9x2,c9x3,c9x4,c9x5,c9x6,c9x7,c9x8,RUA,RUB,RUC,RUD,RUE,RUF,if_true,if_false,Int.reduceEq,Int.reduceLT,Int.reduceLE,qC,qO,qA,qS,qU,Nat.reduceEqDiff,qT,E.at,qR,Nat.reduceAdd,Nat.reduceSub,Nat.reduceLeDiff,Nat.reduceMul,qI,qP,qQ,ho]
    refine (parse_p hw hsl hok hP).callF rfl (fun x hx => by simp only [List.mem_singleton] at hx; subst hx; exact hw.freeV) fun z3 hz3 => ?_
    obtain ⟨zy,rfl,hy⟩ := hz3
    have hy' := hy
    obtain ⟨a2,b2,c2,d2,rfl,ho2⟩ := ex_agg hy
    have dd : ∀ a : Int,decide (a = a) = true := fun a => by simp
    try simp only [c9,c9x1,c9x2,c9x3,c9x4,c9x5,c9x6,c9x7,c9x8,c9x9,RUA,RUB,RUC,RUD,RUE,RUF,if_true,if_false,Int.reduceEq,Int.reduceLT,Int.reduceLE,qC,qO,qA,qS,qU,Nat.reduceEqDiff,qT,E.at,qR,Nat.reduceAdd,Nat.reduceSub,Nat.reduceLeDiff,Nat.reduceMul,qI,qP,qQ,ho,ho2]
    refine pcall (rtext_p hW _ hz' (by omega)) rfl fr1 ?_
    try simp only [c9,c9x1,c9x2,c9x3,c9x4,c9x5,c9x6,c9x7,c9x8,c9x9,RUA,RUB,RUC,RUD,RUE,RUF,if_true,if_false,Int.reduceEq,Int.reduceLT,Int.reduceLE,qC,qO,qA,qS,qU,Nat.reduceEqDiff,qT,E.at,qR,Nat.reduceAdd,Nat.reduceSub,Nat.reduceLeDiff,Nat.reduceMul,qI,qP,qQ,ho,ho2,dd,hrw,hwl]
    refine pcall (same_p e _ _ hz' hy') rfl (fun x hx => by simp only [List.mem_cons,List.not_mem_nil,or_false] at hx; rcases hx with rfl | rfl <;> first | exact hz'.ok.1 | exact hy'.ok.1) ?_
    try simp only [c9,c9x1,c9x2,c9x3,c9x4,c9x5,c9x6,c9x7,c9x8,c9x9,RUA,RUB,RUC,RUD,RUE,RUF,if_true,if_false,Int.reduceEq,Int.reduceLT,Int.reduceLE,qC,qO,qA,qS,qU,Nat.reduceEqDiff,qT,E.at,qR,Nat.reduceAdd,Nat.reduceSub,Nat.reduceLeDiff,Nat.reduceMul,qI,qP,qQ,ho,ho2]
    refine (names_p hz' (by show cnt e ≤ 1000; omega)).callF rfl fr1 fun n1 hn1 => ?_
    try simp only [c9,c9x1,c9x2,c9x3,c9x4,c9x5,c9x6,c9x7,c9x8,c9x9,RUA,RUB,RUC,RUD,RUE,RUF,if_true,if_false,Int.reduceEq,Int.reduceLT,Int.reduceLE,qC,qO,qA,qS,qU,Nat.reduceEqDiff,qT,E.at,qR,Nat.reduceAdd,Nat.reduceSub,Nat.reduceLeDiff,Nat.reduceMul,qI,qP,qQ,ho,ho2]
    refine (rnames_p hW (by show cnt e ≤ 1000; omega) _ hz').callF rfl fr1 fun n2 hn2 => ?_
    have hnl : (ddN (varsN (nodes e))).length ≤ lim := by
      have h1 := foldN_len (varsN (nodes e)) []
      have h2 := varsN_len (nodes e)
      have e' : ddN (varsN (nodes e)) = (varsN (nodes e)).foldl addN [] := rfl
      rw [e']; simp at h1; unfold cnt at hc; unfold lim; omega
    try simp only [c9,c9x1,c9x2,c9x3,c9x4,c9x5,c9x6,c9x7,c9x8,c9x9,RUA,RUB,RUC,RUD,RUE,RUF,if_true,if_false,Int.reduceEq,Int.reduceLT,Int.reduceLE,qC,qO,qA,qS,qU,Nat.reduceEqDiff,qT,E.at,qR,Nat.reduceAdd,Nat.reduceSub,Nat.reduceLeDiff,Nat.reduceMul,qI,qP,qQ,ho,ho2]
    refine pcall (rwords_p hn1 hn2 hnl) rfl (fun x hx => by simp only [List.mem_cons,List.not_mem_nil,or_false] at hx; rcases hx with rfl | rfl <;> first | exact hn1.freeV | exact hn2.freeV) ?_
    try simp only [c9,c9x1,c9x2,c9x3,c9x4,c9x5,c9x6,c9x7,c9x8,c9x9,RUA,RUB,RUC,RUD,RUE,RUF,if_true,if_false,Int.reduceEq,Int.reduceLT,Int.reduceLE,qC,qO,qA,qS,qU,Nat.reduceEqDiff,qT,E.at,qR,Nat.reduceAdd,Nat.reduceSub,Nat.reduceLeDiff,Nat.reduceMul,qI,qP,qQ]
end Go.Proofs.YtjfnhpnfkknmoaaDoor
end

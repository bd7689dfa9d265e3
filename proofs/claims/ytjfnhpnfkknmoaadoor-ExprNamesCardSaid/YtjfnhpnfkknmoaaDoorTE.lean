/- Parts of the texts that the claim's proof needs: functions of the program as the evaluator reads them, and what they come to. Conditions: those that its theorems state. -/
import Derived.Test.YtjfnhpnfkknmoaaDoorTD

section
set_option linter.unusedVariables false
set_option linter.unusedSimpArgs false
set_option maxRecDepth 100000
set_option maxHeartbeats 8000000
open Go.Proofs.Pe renaming putCells → qC, bslOf → qO, bsaOf → qA, bslS → qS, isUpto → qU, step → qT, intOf → qI, iop → qP, sop → qQ
open List renaming replicate → qR
open Go.Proofs.Pe.V renaming dead → qD
namespace Go.Proofs.YtjfnhpnfkknmoaaDoor
open Go.Proofs.Pe

/-! ### The words among signs -/
def wdK : Nat × List UInt8 → List ByteArray := fun p => if p.1 = 1 then [⟨p.2.toArray⟩] else []
def wdsK (ks : List (Nat × List UInt8)) : List ByteArray := ks.flatMap wdK
theorem wds_br (x : Ex) (ks : List (Nat × List UInt8)) : wdsK (brK x ks) = wdsK ks := by
  unfold brK; split
  · simp [wdsK,wdK]
  · rfl
theorem wds_tok {n : Nat} {x : Ex} (h : WfT n x) : wdsK (tokE x) = varsN (nodes x) := by
  induction h with
  | @num n m hm => rw [tok_num]; simp [wdsK,wdK,nodes,nodesL,varsN,varN]
  | @var n t ht => rw [tok_var]; simp [wdsK,wdK,nodes,nodesL,varsN,varN]
  | @one n k x hk hx ih =>
    have hk2 : ¬ (k : Int) = 2 := by omega
    have e : varsN (nodes (.mk k 0 emp [x])) = varsN (nodes x) := by simp [nodes,nodesL,varsN,varN,hk2]
    rw [tok_one,e,← ih,← wds_br x (tokE x)]
    simp [wdsK,wdK]
  | @two n k x y hk1 hk2 hx hy ih1 ih2 =>
    have hk3 : ¬ (k : Int) = 2 := by omega
    have e : varsN (nodes (.mk k 0 emp [x,y])) = varsN (nodes x) ++ varsN (nodes y) := by simp [nodes,nodesL,varsN,varN,hk3]
    rw [tok_two,e,← ih1,← ih2,← wds_br x (tokE x),← wds_br y (tokE y)]
    simp [wdsK,wdK]
theorem wds_len : ∀ ks : List (Nat × List UInt8),(wdsK ks).length ≤ ks.length
  | [] => by simp [wdsK]
  | p :: ks => by
    have ih := wds_len ks
    have e : wdsK (p :: ks) = wdK p ++ wdsK ks := by simp [wdsK]
    have : (wdK p).length ≤ 1 := by unfold wdK; by_cases h : p.1 = 1 <;> simp [h]
    rw [e]; simp; omega
theorem cm_row3 {o : List O} {rv v : V} {ns : List ByteArray} {A : List Nat} (hv : v.free = true) (h : RowAt o 1 rv (nmsV ns) A) : ∃ w o1,commits o [v,rv] = some ([v,w],o1) ∧ IsSl 1 w (nmsV ns) := by
  obtain ⟨w,o1,h1,h2,h3⟩ := h.frz (nms_free ns)
  refine ⟨w,o1, ?_,h2⟩
  have h4 : Pe.freeze o v = some (v,o) := freeze_free hv
  simp [commits,step.freezes',h1,h4]
theorem exprNames_call (x : V) (hx : ∃ n,VT Tryd.prog n 46 [x]) : Pe.Call Tryd.prog T noY 10 [x] [] (fun y _ => y = .sc (.bool true)) := by
  obtain ⟨l,vs,h1,h2,h3⟩ := rawArg hx
  unfold maxLen at h3
  refine Call.step noY_le ?_
  rw [body_eq t10]
  simp only [c10,c10x1,c10x2,RUA,RUB,RUC,RUD,RUE,RUF,if_true,if_false,Int.reduceEq,Int.reduceLT,Int.reduceLE,qC,qO,qA,qS,qU,Nat.reduceEqDiff,qT,E.at,qR,Nat.reduceAdd,Nat.reduceSub,Nat.reduceLeDiff,Nat.reduceMul,qI,qP,qQ]
  refine known_p.callE rfl rfl rfl ?_
  simp only [c10,c10x1,c10x2,c10x3,RUA,RUB,RUC,RUD,RUE,RUF,if_true,if_false,Int.reduceEq,Int.reduceLT,Int.reduceLE,qC,qO,qA,qS,qU,Nat.reduceEqDiff,qT,E.at,qR,Nat.reduceAdd,Nat.reduceSub,Nat.reduceLeDiff,Nat.reduceMul,qI,qP,qQ]
  refine (few_p h1 h2 h3).callE rfl (cf1 h1.freeV _) rfl ?_
  cases hf : decide (szL 9 l ≤ 20) with
  | false => simp only [c10,c10x1,c10x2,c10x3,c10x4,RUA,RUB,RUC,RUD,RUE,RUF,if_true,if_false,Int.reduceEq,Int.reduceLT,Int.reduceLE,qC,qO,qA,qS,qU,Nat.reduceEqDiff,qT,E.at,qR,Nat.reduceAdd,Nat.reduceSub,Nat.reduceLeDiff,Nat.reduceMul,qI,qP,qQ]
  | true =>
    obtain ⟨hW,hc,hl⟩ := one_T (l := l) (by simpa using hf)
    simp only [c10,c10x1,c10x2,c10x3,c10x4,c10x5,RUA,RUB,RUC,RUD,RUE,RUF,if_true,if_false,Int.reduceEq,Int.reduceLT,Int.reduceLE,qC,qO,qA,qS,qU,Nat.reduceEqDiff,qT,E.at,qR,Nat.reduceAdd,Nat.reduceSub,Nat.reduceLeDiff,Nat.reduceMul,qI,qP,qQ]
    refine pcall names22 rfl (by simp) ?_
    refine (one_p (nm := nm3) (.inr ⟨_,rfl⟩) (by decide) h1 h2).callF rfl (fun x hx => by simp only [List.mem_cons,List.not_mem_nil,or_false] at hx; rcases hx with rfl | rfl <;> first | exact h1.freeV | rfl) fun z hz => ?_
    generalize oneS nm3 l = e at hz hW hc hl
    have hz' := hz
    obtain ⟨a,b,c,d,rfl,ho⟩ := ex_agg hz
    obtain ⟨sg,hS,hkt,hok,hsl,n,hP⟩ := written hW hl
    have hwd := wds_tok hW
    rw [← hkt] at hwd
    have fr1 : ∀ x,x ∈ [V.agg [iV a,iV b,sV c,d]] → x.free = true := fun x hx => by simp only [List.mem_singleton] at hx; subst hx; exact hz'.ok.1
    simp only [c10,c10x1,c10x2,c10x3,c10x4,c10x5,c10x6,RUA,RUB,RUC,RUD,RUE,RUF,if_true,if_false,Int.reduceEq,Int.reduceLT,Int.reduceLE,qC,qO,qA,qS,qU,Nat.reduceEqDiff,qT,E.at,qR,Nat.reduceAdd,Nat.reduceSub,Nat.reduceLeDiff,Nat.reduceMul,qI,qP,qQ,ho]
    refine pcall (text_p hW _ hz' (by omega)) rfl fr1 ?_
    refine (rsigns_p (by omega) hS).callF rfl (by simp [V.free,V.free1]) fun z2 hz2 => ?_
    obtain ⟨w,rfl,hw⟩ := hz2
    have hrw := fun o => hw.row o
    have hwl : (sg.map Sg.v).length = sg.length := by simp
    unfold lim at hsl
    simp only [c10,c10x1,c10x2,c10x3,c10x4,c10x5,c10x6,c10x7,c10x8,c10x9,RUA,RUB,RUC,RUD,RUE,RUF,if_true,if_false,Int.reduceEq,Int.reduceLT,Int.reduceLE,qC,qO,qA,qS,qU,Nat.reduceEqDiff,qT,E.at,qR,Nat.reduceAdd,Nat.reduceSub,Nat.reduceLeDiff,Nat.reduceMul,qI,qP,qQ,ho]
    refine Lfp.inv call_le noY_le (fun q : Nat × List O × V => ⟨⟨((qD::qD::qD::.pt 0 0 :: w :: qD::qD::q.2.2 :: iV q.1 :: qD::qD::qD::qD::qD::qD::qD::qD::qD::qD::qD::qD::qD::qD::qD::qD::qD::qD::qD::qD::qD::qD::qD::qD::qD::qD::qD::qD::qD::qD::qD::qD::qD::qD::qD::qD::qD::qD::qD::qD::qD::qD::qD::qD::qD::qD::qD::qD::qD::qD::qD::qD::qD::qD::qD::qD::qD::qD::qD::qD::qD::qD::[])),q.2.1⟩,[]⟩) (fun q => sg.length - q.1)
      (fun q => q.1 ≤ sg.length ∧ q.2.1[0]? = some (.cells [iV a,iV b,sV c,d]) ∧ ∃ A,RowAt q.2.1 1 q.2.2 (nmsV (ddN (wdsK ((sg.map kt).take q.1)))) A) (0,[.cells [iV a,iV b,sV c,d]],nilV)
      ⟨Nat.zero_le _,rfl,[],.inl ⟨rfl,rfl,rfl⟩⟩ (by simp only [kill_L,killTs_nil,RUF] <;> rfl) ?_
    rintro ⟨i,o',out⟩ ⟨hi,h0,A,hr⟩
    dsimp only at hi h0 hr
    have hMl0 : (ddN (wdsK ((sg.map kt).take i))).length ≤ 1000000 := by
      have h1 := foldN_len (wdsK ((sg.map kt).take i)) []
      have h2 := wds_len ((sg.map kt).take i)
      have e : ddN (wdsK ((sg.map kt).take i)) = (wdsK ((sg.map kt).take i)).foldl addN [] := rfl
      rw [e]; simp at h1 h2; omega
    by_cases hlt : i < sg.length
    · have hd : decide ((i : Int) < (sg.length : Int)) = true := by simpa using hlt
      have hx : sg[i]? = some sg[i] := List.getElem?_eq_getElem hlt
      have hstep : wdsK ((sg.map kt).take (i + 1)) = wdsK ((sg.map kt).take i) ++ wdK (kt sg[i]) := by
        rw [List.take_add_one,List.getElem?_map,hx]; simp [wdsK]
      generalize sg[i] = s at hx hstep
      have hI := fun o => sg_ix hw hx o
      generalize hM : ddN (wdsK ((sg.map kt).take i)) = M at hr hMl0
      have hro := hr.row
      have hMn := nms_len M
      have hwi : IntKind.i64.wrap ((i : Int) + 1) = ((i + 1 : Nat) : Int) := wrap_succ (by omega)
      have hk1 : decide ((s.k : Int) = 1) = decide (s.k = 1) := by by_cases h : s.k = 1 <;> simp [h] <;> omega
      simp only [c10,c10x1,c10x2,c10x3,c10x4,c10x5,c10x6,c10x7,c10x8,c10x9,c10x10,c10x11,c10x12,c10x13,c10x14,RUA,RUB,RUC,RUD,RUE,RUF,if_true,if_false,Int.reduceEq,Int.reduceLT,Int.reduceLE,qC,qO,qA,qS,qU,Nat.reduceEqDiff,qT,E.at,qR,Nat.reduceAdd,Nat.reduceSub,Nat.reduceLeDiff,Nat.reduceMul,qI,qP,qQ,hd,hrw,hwl,hI,hk1]
      refine Lfp.inv call_le noY_le (fun q : Nat × Bool => ⟨⟨((qD::qD::qD::.pt 0 0 :: w :: qD::qD::out :: iV i :: bV q.2 :: iV q.1 :: qD::qD::qD::qD::qD::qD::qD::qD::qD::qD::qD::qD::qD::qD::qD::qD::qD::qD::qD::qD::qD::qD::qD::qD::qD::qD::qD::qD::qD::qD::qD::qD::qD::qD::qD::qD::qD::qD::qD::qD::qD::qD::qD::qD::qD::qD::qD::qD::qD::qD::qD::qD::qD::qD::qD::qD::qD::qD::qD::qD::[])),o'⟩,[]⟩) (fun q => M.length - q.1)
        (fun q => q.1 ≤ M.length ∧ q.2 = (!decide (s.k = 1) || decide ((⟨s.t.toArray⟩ : ByteArray) ∈ M.take q.1))) (0,!decide (s.k = 1)) ⟨Nat.zero_le _,by simp⟩ (by simp only [kill_L,killTs_nil,RUF] <;> rfl) ?_
      rintro ⟨j,is⟩ ⟨hj,his⟩
      dsimp only at hj his
      by_cases hjl : j < M.length
      · have hd4 : decide ((j : Int) < ((nmsV M).length : Int)) = true := by rw [hMn]; simpa using hjl
        have ht : M[j]? = some M[j] := List.getElem?_eq_getElem hjl
        have hmt : M.take (j + 1) = M.take j ++ [M[j]] := by rw [List.take_add_one,ht]; rfl
        generalize M[j] = t at ht hmt
        have hMj := nms_get ht
        have hwj : IntKind.i64.wrap ((j : Int) + 1) = ((j + 1 : Nat) : Int) := wrap_succ (by omega)
        have hRV : RowV o' 1 out (nmsV M) A := .inr hr
        cases is with
        | true =>
          simp only [c10,c10x1,c10x2,c10x3,c10x4,c10x5,c10x6,c10x7,c10x8,c10x9,c10x10,c10x11,c10x12,c10x13,c10x14,c10x15,c10x16,c10x17,c10x18,c10x19,c10x20,c10x21,c10x22,RUA,RUB,RUC,RUD,RUE,RUF,if_true,if_false,Int.reduceEq,Int.reduceLT,Int.reduceLE,qC,qO,qA,qS,qU,Nat.reduceEqDiff,qT,E.at,qR,Nat.reduceAdd,Nat.reduceSub,Nat.reduceLeDiff,Nat.reduceMul,qI,qP,qQ,hro,hd4,hwj]
          refine ⟨(j + 1,true),⟨by simp only; omega, ?_⟩,by simp only; omega,rfl⟩
          simp only
          rw [hmt]
          by_cases hk : s.k = 1
          · have hm : (⟨s.t.toArray⟩ : ByteArray) ∈ M.take j := by simpa [hk] using his.symm
            simp [hk,hm]
          · simp [hk]
        | false =>
          have hk : s.k = 1 := by
            by_cases hk : s.k = 1
            · exact hk
            · simp [hk] at his
          have hm : (⟨s.t.toArray⟩ : ByteArray) ∉ M.take j := by simpa [hk] using his.symm
          have fin : decide (t = (⟨s.t.toArray⟩ : ByteArray)) = (!decide (s.k = 1) || decide ((⟨s.t.toArray⟩ : ByteArray) ∈ M.take (j + 1))) := by
            rw [hmt]
            by_cases e : t = (⟨s.t.toArray⟩ : ByteArray)
            · simp [hk,e]
            · have e' : ¬ (⟨s.t.toArray⟩ : ByteArray) = t := fun h => e h.symm
              simp [hk,e,e',hm]
          have hbb : ∀ a : ByteArray,(a.toList == s.t) = decide (a = (⟨s.t.toArray⟩ : ByteArray)) := fun a => by rw [← ba_eq,btl s.t]
          rcases hRV.cases hMj with hI2 | ⟨la,v,wr,hI2,hla⟩
          · simp only [c10,c10x1,c10x2,c10x3,c10x4,c10x5,c10x6,c10x7,c10x8,c10x9,c10x10,c10x11,c10x12,c10x13,c10x14,c10x15,c10x16,c10x17,c10x18,c10x19,c10x20,c10x21,c10x22,RUA,RUB,RUC,RUD,RUE,RUF,if_true,if_false,Int.reduceEq,Int.reduceLT,Int.reduceLE,qC,qO,qA,qS,qU,Nat.reduceEqDiff,qT,E.at,qR,Nat.reduceAdd,Nat.reduceSub,Nat.reduceLeDiff,Nat.reduceMul,qI,qP,qQ,hro,hd4,hwj,hI2,hI,hbb]
            exact ⟨(j + 1,_),⟨by simp only; omega,fin⟩,by simp only; omega,rfl⟩
          · simp only [c10,c10x1,c10x2,c10x3,c10x4,c10x5,c10x6,c10x7,c10x8,c10x9,c10x10,c10x11,c10x12,c10x13,c10x14,c10x15,c10x16,c10x17,c10x18,c10x19,c10x20,c10x21,c10x22,RUA,RUB,RUC,RUD,RUE,RUF,if_true,if_false,Int.reduceEq,Int.reduceLT,Int.reduceLE,qC,qO,qA,qS,qU,Nat.reduceEqDiff,qT,E.at,qR,Nat.reduceAdd,Nat.reduceSub,Nat.reduceLeDiff,Nat.reduceMul,qI,qP,qQ,hro,hd4,hwj,hI2,hla,hMj,hI,hbb]
            exact ⟨(j + 1,_),⟨by simp only; omega,fin⟩,by simp only; omega,rfl⟩
      · have hd4 : decide ((j : Int) < ((nmsV M).length : Int)) = false := by rw [hMn]; simpa using hjl
        rw [List.take_of_length_le (by omega)] at his
        cases is with
        | true =>
          have hsm : ddN (wdsK ((sg.map kt).take (i + 1))) = M := by
            rw [hstep,ddN,List.foldl_append]
            have e : (wdsK ((sg.map kt).take i)).foldl addN [] = M := hM
            rw [e]
            by_cases hk : s.k = 1
            · have hm : (⟨s.t.toArray⟩ : ByteArray) ∈ M := by simpa [hk] using his.symm
              have e2 : wdK (kt s) = [(⟨s.t.toArray⟩ : ByteArray)] := by simp [wdK,kt,hk]
              rw [e2]; exact if_pos hm
            · have e2 : wdK (kt s) = [] := by simp [wdK,kt,hk]
              rw [e2]; rfl
          simp only [c10,c10x1,c10x2,c10x3,c10x4,c10x5,c10x6,c10x7,c10x8,c10x9,c10x10,c10x11,c10x12,c10x13,c10x14,c10x15,c10x16,c10x17,c10x18,c10x19,c10x20,c10x21,c10x22,RUA,RUB,RUC,RUD,RUE,RUF,if_true,if_false,Int.reduceEq,Int.reduceLT,Int.reduceLE,qC,qO,qA,qS,qU,Nat.reduceEqDiff,qT,E.at,qR,Nat.reduceAdd,Nat.reduceSub,Nat.reduceLeDiff,Nat.reduceMul,qI,qP,qQ,hro,hd4,hwi]
          exact ⟨(i + 1,o',out),⟨by simp only; omega,h0,A,by simp only; rw [hsm]; exact hr⟩,by simp only; omega,rfl⟩
        | false =>
          have hk : s.k = 1 := by
            by_cases hk : s.k = 1
            · exact hk
            · simp [hk] at his
          have hm : (⟨s.t.toArray⟩ : ByteArray) ∉ M := by simpa [hk] using his.symm
          have hsm : ddN (wdsK ((sg.map kt).take (i + 1))) = M ++ [(⟨s.t.toArray⟩ : ByteArray)] := by
            rw [hstep,ddN,List.foldl_append]
            have e : (wdsK ((sg.map kt).take i)).foldl addN [] = M := hM
            have e2 : wdK (kt s) = [(⟨s.t.toArray⟩ : ByteArray)] := by simp [wdK,kt,hk]
            rw [e,e2]; exact if_neg hm
          obtain ⟨rv',B1,A',ha,hr3,hfr,hA'⟩ := hr.push (b := 16) (f := true) (y := tV s.t) rfl (by rw [nms_len]; unfold room; omega)
          simp only [c10,c10x1,c10x2,c10x3,c10x4,c10x5,c10x6,c10x7,c10x8,c10x9,c10x10,c10x11,c10x12,c10x13,c10x14,c10x15,c10x16,c10x17,c10x18,c10x19,c10x20,c10x21,c10x22,RUA,RUB,RUC,RUD,RUE,RUF,if_true,if_false,Int.reduceEq,Int.reduceLT,Int.reduceLE,qC,qO,qA,qS,qU,Nat.reduceEqDiff,qT,E.at,qR,Nat.reduceAdd,Nat.reduceSub,Nat.reduceLeDiff,Nat.reduceMul,qI,qP,qQ,hro,hd4,hwi,hI,ha]
          refine ⟨(i + 1,B1,rv'),⟨by simp only; omega,hfr.cells h0 (hr.notCells h0),A', ?_⟩,by simp only; omega,rfl⟩
          simp only
          rw [hsm,← nms_snoc]
          exact hr3
    · have hd : decide ((i : Int) < (sg.length : Int)) = false := by simpa using hlt
      rw [List.take_of_length_le (by simp; omega),hwd] at hr hMl0
      simp only [c10,c10x1,c10x2,c10x3,c10x4,c10x5,c10x6,c10x7,c10x8,c10x9,c10x10,c10x11,c10x12,c10x13,c10x14,c10x15,c10x16,c10x17,c10x18,c10x19,c10x20,c10x21,c10x22,RUA,RUB,RUC,RUD,RUE,RUF,if_true,if_false,Int.reduceEq,Int.reduceLT,Int.reduceLE,qC,qO,qA,qS,qU,Nat.reduceEqDiff,qT,E.at,qR,Nat.reduceAdd,Nat.reduceSub,Nat.reduceLeDiff,Nat.reduceMul,qI,qP,qQ,hd,hrw,hwl,h0]
      refine (names_p hz' (by show cnt e ≤ 1000; omega)).callF rfl fr1 fun n1 hn1 => ?_
      obtain ⟨w2,o2,hcm,hw2⟩ := cm_row3 hn1.freeV hr
      try simp only [c10,c10x1,c10x2,c10x3,c10x4,c10x5,c10x6,c10x7,c10x8,c10x9,c10x10,c10x11,c10x12,c10x13,c10x14,c10x15,c10x16,c10x17,c10x18,c10x19,c10x20,c10x21,c10x22,RUA,RUB,RUC,RUD,RUE,RUF,if_true,if_false,Int.reduceEq,Int.reduceLT,Int.reduceLE,qC,qO,qA,qS,qU,Nat.reduceEqDiff,qT,E.at,qR,Nat.reduceAdd,Nat.reduceSub,Nat.reduceLeDiff,Nat.reduceMul,qI,qP,qQ,ho]
      refine (rwords_p hn1 hw2 (by unfold lim; omega)).callB rfl hcm (fun z hz => by rw [hz]; rfl) (fun z hz => ?_)
      subst hz
      try simp only [c10,c10x1,c10x2,c10x3,c10x4,c10x5,c10x6,c10x7,c10x8,c10x9,c10x10,c10x11,c10x12,c10x13,c10x14,c10x15,c10x16,c10x17,c10x18,c10x19,c10x20,c10x21,c10x22,RUA,RUB,RUC,RUD,RUE,RUF,if_true,if_false,Int.reduceEq,Int.reduceLT,Int.reduceLE,qC,qO,qA,qS,qU,Nat.reduceEqDiff,qT,E.at,qR,Nat.reduceAdd,Nat.reduceSub,Nat.reduceLeDiff,Nat.reduceMul,qI,qP,qQ]
end Go.Proofs.YtjfnhpnfkknmoaaDoor
end

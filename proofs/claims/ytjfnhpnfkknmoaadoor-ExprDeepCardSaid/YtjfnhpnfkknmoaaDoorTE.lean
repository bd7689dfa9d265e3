/- Parts of the texts that the claim's proof needs: functions of the program as the evaluator reads them, and what they come to. Conditions: those that its theorems state. -/
import Derived.Test.YtjfnhpnfkknmoaaDoorTD

section
set_option linter.unusedVariables false
set_option linter.unusedSimpArgs false
set_option maxRecDepth 100000
set_option maxHeartbeats 4000000
open Go.Proofs.Pe renaming putCells → qC, bslOf → qO, bsaOf → qA, bslS → qS, isUpto → qU, step → qT, intOf → qI, iop → qP, sop → qQ
open List renaming replicate → qR
open Go.Proofs.Pe.V renaming dead → qD
namespace Go.Proofs.YtjfnhpnfkknmoaaDoor
open Go.Proofs.Pe

theorem natI3 {a n : Int} (h : 0 < n) : ∃ i : Nat,withinI a n = i ∧ (i : Int) < n := by
  obtain ⟨h1,h2⟩ := withinI_ok a h
  exact ⟨(withinI a n).toNat,by omega,by omega⟩
def chD (zs : List Int) (i : Nat) : Nat := match zs[i]? with
  | some z => (withinI z 3).toNat
  | none => 0
def csD (zs : List Int) (k : Nat) : List Nat := (List.range k).map (chD zs)
theorem csD_succ (zs : List Int) (k : Nat) : csD zs (k + 1) = csD zs k ++ [chD zs k] := by simp [csD,List.range_succ]
theorem csD_len (zs : List Int) (k : Nat) : (csD zs k).length = k := by simp [csD]
theorem chD_lt (zs : List Int) (k : Nat) : chD zs k < 3 := by
  unfold chD
  split
  · rename_i z _
    obtain ⟨h1,h2⟩ := withinI_ok z (n := 3) (by decide)
    omega
  · omega
theorem preT_snoc (cs : List Nat) (c : Nat) : preT (cs ++ [c]) = preT cs ++ [pb c] ++ [32] := by simp [preT]
def brkV : List V := [tV [40],tV [45],tV [33]]
theorem brk_get {c : Nat} (h : c < 3) : brkV[c]? = some (tV [pb c]) := by
  have : c = 0 ∨ c = 1 ∨ c = 2 := by omega
  rcases this with rfl | rfl | rfl <;> rfl
theorem catOk {n : Nat} (h : n ≤ 1000000000) : (((n : Nat) : Int) > IntKind.i64.max) = False := by
  apply eq_false
  show ¬ ((n : Int) > 9223372036854775807)
  omega
theorem exprDeep_call (n : Int) (hn : (Lit.int .i64 n).wf = true) (y : V) (hy : ∃ m,VT Tryd.prog m 24 [y]) : Pe.Call Tryd.prog T noY 5 [.sc (.int .i64 n),y] [] (fun y _ => y = .sc (.bool true)) := by
  obtain ⟨m,hy⟩ := hy
  obtain ⟨zs,g1,g2,g3⟩ := ints_of (by kernel_rfl) (by kernel_rfl) (by kernel_rfl) hy
  have hrowy := fun o => g1.row o
  refine Call.step noY_le ?_
  rw [body_eq t5]
  simp only [c5,c5x1,c5x2,RUA,RUB,RUC,RUD,RUE,RUF,if_true,if_false,Int.reduceEq,Int.reduceLT,Int.reduceLE,qC,qO,qA,qS,qU,Nat.reduceEqDiff,qT,E.at,qR,Nat.reduceAdd,Nat.reduceSub,Nat.reduceLeDiff,Nat.reduceMul,qI,qP,qQ]
  refine known_p.callE rfl rfl rfl ?_
  simp only [c5,c5x1,c5x2,c5x3,RUA,RUB,RUC,RUD,RUE,RUF,if_true,if_false,Int.reduceEq,Int.reduceLT,Int.reduceLE,qC,qO,qA,qS,qU,Nat.reduceEqDiff,qT,E.at,qR,Nat.reduceAdd,Nat.reduceSub,Nat.reduceLeDiff,Nat.reduceMul,qI,qP,qQ]
  refine (within_p n 30 (by decide) (by decide)).callE rfl rfl rfl ?_
  obtain ⟨k,hk,hk2⟩ := natI3 (a := n) (n := 30) (by decide)
  rw [hk]
  simp only [c5,c5x1,c5x2,c5x3,c5x4,c5x5,c5x6,RUA,RUB,RUC,RUD,RUE,RUF,if_true,if_false,Int.reduceEq,Int.reduceLT,Int.reduceLE,qC,qO,qA,qS,qU,Nat.reduceEqDiff,qT,E.at,qR,Nat.reduceAdd,Nat.reduceSub,Nat.reduceLeDiff,Nat.reduceMul,qI,qP,qQ]
  refine Lfp.inv call_le noY_le (fun i : Nat => ⟨⟨((qD::y :: qD::qD::qD::iV k :: tV (preT (csD zs i)) :: tV (cloT ((csD zs i).count 0)) :: iV i :: qD::qD::qD::qD::qD::qD::qD::qD::qD::qD::qD::qD::qD::qD::qD::qD::qD::qD::qD::qD::qD::qD::qD::qD::qD::qD::qD::qD::qD::qD::qD::qD::qD::qD::qD::qD::qD::qD::qD::qD::qD::qD::qD::qD::qD::qD::qD::qD::qD::qD::qD::qD::qD::qD::qD::qD::qD::qD::qD::qD::qD::qD::qD::qD::qD::qD::qD::qD::qD::qD::qD::qD::[])),[]⟩,[]⟩) (fun i => k - i)
    (fun i => i ≤ k) 0 (Nat.zero_le _) (by simp only [kill_L,killTs_nil,RUF] <;> rfl) ?_
  intro i hi
  have hw1 : IntKind.i64.wrap ((i : Int) + 1) = ((i + 1 : Nat) : Int) := wrap_succ (by omega)
  have hcl := csD_len zs i
  have hpl : (preT (csD zs i)).length = 2 * i := by rw [preT_len,hcl]
  have hct : (csD zs i).count 0 ≤ i := by have := List.count_le_length (a := 0) (l := csD zs i); omega
  have hcll : (cloT ((csD zs i).count 0)).length ≤ 2 * i := by rw [cloT_len]; omega
  by_cases hlt : i < k
  · have d1 : decide ((i : Int) < (k : Int)) = true := by simpa using hlt
    have hc3 := chD_lt zs i
    have hI : ∀ o,ixOf 1 o (.sl 1 true [tV [40],tV [45],tV [33]]) (iV (chD zs i)) = some (.ep [tV [pb (chD zs i)]],o) := fun o => IsSl.ix (.inr ⟨_,rfl⟩) o (brk_get hc3)
    have hs1 := catOk (n := (preT (csD zs i)).length + 1) (by simp; omega)
    have hs2 := catOk (n := (preT (csD zs i) ++ [pb (chD zs i)]).length + 1) (by simp; omega)
    have hs3 := catOk (n := (cloT ((csD zs i).count 0)).length + 2) (by simp; omega)
    have hnext : preT (csD zs (i + 1)) = preT (csD zs i) ++ [pb (chD zs i)] ++ [32] := by rw [csD_succ,preT_snoc]
    have hcnt : cloT ((csD zs (i + 1)).count 0) = if chD zs i = 0 then cloT ((csD zs i).count 0) ++ [32,41] else cloT ((csD zs i).count 0) := by
      rw [csD_succ,List.count_append]
      split
      · rename_i h; rw [h]; exact cloT_snoc _
      · rename_i h; rw [List.count_singleton]; simp [h]
    by_cases hin : i < zs.length
    · have d2 : decide ((i : Int) < ((zs.map iV).length : Int)) = true := by simpa using hin
      have hz : zs[i]? = some zs[i] := List.getElem?_eq_getElem hin
      have hch : withinI zs[i] 3 = ((chD zs i : Nat) : Int) := by
        obtain ⟨q1,q2⟩ := withinI_ok zs[i] (n := 3) (by decide)
        simp only [chD,hz]; omega
      have hIy := fun o => g1.ix o (n := i) (y := iV zs[i]) (by rw [List.getElem?_map,hz]; rfl)
      generalize zs[i] = zi at hch hIy
      simp only [c5,c5x1,c5x2,c5x3,c5x4,c5x5,c5x6,c5x7,c5x8,c5x9,c5x10,c5x11,RUA,RUB,RUC,RUD,RUE,RUF,if_true,if_false,Int.reduceEq,Int.reduceLT,Int.reduceLE,qC,qO,qA,qS,qU,Nat.reduceEqDiff,qT,E.at,qR,Nat.reduceAdd,Nat.reduceSub,Nat.reduceLeDiff,Nat.reduceMul,qI,qP,qQ,d1,hrowy,d2,hIy]
      refine (within_p zi 3 (by decide) (by decide)).callE rfl rfl rfl ?_
      rw [hch]
      by_cases h0 : chD zs i = 0
      · have d0 : decide (((chD zs i : Nat) : Int) = 0) = true := by simp; omega
        rw [if_pos h0] at hcnt
        simp only [c5,c5x1,c5x2,c5x3,c5x4,c5x5,c5x6,c5x7,c5x8,c5x9,c5x10,c5x11,c5x12,c5x13,c5x14,c5x15,c5x16,c5x17,c5x18,c5x19,c5x20,RUA,RUB,RUC,RUD,RUE,RUF,if_true,if_false,Int.reduceEq,Int.reduceLT,Int.reduceLE,qC,qO,qA,qS,qU,Nat.reduceEqDiff,qT,E.at,qR,Nat.reduceAdd,Nat.reduceSub,Nat.reduceLeDiff,Nat.reduceMul,qI,qP,qQ,hI,hs1,hs2,hs3,d0,hw1]
        exact ⟨i + 1,by omega,by omega,by rw [hnext,hcnt]⟩
      · have d0 : decide (((chD zs i : Nat) : Int) = 0) = false := by simp; omega
        rw [if_neg h0] at hcnt
        simp only [c5,c5x1,c5x2,c5x3,c5x4,c5x5,c5x6,c5x7,c5x8,c5x9,c5x10,c5x11,c5x12,c5x13,c5x14,c5x15,c5x16,c5x17,c5x18,c5x19,c5x20,RUA,RUB,RUC,RUD,RUE,RUF,if_true,if_false,Int.reduceEq,Int.reduceLT,Int.reduceLE,qC,qO,qA,qS,qU,Nat.reduceEqDiff,qT,E.at,qR,Nat.reduceAdd,Nat.reduceSub,Nat.reduceLeDiff,Nat.reduceMul,qI,qP,qQ,hI,hs1,hs2,hs3,d0,hw1]
        exact ⟨i + 1,by omega,by omega,by rw [hnext,hcnt]⟩
    · have d2 : decide ((i : Int) < ((zs.map iV).length : Int)) = false := by simpa using hin
      have h0 : chD zs i = 0 := by simp only [chD,List.getElem?_eq_none (Nat.le_of_not_lt hin)]
      rw [if_pos h0] at hcnt
      have hI0 : ∀ o,ixOf 1 o (.sl 1 true [tV [40],tV [45],tV [33]]) (iV 0) = some (.ep [tV [40]],o) := fun o => rfl
      rw [h0] at hnext
      have hp0 : pb 0 = 40 := rfl
      rw [h0,hp0] at hs2
      rw [hp0] at hnext
      simp only [c5,c5x1,c5x2,c5x3,c5x4,c5x5,c5x6,c5x7,c5x8,c5x9,c5x10,c5x11,c5x12,c5x13,c5x14,c5x15,c5x16,c5x17,c5x18,c5x19,c5x20,RUA,RUB,RUC,RUD,RUE,RUF,if_true,if_false,Int.reduceEq,Int.reduceLT,Int.reduceLE,qC,qO,qA,qS,qU,Nat.reduceEqDiff,qT,E.at,qR,Nat.reduceAdd,Nat.reduceSub,Nat.reduceLeDiff,Nat.reduceMul,qI,qP,qQ,d1,hrowy,d2,hI0,hs1,hs2,hs3,hw1]
      exact ⟨i + 1,by omega,by omega,by rw [hnext,hcnt]⟩
  · have d1 : decide ((i : Int) < (k : Int)) = false := by simpa using hlt
    have hik : i = k := by omega
    subst hik
    have hs1 := catOk (n := (preT (csD zs i)).length + 1) (by simp; omega)
    have hs2 := catOk (n := (preT (csD zs i) ++ [49]).length + (cloT ((csD zs i).count 0)).length) (by simp; omega)
    simp only [c5,c5x1,c5x2,c5x3,c5x4,c5x5,c5x6,c5x7,c5x8,c5x9,c5x10,c5x11,c5x12,c5x13,c5x14,c5x15,c5x16,RUA,RUB,RUC,RUD,RUE,RUF,if_true,if_false,Int.reduceEq,Int.reduceLT,Int.reduceLE,qC,qO,qA,qS,qU,Nat.reduceEqDiff,qT,E.at,qR,Nat.reduceAdd,Nat.reduceSub,Nat.reduceLeDiff,Nat.reduceMul,qI,qP,qQ,d1,hs1,hs2]
    obtain ⟨l,q1,q2,_⟩ := deep_SR ((csD zs i).count 0) (csD zs i) 0 []
    rw [List.nil_append] at q1
    have hok := q1.sgOk l rfl (by simp)
    have htx : preT (csD zs i) ++ [49] ++ cloT ((csD zs i).count 0) = preT (csD zs i) ++ (49 :: cloT ((csD zs i).count 0)) := by simp
    rw [htx]
    have hll : l.length ≤ lim := by
      have := congrArg List.length q2
      simp [deepKt] at this; unfold lim; omega
    refine (rsigns_p (by simp; omega) q1).callF rfl (by simp [V.free,V.free1]) fun z hz => ?_
    obtain ⟨w,rfl,hw⟩ := hz
    have hwl : (l.map Sg.v).length = l.length := by simp
    have hrw := fun o => hw.row o
    obtain ⟨p1,p2⟩ := deep_PS q2
    rw [hcl] at p1 p2
    simp only [c5,c5x1,c5x2,c5x3,c5x4,c5x5,c5x6,c5x7,c5x8,c5x9,c5x10,c5x11,c5x12,c5x13,c5x14,c5x15,c5x16,c5x17,RUA,RUB,RUC,RUD,RUE,RUF,if_true,if_false,Int.reduceEq,Int.reduceLT,Int.reduceLE,qC,qO,qA,qS,qU,Nat.reduceEqDiff,qT,E.at,qR,Nat.reduceAdd,Nat.reduceSub,Nat.reduceLeDiff,Nat.reduceMul,qI,qP,qQ]
    by_cases h20 : i ≤ 20
    · obtain ⟨n',x,hP⟩ := p1 h20
      refine (parse_p hw hll hok hP).callF rfl (fun x hx => by simp only [List.mem_singleton] at hx; subst hx; exact hw.freeV) fun z hz => ?_
      obtain ⟨zx,rfl,hx⟩ := hz
      have d3 : decide ((20 : Int) < (i : Int)) = false := by simp; omega
      have dd : ∀ a : Int,decide (a = a) = true := fun a => by simp
      obtain ⟨a,b,c,dd2,rfl,ho⟩ := ex_agg hx
      simp only [c5,c5x1,c5x2,c5x3,c5x4,c5x5,c5x6,c5x7,c5x8,c5x9,c5x10,c5x11,c5x12,c5x13,c5x14,c5x15,c5x16,c5x17,c5x18,c5x19,c5x20,RUA,RUB,RUC,RUD,RUE,RUF,if_true,if_false,Int.reduceEq,Int.reduceLT,Int.reduceLE,qC,qO,qA,qS,qU,Nat.reduceEqDiff,qT,E.at,qR,Nat.reduceAdd,Nat.reduceSub,Nat.reduceLeDiff,Nat.reduceMul,qI,qP,qQ,d3,dd,hrw,hwl,ho]
    · obtain ⟨n',hP⟩ := p2 (by omega)
      refine (parse_p hw hll hok hP).callF rfl (fun x hx => by simp only [List.mem_singleton] at hx; subst hx; exact hw.freeV) fun z hz => ?_
      obtain ⟨zx,rfl,hx⟩ := hz
      obtain ⟨lv,vs,rfl,e1,_,e3⟩ := hx
      have d3 : decide ((20 : Int) < (i : Int)) = true := by simp; omega
      have ho : lv.one = true := free1_one e1.free
      have dd : decide (((20 : Nat) : Int) = 20) = true := rfl
      simp only [c5,c5x1,c5x2,c5x3,c5x4,c5x5,c5x6,c5x7,c5x8,c5x9,c5x10,c5x11,c5x12,c5x13,c5x14,c5x15,c5x16,c5x17,c5x18,c5x19,c5x20,RUA,RUB,RUC,RUD,RUE,RUF,if_true,if_false,Int.reduceEq,Int.reduceLT,Int.reduceLE,qC,qO,qA,qS,qU,Nat.reduceEqDiff,qT,E.at,qR,Nat.reduceAdd,Nat.reduceSub,Nat.reduceLeDiff,Nat.reduceMul,qI,qP,qQ,d3,dd,hrw,hwl,ho]
end Go.Proofs.YtjfnhpnfkknmoaaDoor
end

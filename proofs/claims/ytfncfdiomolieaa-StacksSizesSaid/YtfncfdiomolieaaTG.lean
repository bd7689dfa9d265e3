/- Parts of the texts that the claim's proof needs: functions of the program as the evaluator reads them, and what they come to. Conditions: those that its theorems state. -/
import Derived.Test.YtfncfdiomolieaaTF

section
set_option linter.unusedVariables false
set_option linter.unusedSimpArgs false
set_option maxRecDepth 100000
set_option maxHeartbeats 8000000
open Go.Proofs.Pe renaming putCells → qC, bslOf → qO, bsaOf → qA, bslS → qS, isUpto → qU, step → qT, intOf → qI, iop → qP, sop → qQ
open List renaming replicate → qR
open Go.Proofs.Pe.V renaming dead → qD
namespace Go.Proofs.Ytfncfdiomolieaa
open Go.Proofs.Pe
theorem szS_one (l : List Pe.Tm) : szS [l] = szTs l := by simp [szS]
def blkT : Pe.Tm := .mk 7 0 0 (ByteArray.mk #[]) (.mk 0 0 (ByteArray.mk #[]) []) [zTm]
theorem szT_blk : szT blkT = 2 := by simp [blkT,zTm,szT,szTs]
theorem isTm_blk : IsTm blkT (.agg [iV 7,iV 0,iV 0,sV (ByteArray.mk #[]),iV 0,iV 0,sV (ByteArray.mk #[]),nilV,.sl 9 true [.agg [iV 0,iV 0,iV 0,sV (ByteArray.mk #[]),iV 0,iV 0,sV (ByteArray.mk #[]),nilV,nilV]]]) :=
  ⟨nilV,[],.sl 9 true [_],[_],rfl,.inl ⟨rfl,rfl⟩,by simp,rfl,.inr ⟨_,rfl⟩,by simp [cap],_,_,rfl,zeroTm,rfl⟩
theorem q_add (a : Int) : decide (w64 (a + 2) = IntKind.i64.wrap (w64 a + 2)) = true := by rw [decide_eq_true_eq]; exact (w64_add1 a 2).symm
theorem q_sub (a b : Int) : decide (w64 (a - b) = IntKind.i64.wrap (w64 a - w64 b)) = true := by rw [decide_eq_true_eq]; exact (w64_sub a b).symm
theorem q_same (a : Int) : decide (w64 a = w64 a) = true := by simp
theorem stacksSizes_call (x : V) (w : ∃ n,VT Try.prog n 35 [x]) (n : Int) (w1 : (Lit.int .i64 n).wf = true) (p : Int) (w2 : (Lit.int .i64 p).wf = true) (q : Int) (w3 : (Lit.int .i64 q).wf = true) : Pe.Call Try.prog T noY 9 [x,.sc (.int .i64 n),.sc (.int .i64 p),.sc (.int .i64 q)] [] (fun y _ => y = .sc (.bool true)) := by
  obtain ⟨m,hm⟩ := w
  obtain ⟨l,vs,h1,h3,h2⟩ := (r3_of rT m).2 x hm
  refine Call.step noY_le ?_
  rw [body_eq t9]
  simp only [c9,c9x1,c9x2,RUA,RUB,RUC,RUD,RUE,RUF,if_true,if_false,Int.reduceEq,Int.reduceLT,Int.reduceLE,qC,qO,qA,qS,qU,Nat.reduceEqDiff,qT,E.at,qR,Nat.reduceAdd,Nat.reduceSub,Nat.reduceLeDiff,Nat.reduceMul,qI,qP,qQ]
  refine known6_p.callE rfl rfl rfl ?_
  simp only [c9,c9x1,c9x2,c9x3,RUA,RUB,RUC,RUD,RUE,RUF,if_true,if_false,Int.reduceEq,Int.reduceLT,Int.reduceLE,qC,qO,qA,qS,qU,Nat.reduceEqDiff,qT,E.at,qR,Nat.reduceAdd,Nat.reduceSub,Nat.reduceLeDiff,Nat.reduceMul,qI,qP,qQ]
  refine (few_p h1 h3 h2).callB rfl (cf1 h1.freeV _) (fun z hz => by obtain ⟨b,rfl,_⟩ := hz; rfl) fun z hz => ?_
  obtain ⟨b,rfl,hb⟩ := hz
  cases b with
  | false => simp only [c9,c9x1,c9x2,c9x3,c9x4,RUA,RUB,RUC,RUD,RUE,RUF,if_true,if_false,Int.reduceEq,Int.reduceLT,Int.reduceLE,qC,qO,qA,qS,qU,Nat.reduceEqDiff,qT,E.at,qR,Nat.reduceAdd,Nat.reduceSub,Nat.reduceLeDiff,Nat.reduceMul,qI,qP,qQ]
  | true =>
  simp only [c9,c9x1,c9x2,c9x3,c9x4,c9x5,RUA,RUB,RUC,RUD,RUE,RUF,if_true,if_false,Int.reduceEq,Int.reduceLT,Int.reduceLE,qC,qO,qA,qS,qU,Nat.reduceEqDiff,qT,E.at,qR,Nat.reduceAdd,Nat.reduceSub,Nat.reduceLeDiff,Nat.reduceMul,qI,qP,qQ]
  refine (make6_p h1 h3 (hb rfl) n).callF rfl (fun x hx => by simp only [List.mem_cons,List.not_mem_nil,or_false] at hx; rcases hx with rfl | rfl <;> first | exact h1.freeV | rfl) fun s hs => ?_
  obtain ⟨S,hS,hS1,hS3,hS5⟩ := hs
  have G : Stk3 S s := ⟨hS,hS1,hS3,hS5⟩
  obtain ⟨rows,hr,hrl⟩ := hS.len
  have hrl' : (rows.length : Int) = (S.length : Int) := by omega
  have c5 := G.get
  simp only [c9,c9x1,c9x2,c9x3,c9x4,c9x5,c9x6,RUA,RUB,RUC,RUD,RUE,RUF,if_true,if_false,Int.reduceEq,Int.reduceLT,Int.reduceLE,qC,qO,qA,qS,qU,Nat.reduceEqDiff,qT,E.at,qR,Nat.reduceAdd,Nat.reduceSub,Nat.reduceLeDiff,Nat.reduceMul,qI,qP,qQ,hr,hrl']
  refine (within6_p p (S.length : Int) (by omega) (by omega)).callE rfl rfl rfl ?_
  obtain ⟨a,ha,la⟩ := natI (a := p) (n := (S.length : Int)) (by omega)
  rw [ha]
  have la' : a < S.length := by omega
  try simp only [c9,c9x1,c9x2,c9x3,c9x4,c9x5,c9x6,RUA,RUB,RUC,RUD,RUE,RUF,if_true,if_false,Int.reduceEq,Int.reduceLT,Int.reduceLE,qC,qO,qA,qS,qU,Nat.reduceEqDiff,qT,E.at,qR,Nat.reduceAdd,Nat.reduceSub,Nat.reduceLeDiff,Nat.reduceMul,qI,qP,qQ,hr,hrl']
  refine (within6_p q (S.length : Int) (by omega) (by omega)).callE rfl rfl rfl ?_
  obtain ⟨b,hb,lb⟩ := natI (a := q) (n := (S.length : Int)) (by omega)
  rw [hb]
  have lb' : b < S.length := by omega
  try simp only [c9,c9x1,c9x2,c9x3,c9x4,c9x5,c9x6,c9x7,c9x8,RUA,RUB,RUC,RUD,RUE,RUF,if_true,if_false,Int.reduceEq,Int.reduceLT,Int.reduceLE,qC,qO,qA,qS,qU,Nat.reduceEqDiff,qT,E.at,qR,Nat.reduceAdd,Nat.reduceSub,Nat.reduceLeDiff,Nat.reduceMul,qI,qP,qQ,hr,hrl',fillC]
  refine (psizes_p hS).callE rfl (cf1 hS.freeV _) rfl ?_
  try simp only [c9,c9x1,c9x2,c9x3,c9x4,c9x5,c9x6,c9x7,c9x8,c9x9,RUA,RUB,RUC,RUD,RUE,RUF,if_true,if_false,Int.reduceEq,Int.reduceLT,Int.reduceLE,qC,qO,qA,qS,qU,Nat.reduceEqDiff,qT,E.at,qR,Nat.reduceAdd,Nat.reduceSub,Nat.reduceLeDiff,Nat.reduceMul,qI,qP,qQ]
  refine (reverse_ok hS la').callF rfl (vfr hS _) fun z hz => ?_
  obtain ⟨t0,u,rfl,ht0,hu⟩ := hz
  obtain ⟨k0,a0,b0,nm0,ek0,en0,em0,ev0,lv0,rfl,o1,o2,_,_⟩ := tmA ht0
  obtain ⟨r1,wv,ws,v1,hx,hwc,y1,y2,y3⟩ := hS.row la'
  have hI := fun o => v1.ix o hx
  have hrw : IsRow (S.getD a []) wv := ⟨ws,y1,y2,y3⟩
  have hwf : wv.free = true := hrw.ok.1
  have hwl : decide (wv.cells.length = 1) = true := by rw [hwc]; rfl
  try simp only [c9,c9x1,c9x2,c9x3,c9x4,c9x5,c9x6,c9x7,c9x8,c9x9,c9x10,RUA,RUB,RUC,RUD,RUE,RUF,if_true,if_false,Int.reduceEq,Int.reduceLT,Int.reduceLE,qC,qO,qA,qS,qU,Nat.reduceEqDiff,qT,E.at,qR,Nat.reduceAdd,Nat.reduceSub,Nat.reduceLeDiff,Nat.reduceMul,qI,qP,qQ,o1,o2,hI,hwf,hwl,fillC]
  try simp only [c9,c9x1,c9x2,c9x3,c9x4,c9x5,c9x6,c9x7,c9x8,c9x9,c9x10,RUA,RUB,RUC,RUD,RUE,RUF,if_true,if_false,Int.reduceEq,Int.reduceLT,Int.reduceLE,qC,qO,qA,qS,qU,Nat.reduceEqDiff,qT,E.at,qR,Nat.reduceAdd,Nat.reduceSub,Nat.reduceLeDiff,Nat.reduceMul,qI,qP,qQ,hwc,hwf,hwl,fillC]
  have hone : IsStk [S.getD a []] (.sl 1 true [wv]) := ⟨[wv],.inr ⟨_,rfl⟩,by simp [cap],wv,[],rfl,hrw,rfl⟩
  have h1 := psizes_p hone
  rw [szS_one] at h1
  refine h1.callE rfl (cf1 hone.freeV _) rfl ?_
  try simp only [c9,c9x1,c9x2,c9x3,c9x4,c9x5,c9x6,c9x7,c9x8,c9x9,c9x10,c9x11,RUA,RUB,RUC,RUD,RUE,RUF,if_true,if_false,Int.reduceEq,Int.reduceLT,Int.reduceLE,qC,qO,qA,qS,qU,Nat.reduceEqDiff,qT,E.at,qR,Nat.reduceAdd,Nat.reduceSub,Nat.reduceLeDiff,Nat.reduceMul,qI,qP,qQ,fillC]
  refine (push_ok (at' := a) hS isTm_blk la' (fun r hr => by have := hS5 r hr; unfold cap; omega)).callF rfl (vfrt hS _ rfl) fun up hup => ?_
  have h2 := psizes_p hup
  rw [szS_set _ _ _ la',szTs_snoc,szT_blk,show szS S - szTs (S.getD a []) + (szTs (S.getD a []) + 2) = szS S + 2 by omega] at h2
  try simp only [c9,c9x1,c9x2,c9x3,c9x4,c9x5,c9x6,c9x7,c9x8,c9x9,c9x10,c9x11,RUA,RUB,RUC,RUD,RUE,RUF,if_true,if_false,Int.reduceEq,Int.reduceLT,Int.reduceLE,qC,qO,qA,qS,qU,Nat.reduceEqDiff,qT,E.at,qR,Nat.reduceAdd,Nat.reduceSub,Nat.reduceLeDiff,Nat.reduceMul,qI,qP,qQ]
  refine h2.callE rfl (cf1 hup.freeV _) rfl ?_
  have e0 : szS S - szTs (S.getD a []) + szTs [] = szS S - szTs (S.getD a []) := by simp only [szTs]; omega
  have h3 := psizes_p hu
  rw [szS_set _ _ _ la',e0] at h3
  try simp only [c9,c9x1,c9x2,c9x3,c9x4,c9x5,c9x6,c9x7,c9x8,c9x9,c9x10,c9x11,RUA,RUB,RUC,RUD,RUE,RUF,if_true,if_false,Int.reduceEq,Int.reduceLT,Int.reduceLE,qC,qO,qA,qS,qU,Nat.reduceEqDiff,qT,E.at,qR,Nat.reduceAdd,Nat.reduceSub,Nat.reduceLeDiff,Nat.reduceMul,qI,qP,qQ,q_add]
  refine h3.callE rfl (cf1 hu.freeV _) rfl ?_
  try simp only [c9,c9x1,c9x2,c9x3,c9x4,c9x5,c9x6,c9x7,c9x8,c9x9,c9x10,c9x11,RUA,RUB,RUC,RUD,RUE,RUF,if_true,if_false,Int.reduceEq,Int.reduceLT,Int.reduceLE,qC,qO,qA,qS,qU,Nat.reduceEqDiff,qT,E.at,qR,Nat.reduceAdd,Nat.reduceSub,Nat.reduceLeDiff,Nat.reduceMul,qI,qP,qQ,q_sub]
  refine (accept_ok hS la').callF rfl (vfr hS _) fun uc huc => ?_
  have h4 := psizes_p huc
  rw [szS_set _ _ _ la',e0] at h4
  try simp only [c9,c9x1,c9x2,c9x3,c9x4,c9x5,c9x6,c9x7,c9x8,c9x9,c9x10,c9x11,RUA,RUB,RUC,RUD,RUE,RUF,if_true,if_false,Int.reduceEq,Int.reduceLT,Int.reduceLE,qC,qO,qA,qS,qU,Nat.reduceEqDiff,qT,E.at,qR,Nat.reduceAdd,Nat.reduceSub,Nat.reduceLeDiff,Nat.reduceMul,qI,qP,qQ]
  refine h4.callE rfl (cf1 huc.freeV _) rfl ?_
  try simp only [c9,c9x1,c9x2,c9x3,c9x4,c9x5,c9x6,c9x7,c9x8,c9x9,c9x10,c9x11,RUA,RUB,RUC,RUD,RUE,RUF,if_true,if_false,Int.reduceEq,Int.reduceLT,Int.reduceLE,qC,qO,qA,qS,qU,Nat.reduceEqDiff,qT,E.at,qR,Nat.reduceAdd,Nat.reduceSub,Nat.reduceLeDiff,Nat.reduceMul,qI,qP,qQ,q_sub]
  refine (merge2_ok hS la' lb' (by have := c5 a; have := c5 b; unfold cap; omega)).callF rfl (vfr3 hS _ _) fun um hum => ?_
  have h5 := psizes_p hum
  rw [szS_mrg la' lb'] at h5
  try simp only [c9,c9x1,c9x2,c9x3,c9x4,c9x5,c9x6,c9x7,c9x8,c9x9,c9x10,c9x11,RUA,RUB,RUC,RUD,RUE,RUF,if_true,if_false,Int.reduceEq,Int.reduceLT,Int.reduceLE,qC,qO,qA,qS,qU,Nat.reduceEqDiff,qT,E.at,qR,Nat.reduceAdd,Nat.reduceSub,Nat.reduceLeDiff,Nat.reduceMul,qI,qP,qQ]
  refine h5.callE rfl (cf1 hum.freeV _) rfl ?_
  try simp only [c9,c9x1,c9x2,c9x3,c9x4,c9x5,c9x6,c9x7,c9x8,c9x9,c9x10,c9x11,RUA,RUB,RUC,RUD,RUE,RUF,if_true,if_false,Int.reduceEq,Int.reduceLT,Int.reduceLE,qC,qO,qA,qS,qU,Nat.reduceEqDiff,qT,E.at,qR,Nat.reduceAdd,Nat.reduceSub,Nat.reduceLeDiff,Nat.reduceMul,qI,qP,qQ,q_same]
  refine (rsizes_p hS).callE rfl (cf1 hS.freeV _) rfl ?_
  try simp only [c9,c9x1,c9x2,c9x3,c9x4,c9x5,c9x6,c9x7,c9x8,c9x9,c9x10,c9x11,RUA,RUB,RUC,RUD,RUE,RUF,if_true,if_false,Int.reduceEq,Int.reduceLT,Int.reduceLE,qC,qO,qA,qS,qU,Nat.reduceEqDiff,qT,E.at,qR,Nat.reduceAdd,Nat.reduceSub,Nat.reduceLeDiff,Nat.reduceMul,qI,qP,qQ,q_same]
end Go.Proofs.Ytfncfdiomolieaa
end

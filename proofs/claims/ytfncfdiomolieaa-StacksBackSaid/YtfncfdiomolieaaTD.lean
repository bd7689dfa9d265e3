/- Parts of the texts that the claim's proof needs: functions of the program as the evaluator reads them, and what they come to. Conditions: those that its theorems state. -/
import Derived.Test.YtfncfdiomolieaaTC

section
set_option linter.unusedVariables false
set_option linter.unusedSimpArgs false
set_option maxRecDepth 100000
set_option maxHeartbeats 4000000
open Go.Proofs.Pe renaming putCells → qC, bslOf → qO, bsaOf → qA, bslS → qS, isUpto → qU, step → qT, intOf → qI, iop → qP, sop → qQ
open List renaming replicate → qR
open Go.Proofs.Pe.V renaming dead → qD
namespace Go.Proofs.Ytfncfdiomolieaa
open Go.Proofs.Pe

theorem make3_t0 {k a b d : Int} {e : List Rw} {l : List R3} {ev lv : V} {evs vs : List V} {s1 s2 s3 : ByteArray} {ak bk ak2 an2 bk2 bn2 : Int} {an at' am2 bn bt' bm2 : ByteArray} {av al bv bl : V} {o : List O} {p q : Nat} {x10 x11 x12 x13 x14 x15 x16 x17 x18 x19 x20 x21 x22 x23 x24 x25 x26 x27 x28 x29 x30 x31 x32 x33 : V}
    (hk : withinI k 20 = 0)
    (e1 : IsSl 3 ev evs) (e3 : All2 IsRw e evs) (hza : prP (.agg [iV ak,sV an,sV at',iV ak2,iV an2,sV am2,av,al])) (hzb : prP (.agg [iV bk,sV bn,sV bt',iV bk2,iV bn2,sV bm2,bv,bl]))
    (g0 : o[0]? = some (.cells [iV k,iV a,iV b,ev,lv])) (g1 : o[1]? = some (.cells [iV 0,sV (ByteArray.mk #[]),sV (ByteArray.mk #[]),iV 0,iV 0,sV (ByteArray.mk #[]),nilV,nilV]))
    (gp : o[p]? = some (.cells [iV ak,sV an,sV at',iV ak2,iV an2,sV am2,av,al])) (gq : o[q]? = some (.cells [iV bk,sV bn,sV bt',iV bk2,iV bn2,sV bm2,bv,bl])) {yi : Nat → Sem'} (hy : YLe yi yi) :
    Pe.ev Try.prog T (Pe.Call Try.prog T) Lfp c51x3 none yi ⟨⟨(.agg [iV k,iV a,iV b,ev,lv] :: iV d :: .pt 0 0 :: qD::.pt 1 0 :: sV s1 :: sV s2 :: sV s3 :: .pt p 0 :: .pt q 0 :: x10 :: x11 :: x12 :: x13 :: x14 :: x15 :: x16 :: x17 :: x18 :: x19 :: x20 :: x21 :: x22 :: x23 :: x24 :: x25 :: x26 :: x27 :: x28 :: x29 :: x30 :: x31 :: x32 :: x33 :: qD::qD::qD::qD::qD::qD::qD::qD::qD::qD::qD::qD::qD::qD::qD::qD::qD::qD::qD::qD::qD::qD::qD::qD::qD::qD::qD::qD::qD::qD::qD::qD::qD::qD::qD::qD::qD::qD::qD::qD::qD::qD::qD::qD::qD::qD::qD::qD::qD::qD::qD::qD::qD::qD::qD::qD::qD::qD::qD::qD::qD::qD::qD::qD::qD::qD::qD::qD::qD::qD::qD::qD::qD::qD::qD::qD::qD::qD::qD::qD::qD::qD::qD::qD::qD::qD::qD::qD::qD::qD::qD::qD::qD::qD::qD::qD::qD::qD::qD::[]),o⟩,[]⟩ (endK [Rv.cell 4 true 8] fun y o' => ∃ z o2,freezeT o' y = some (z,o2) ∧ prP z) := by
  have hg : ∀ c,(o.set 1 c)[1]? = some c := fun c => get_set g1
  have hfa := hza.ok.1
  have hfb := hzb.ok.1
  simp only [c51,c51x1,c51x2,c51x3,RUA,RUB,RUC,RUD,RUE,RUF,if_true,if_false,Int.reduceEq,Int.reduceLT,Int.reduceLE,qC,qO,qA,qS,qU,Nat.reduceEqDiff,qT,E.at,qR,Nat.reduceAdd,Nat.reduceSub,Nat.reduceLeDiff,Nat.reduceMul,qI,qP,qQ,g0]
  refine (within3_p _ 20 (by decide) (by decide)).callE rfl rfl rfl ?_
  rw [hk]
  simp only [c51,c51x1,c51x2,c51x3,c51x4,c51x5,c51x6,c51x7,c51x8,c51x9,c51x10,c51x11,c51x12,c51x13,c51x14,c51x15,c51x16,c51x17,c51x18,c51x19,c51x20,c51x21,c51x22,c51x23,RUA,RUB,RUC,RUD,RUE,RUF,if_true,if_false,Int.reduceEq,Int.reduceLT,Int.reduceLE,qC,qO,qA,qS,qU,Nat.reduceEqDiff,qT,E.at,qR,Nat.reduceAdd,Nat.reduceSub,Nat.reduceLeDiff,Nat.reduceMul,qI,qP,qQ,g0]
  refine (within3_p _ 3 (by decide) (by decide)).callE rfl rfl rfl ?_
  obtain ⟨s4,hs4⟩ := w3 (a := b) (n := 3) (nm := nmA) (f := true) (by decide) rfl
  have hs4' : ∀ o,ixOf 1 o (.sl 1 true [sV ⟨#[112,97,121]⟩,sV ⟨#[115,104,105,112]⟩,sV ⟨#[97,115,107]⟩]) (iV (withinI b 3)) = some (.ep [sV s4],o) := hs4
  simp only [c51,c51x1,c51x2,c51x3,c51x4,c51x5,c51x6,c51x7,c51x8,c51x9,c51x10,c51x11,c51x12,c51x13,c51x14,c51x15,c51x16,c51x17,c51x18,c51x19,c51x20,c51x21,c51x22,c51x23,RUA,RUB,RUC,RUD,RUE,RUF,if_true,if_false,Int.reduceEq,Int.reduceLT,Int.reduceLE,qC,qO,qA,qS,qU,Nat.reduceEqDiff,qT,E.at,qR,Nat.reduceAdd,Nat.reduceSub,Nat.reduceLeDiff,Nat.reduceMul,qI,qP,qQ,g1,hs4',fillC,rets,hg]
  exact (prLeaf _ (by decide) _ _).fr _

theorem make3_t1 {k a b d : Int} {e : List Rw} {l : List R3} {ev lv : V} {evs vs : List V} {s1 s2 s3 : ByteArray} {ak bk ak2 an2 bk2 bn2 : Int} {an at' am2 bn bt' bm2 : ByteArray} {av al bv bl : V} {o : List O} {p q : Nat} {x10 x11 x12 x13 x14 x15 x16 x17 x18 x19 x20 x21 x22 x23 x24 x25 x26 x27 x28 x29 x30 x31 x32 x33 : V}
    (hk : withinI k 20 = 1)
    (e1 : IsSl 3 ev evs) (e3 : All2 IsRw e evs) (hza : prP (.agg [iV ak,sV an,sV at',iV ak2,iV an2,sV am2,av,al])) (hzb : prP (.agg [iV bk,sV bn,sV bt',iV bk2,iV bn2,sV bm2,bv,bl]))
    (g0 : o[0]? = some (.cells [iV k,iV a,iV b,ev,lv])) (g1 : o[1]? = some (.cells [iV 0,sV (ByteArray.mk #[]),sV (ByteArray.mk #[]),iV 0,iV 0,sV (ByteArray.mk #[]),nilV,nilV]))
    (gp : o[p]? = some (.cells [iV ak,sV an,sV at',iV ak2,iV an2,sV am2,av,al])) (gq : o[q]? = some (.cells [iV bk,sV bn,sV bt',iV bk2,iV bn2,sV bm2,bv,bl])) {yi : Nat → Sem'} (hy : YLe yi yi) :
    Pe.ev Try.prog T (Pe.Call Try.prog T) Lfp c51x3 none yi ⟨⟨(.agg [iV k,iV a,iV b,ev,lv] :: iV d :: .pt 0 0 :: qD::.pt 1 0 :: sV s1 :: sV s2 :: sV s3 :: .pt p 0 :: .pt q 0 :: x10 :: x11 :: x12 :: x13 :: x14 :: x15 :: x16 :: x17 :: x18 :: x19 :: x20 :: x21 :: x22 :: x23 :: x24 :: x25 :: x26 :: x27 :: x28 :: x29 :: x30 :: x31 :: x32 :: x33 :: qD::qD::qD::qD::qD::qD::qD::qD::qD::qD::qD::qD::qD::qD::qD::qD::qD::qD::qD::qD::qD::qD::qD::qD::qD::qD::qD::qD::qD::qD::qD::qD::qD::qD::qD::qD::qD::qD::qD::qD::qD::qD::qD::qD::qD::qD::qD::qD::qD::qD::qD::qD::qD::qD::qD::qD::qD::qD::qD::qD::qD::qD::qD::qD::qD::qD::qD::qD::qD::qD::qD::qD::qD::qD::qD::qD::qD::qD::qD::qD::qD::qD::qD::qD::qD::qD::qD::qD::qD::qD::qD::qD::qD::qD::qD::qD::qD::qD::qD::[]),o⟩,[]⟩ (endK [Rv.cell 4 true 8] fun y o' => ∃ z o2,freezeT o' y = some (z,o2) ∧ prP z) := by
  have hg : ∀ c,(o.set 1 c)[1]? = some c := fun c => get_set g1
  have hfa := hza.ok.1
  have hfb := hzb.ok.1
  simp only [c51,c51x1,c51x2,c51x3,RUA,RUB,RUC,RUD,RUE,RUF,if_true,if_false,Int.reduceEq,Int.reduceLT,Int.reduceLE,qC,qO,qA,qS,qU,Nat.reduceEqDiff,qT,E.at,qR,Nat.reduceAdd,Nat.reduceSub,Nat.reduceLeDiff,Nat.reduceMul,qI,qP,qQ,g0]
  refine (within3_p _ 20 (by decide) (by decide)).callE rfl rfl rfl ?_
  rw [hk]
  simp only [c51,c51x1,c51x2,c51x3,c51x4,c51x5,c51x6,c51x7,c51x8,c51x9,c51x10,c51x11,c51x12,c51x13,c51x14,c51x15,c51x16,c51x17,c51x18,c51x19,c51x20,c51x21,c51x22,c51x23,RUA,RUB,RUC,RUD,RUE,RUF,if_true,if_false,Int.reduceEq,Int.reduceLT,Int.reduceLE,qC,qO,qA,qS,qU,Nat.reduceEqDiff,qT,E.at,qR,Nat.reduceAdd,Nat.reduceSub,Nat.reduceLeDiff,Nat.reduceMul,qI,qP,qQ,g0]
  refine (within3_p _ 3 (by decide) (by decide)).callE rfl rfl rfl ?_
  obtain ⟨s4,hs4⟩ := w3 (a := b) (n := 3) (nm := nmA) (f := true) (by decide) rfl
  have hs4' : ∀ o,ixOf 1 o (.sl 1 true [sV ⟨#[112,97,121]⟩,sV ⟨#[115,104,105,112]⟩,sV ⟨#[97,115,107]⟩]) (iV (withinI b 3)) = some (.ep [sV s4],o) := hs4
  simp only [c51,c51x1,c51x2,c51x3,c51x4,c51x5,c51x6,c51x7,c51x8,c51x9,c51x10,c51x11,c51x12,c51x13,c51x14,c51x15,c51x16,c51x17,c51x18,c51x19,c51x20,c51x21,c51x22,c51x23,RUA,RUB,RUC,RUD,RUE,RUF,if_true,if_false,Int.reduceEq,Int.reduceLT,Int.reduceLE,qC,qO,qA,qS,qU,Nat.reduceEqDiff,qT,E.at,qR,Nat.reduceAdd,Nat.reduceSub,Nat.reduceLeDiff,Nat.reduceMul,qI,qP,qQ,g1,hs4',fillC,rets,hg]
  exact (prLeaf _ (by decide) _ _).fr _

theorem make3_t2 {k a b d : Int} {e : List Rw} {l : List R3} {ev lv : V} {evs vs : List V} {s1 s2 s3 : ByteArray} {ak bk ak2 an2 bk2 bn2 : Int} {an at' am2 bn bt' bm2 : ByteArray} {av al bv bl : V} {o : List O} {p q : Nat} {x10 x11 x12 x13 x14 x15 x16 x17 x18 x19 x20 x21 x22 x23 x24 x25 x26 x27 x28 x29 x30 x31 x32 x33 : V}
    (hk : withinI k 20 = 2)
    (e1 : IsSl 3 ev evs) (e3 : All2 IsRw e evs) (hza : prP (.agg [iV ak,sV an,sV at',iV ak2,iV an2,sV am2,av,al])) (hzb : prP (.agg [iV bk,sV bn,sV bt',iV bk2,iV bn2,sV bm2,bv,bl]))
    (g0 : o[0]? = some (.cells [iV k,iV a,iV b,ev,lv])) (g1 : o[1]? = some (.cells [iV 0,sV (ByteArray.mk #[]),sV (ByteArray.mk #[]),iV 0,iV 0,sV (ByteArray.mk #[]),nilV,nilV]))
    (gp : o[p]? = some (.cells [iV ak,sV an,sV at',iV ak2,iV an2,sV am2,av,al])) (gq : o[q]? = some (.cells [iV bk,sV bn,sV bt',iV bk2,iV bn2,sV bm2,bv,bl])) {yi : Nat → Sem'} (hy : YLe yi yi) :
    Pe.ev Try.prog T (Pe.Call Try.prog T) Lfp c51x3 none yi ⟨⟨(.agg [iV k,iV a,iV b,ev,lv] :: iV d :: .pt 0 0 :: qD::.pt 1 0 :: sV s1 :: sV s2 :: sV s3 :: .pt p 0 :: .pt q 0 :: x10 :: x11 :: x12 :: x13 :: x14 :: x15 :: x16 :: x17 :: x18 :: x19 :: x20 :: x21 :: x22 :: x23 :: x24 :: x25 :: x26 :: x27 :: x28 :: x29 :: x30 :: x31 :: x32 :: x33 :: qD::qD::qD::qD::qD::qD::qD::qD::qD::qD::qD::qD::qD::qD::qD::qD::qD::qD::qD::qD::qD::qD::qD::qD::qD::qD::qD::qD::qD::qD::qD::qD::qD::qD::qD::qD::qD::qD::qD::qD::qD::qD::qD::qD::qD::qD::qD::qD::qD::qD::qD::qD::qD::qD::qD::qD::qD::qD::qD::qD::qD::qD::qD::qD::qD::qD::qD::qD::qD::qD::qD::qD::qD::qD::qD::qD::qD::qD::qD::qD::qD::qD::qD::qD::qD::qD::qD::qD::qD::qD::qD::qD::qD::qD::qD::qD::qD::qD::qD::[]),o⟩,[]⟩ (endK [Rv.cell 4 true 8] fun y o' => ∃ z o2,freezeT o' y = some (z,o2) ∧ prP z) := by
  have hg : ∀ c,(o.set 1 c)[1]? = some c := fun c => get_set g1
  have hfa := hza.ok.1
  have hfb := hzb.ok.1
  simp only [c51,c51x1,c51x2,c51x3,RUA,RUB,RUC,RUD,RUE,RUF,if_true,if_false,Int.reduceEq,Int.reduceLT,Int.reduceLE,qC,qO,qA,qS,qU,Nat.reduceEqDiff,qT,E.at,qR,Nat.reduceAdd,Nat.reduceSub,Nat.reduceLeDiff,Nat.reduceMul,qI,qP,qQ,g0]
  refine (within3_p _ 20 (by decide) (by decide)).callE rfl rfl rfl ?_
  rw [hk]
  simp only [c51,c51x1,c51x2,c51x3,c51x4,c51x5,c51x6,c51x7,c51x8,c51x9,c51x10,c51x11,c51x12,c51x13,c51x14,c51x15,c51x16,c51x17,c51x18,c51x19,c51x20,c51x21,c51x22,c51x23,RUA,RUB,RUC,RUD,RUE,RUF,if_true,if_false,Int.reduceEq,Int.reduceLT,Int.reduceLE,qC,qO,qA,qS,qU,Nat.reduceEqDiff,qT,E.at,qR,Nat.reduceAdd,Nat.reduceSub,Nat.reduceLeDiff,Nat.reduceMul,qI,qP,qQ,g0]
  refine (within3_p _ 3 (by decide) (by decide)).callE rfl rfl rfl ?_
  obtain ⟨s4,hs4⟩ := w3 (a := b) (n := 3) (nm := nmA) (f := true) (by decide) rfl
  have hs4' : ∀ o,ixOf 1 o (.sl 1 true [sV ⟨#[112,97,121]⟩,sV ⟨#[115,104,105,112]⟩,sV ⟨#[97,115,107]⟩]) (iV (withinI b 3)) = some (.ep [sV s4],o) := hs4
  simp only [c51,c51x1,c51x2,c51x3,c51x4,c51x5,c51x6,c51x7,c51x8,c51x9,c51x10,c51x11,c51x12,c51x13,c51x14,c51x15,c51x16,c51x17,c51x18,c51x19,c51x20,c51x21,c51x22,c51x23,RUA,RUB,RUC,RUD,RUE,RUF,if_true,if_false,Int.reduceEq,Int.reduceLT,Int.reduceLE,qC,qO,qA,qS,qU,Nat.reduceEqDiff,qT,E.at,qR,Nat.reduceAdd,Nat.reduceSub,Nat.reduceLeDiff,Nat.reduceMul,qI,qP,qQ,g1,hs4',fillC,rets,hg]
  exact (prLeaf _ (by decide) _ _).fr _

theorem make3_t3 {k a b d : Int} {e : List Rw} {l : List R3} {ev lv : V} {evs vs : List V} {s1 s2 s3 : ByteArray} {ak bk ak2 an2 bk2 bn2 : Int} {an at' am2 bn bt' bm2 : ByteArray} {av al bv bl : V} {o : List O} {p q : Nat} {x10 x11 x12 x13 x14 x15 x16 x17 x18 x19 x20 x21 x22 x23 x24 x25 x26 x27 x28 x29 x30 x31 x32 x33 : V}
    (hk : withinI k 20 = 3)
    (e1 : IsSl 3 ev evs) (e3 : All2 IsRw e evs) (hza : prP (.agg [iV ak,sV an,sV at',iV ak2,iV an2,sV am2,av,al])) (hzb : prP (.agg [iV bk,sV bn,sV bt',iV bk2,iV bn2,sV bm2,bv,bl]))
    (g0 : o[0]? = some (.cells [iV k,iV a,iV b,ev,lv])) (g1 : o[1]? = some (.cells [iV 0,sV (ByteArray.mk #[]),sV (ByteArray.mk #[]),iV 0,iV 0,sV (ByteArray.mk #[]),nilV,nilV]))
    (gp : o[p]? = some (.cells [iV ak,sV an,sV at',iV ak2,iV an2,sV am2,av,al])) (gq : o[q]? = some (.cells [iV bk,sV bn,sV bt',iV bk2,iV bn2,sV bm2,bv,bl])) {yi : Nat → Sem'} (hy : YLe yi yi) :
    Pe.ev Try.prog T (Pe.Call Try.prog T) Lfp c51x3 none yi ⟨⟨(.agg [iV k,iV a,iV b,ev,lv] :: iV d :: .pt 0 0 :: qD::.pt 1 0 :: sV s1 :: sV s2 :: sV s3 :: .pt p 0 :: .pt q 0 :: x10 :: x11 :: x12 :: x13 :: x14 :: x15 :: x16 :: x17 :: x18 :: x19 :: x20 :: x21 :: x22 :: x23 :: x24 :: x25 :: x26 :: x27 :: x28 :: x29 :: x30 :: x31 :: x32 :: x33 :: qD::qD::qD::qD::qD::qD::qD::qD::qD::qD::qD::qD::qD::qD::qD::qD::qD::qD::qD::qD::qD::qD::qD::qD::qD::qD::qD::qD::qD::qD::qD::qD::qD::qD::qD::qD::qD::qD::qD::qD::qD::qD::qD::qD::qD::qD::qD::qD::qD::qD::qD::qD::qD::qD::qD::qD::qD::qD::qD::qD::qD::qD::qD::qD::qD::qD::qD::qD::qD::qD::qD::qD::qD::qD::qD::qD::qD::qD::qD::qD::qD::qD::qD::qD::qD::qD::qD::qD::qD::qD::qD::qD::qD::qD::qD::qD::qD::qD::qD::[]),o⟩,[]⟩ (endK [Rv.cell 4 true 8] fun y o' => ∃ z o2,freezeT o' y = some (z,o2) ∧ prP z) := by
  have hg : ∀ c,(o.set 1 c)[1]? = some c := fun c => get_set g1
  have hfa := hza.ok.1
  have hfb := hzb.ok.1
  simp only [c51,c51x1,c51x2,c51x3,RUA,RUB,RUC,RUD,RUE,RUF,if_true,if_false,Int.reduceEq,Int.reduceLT,Int.reduceLE,qC,qO,qA,qS,qU,Nat.reduceEqDiff,qT,E.at,qR,Nat.reduceAdd,Nat.reduceSub,Nat.reduceLeDiff,Nat.reduceMul,qI,qP,qQ,g0]
  refine (within3_p _ 20 (by decide) (by decide)).callE rfl rfl rfl ?_
  rw [hk]
  simp only [c51,c51x1,c51x2,c51x3,c51x4,c51x5,c51x6,c51x7,c51x8,c51x9,c51x10,c51x11,c51x12,c51x13,c51x14,c51x15,c51x16,c51x17,c51x18,c51x19,c51x20,c51x21,c51x22,c51x23,RUA,RUB,RUC,RUD,RUE,RUF,if_true,if_false,Int.reduceEq,Int.reduceLT,Int.reduceLE,qC,qO,qA,qS,qU,Nat.reduceEqDiff,qT,E.at,qR,Nat.reduceAdd,Nat.reduceSub,Nat.reduceLeDiff,Nat.reduceMul,qI,qP,qQ,g0]
  refine (within3_p _ 3 (by decide) (by decide)).callE rfl rfl rfl ?_
  obtain ⟨s4,hs4⟩ := w3 (a := b) (n := 3) (nm := nmA) (f := true) (by decide) rfl
  have hs4' : ∀ o,ixOf 1 o (.sl 1 true [sV ⟨#[112,97,121]⟩,sV ⟨#[115,104,105,112]⟩,sV ⟨#[97,115,107]⟩]) (iV (withinI b 3)) = some (.ep [sV s4],o) := hs4
  simp only [c51,c51x1,c51x2,c51x3,c51x4,c51x5,c51x6,c51x7,c51x8,c51x9,c51x10,c51x11,c51x12,c51x13,c51x14,c51x15,c51x16,c51x17,c51x18,c51x19,c51x20,c51x21,c51x22,c51x23,RUA,RUB,RUC,RUD,RUE,RUF,if_true,if_false,Int.reduceEq,Int.reduceLT,Int.reduceLE,qC,qO,qA,qS,qU,Nat.reduceEqDiff,qT,E.at,qR,Nat.reduceAdd,Nat.reduceSub,Nat.reduceLeDiff,Nat.reduceMul,qI,qP,qQ,g1,hs4',fillC,rets,hg]
  exact (prLeaf _ (by decide) _ _).fr _

theorem make3_t13 {k a b d : Int} {e : List Rw} {l : List R3} {ev lv : V} {evs vs : List V} {s1 s2 s3 : ByteArray} {ak bk ak2 an2 bk2 bn2 : Int} {an at' am2 bn bt' bm2 : ByteArray} {av al bv bl : V} {o : List O} {p q : Nat} {x10 x11 x12 x13 x14 x15 x16 x17 x18 x19 x20 x21 x22 x23 x24 x25 x26 x27 x28 x29 x30 x31 x32 x33 : V}
    (hk : withinI k 20 = 13)
    (e1 : IsSl 3 ev evs) (e3 : All2 IsRw e evs) (hza : prP (.agg [iV ak,sV an,sV at',iV ak2,iV an2,sV am2,av,al])) (hzb : prP (.agg [iV bk,sV bn,sV bt',iV bk2,iV bn2,sV bm2,bv,bl]))
    (g0 : o[0]? = some (.cells [iV k,iV a,iV b,ev,lv])) (g1 : o[1]? = some (.cells [iV 0,sV (ByteArray.mk #[]),sV (ByteArray.mk #[]),iV 0,iV 0,sV (ByteArray.mk #[]),nilV,nilV]))
    (gp : o[p]? = some (.cells [iV ak,sV an,sV at',iV ak2,iV an2,sV am2,av,al])) (gq : o[q]? = some (.cells [iV bk,sV bn,sV bt',iV bk2,iV bn2,sV bm2,bv,bl])) {yi : Nat → Sem'} (hy : YLe yi yi) :
    Pe.ev Try.prog T (Pe.Call Try.prog T) Lfp c51x3 none yi ⟨⟨(.agg [iV k,iV a,iV b,ev,lv] :: iV d :: .pt 0 0 :: qD::.pt 1 0 :: sV s1 :: sV s2 :: sV s3 :: .pt p 0 :: .pt q 0 :: x10 :: x11 :: x12 :: x13 :: x14 :: x15 :: x16 :: x17 :: x18 :: x19 :: x20 :: x21 :: x22 :: x23 :: x24 :: x25 :: x26 :: x27 :: x28 :: x29 :: x30 :: x31 :: x32 :: x33 :: qD::qD::qD::qD::qD::qD::qD::qD::qD::qD::qD::qD::qD::qD::qD::qD::qD::qD::qD::qD::qD::qD::qD::qD::qD::qD::qD::qD::qD::qD::qD::qD::qD::qD::qD::qD::qD::qD::qD::qD::qD::qD::qD::qD::qD::qD::qD::qD::qD::qD::qD::qD::qD::qD::qD::qD::qD::qD::qD::qD::qD::qD::qD::qD::qD::qD::qD::qD::qD::qD::qD::qD::qD::qD::qD::qD::qD::qD::qD::qD::qD::qD::qD::qD::qD::qD::qD::qD::qD::qD::qD::qD::qD::qD::qD::qD::qD::qD::qD::[]),o⟩,[]⟩ (endK [Rv.cell 4 true 8] fun y o' => ∃ z o2,freezeT o' y = some (z,o2) ∧ prP z) := by
  have hg : ∀ c,(o.set 1 c)[1]? = some c := fun c => get_set g1
  have hfa := hza.ok.1
  have hfb := hzb.ok.1
  simp only [c51,c51x1,c51x2,c51x3,RUA,RUB,RUC,RUD,RUE,RUF,if_true,if_false,Int.reduceEq,Int.reduceLT,Int.reduceLE,qC,qO,qA,qS,qU,Nat.reduceEqDiff,qT,E.at,qR,Nat.reduceAdd,Nat.reduceSub,Nat.reduceLeDiff,Nat.reduceMul,qI,qP,qQ,g0]
  refine (within3_p _ 20 (by decide) (by decide)).callE rfl rfl rfl ?_
  rw [hk]
  simp only [c51,c51x1,c51x2,c51x3,c51x4,c51x5,c51x6,c51x7,c51x8,c51x9,c51x10,c51x11,c51x12,c51x13,c51x14,c51x15,c51x16,c51x17,c51x18,c51x19,c51x20,c51x21,c51x22,c51x23,RUA,RUB,RUC,RUD,RUE,RUF,if_true,if_false,Int.reduceEq,Int.reduceLT,Int.reduceLE,qC,qO,qA,qS,qU,Nat.reduceEqDiff,qT,E.at,qR,Nat.reduceAdd,Nat.reduceSub,Nat.reduceLeDiff,Nat.reduceMul,qI,qP,qQ,g0,g1,gp,gq,hfa,hfb,fillC,rets,hg]
  exact (prTwo _ _ _ zeroE hza hzb true).fr _

end Go.Proofs.Ytfncfdiomolieaa
end

section
set_option linter.unusedVariables false
set_option linter.unusedSimpArgs false
set_option maxRecDepth 100000
set_option maxHeartbeats 4000000
open Go.Proofs.Pe renaming putCells → qC, bslOf → qO, bsaOf → qA, bslS → qS, isUpto → qU, step → qT, intOf → qI, iop → qP, sop → qQ
open List renaming replicate → qR
open Go.Proofs.Pe.V renaming dead → qD
namespace Go.Proofs.Ytfncfdiomolieaa
open Go.Proofs.Pe

theorem make3_t4 {k a b d : Int} {e : List Rw} {l : List R3} {ev lv : V} {evs vs : List V} {s1 s2 s3 : ByteArray} {ak bk ak2 an2 bk2 bn2 : Int} {an at' am2 bn bt' bm2 : ByteArray} {av al bv bl : V} {o : List O} {p q : Nat} {x10 x11 x12 x13 x14 x15 x16 x17 x18 x19 x20 x21 x22 x23 x24 x25 x26 x27 x28 x29 x30 x31 x32 x33 : V}
    (hk : withinI k 20 = 4)
    (e1 : IsSl 3 ev evs) (e3 : All2 IsRw e evs) (hza : prP (.agg [iV ak,sV an,sV at',iV ak2,iV an2,sV am2,av,al])) (hzb : prP (.agg [iV bk,sV bn,sV bt',iV bk2,iV bn2,sV bm2,bv,bl]))
    (g0 : o[0]? = some (.cells [iV k,iV a,iV b,ev,lv])) (g1 : o[1]? = some (.cells [iV 0,sV (ByteArray.mk #[]),sV (ByteArray.mk #[]),iV 0,iV 0,sV (ByteArray.mk #[]),nilV,nilV]))
    (gp : o[p]? = some (.cells [iV ak,sV an,sV at',iV ak2,iV an2,sV am2,av,al])) (gq : o[q]? = some (.cells [iV bk,sV bn,sV bt',iV bk2,iV bn2,sV bm2,bv,bl])) {yi : Nat → Sem'} (hy : YLe yi yi) :
    Pe.ev Try.prog T (Pe.Call Try.prog T) Lfp c51x3 none yi ⟨⟨(.agg [iV k,iV a,iV b,ev,lv] :: iV d :: .pt 0 0 :: qD::.pt 1 0 :: sV s1 :: sV s2 :: sV s3 :: .pt p 0 :: .pt q 0 :: x10 :: x11 :: x12 :: x13 :: x14 :: x15 :: x16 :: x17 :: x18 :: x19 :: x20 :: x21 :: x22 :: x23 :: x24 :: x25 :: x26 :: x27 :: x28 :: x29 :: x30 :: x31 :: x32 :: x33 :: qD::qD::qD::qD::qD::qD::qD::qD::qD::qD::qD::qD::qD::qD::qD::qD::qD::qD::qD::qD::qD::qD::qD::qD::qD::qD::qD::qD::qD::qD::qD::qD::qD::qD::qD::qD::qD::qD::qD::qD::qD::qD::qD::qD::qD::qD::qD::qD::qD::qD::qD::qD::qD::qD::qD::qD::qD::qD::qD::qD::qD::qD::qD::qD::qD::qD::qD::qD::qD::qD::qD::qD::qD::qD::qD::qD::qD::qD::qD::qD::qD::qD::qD::qD::qD::qD::qD::qD::qD::qD::qD::qD::qD::qD::qD::qD::qD::qD::qD::[]),o⟩,[]⟩ (endK [Rv.cell 4 true 8] fun y o' => ∃ z o2,freezeT o' y = some (z,o2) ∧ prP z) := by
  have hg : ∀ c,(o.set 1 c)[1]? = some c := fun c => get_set g1
  have hfa := hza.ok.1
  have hfb := hzb.ok.1
  simp only [c51,c51x1,c51x2,c51x3,RUA,RUB,RUC,RUD,RUE,RUF,if_true,if_false,Int.reduceEq,Int.reduceLT,Int.reduceLE,qC,qO,qA,qS,qU,Nat.reduceEqDiff,qT,E.at,qR,Nat.reduceAdd,Nat.reduceSub,Nat.reduceLeDiff,Nat.reduceMul,qI,qP,qQ,g0]
  refine (within3_p _ 20 (by decide) (by decide)).callE rfl rfl rfl ?_
  rw [hk]
  simp only [c51,c51x1,c51x2,c51x3,c51x4,c51x5,c51x6,c51x7,c51x8,c51x9,c51x10,c51x11,c51x12,c51x13,c51x14,c51x15,c51x16,c51x17,c51x18,c51x19,c51x20,c51x21,c51x22,c51x23,RUA,RUB,RUC,RUD,RUE,RUF,if_true,if_false,Int.reduceEq,Int.reduceLT,Int.reduceLE,qC,qO,qA,qS,qU,Nat.reduceEqDiff,qT,E.at,qR,Nat.reduceAdd,Nat.reduceSub,Nat.reduceLeDiff,Nat.reduceMul,qI,qP,qQ,g0,gp,gq,hfa,hfb]
  repeat' (first
    | (refine And.intro ?_ ?_)
    | exact trivial
    | (refine vars_p.callF rfl (by simp) fun z hz => ?_
       subst hz)
    | (refine (one2_p (nm := nmV) (.inr ⟨true,rfl⟩) (by decide) e1 e3).callF rfl (fun x hx => by simp only [List.mem_cons,List.not_mem_nil,or_false] at hx; rcases hx with rfl | rfl <;> first | exact e1.freeV | rfl) fun z hz => ?_
       have hz' := hz
       generalize oneS nmV e = ex at hz hz'
       rcases ex with ⟨qk,qn,qm,ql⟩
       obtain ⟨zv,zs,rfl,z1,_,_⟩ := hz
       have ho := free1_one z1.free
       simp only [c51,c51x1,c51x2,c51x3,c51x4,c51x5,c51x6,c51x7,c51x8,c51x9,c51x10,c51x11,c51x12,c51x13,c51x14,c51x15,c51x16,c51x17,c51x18,c51x19,c51x20,c51x21,c51x22,c51x23,RUA,RUB,RUC,RUD,RUE,RUF,if_true,if_false,Int.reduceEq,Int.reduceLT,Int.reduceLE,qC,qO,qA,qS,qU,Nat.reduceEqDiff,qT,E.at,qR,Nat.reduceAdd,Nat.reduceSub,Nat.reduceLeDiff,Nat.reduceMul,qI,qP,qQ,g1,gp,gq,ho,hfa,hfb,fillC,rets,hg])
    | (simp only [c51,c51x1,c51x2,c51x3,c51x4,c51x5,c51x6,c51x7,c51x8,c51x9,c51x10,c51x11,c51x12,c51x13,c51x14,c51x15,c51x16,c51x17,c51x18,c51x19,c51x20,c51x21,c51x22,c51x23,RUA,RUB,RUC,RUD,RUE,RUF,if_true,if_false,Int.reduceEq,Int.reduceLT,Int.reduceLE,qC,qO,qA,qS,qU,Nat.reduceEqDiff,qT,E.at,qR,Nat.reduceAdd,Nat.reduceSub,Nat.reduceLeDiff,Nat.reduceMul,qI,qP,qQ,g1,gp,gq,hfa,hfb,fillC,rets,hg]))
  all_goals exact (prSet _ _ (by decide) (by assumption)).fr _

end Go.Proofs.Ytfncfdiomolieaa
end

section
set_option linter.unusedVariables false
set_option linter.unusedSimpArgs false
set_option maxRecDepth 100000
set_option maxHeartbeats 4000000
open Go.Proofs.Pe renaming putCells → qC, bslOf → qO, bsaOf → qA, bslS → qS, isUpto → qU, step → qT, intOf → qI, iop → qP, sop → qQ
open List renaming replicate → qR
open Go.Proofs.Pe.V renaming dead → qD
namespace Go.Proofs.Ytfncfdiomolieaa
open Go.Proofs.Pe

theorem make3_t5 {k a b d : Int} {e : List Rw} {l : List R3} {ev lv : V} {evs vs : List V} {s1 s2 s3 : ByteArray} {ak bk ak2 an2 bk2 bn2 : Int} {an at' am2 bn bt' bm2 : ByteArray} {av al bv bl : V} {o : List O} {p q : Nat} {x10 x11 x12 x13 x14 x15 x16 x17 x18 x19 x20 x21 x22 x23 x24 x25 x26 x27 x28 x29 x30 x31 x32 x33 : V}
    (hk : withinI k 20 = 5)
    (e1 : IsSl 3 ev evs) (e3 : All2 IsRw e evs) (hza : prP (.agg [iV ak,sV an,sV at',iV ak2,iV an2,sV am2,av,al])) (hzb : prP (.agg [iV bk,sV bn,sV bt',iV bk2,iV bn2,sV bm2,bv,bl]))
    (g0 : o[0]? = some (.cells [iV k,iV a,iV b,ev,lv])) (g1 : o[1]? = some (.cells [iV 0,sV (ByteArray.mk #[]),sV (ByteArray.mk #[]),iV 0,iV 0,sV (ByteArray.mk #[]),nilV,nilV]))
    (gp : o[p]? = some (.cells [iV ak,sV an,sV at',iV ak2,iV an2,sV am2,av,al])) (gq : o[q]? = some (.cells [iV bk,sV bn,sV bt',iV bk2,iV bn2,sV bm2,bv,bl])) {yi : Nat → Sem'} (hy : YLe yi yi) :
    Pe.ev Try.prog T (Pe.Call Try.prog T) Lfp c51x3 none yi ⟨⟨(.agg [iV k,iV a,iV b,ev,lv] :: iV d :: .pt 0 0 :: qD::.pt 1 0 :: sV s1 :: sV s2 :: sV s3 :: .pt p 0 :: .pt q 0 :: x10 :: x11 :: x12 :: x13 :: x14 :: x15 :: x16 :: x17 :: x18 :: x19 :: x20 :: x21 :: x22 :: x23 :: x24 :: x25 :: x26 :: x27 :: x28 :: x29 :: x30 :: x31 :: x32 :: x33 :: qD::qD::qD::qD::qD::qD::qD::qD::qD::qD::qD::qD::qD::qD::qD::qD::qD::qD::qD::qD::qD::qD::qD::qD::qD::qD::qD::qD::qD::qD::qD::qD::qD::qD::qD::qD::qD::qD::qD::qD::qD::qD::qD::qD::qD::qD::qD::qD::qD::qD::qD::qD::qD::qD::qD::qD::qD::qD::qD::qD::qD::qD::qD::qD::qD::qD::qD::qD::qD::qD::qD::qD::qD::qD::qD::qD::qD::qD::qD::qD::qD::qD::qD::qD::qD::qD::qD::qD::qD::qD::qD::qD::qD::qD::qD::qD::qD::qD::qD::[]),o⟩,[]⟩ (endK [Rv.cell 4 true 8] fun y o' => ∃ z o2,freezeT o' y = some (z,o2) ∧ prP z) := by
  have hg : ∀ c,(o.set 1 c)[1]? = some c := fun c => get_set g1
  have hfa := hza.ok.1
  have hfb := hzb.ok.1
  simp only [c51,c51x1,c51x2,c51x3,RUA,RUB,RUC,RUD,RUE,RUF,if_true,if_false,Int.reduceEq,Int.reduceLT,Int.reduceLE,qC,qO,qA,qS,qU,Nat.reduceEqDiff,qT,E.at,qR,Nat.reduceAdd,Nat.reduceSub,Nat.reduceLeDiff,Nat.reduceMul,qI,qP,qQ,g0]
  refine (within3_p _ 20 (by decide) (by decide)).callE rfl rfl rfl ?_
  rw [hk]
  simp only [c51,c51x1,c51x2,c51x3,c51x4,c51x5,c51x6,c51x7,c51x8,c51x9,c51x10,c51x11,c51x12,c51x13,c51x14,c51x15,c51x16,c51x17,c51x18,c51x19,c51x20,c51x21,c51x22,c51x23,RUA,RUB,RUC,RUD,RUE,RUF,if_true,if_false,Int.reduceEq,Int.reduceLT,Int.reduceLE,qC,qO,qA,qS,qU,Nat.reduceEqDiff,qT,E.at,qR,Nat.reduceAdd,Nat.reduceSub,Nat.reduceLeDiff,Nat.reduceMul,qI,qP,qQ,g0,g1,gp,gq,hfa,hfb,fillC,rets,hg]
  exact (prOne _ (by decide) _ _ hza true).fr _

theorem make3_t6 {k a b d : Int} {e : List Rw} {l : List R3} {ev lv : V} {evs vs : List V} {s1 s2 s3 : ByteArray} {ak bk ak2 an2 bk2 bn2 : Int} {an at' am2 bn bt' bm2 : ByteArray} {av al bv bl : V} {o : List O} {p q : Nat} {x10 x11 x12 x13 x14 x15 x16 x17 x18 x19 x20 x21 x22 x23 x24 x25 x26 x27 x28 x29 x30 x31 x32 x33 : V}
    (hk : withinI k 20 = 6)
    (e1 : IsSl 3 ev evs) (e3 : All2 IsRw e evs) (hza : prP (.agg [iV ak,sV an,sV at',iV ak2,iV an2,sV am2,av,al])) (hzb : prP (.agg [iV bk,sV bn,sV bt',iV bk2,iV bn2,sV bm2,bv,bl]))
    (g0 : o[0]? = some (.cells [iV k,iV a,iV b,ev,lv])) (g1 : o[1]? = some (.cells [iV 0,sV (ByteArray.mk #[]),sV (ByteArray.mk #[]),iV 0,iV 0,sV (ByteArray.mk #[]),nilV,nilV]))
    (gp : o[p]? = some (.cells [iV ak,sV an,sV at',iV ak2,iV an2,sV am2,av,al])) (gq : o[q]? = some (.cells [iV bk,sV bn,sV bt',iV bk2,iV bn2,sV bm2,bv,bl])) {yi : Nat → Sem'} (hy : YLe yi yi) :
    Pe.ev Try.prog T (Pe.Call Try.prog T) Lfp c51x3 none yi ⟨⟨(.agg [iV k,iV a,iV b,ev,lv] :: iV d :: .pt 0 0 :: qD::.pt 1 0 :: sV s1 :: sV s2 :: sV s3 :: .pt p 0 :: .pt q 0 :: x10 :: x11 :: x12 :: x13 :: x14 :: x15 :: x16 :: x17 :: x18 :: x19 :: x20 :: x21 :: x22 :: x23 :: x24 :: x25 :: x26 :: x27 :: x28 :: x29 :: x30 :: x31 :: x32 :: x33 :: qD::qD::qD::qD::qD::qD::qD::qD::qD::qD::qD::qD::qD::qD::qD::qD::qD::qD::qD::qD::qD::qD::qD::qD::qD::qD::qD::qD::qD::qD::qD::qD::qD::qD::qD::qD::qD::qD::qD::qD::qD::qD::qD::qD::qD::qD::qD::qD::qD::qD::qD::qD::qD::qD::qD::qD::qD::qD::qD::qD::qD::qD::qD::qD::qD::qD::qD::qD::qD::qD::qD::qD::qD::qD::qD::qD::qD::qD::qD::qD::qD::qD::qD::qD::qD::qD::qD::qD::qD::qD::qD::qD::qD::qD::qD::qD::qD::qD::qD::[]),o⟩,[]⟩ (endK [Rv.cell 4 true 8] fun y o' => ∃ z o2,freezeT o' y = some (z,o2) ∧ prP z) := by
  have hg : ∀ c,(o.set 1 c)[1]? = some c := fun c => get_set g1
  have hfa := hza.ok.1
  have hfb := hzb.ok.1
  simp only [c51,c51x1,c51x2,c51x3,RUA,RUB,RUC,RUD,RUE,RUF,if_true,if_false,Int.reduceEq,Int.reduceLT,Int.reduceLE,qC,qO,qA,qS,qU,Nat.reduceEqDiff,qT,E.at,qR,Nat.reduceAdd,Nat.reduceSub,Nat.reduceLeDiff,Nat.reduceMul,qI,qP,qQ,g0]
  refine (within3_p _ 20 (by decide) (by decide)).callE rfl rfl rfl ?_
  rw [hk]
  simp only [c51,c51x1,c51x2,c51x3,c51x4,c51x5,c51x6,c51x7,c51x8,c51x9,c51x10,c51x11,c51x12,c51x13,c51x14,c51x15,c51x16,c51x17,c51x18,c51x19,c51x20,c51x21,c51x22,c51x23,RUA,RUB,RUC,RUD,RUE,RUF,if_true,if_false,Int.reduceEq,Int.reduceLT,Int.reduceLE,qC,qO,qA,qS,qU,Nat.reduceEqDiff,qT,E.at,qR,Nat.reduceAdd,Nat.reduceSub,Nat.reduceLeDiff,Nat.reduceMul,qI,qP,qQ,g0,g1,gp,gq,hfa,hfb,fillC,rets,hg]
  exact (prOne _ (by decide) _ _ hza true).fr _

theorem make3_t7 {k a b d : Int} {e : List Rw} {l : List R3} {ev lv : V} {evs vs : List V} {s1 s2 s3 : ByteArray} {ak bk ak2 an2 bk2 bn2 : Int} {an at' am2 bn bt' bm2 : ByteArray} {av al bv bl : V} {o : List O} {p q : Nat} {x10 x11 x12 x13 x14 x15 x16 x17 x18 x19 x20 x21 x22 x23 x24 x25 x26 x27 x28 x29 x30 x31 x32 x33 : V}
    (hk : withinI k 20 = 7)
    (e1 : IsSl 3 ev evs) (e3 : All2 IsRw e evs) (hza : prP (.agg [iV ak,sV an,sV at',iV ak2,iV an2,sV am2,av,al])) (hzb : prP (.agg [iV bk,sV bn,sV bt',iV bk2,iV bn2,sV bm2,bv,bl]))
    (g0 : o[0]? = some (.cells [iV k,iV a,iV b,ev,lv])) (g1 : o[1]? = some (.cells [iV 0,sV (ByteArray.mk #[]),sV (ByteArray.mk #[]),iV 0,iV 0,sV (ByteArray.mk #[]),nilV,nilV]))
    (gp : o[p]? = some (.cells [iV ak,sV an,sV at',iV ak2,iV an2,sV am2,av,al])) (gq : o[q]? = some (.cells [iV bk,sV bn,sV bt',iV bk2,iV bn2,sV bm2,bv,bl])) {yi : Nat → Sem'} (hy : YLe yi yi) :
    Pe.ev Try.prog T (Pe.Call Try.prog T) Lfp c51x3 none yi ⟨⟨(.agg [iV k,iV a,iV b,ev,lv] :: iV d :: .pt 0 0 :: qD::.pt 1 0 :: sV s1 :: sV s2 :: sV s3 :: .pt p 0 :: .pt q 0 :: x10 :: x11 :: x12 :: x13 :: x14 :: x15 :: x16 :: x17 :: x18 :: x19 :: x20 :: x21 :: x22 :: x23 :: x24 :: x25 :: x26 :: x27 :: x28 :: x29 :: x30 :: x31 :: x32 :: x33 :: qD::qD::qD::qD::qD::qD::qD::qD::qD::qD::qD::qD::qD::qD::qD::qD::qD::qD::qD::qD::qD::qD::qD::qD::qD::qD::qD::qD::qD::qD::qD::qD::qD::qD::qD::qD::qD::qD::qD::qD::qD::qD::qD::qD::qD::qD::qD::qD::qD::qD::qD::qD::qD::qD::qD::qD::qD::qD::qD::qD::qD::qD::qD::qD::qD::qD::qD::qD::qD::qD::qD::qD::qD::qD::qD::qD::qD::qD::qD::qD::qD::qD::qD::qD::qD::qD::qD::qD::qD::qD::qD::qD::qD::qD::qD::qD::qD::qD::qD::[]),o⟩,[]⟩ (endK [Rv.cell 4 true 8] fun y o' => ∃ z o2,freezeT o' y = some (z,o2) ∧ prP z) := by
  have hg : ∀ c,(o.set 1 c)[1]? = some c := fun c => get_set g1
  have hfa := hza.ok.1
  have hfb := hzb.ok.1
  simp only [c51,c51x1,c51x2,c51x3,RUA,RUB,RUC,RUD,RUE,RUF,if_true,if_false,Int.reduceEq,Int.reduceLT,Int.reduceLE,qC,qO,qA,qS,qU,Nat.reduceEqDiff,qT,E.at,qR,Nat.reduceAdd,Nat.reduceSub,Nat.reduceLeDiff,Nat.reduceMul,qI,qP,qQ,g0]
  refine (within3_p _ 20 (by decide) (by decide)).callE rfl rfl rfl ?_
  rw [hk]
  simp only [c51,c51x1,c51x2,c51x3,c51x4,c51x5,c51x6,c51x7,c51x8,c51x9,c51x10,c51x11,c51x12,c51x13,c51x14,c51x15,c51x16,c51x17,c51x18,c51x19,c51x20,c51x21,c51x22,c51x23,RUA,RUB,RUC,RUD,RUE,RUF,if_true,if_false,Int.reduceEq,Int.reduceLT,Int.reduceLE,qC,qO,qA,qS,qU,Nat.reduceEqDiff,qT,E.at,qR,Nat.reduceAdd,Nat.reduceSub,Nat.reduceLeDiff,Nat.reduceMul,qI,qP,qQ,g0,g1,gp,gq,hfa,hfb,fillC,rets,hg]
  exact (prLeaf _ (by decide) _ _).fr _

theorem make3_t8 {k a b d : Int} {e : List Rw} {l : List R3} {ev lv : V} {evs vs : List V} {s1 s2 s3 : ByteArray} {ak bk ak2 an2 bk2 bn2 : Int} {an at' am2 bn bt' bm2 : ByteArray} {av al bv bl : V} {o : List O} {p q : Nat} {x10 x11 x12 x13 x14 x15 x16 x17 x18 x19 x20 x21 x22 x23 x24 x25 x26 x27 x28 x29 x30 x31 x32 x33 : V}
    (hk : withinI k 20 = 8)
    (e1 : IsSl 3 ev evs) (e3 : All2 IsRw e evs) (hza : prP (.agg [iV ak,sV an,sV at',iV ak2,iV an2,sV am2,av,al])) (hzb : prP (.agg [iV bk,sV bn,sV bt',iV bk2,iV bn2,sV bm2,bv,bl]))
    (g0 : o[0]? = some (.cells [iV k,iV a,iV b,ev,lv])) (g1 : o[1]? = some (.cells [iV 0,sV (ByteArray.mk #[]),sV (ByteArray.mk #[]),iV 0,iV 0,sV (ByteArray.mk #[]),nilV,nilV]))
    (gp : o[p]? = some (.cells [iV ak,sV an,sV at',iV ak2,iV an2,sV am2,av,al])) (gq : o[q]? = some (.cells [iV bk,sV bn,sV bt',iV bk2,iV bn2,sV bm2,bv,bl])) {yi : Nat → Sem'} (hy : YLe yi yi) :
    Pe.ev Try.prog T (Pe.Call Try.prog T) Lfp c51x3 none yi ⟨⟨(.agg [iV k,iV a,iV b,ev,lv] :: iV d :: .pt 0 0 :: qD::.pt 1 0 :: sV s1 :: sV s2 :: sV s3 :: .pt p 0 :: .pt q 0 :: x10 :: x11 :: x12 :: x13 :: x14 :: x15 :: x16 :: x17 :: x18 :: x19 :: x20 :: x21 :: x22 :: x23 :: x24 :: x25 :: x26 :: x27 :: x28 :: x29 :: x30 :: x31 :: x32 :: x33 :: qD::qD::qD::qD::qD::qD::qD::qD::qD::qD::qD::qD::qD::qD::qD::qD::qD::qD::qD::qD::qD::qD::qD::qD::qD::qD::qD::qD::qD::qD::qD::qD::qD::qD::qD::qD::qD::qD::qD::qD::qD::qD::qD::qD::qD::qD::qD::qD::qD::qD::qD::qD::qD::qD::qD::qD::qD::qD::qD::qD::qD::qD::qD::qD::qD::qD::qD::qD::qD::qD::qD::qD::qD::qD::qD::qD::qD::qD::qD::qD::qD::qD::qD::qD::qD::qD::qD::qD::qD::qD::qD::qD::qD::qD::qD::qD::qD::qD::qD::[]),o⟩,[]⟩ (endK [Rv.cell 4 true 8] fun y o' => ∃ z o2,freezeT o' y = some (z,o2) ∧ prP z) := by
  have hg : ∀ c,(o.set 1 c)[1]? = some c := fun c => get_set g1
  have hfa := hza.ok.1
  have hfb := hzb.ok.1
  simp only [c51,c51x1,c51x2,c51x3,RUA,RUB,RUC,RUD,RUE,RUF,if_true,if_false,Int.reduceEq,Int.reduceLT,Int.reduceLE,qC,qO,qA,qS,qU,Nat.reduceEqDiff,qT,E.at,qR,Nat.reduceAdd,Nat.reduceSub,Nat.reduceLeDiff,Nat.reduceMul,qI,qP,qQ,g0]
  refine (within3_p _ 20 (by decide) (by decide)).callE rfl rfl rfl ?_
  rw [hk]
  simp only [c51,c51x1,c51x2,c51x3,c51x4,c51x5,c51x6,c51x7,c51x8,c51x9,c51x10,c51x11,c51x12,c51x13,c51x14,c51x15,c51x16,c51x17,c51x18,c51x19,c51x20,c51x21,c51x22,c51x23,RUA,RUB,RUC,RUD,RUE,RUF,if_true,if_false,Int.reduceEq,Int.reduceLT,Int.reduceLE,qC,qO,qA,qS,qU,Nat.reduceEqDiff,qT,E.at,qR,Nat.reduceAdd,Nat.reduceSub,Nat.reduceLeDiff,Nat.reduceMul,qI,qP,qQ,g0,g1,gp,gq,hfa,hfb,fillC,rets,hg]
  exact (prLeaf _ (by decide) _ _).fr _

theorem make3_t14 {k a b d : Int} {e : List Rw} {l : List R3} {ev lv : V} {evs vs : List V} {s1 s2 s3 : ByteArray} {ak bk ak2 an2 bk2 bn2 : Int} {an at' am2 bn bt' bm2 : ByteArray} {av al bv bl : V} {o : List O} {p q : Nat} {x10 x11 x12 x13 x14 x15 x16 x17 x18 x19 x20 x21 x22 x23 x24 x25 x26 x27 x28 x29 x30 x31 x32 x33 : V}
    (hk : withinI k 20 = 14)
    (e1 : IsSl 3 ev evs) (e3 : All2 IsRw e evs) (hza : prP (.agg [iV ak,sV an,sV at',iV ak2,iV an2,sV am2,av,al])) (hzb : prP (.agg [iV bk,sV bn,sV bt',iV bk2,iV bn2,sV bm2,bv,bl]))
    (g0 : o[0]? = some (.cells [iV k,iV a,iV b,ev,lv])) (g1 : o[1]? = some (.cells [iV 0,sV (ByteArray.mk #[]),sV (ByteArray.mk #[]),iV 0,iV 0,sV (ByteArray.mk #[]),nilV,nilV]))
    (gp : o[p]? = some (.cells [iV ak,sV an,sV at',iV ak2,iV an2,sV am2,av,al])) (gq : o[q]? = some (.cells [iV bk,sV bn,sV bt',iV bk2,iV bn2,sV bm2,bv,bl])) {yi : Nat → Sem'} (hy : YLe yi yi) :
    Pe.ev Try.prog T (Pe.Call Try.prog T) Lfp c51x3 none yi ⟨⟨(.agg [iV k,iV a,iV b,ev,lv] :: iV d :: .pt 0 0 :: qD::.pt 1 0 :: sV s1 :: sV s2 :: sV s3 :: .pt p 0 :: .pt q 0 :: x10 :: x11 :: x12 :: x13 :: x14 :: x15 :: x16 :: x17 :: x18 :: x19 :: x20 :: x21 :: x22 :: x23 :: x24 :: x25 :: x26 :: x27 :: x28 :: x29 :: x30 :: x31 :: x32 :: x33 :: qD::qD::qD::qD::qD::qD::qD::qD::qD::qD::qD::qD::qD::qD::qD::qD::qD::qD::qD::qD::qD::qD::qD::qD::qD::qD::qD::qD::qD::qD::qD::qD::qD::qD::qD::qD::qD::qD::qD::qD::qD::qD::qD::qD::qD::qD::qD::qD::qD::qD::qD::qD::qD::qD::qD::qD::qD::qD::qD::qD::qD::qD::qD::qD::qD::qD::qD::qD::qD::qD::qD::qD::qD::qD::qD::qD::qD::qD::qD::qD::qD::qD::qD::qD::qD::qD::qD::qD::qD::qD::qD::qD::qD::qD::qD::qD::qD::qD::qD::[]),o⟩,[]⟩ (endK [Rv.cell 4 true 8] fun y o' => ∃ z o2,freezeT o' y = some (z,o2) ∧ prP z) := by
  have hg : ∀ c,(o.set 1 c)[1]? = some c := fun c => get_set g1
  have hfa := hza.ok.1
  have hfb := hzb.ok.1
  simp only [c51,c51x1,c51x2,c51x3,RUA,RUB,RUC,RUD,RUE,RUF,if_true,if_false,Int.reduceEq,Int.reduceLT,Int.reduceLE,qC,qO,qA,qS,qU,Nat.reduceEqDiff,qT,E.at,qR,Nat.reduceAdd,Nat.reduceSub,Nat.reduceLeDiff,Nat.reduceMul,qI,qP,qQ,g0]
  refine (within3_p _ 20 (by decide) (by decide)).callE rfl rfl rfl ?_
  rw [hk]
  simp only [c51,c51x1,c51x2,c51x3,c51x4,c51x5,c51x6,c51x7,c51x8,c51x9,c51x10,c51x11,c51x12,c51x13,c51x14,c51x15,c51x16,c51x17,c51x18,c51x19,c51x20,c51x21,c51x22,c51x23,RUA,RUB,RUC,RUD,RUE,RUF,if_true,if_false,Int.reduceEq,Int.reduceLT,Int.reduceLE,qC,qO,qA,qS,qU,Nat.reduceEqDiff,qT,E.at,qR,Nat.reduceAdd,Nat.reduceSub,Nat.reduceLeDiff,Nat.reduceMul,qI,qP,qQ,g0,g1,gp,gq,hfa,hfb,fillC,rets,hg]
  exact (prTwo _ _ _ zeroE hza hzb true).fr _

end Go.Proofs.Ytfncfdiomolieaa
end

section
set_option linter.unusedVariables false
set_option linter.unusedSimpArgs false
set_option maxRecDepth 100000
set_option maxHeartbeats 4000000
open Go.Proofs.Pe renaming putCells → qC, bslOf → qO, bsaOf → qA, bslS → qS, isUpto → qU, step → qT, intOf → qI, iop → qP, sop → qQ
open List renaming replicate → qR
open Go.Proofs.Pe.V renaming dead → qD
namespace Go.Proofs.Ytfncfdiomolieaa
open Go.Proofs.Pe

theorem make3_t9 {k a b d : Int} {e : List Rw} {l : List R3} {ev lv : V} {evs vs : List V} {s1 s2 s3 : ByteArray} {ak bk ak2 an2 bk2 bn2 : Int} {an at' am2 bn bt' bm2 : ByteArray} {av al bv bl : V} {o : List O} {p q : Nat} {x10 x11 x12 x13 x14 x15 x16 x17 x18 x19 x20 x21 x22 x23 x24 x25 x26 x27 x28 x29 x30 x31 x32 x33 : V}
    (hk : withinI k 20 = 9)
    (e1 : IsSl 3 ev evs) (e3 : All2 IsRw e evs) (hza : prP (.agg [iV ak,sV an,sV at',iV ak2,iV an2,sV am2,av,al])) (hzb : prP (.agg [iV bk,sV bn,sV bt',iV bk2,iV bn2,sV bm2,bv,bl]))
    (g0 : o[0]? = some (.cells [iV k,iV a,iV b,ev,lv])) (g1 : o[1]? = some (.cells [iV 0,sV (ByteArray.mk #[]),sV (ByteArray.mk #[]),iV 0,iV 0,sV (ByteArray.mk #[]),nilV,nilV]))
    (gp : o[p]? = some (.cells [iV ak,sV an,sV at',iV ak2,iV an2,sV am2,av,al])) (gq : o[q]? = some (.cells [iV bk,sV bn,sV bt',iV bk2,iV bn2,sV bm2,bv,bl])) {yi : Nat → Sem'} (hy : YLe yi yi) :
    Pe.ev Try.prog T (Pe.Call Try.prog T) Lfp c51x3 none yi ⟨⟨(.agg [iV k,iV a,iV b,ev,lv] :: iV d :: .pt 0 0 :: qD::.pt 1 0 :: sV s1 :: sV s2 :: sV s3 :: .pt p 0 :: .pt q 0 :: x10 :: x11 :: x12 :: x13 :: x14 :: x15 :: x16 :: x17 :: x18 :: x19 :: x20 :: x21 :: x22 :: x23 :: x24 :: x25 :: x26 :: x27 :: x28 :: x29 :: x30 :: x31 :: x32 :: x33 :: qD::qD::qD::qD::qD::qD::qD::qD::qD::qD::qD::qD::qD::qD::qD::qD::qD::qD::qD::qD::qD::qD::qD::qD::qD::qD::qD::qD::qD::qD::qD::qD::qD::qD::qD::qD::qD::qD::qD::qD::qD::qD::qD::qD::qD::qD::qD::qD::qD::qD::qD::qD::qD::qD::qD::qD::qD::qD::qD::qD::qD::qD::qD::qD::qD::qD::qD::qD::qD::qD::qD::qD::qD::qD::qD::qD::qD::qD::qD::qD::qD::qD::qD::qD::qD::qD::qD::qD::qD::qD::qD::qD::qD::qD::qD::qD::qD::qD::qD::[]),o⟩,[]⟩ (endK [Rv.cell 4 true 8] fun y o' => ∃ z o2,freezeT o' y = some (z,o2) ∧ prP z) := by
  have hg : ∀ c,(o.set 1 c)[1]? = some c := fun c => get_set g1
  have hfa := hza.ok.1
  have hfb := hzb.ok.1
  simp only [c51,c51x1,c51x2,c51x3,RUA,RUB,RUC,RUD,RUE,RUF,if_true,if_false,Int.reduceEq,Int.reduceLT,Int.reduceLE,qC,qO,qA,qS,qU,Nat.reduceEqDiff,qT,E.at,qR,Nat.reduceAdd,Nat.reduceSub,Nat.reduceLeDiff,Nat.reduceMul,qI,qP,qQ,g0]
  refine (within3_p _ 20 (by decide) (by decide)).callE rfl rfl rfl ?_
  rw [hk]
  simp only [c51,c51x1,c51x2,c51x3,c51x4,c51x5,c51x6,c51x7,c51x8,c51x9,c51x10,c51x11,c51x12,c51x13,c51x14,c51x15,c51x16,c51x17,c51x18,c51x19,c51x20,c51x21,c51x22,c51x23,RUA,RUB,RUC,RUD,RUE,RUF,if_true,if_false,Int.reduceEq,Int.reduceLT,Int.reduceLE,qC,qO,qA,qS,qU,Nat.reduceEqDiff,qT,E.at,qR,Nat.reduceAdd,Nat.reduceSub,Nat.reduceLeDiff,Nat.reduceMul,qI,qP,qQ,g0]
  refine stacks_p.callF rfl (by simp) fun z hz => ?_
  subst hz
  try simp only [c51,c51x1,c51x2,c51x3,c51x4,c51x5,c51x6,c51x7,c51x8,c51x9,c51x10,c51x11,c51x12,c51x13,c51x14,c51x15,c51x16,c51x17,c51x18,c51x19,c51x20,c51x21,c51x22,c51x23,RUA,RUB,RUC,RUD,RUE,RUF,if_true,if_false,Int.reduceEq,Int.reduceLT,Int.reduceLE,qC,qO,qA,qS,qU,Nat.reduceEqDiff,qT,E.at,qR,Nat.reduceAdd,Nat.reduceSub,Nat.reduceLeDiff,Nat.reduceMul,qI,qP,qQ,g0]
  refine (within3_p _ 2 (by decide) (by decide)).callE rfl rfl rfl ?_
  obtain ⟨s4,hs4⟩ := w3 (a := b) (n := 2) (nm := nmS) (f := true) (by decide) rfl
  simp only [c51,c51x1,c51x2,c51x3,c51x4,c51x5,c51x6,c51x7,c51x8,c51x9,c51x10,c51x11,c51x12,c51x13,c51x14,c51x15,c51x16,c51x17,c51x18,c51x19,c51x20,c51x21,c51x22,c51x23,RUA,RUB,RUC,RUD,RUE,RUF,if_true,if_false,Int.reduceEq,Int.reduceLT,Int.reduceLE,qC,qO,qA,qS,qU,Nat.reduceEqDiff,qT,E.at,qR,Nat.reduceAdd,Nat.reduceSub,Nat.reduceLeDiff,Nat.reduceMul,qI,qP,qQ,g1,sVl,hs4,fillC,rets,hg]
  exact (prLeaf _ (by decide) _ _).fr _

theorem make3_t10 {k a b d : Int} {e : List Rw} {l : List R3} {ev lv : V} {evs vs : List V} {s1 s2 s3 : ByteArray} {ak bk ak2 an2 bk2 bn2 : Int} {an at' am2 bn bt' bm2 : ByteArray} {av al bv bl : V} {o : List O} {p q : Nat} {x10 x11 x12 x13 x14 x15 x16 x17 x18 x19 x20 x21 x22 x23 x24 x25 x26 x27 x28 x29 x30 x31 x32 x33 : V}
    (hk : withinI k 20 = 10)
    (e1 : IsSl 3 ev evs) (e3 : All2 IsRw e evs) (hza : prP (.agg [iV ak,sV an,sV at',iV ak2,iV an2,sV am2,av,al])) (hzb : prP (.agg [iV bk,sV bn,sV bt',iV bk2,iV bn2,sV bm2,bv,bl]))
    (g0 : o[0]? = some (.cells [iV k,iV a,iV b,ev,lv])) (g1 : o[1]? = some (.cells [iV 0,sV (ByteArray.mk #[]),sV (ByteArray.mk #[]),iV 0,iV 0,sV (ByteArray.mk #[]),nilV,nilV]))
    (gp : o[p]? = some (.cells [iV ak,sV an,sV at',iV ak2,iV an2,sV am2,av,al])) (gq : o[q]? = some (.cells [iV bk,sV bn,sV bt',iV bk2,iV bn2,sV bm2,bv,bl])) {yi : Nat → Sem'} (hy : YLe yi yi) :
    Pe.ev Try.prog T (Pe.Call Try.prog T) Lfp c51x3 none yi ⟨⟨(.agg [iV k,iV a,iV b,ev,lv] :: iV d :: .pt 0 0 :: qD::.pt 1 0 :: sV s1 :: sV s2 :: sV s3 :: .pt p 0 :: .pt q 0 :: x10 :: x11 :: x12 :: x13 :: x14 :: x15 :: x16 :: x17 :: x18 :: x19 :: x20 :: x21 :: x22 :: x23 :: x24 :: x25 :: x26 :: x27 :: x28 :: x29 :: x30 :: x31 :: x32 :: x33 :: qD::qD::qD::qD::qD::qD::qD::qD::qD::qD::qD::qD::qD::qD::qD::qD::qD::qD::qD::qD::qD::qD::qD::qD::qD::qD::qD::qD::qD::qD::qD::qD::qD::qD::qD::qD::qD::qD::qD::qD::qD::qD::qD::qD::qD::qD::qD::qD::qD::qD::qD::qD::qD::qD::qD::qD::qD::qD::qD::qD::qD::qD::qD::qD::qD::qD::qD::qD::qD::qD::qD::qD::qD::qD::qD::qD::qD::qD::qD::qD::qD::qD::qD::qD::qD::qD::qD::qD::qD::qD::qD::qD::qD::qD::qD::qD::qD::qD::qD::[]),o⟩,[]⟩ (endK [Rv.cell 4 true 8] fun y o' => ∃ z o2,freezeT o' y = some (z,o2) ∧ prP z) := by
  have hg : ∀ c,(o.set 1 c)[1]? = some c := fun c => get_set g1
  have hfa := hza.ok.1
  have hfb := hzb.ok.1
  simp only [c51,c51x1,c51x2,c51x3,RUA,RUB,RUC,RUD,RUE,RUF,if_true,if_false,Int.reduceEq,Int.reduceLT,Int.reduceLE,qC,qO,qA,qS,qU,Nat.reduceEqDiff,qT,E.at,qR,Nat.reduceAdd,Nat.reduceSub,Nat.reduceLeDiff,Nat.reduceMul,qI,qP,qQ,g0]
  refine (within3_p _ 20 (by decide) (by decide)).callE rfl rfl rfl ?_
  rw [hk]
  simp only [c51,c51x1,c51x2,c51x3,c51x4,c51x5,c51x6,c51x7,c51x8,c51x9,c51x10,c51x11,c51x12,c51x13,c51x14,c51x15,c51x16,c51x17,c51x18,c51x19,c51x20,c51x21,c51x22,c51x23,RUA,RUB,RUC,RUD,RUE,RUF,if_true,if_false,Int.reduceEq,Int.reduceLT,Int.reduceLE,qC,qO,qA,qS,qU,Nat.reduceEqDiff,qT,E.at,qR,Nat.reduceAdd,Nat.reduceSub,Nat.reduceLeDiff,Nat.reduceMul,qI,qP,qQ,g0,g1,gp,gq,hfa,hfb,fillC,rets,hg]
  exact (prOne _ (by decide) _ _ hza true).fr _

theorem make3_t11 {k a b d : Int} {e : List Rw} {l : List R3} {ev lv : V} {evs vs : List V} {s1 s2 s3 : ByteArray} {ak bk ak2 an2 bk2 bn2 : Int} {an at' am2 bn bt' bm2 : ByteArray} {av al bv bl : V} {o : List O} {p q : Nat} {x10 x11 x12 x13 x14 x15 x16 x17 x18 x19 x20 x21 x22 x23 x24 x25 x26 x27 x28 x29 x30 x31 x32 x33 : V}
    (hk : withinI k 20 = 11)
    (e1 : IsSl 3 ev evs) (e3 : All2 IsRw e evs) (hza : prP (.agg [iV ak,sV an,sV at',iV ak2,iV an2,sV am2,av,al])) (hzb : prP (.agg [iV bk,sV bn,sV bt',iV bk2,iV bn2,sV bm2,bv,bl]))
    (g0 : o[0]? = some (.cells [iV k,iV a,iV b,ev,lv])) (g1 : o[1]? = some (.cells [iV 0,sV (ByteArray.mk #[]),sV (ByteArray.mk #[]),iV 0,iV 0,sV (ByteArray.mk #[]),nilV,nilV]))
    (gp : o[p]? = some (.cells [iV ak,sV an,sV at',iV ak2,iV an2,sV am2,av,al])) (gq : o[q]? = some (.cells [iV bk,sV bn,sV bt',iV bk2,iV bn2,sV bm2,bv,bl])) {yi : Nat → Sem'} (hy : YLe yi yi) :
    Pe.ev Try.prog T (Pe.Call Try.prog T) Lfp c51x3 none yi ⟨⟨(.agg [iV k,iV a,iV b,ev,lv] :: iV d :: .pt 0 0 :: qD::.pt 1 0 :: sV s1 :: sV s2 :: sV s3 :: .pt p 0 :: .pt q 0 :: x10 :: x11 :: x12 :: x13 :: x14 :: x15 :: x16 :: x17 :: x18 :: x19 :: x20 :: x21 :: x22 :: x23 :: x24 :: x25 :: x26 :: x27 :: x28 :: x29 :: x30 :: x31 :: x32 :: x33 :: qD::qD::qD::qD::qD::qD::qD::qD::qD::qD::qD::qD::qD::qD::qD::qD::qD::qD::qD::qD::qD::qD::qD::qD::qD::qD::qD::qD::qD::qD::qD::qD::qD::qD::qD::qD::qD::qD::qD::qD::qD::qD::qD::qD::qD::qD::qD::qD::qD::qD::qD::qD::qD::qD::qD::qD::qD::qD::qD::qD::qD::qD::qD::qD::qD::qD::qD::qD::qD::qD::qD::qD::qD::qD::qD::qD::qD::qD::qD::qD::qD::qD::qD::qD::qD::qD::qD::qD::qD::qD::qD::qD::qD::qD::qD::qD::qD::qD::qD::[]),o⟩,[]⟩ (endK [Rv.cell 4 true 8] fun y o' => ∃ z o2,freezeT o' y = some (z,o2) ∧ prP z) := by
  have hg : ∀ c,(o.set 1 c)[1]? = some c := fun c => get_set g1
  have hfa := hza.ok.1
  have hfb := hzb.ok.1
  simp only [c51,c51x1,c51x2,c51x3,RUA,RUB,RUC,RUD,RUE,RUF,if_true,if_false,Int.reduceEq,Int.reduceLT,Int.reduceLE,qC,qO,qA,qS,qU,Nat.reduceEqDiff,qT,E.at,qR,Nat.reduceAdd,Nat.reduceSub,Nat.reduceLeDiff,Nat.reduceMul,qI,qP,qQ,g0]
  refine (within3_p _ 20 (by decide) (by decide)).callE rfl rfl rfl ?_
  rw [hk]
  simp only [c51,c51x1,c51x2,c51x3,c51x4,c51x5,c51x6,c51x7,c51x8,c51x9,c51x10,c51x11,c51x12,c51x13,c51x14,c51x15,c51x16,c51x17,c51x18,c51x19,c51x20,c51x21,c51x22,c51x23,RUA,RUB,RUC,RUD,RUE,RUF,if_true,if_false,Int.reduceEq,Int.reduceLT,Int.reduceLE,qC,qO,qA,qS,qU,Nat.reduceEqDiff,qT,E.at,qR,Nat.reduceAdd,Nat.reduceSub,Nat.reduceLeDiff,Nat.reduceMul,qI,qP,qQ,g0,g1,gp,gq,hfa,hfb,fillC,rets,hg]
  exact (prLeaf _ (by decide) _ _).fr _

theorem make3_t12 {k a b d : Int} {e : List Rw} {l : List R3} {ev lv : V} {evs vs : List V} {s1 s2 s3 : ByteArray} {ak bk ak2 an2 bk2 bn2 : Int} {an at' am2 bn bt' bm2 : ByteArray} {av al bv bl : V} {o : List O} {p q : Nat} {x10 x11 x12 x13 x14 x15 x16 x17 x18 x19 x20 x21 x22 x23 x24 x25 x26 x27 x28 x29 x30 x31 x32 x33 : V}
    (hk : withinI k 20 = 12)
    (e1 : IsSl 3 ev evs) (e3 : All2 IsRw e evs) (hza : prP (.agg [iV ak,sV an,sV at',iV ak2,iV an2,sV am2,av,al])) (hzb : prP (.agg [iV bk,sV bn,sV bt',iV bk2,iV bn2,sV bm2,bv,bl]))
    (g0 : o[0]? = some (.cells [iV k,iV a,iV b,ev,lv])) (g1 : o[1]? = some (.cells [iV 0,sV (ByteArray.mk #[]),sV (ByteArray.mk #[]),iV 0,iV 0,sV (ByteArray.mk #[]),nilV,nilV]))
    (gp : o[p]? = some (.cells [iV ak,sV an,sV at',iV ak2,iV an2,sV am2,av,al])) (gq : o[q]? = some (.cells [iV bk,sV bn,sV bt',iV bk2,iV bn2,sV bm2,bv,bl])) {yi : Nat → Sem'} (hy : YLe yi yi) :
    Pe.ev Try.prog T (Pe.Call Try.prog T) Lfp c51x3 none yi ⟨⟨(.agg [iV k,iV a,iV b,ev,lv] :: iV d :: .pt 0 0 :: qD::.pt 1 0 :: sV s1 :: sV s2 :: sV s3 :: .pt p 0 :: .pt q 0 :: x10 :: x11 :: x12 :: x13 :: x14 :: x15 :: x16 :: x17 :: x18 :: x19 :: x20 :: x21 :: x22 :: x23 :: x24 :: x25 :: x26 :: x27 :: x28 :: x29 :: x30 :: x31 :: x32 :: x33 :: qD::qD::qD::qD::qD::qD::qD::qD::qD::qD::qD::qD::qD::qD::qD::qD::qD::qD::qD::qD::qD::qD::qD::qD::qD::qD::qD::qD::qD::qD::qD::qD::qD::qD::qD::qD::qD::qD::qD::qD::qD::qD::qD::qD::qD::qD::qD::qD::qD::qD::qD::qD::qD::qD::qD::qD::qD::qD::qD::qD::qD::qD::qD::qD::qD::qD::qD::qD::qD::qD::qD::qD::qD::qD::qD::qD::qD::qD::qD::qD::qD::qD::qD::qD::qD::qD::qD::qD::qD::qD::qD::qD::qD::qD::qD::qD::qD::qD::qD::[]),o⟩,[]⟩ (endK [Rv.cell 4 true 8] fun y o' => ∃ z o2,freezeT o' y = some (z,o2) ∧ prP z) := by
  have hg : ∀ c,(o.set 1 c)[1]? = some c := fun c => get_set g1
  have hfa := hza.ok.1
  have hfb := hzb.ok.1
  simp only [c51,c51x1,c51x2,c51x3,RUA,RUB,RUC,RUD,RUE,RUF,if_true,if_false,Int.reduceEq,Int.reduceLT,Int.reduceLE,qC,qO,qA,qS,qU,Nat.reduceEqDiff,qT,E.at,qR,Nat.reduceAdd,Nat.reduceSub,Nat.reduceLeDiff,Nat.reduceMul,qI,qP,qQ,g0]
  refine (within3_p _ 20 (by decide) (by decide)).callE rfl rfl rfl ?_
  rw [hk]
  simp only [c51,c51x1,c51x2,c51x3,c51x4,c51x5,c51x6,c51x7,c51x8,c51x9,c51x10,c51x11,c51x12,c51x13,c51x14,c51x15,c51x16,c51x17,c51x18,c51x19,c51x20,c51x21,c51x22,c51x23,RUA,RUB,RUC,RUD,RUE,RUF,if_true,if_false,Int.reduceEq,Int.reduceLT,Int.reduceLE,qC,qO,qA,qS,qU,Nat.reduceEqDiff,qT,E.at,qR,Nat.reduceAdd,Nat.reduceSub,Nat.reduceLeDiff,Nat.reduceMul,qI,qP,qQ,g0,gp,gq,hfa,hfb]
  repeat' (first
    | (refine And.intro ?_ ?_)
    | exact trivial
    | (refine vars_p.callF rfl (by simp) fun z hz => ?_
       subst hz)
    | (refine (one2_p (nm := nmV) (.inr ⟨true,rfl⟩) (by decide) e1 e3).callF rfl (fun x hx => by simp only [List.mem_cons,List.not_mem_nil,or_false] at hx; rcases hx with rfl | rfl <;> first | exact e1.freeV | rfl) fun z hz => ?_
       have hz' := hz
       generalize oneS nmV e = ex at hz hz'
       rcases ex with ⟨qk,qn,qm,ql⟩
       obtain ⟨zv,zs,rfl,z1,_,_⟩ := hz
       have ho := free1_one z1.free
       simp only [c51,c51x1,c51x2,c51x3,c51x4,c51x5,c51x6,c51x7,c51x8,c51x9,c51x10,c51x11,c51x12,c51x13,c51x14,c51x15,c51x16,c51x17,c51x18,c51x19,c51x20,c51x21,c51x22,c51x23,RUA,RUB,RUC,RUD,RUE,RUF,if_true,if_false,Int.reduceEq,Int.reduceLT,Int.reduceLE,qC,qO,qA,qS,qU,Nat.reduceEqDiff,qT,E.at,qR,Nat.reduceAdd,Nat.reduceSub,Nat.reduceLeDiff,Nat.reduceMul,qI,qP,qQ,g1,gp,gq,ho,hfa,hfb,fillC,rets,hg])
    | (simp only [c51,c51x1,c51x2,c51x3,c51x4,c51x5,c51x6,c51x7,c51x8,c51x9,c51x10,c51x11,c51x12,c51x13,c51x14,c51x15,c51x16,c51x17,c51x18,c51x19,c51x20,c51x21,c51x22,c51x23,RUA,RUB,RUC,RUD,RUE,RUF,if_true,if_false,Int.reduceEq,Int.reduceLT,Int.reduceLE,qC,qO,qA,qS,qU,Nat.reduceEqDiff,qT,E.at,qR,Nat.reduceAdd,Nat.reduceSub,Nat.reduceLeDiff,Nat.reduceMul,qI,qP,qQ,g1,gp,gq,hfa,hfb,fillC,rets,hg]))
  all_goals exact (prTwo _ _ _ (by assumption) hza hzb true).fr _

theorem make3_t15 {k a b d : Int} {e : List Rw} {l : List R3} {ev lv : V} {evs vs : List V} {s1 s2 s3 : ByteArray} {ak bk ak2 an2 bk2 bn2 : Int} {an at' am2 bn bt' bm2 : ByteArray} {av al bv bl : V} {o : List O} {p q : Nat} {x10 x11 x12 x13 x14 x15 x16 x17 x18 x19 x20 x21 x22 x23 x24 x25 x26 x27 x28 x29 x30 x31 x32 x33 : V}
    (hk : withinI k 20 = 15)
    (e1 : IsSl 3 ev evs) (e3 : All2 IsRw e evs) (hza : prP (.agg [iV ak,sV an,sV at',iV ak2,iV an2,sV am2,av,al])) (hzb : prP (.agg [iV bk,sV bn,sV bt',iV bk2,iV bn2,sV bm2,bv,bl]))
    (g0 : o[0]? = some (.cells [iV k,iV a,iV b,ev,lv])) (g1 : o[1]? = some (.cells [iV 0,sV (ByteArray.mk #[]),sV (ByteArray.mk #[]),iV 0,iV 0,sV (ByteArray.mk #[]),nilV,nilV]))
    (gp : o[p]? = some (.cells [iV ak,sV an,sV at',iV ak2,iV an2,sV am2,av,al])) (gq : o[q]? = some (.cells [iV bk,sV bn,sV bt',iV bk2,iV bn2,sV bm2,bv,bl])) {yi : Nat → Sem'} (hy : YLe yi yi) :
    Pe.ev Try.prog T (Pe.Call Try.prog T) Lfp c51x3 none yi ⟨⟨(.agg [iV k,iV a,iV b,ev,lv] :: iV d :: .pt 0 0 :: qD::.pt 1 0 :: sV s1 :: sV s2 :: sV s3 :: .pt p 0 :: .pt q 0 :: x10 :: x11 :: x12 :: x13 :: x14 :: x15 :: x16 :: x17 :: x18 :: x19 :: x20 :: x21 :: x22 :: x23 :: x24 :: x25 :: x26 :: x27 :: x28 :: x29 :: x30 :: x31 :: x32 :: x33 :: qD::qD::qD::qD::qD::qD::qD::qD::qD::qD::qD::qD::qD::qD::qD::qD::qD::qD::qD::qD::qD::qD::qD::qD::qD::qD::qD::qD::qD::qD::qD::qD::qD::qD::qD::qD::qD::qD::qD::qD::qD::qD::qD::qD::qD::qD::qD::qD::qD::qD::qD::qD::qD::qD::qD::qD::qD::qD::qD::qD::qD::qD::qD::qD::qD::qD::qD::qD::qD::qD::qD::qD::qD::qD::qD::qD::qD::qD::qD::qD::qD::qD::qD::qD::qD::qD::qD::qD::qD::qD::qD::qD::qD::qD::qD::qD::qD::qD::qD::[]),o⟩,[]⟩ (endK [Rv.cell 4 true 8] fun y o' => ∃ z o2,freezeT o' y = some (z,o2) ∧ prP z) := by
  have hg : ∀ c,(o.set 1 c)[1]? = some c := fun c => get_set g1
  have hfa := hza.ok.1
  have hfb := hzb.ok.1
  simp only [c51,c51x1,c51x2,c51x3,RUA,RUB,RUC,RUD,RUE,RUF,if_true,if_false,Int.reduceEq,Int.reduceLT,Int.reduceLE,qC,qO,qA,qS,qU,Nat.reduceEqDiff,qT,E.at,qR,Nat.reduceAdd,Nat.reduceSub,Nat.reduceLeDiff,Nat.reduceMul,qI,qP,qQ,g0]
  refine (within3_p _ 20 (by decide) (by decide)).callE rfl rfl rfl ?_
  rw [hk]
  simp only [c51,c51x1,c51x2,c51x3,c51x4,c51x5,c51x6,c51x7,c51x8,c51x9,c51x10,c51x11,c51x12,c51x13,c51x14,c51x15,c51x16,c51x17,c51x18,c51x19,c51x20,c51x21,c51x22,c51x23,RUA,RUB,RUC,RUD,RUE,RUF,if_true,if_false,Int.reduceEq,Int.reduceLT,Int.reduceLE,qC,qO,qA,qS,qU,Nat.reduceEqDiff,qT,E.at,qR,Nat.reduceAdd,Nat.reduceSub,Nat.reduceLeDiff,Nat.reduceMul,qI,qP,qQ,g0,g1,gp,gq,hfa,hfb,fillC,rets,hg]
  exact (prTwo _ _ _ zeroE hza hzb true).fr _

end Go.Proofs.Ytfncfdiomolieaa
end

section
set_option linter.unusedVariables false
set_option linter.unusedSimpArgs false
set_option maxRecDepth 100000
set_option maxHeartbeats 4000000
open Go.Proofs.Pe renaming putCells → qC, bslOf → qO, bsaOf → qA, bslS → qS, isUpto → qU, step → qT, intOf → qI, iop → qP, sop → qQ
open List renaming replicate → qR
open Go.Proofs.Pe.V renaming dead → qD
namespace Go.Proofs.Ytfncfdiomolieaa
open Go.Proofs.Pe

theorem make3_t16 {k a b d : Int} {e : List Rw} {l : List R3} {ev lv : V} {evs vs : List V} {s1 s2 s3 : ByteArray} {ak bk ak2 an2 bk2 bn2 : Int} {an at' am2 bn bt' bm2 : ByteArray} {av al bv bl : V} {o : List O} {p q : Nat} {x10 x11 x12 x13 x14 x15 x16 x17 x18 x19 x20 x21 x22 x23 x24 x25 x26 x27 x28 x29 x30 x31 x32 x33 : V}
    (hk : withinI k 20 = 16)
    (e1 : IsSl 3 ev evs) (e3 : All2 IsRw e evs) (hza : prP (.agg [iV ak,sV an,sV at',iV ak2,iV an2,sV am2,av,al])) (hzb : prP (.agg [iV bk,sV bn,sV bt',iV bk2,iV bn2,sV bm2,bv,bl]))
    (g0 : o[0]? = some (.cells [iV k,iV a,iV b,ev,lv])) (g1 : o[1]? = some (.cells [iV 0,sV (ByteArray.mk #[]),sV (ByteArray.mk #[]),iV 0,iV 0,sV (ByteArray.mk #[]),nilV,nilV]))
    (gp : o[p]? = some (.cells [iV ak,sV an,sV at',iV ak2,iV an2,sV am2,av,al])) (gq : o[q]? = some (.cells [iV bk,sV bn,sV bt',iV bk2,iV bn2,sV bm2,bv,bl])) {yi : Nat → Sem'} (hy : YLe yi yi) :
    Pe.ev Try.prog T (Pe.Call Try.prog T) Lfp c51x3 none yi ⟨⟨(.agg [iV k,iV a,iV b,ev,lv] :: iV d :: .pt 0 0 :: qD::.pt 1 0 :: sV s1 :: sV s2 :: sV s3 :: .pt p 0 :: .pt q 0 :: x10 :: x11 :: x12 :: x13 :: x14 :: x15 :: x16 :: x17 :: x18 :: x19 :: x20 :: x21 :: x22 :: x23 :: x24 :: x25 :: x26 :: x27 :: x28 :: x29 :: x30 :: x31 :: x32 :: x33 :: qD::qD::qD::qD::qD::qD::qD::qD::qD::qD::qD::qD::qD::qD::qD::qD::qD::qD::qD::qD::qD::qD::qD::qD::qD::qD::qD::qD::qD::qD::qD::qD::qD::qD::qD::qD::qD::qD::qD::qD::qD::qD::qD::qD::qD::qD::qD::qD::qD::qD::qD::qD::qD::qD::qD::qD::qD::qD::qD::qD::qD::qD::qD::qD::qD::qD::qD::qD::qD::qD::qD::qD::qD::qD::qD::qD::qD::qD::qD::qD::qD::qD::qD::qD::qD::qD::qD::qD::qD::qD::qD::qD::qD::qD::qD::qD::qD::qD::qD::[]),o⟩,[]⟩ (endK [Rv.cell 4 true 8] fun y o' => ∃ z o2,freezeT o' y = some (z,o2) ∧ prP z) := by
  have hg : ∀ c,(o.set 1 c)[1]? = some c := fun c => get_set g1
  have hfa := hza.ok.1
  have hfb := hzb.ok.1
  simp only [c51,c51x1,c51x2,c51x3,RUA,RUB,RUC,RUD,RUE,RUF,if_true,if_false,Int.reduceEq,Int.reduceLT,Int.reduceLE,qC,qO,qA,qS,qU,Nat.reduceEqDiff,qT,E.at,qR,Nat.reduceAdd,Nat.reduceSub,Nat.reduceLeDiff,Nat.reduceMul,qI,qP,qQ,g0]
  refine (within3_p _ 20 (by decide) (by decide)).callE rfl rfl rfl ?_
  rw [hk]
  simp only [c51,c51x1,c51x2,c51x3,c51x4,c51x5,c51x6,c51x7,c51x8,c51x9,c51x10,c51x11,c51x12,c51x13,c51x14,c51x15,c51x16,c51x17,c51x18,c51x19,c51x20,c51x21,c51x22,c51x23,RUA,RUB,RUC,RUD,RUE,RUF,if_true,if_false,Int.reduceEq,Int.reduceLT,Int.reduceLE,qC,qO,qA,qS,qU,Nat.reduceEqDiff,qT,E.at,qR,Nat.reduceAdd,Nat.reduceSub,Nat.reduceLeDiff,Nat.reduceMul,qI,qP,qQ,g0,g1,gp,gq,hfa,hfb,fillC,rets,hg]
  exact (prLeaf _ (by decide) _ _).fr _

theorem make3_t17 {k a b d : Int} {e : List Rw} {l : List R3} {ev lv : V} {evs vs : List V} {s1 s2 s3 : ByteArray} {ak bk ak2 an2 bk2 bn2 : Int} {an at' am2 bn bt' bm2 : ByteArray} {av al bv bl : V} {o : List O} {p q : Nat} {x10 x11 x12 x13 x14 x15 x16 x17 x18 x19 x20 x21 x22 x23 x24 x25 x26 x27 x28 x29 x30 x31 x32 x33 : V}
    (hk : withinI k 20 = 17)
    (e1 : IsSl 3 ev evs) (e3 : All2 IsRw e evs) (hza : prP (.agg [iV ak,sV an,sV at',iV ak2,iV an2,sV am2,av,al])) (hzb : prP (.agg [iV bk,sV bn,sV bt',iV bk2,iV bn2,sV bm2,bv,bl]))
    (g0 : o[0]? = some (.cells [iV k,iV a,iV b,ev,lv])) (g1 : o[1]? = some (.cells [iV 0,sV (ByteArray.mk #[]),sV (ByteArray.mk #[]),iV 0,iV 0,sV (ByteArray.mk #[]),nilV,nilV]))
    (gp : o[p]? = some (.cells [iV ak,sV an,sV at',iV ak2,iV an2,sV am2,av,al])) (gq : o[q]? = some (.cells [iV bk,sV bn,sV bt',iV bk2,iV bn2,sV bm2,bv,bl])) {yi : Nat → Sem'} (hy : YLe yi yi) :
    Pe.ev Try.prog T (Pe.Call Try.prog T) Lfp c51x3 none yi ⟨⟨(.agg [iV k,iV a,iV b,ev,lv] :: iV d :: .pt 0 0 :: qD::.pt 1 0 :: sV s1 :: sV s2 :: sV s3 :: .pt p 0 :: .pt q 0 :: x10 :: x11 :: x12 :: x13 :: x14 :: x15 :: x16 :: x17 :: x18 :: x19 :: x20 :: x21 :: x22 :: x23 :: x24 :: x25 :: x26 :: x27 :: x28 :: x29 :: x30 :: x31 :: x32 :: x33 :: qD::qD::qD::qD::qD::qD::qD::qD::qD::qD::qD::qD::qD::qD::qD::qD::qD::qD::qD::qD::qD::qD::qD::qD::qD::qD::qD::qD::qD::qD::qD::qD::qD::qD::qD::qD::qD::qD::qD::qD::qD::qD::qD::qD::qD::qD::qD::qD::qD::qD::qD::qD::qD::qD::qD::qD::qD::qD::qD::qD::qD::qD::qD::qD::qD::qD::qD::qD::qD::qD::qD::qD::qD::qD::qD::qD::qD::qD::qD::qD::qD::qD::qD::qD::qD::qD::qD::qD::qD::qD::qD::qD::qD::qD::qD::qD::qD::qD::qD::[]),o⟩,[]⟩ (endK [Rv.cell 4 true 8] fun y o' => ∃ z o2,freezeT o' y = some (z,o2) ∧ prP z) := by
  have hg : ∀ c,(o.set 1 c)[1]? = some c := fun c => get_set g1
  have hfa := hza.ok.1
  have hfb := hzb.ok.1
  simp only [c51,c51x1,c51x2,c51x3,RUA,RUB,RUC,RUD,RUE,RUF,if_true,if_false,Int.reduceEq,Int.reduceLT,Int.reduceLE,qC,qO,qA,qS,qU,Nat.reduceEqDiff,qT,E.at,qR,Nat.reduceAdd,Nat.reduceSub,Nat.reduceLeDiff,Nat.reduceMul,qI,qP,qQ,g0]
  refine (within3_p _ 20 (by decide) (by decide)).callE rfl rfl rfl ?_
  rw [hk]
  simp only [c51,c51x1,c51x2,c51x3,c51x4,c51x5,c51x6,c51x7,c51x8,c51x9,c51x10,c51x11,c51x12,c51x13,c51x14,c51x15,c51x16,c51x17,c51x18,c51x19,c51x20,c51x21,c51x22,c51x23,RUA,RUB,RUC,RUD,RUE,RUF,if_true,if_false,Int.reduceEq,Int.reduceLT,Int.reduceLE,qC,qO,qA,qS,qU,Nat.reduceEqDiff,qT,E.at,qR,Nat.reduceAdd,Nat.reduceSub,Nat.reduceLeDiff,Nat.reduceMul,qI,qP,qQ,g0,g1,gp,gq,hfa,hfb,fillC,rets,hg]
  exact (prLeaf _ (by decide) _ _).fr _

theorem make3_t18 {k a b d : Int} {e : List Rw} {l : List R3} {ev lv : V} {evs vs : List V} {s1 s2 s3 : ByteArray} {ak bk ak2 an2 bk2 bn2 : Int} {an at' am2 bn bt' bm2 : ByteArray} {av al bv bl : V} {o : List O} {p q : Nat} {x10 x11 x12 x13 x14 x15 x16 x17 x18 x19 x20 x21 x22 x23 x24 x25 x26 x27 x28 x29 x30 x31 x32 x33 : V}
    (hk : withinI k 20 = 18)
    (e1 : IsSl 3 ev evs) (e3 : All2 IsRw e evs) (hza : prP (.agg [iV ak,sV an,sV at',iV ak2,iV an2,sV am2,av,al])) (hzb : prP (.agg [iV bk,sV bn,sV bt',iV bk2,iV bn2,sV bm2,bv,bl]))
    (g0 : o[0]? = some (.cells [iV k,iV a,iV b,ev,lv])) (g1 : o[1]? = some (.cells [iV 0,sV (ByteArray.mk #[]),sV (ByteArray.mk #[]),iV 0,iV 0,sV (ByteArray.mk #[]),nilV,nilV]))
    (gp : o[p]? = some (.cells [iV ak,sV an,sV at',iV ak2,iV an2,sV am2,av,al])) (gq : o[q]? = some (.cells [iV bk,sV bn,sV bt',iV bk2,iV bn2,sV bm2,bv,bl])) {yi : Nat → Sem'} (hy : YLe yi yi) :
    Pe.ev Try.prog T (Pe.Call Try.prog T) Lfp c51x3 none yi ⟨⟨(.agg [iV k,iV a,iV b,ev,lv] :: iV d :: .pt 0 0 :: qD::.pt 1 0 :: sV s1 :: sV s2 :: sV s3 :: .pt p 0 :: .pt q 0 :: x10 :: x11 :: x12 :: x13 :: x14 :: x15 :: x16 :: x17 :: x18 :: x19 :: x20 :: x21 :: x22 :: x23 :: x24 :: x25 :: x26 :: x27 :: x28 :: x29 :: x30 :: x31 :: x32 :: x33 :: qD::qD::qD::qD::qD::qD::qD::qD::qD::qD::qD::qD::qD::qD::qD::qD::qD::qD::qD::qD::qD::qD::qD::qD::qD::qD::qD::qD::qD::qD::qD::qD::qD::qD::qD::qD::qD::qD::qD::qD::qD::qD::qD::qD::qD::qD::qD::qD::qD::qD::qD::qD::qD::qD::qD::qD::qD::qD::qD::qD::qD::qD::qD::qD::qD::qD::qD::qD::qD::qD::qD::qD::qD::qD::qD::qD::qD::qD::qD::qD::qD::qD::qD::qD::qD::qD::qD::qD::qD::qD::qD::qD::qD::qD::qD::qD::qD::qD::qD::[]),o⟩,[]⟩ (endK [Rv.cell 4 true 8] fun y o' => ∃ z o2,freezeT o' y = some (z,o2) ∧ prP z) := by
  have hg : ∀ c,(o.set 1 c)[1]? = some c := fun c => get_set g1
  have hfa := hza.ok.1
  have hfb := hzb.ok.1
  simp only [c51,c51x1,c51x2,c51x3,RUA,RUB,RUC,RUD,RUE,RUF,if_true,if_false,Int.reduceEq,Int.reduceLT,Int.reduceLE,qC,qO,qA,qS,qU,Nat.reduceEqDiff,qT,E.at,qR,Nat.reduceAdd,Nat.reduceSub,Nat.reduceLeDiff,Nat.reduceMul,qI,qP,qQ,g0]
  refine (within3_p _ 20 (by decide) (by decide)).callE rfl rfl rfl ?_
  rw [hk]
  simp only [c51,c51x1,c51x2,c51x3,c51x4,c51x5,c51x6,c51x7,c51x8,c51x9,c51x10,c51x11,c51x12,c51x13,c51x14,c51x15,c51x16,c51x17,c51x18,c51x19,c51x20,c51x21,c51x22,c51x23,RUA,RUB,RUC,RUD,RUE,RUF,if_true,if_false,Int.reduceEq,Int.reduceLT,Int.reduceLE,qC,qO,qA,qS,qU,Nat.reduceEqDiff,qT,E.at,qR,Nat.reduceAdd,Nat.reduceSub,Nat.reduceLeDiff,Nat.reduceMul,qI,qP,qQ,g0,g1,gp,gq,hfa,hfb,fillC,rets,hg]
  exact (prTwo _ _ _ zeroE hza hzb true).fr _

theorem make3_t19 {k a b d : Int} {e : List Rw} {l : List R3} {ev lv : V} {evs vs : List V} {s1 s2 s3 : ByteArray} {ak bk ak2 an2 bk2 bn2 : Int} {an at' am2 bn bt' bm2 : ByteArray} {av al bv bl : V} {o : List O} {p q : Nat} {x10 x11 x12 x13 x14 x15 x16 x17 x18 x19 x20 x21 x22 x23 x24 x25 x26 x27 x28 x29 x30 x31 x32 x33 : V}
    (hk : withinI k 20 = 19)
    (e1 : IsSl 3 ev evs) (e3 : All2 IsRw e evs) (hza : prP (.agg [iV ak,sV an,sV at',iV ak2,iV an2,sV am2,av,al])) (hzb : prP (.agg [iV bk,sV bn,sV bt',iV bk2,iV bn2,sV bm2,bv,bl]))
    (g0 : o[0]? = some (.cells [iV k,iV a,iV b,ev,lv])) (g1 : o[1]? = some (.cells [iV 0,sV (ByteArray.mk #[]),sV (ByteArray.mk #[]),iV 0,iV 0,sV (ByteArray.mk #[]),nilV,nilV]))
    (gp : o[p]? = some (.cells [iV ak,sV an,sV at',iV ak2,iV an2,sV am2,av,al])) (gq : o[q]? = some (.cells [iV bk,sV bn,sV bt',iV bk2,iV bn2,sV bm2,bv,bl])) {yi : Nat → Sem'} (hy : YLe yi yi) :
    Pe.ev Try.prog T (Pe.Call Try.prog T) Lfp c51x3 none yi ⟨⟨(.agg [iV k,iV a,iV b,ev,lv] :: iV d :: .pt 0 0 :: qD::.pt 1 0 :: sV s1 :: sV s2 :: sV s3 :: .pt p 0 :: .pt q 0 :: x10 :: x11 :: x12 :: x13 :: x14 :: x15 :: x16 :: x17 :: x18 :: x19 :: x20 :: x21 :: x22 :: x23 :: x24 :: x25 :: x26 :: x27 :: x28 :: x29 :: x30 :: x31 :: x32 :: x33 :: qD::qD::qD::qD::qD::qD::qD::qD::qD::qD::qD::qD::qD::qD::qD::qD::qD::qD::qD::qD::qD::qD::qD::qD::qD::qD::qD::qD::qD::qD::qD::qD::qD::qD::qD::qD::qD::qD::qD::qD::qD::qD::qD::qD::qD::qD::qD::qD::qD::qD::qD::qD::qD::qD::qD::qD::qD::qD::qD::qD::qD::qD::qD::qD::qD::qD::qD::qD::qD::qD::qD::qD::qD::qD::qD::qD::qD::qD::qD::qD::qD::qD::qD::qD::qD::qD::qD::qD::qD::qD::qD::qD::qD::qD::qD::qD::qD::qD::qD::[]),o⟩,[]⟩ (endK [Rv.cell 4 true 8] fun y o' => ∃ z o2,freezeT o' y = some (z,o2) ∧ prP z) := by
  have hg : ∀ c,(o.set 1 c)[1]? = some c := fun c => get_set g1
  have hfa := hza.ok.1
  have hfb := hzb.ok.1
  simp only [c51,c51x1,c51x2,c51x3,RUA,RUB,RUC,RUD,RUE,RUF,if_true,if_false,Int.reduceEq,Int.reduceLT,Int.reduceLE,qC,qO,qA,qS,qU,Nat.reduceEqDiff,qT,E.at,qR,Nat.reduceAdd,Nat.reduceSub,Nat.reduceLeDiff,Nat.reduceMul,qI,qP,qQ,g0]
  refine (within3_p _ 20 (by decide) (by decide)).callE rfl rfl rfl ?_
  rw [hk]
  simp only [c51,c51x1,c51x2,c51x3,c51x4,c51x5,c51x6,c51x7,c51x8,c51x9,c51x10,c51x11,c51x12,c51x13,c51x14,c51x15,c51x16,c51x17,c51x18,c51x19,c51x20,c51x21,c51x22,c51x23,RUA,RUB,RUC,RUD,RUE,RUF,if_true,if_false,Int.reduceEq,Int.reduceLT,Int.reduceLE,qC,qO,qA,qS,qU,Nat.reduceEqDiff,qT,E.at,qR,Nat.reduceAdd,Nat.reduceSub,Nat.reduceLeDiff,Nat.reduceMul,qI,qP,qQ,g0,g1,gp,gq,hfa,hfb,fillC,rets,hg]
  exact (prTwo _ _ _ zeroE hza hzb true).fr _

end Go.Proofs.Ytfncfdiomolieaa
end

section
set_option linter.unusedVariables false
set_option linter.unusedSimpArgs false
set_option maxRecDepth 100000
set_option maxHeartbeats 4000000
open Go.Proofs.Pe renaming putCells → qC, bslOf → qO, bsaOf → qA, bslS → qS, isUpto → qU, step → qT, intOf → qI, iop → qP, sop → qQ
open List renaming replicate → qR
open Go.Proofs.Pe.V renaming dead → qD
namespace Go.Proofs.Ytfncfdiomolieaa
open Go.Proofs.Pe

theorem make3_tail {k a b d : Int} {e : List Rw} {l : List R3} {ev lv : V} {evs vs : List V} {s1 s2 s3 : ByteArray} {ak bk ak2 an2 bk2 bn2 : Int} {an at' am2 bn bt' bm2 : ByteArray} {av al bv bl : V} {o : List O} {p q : Nat} {x10 x11 x12 x13 x14 x15 x16 x17 x18 x19 x20 x21 x22 x23 x24 x25 x26 x27 x28 x29 x30 x31 x32 x33 : V}
    (e1 : IsSl 3 ev evs) (e3 : All2 IsRw e evs) (hza : prP (.agg [iV ak,sV an,sV at',iV ak2,iV an2,sV am2,av,al])) (hzb : prP (.agg [iV bk,sV bn,sV bt',iV bk2,iV bn2,sV bm2,bv,bl]))
    (g0 : o[0]? = some (.cells [iV k,iV a,iV b,ev,lv])) (g1 : o[1]? = some (.cells [iV 0,sV (ByteArray.mk #[]),sV (ByteArray.mk #[]),iV 0,iV 0,sV (ByteArray.mk #[]),nilV,nilV]))
    (gp : o[p]? = some (.cells [iV ak,sV an,sV at',iV ak2,iV an2,sV am2,av,al])) (gq : o[q]? = some (.cells [iV bk,sV bn,sV bt',iV bk2,iV bn2,sV bm2,bv,bl])) {yi : Nat → Sem'} (hy : YLe yi yi) :
    Pe.ev Try.prog T (Pe.Call Try.prog T) Lfp c51x3 none yi ⟨⟨(.agg [iV k,iV a,iV b,ev,lv] :: iV d :: .pt 0 0 :: qD::.pt 1 0 :: sV s1 :: sV s2 :: sV s3 :: .pt p 0 :: .pt q 0 :: x10 :: x11 :: x12 :: x13 :: x14 :: x15 :: x16 :: x17 :: x18 :: x19 :: x20 :: x21 :: x22 :: x23 :: x24 :: x25 :: x26 :: x27 :: x28 :: x29 :: x30 :: x31 :: x32 :: x33 :: qD::qD::qD::qD::qD::qD::qD::qD::qD::qD::qD::qD::qD::qD::qD::qD::qD::qD::qD::qD::qD::qD::qD::qD::qD::qD::qD::qD::qD::qD::qD::qD::qD::qD::qD::qD::qD::qD::qD::qD::qD::qD::qD::qD::qD::qD::qD::qD::qD::qD::qD::qD::qD::qD::qD::qD::qD::qD::qD::qD::qD::qD::qD::qD::qD::qD::qD::qD::qD::qD::qD::qD::qD::qD::qD::qD::qD::qD::qD::qD::qD::qD::qD::qD::qD::qD::qD::qD::qD::qD::qD::qD::qD::qD::qD::qD::qD::qD::qD::[]),o⟩,[]⟩ (endK [Rv.cell 4 true 8] fun y o' => ∃ z o2,freezeT o' y = some (z,o2) ∧ prP z) := by
  obtain ⟨w1,w2⟩ := withinI_ok k (n := 20) (by decide)
  have hk : ∀ kk : Int,0 ≤ kk → kk < 20 → kk = 0 ∨ kk = 1 ∨ kk = 2 ∨ kk = 3 ∨ kk = 4 ∨ kk = 5 ∨ kk = 6 ∨ kk = 7 ∨ kk = 8 ∨ kk = 9 ∨ kk = 10 ∨ kk = 11 ∨ kk = 12 ∨ kk = 13 ∨ kk = 14 ∨ kk = 15 ∨ kk = 16 ∨ kk = 17 ∨ kk = 18 ∨ kk = 19 := by omega
  rcases hk _ w1 w2 with h | h | h | h | h | h | h | h | h | h | h | h | h | h | h | h | h | h | h | h
  · exact make3_t0 (l := l) (vs := vs) h e1 e3 hza hzb g0 g1 gp gq hy
  · exact make3_t1 (l := l) (vs := vs) h e1 e3 hza hzb g0 g1 gp gq hy
  · exact make3_t2 (l := l) (vs := vs) h e1 e3 hza hzb g0 g1 gp gq hy
  · exact make3_t3 (l := l) (vs := vs) h e1 e3 hza hzb g0 g1 gp gq hy
  · exact make3_t4 (l := l) (vs := vs) h e1 e3 hza hzb g0 g1 gp gq hy
  · exact make3_t5 (l := l) (vs := vs) h e1 e3 hza hzb g0 g1 gp gq hy
  · exact make3_t6 (l := l) (vs := vs) h e1 e3 hza hzb g0 g1 gp gq hy
  · exact make3_t7 (l := l) (vs := vs) h e1 e3 hza hzb g0 g1 gp gq hy
  · exact make3_t8 (l := l) (vs := vs) h e1 e3 hza hzb g0 g1 gp gq hy
  · exact make3_t9 (l := l) (vs := vs) h e1 e3 hza hzb g0 g1 gp gq hy
  · exact make3_t10 (l := l) (vs := vs) h e1 e3 hza hzb g0 g1 gp gq hy
  · exact make3_t11 (l := l) (vs := vs) h e1 e3 hza hzb g0 g1 gp gq hy
  · exact make3_t12 (l := l) (vs := vs) h e1 e3 hza hzb g0 g1 gp gq hy
  · exact make3_t13 (l := l) (vs := vs) h e1 e3 hza hzb g0 g1 gp gq hy
  · exact make3_t14 (l := l) (vs := vs) h e1 e3 hza hzb g0 g1 gp gq hy
  · exact make3_t15 (l := l) (vs := vs) h e1 e3 hza hzb g0 g1 gp gq hy
  · exact make3_t16 (l := l) (vs := vs) h e1 e3 hza hzb g0 g1 gp gq hy
  · exact make3_t17 (l := l) (vs := vs) h e1 e3 hza hzb g0 g1 gp gq hy
  · exact make3_t18 (l := l) (vs := vs) h e1 e3 hza hzb g0 g1 gp gq hy
  · exact make3_t19 (l := l) (vs := vs) h e1 e3 hza hzb g0 g1 gp gq hy
end Go.Proofs.Ytfncfdiomolieaa
end

section
set_option linter.unusedVariables false
set_option linter.unusedSimpArgs false
set_option maxRecDepth 100000
set_option maxHeartbeats 4000000
open Go.Proofs.Pe renaming putCells → qC, bslOf → qO, bsaOf → qA, bslS → qS, isUpto → qU, step → qT, intOf → qI, iop → qP, sop → qQ
open List renaming replicate → qR
open Go.Proofs.Pe.V renaming dead → qD
namespace Go.Proofs.Ytfncfdiomolieaa
open Go.Proofs.Pe

theorem make3_p : ∀ (x : R3) (u : V),IsR3 x u → ∀ (d : Int),PFn Try.prog T 51 [u,iV d] prP
  | .mk k a b e l,u,h,d => by
    have h' := h
    have ih : ∀ x ∈ l,∀ u,IsR3 x u → ∀ d,PFn Try.prog T 51 [u,iV d] prP := fun x hx u hu d => make3_p x u hu d
    obtain ⟨ev,evs,lv,vs,rfl,e1,e2,e3,h1,h2,h3⟩ := h
    have hp0 : PFn Try.prog T 58 [V.agg [iV k,iV a,iV b,ev,lv],iV 0,iV d] prP := part3_p h' 0 (by omega) d ih
    have hp1 : PFn Try.prog T 58 [V.agg [iV k,iV a,iV b,ev,lv],iV 1,iV d] prP := part3_p h' 1 (by omega) d ih
    have hone : lv.one = true := free1_one h1.free
    have hone1 : ev.one = true := free1_one e1.free
    have hfr : ∀ i x,x ∈ [V.agg [iV k,iV a,iV b,ev,lv],iV i,iV d] → x.free = true := fun i x hx => by
      simp only [List.mem_cons,List.not_mem_nil,or_false] at hx; rcases hx with rfl | rfl | rfl <;> first | exact h'.ok.1 | rfl
    obtain ⟨s1,hs1⟩ := w3 (a := a) (n := 3) (nm := nmV) (f := true) (by decide) rfl
    obtain ⟨s2,hs2⟩ := w3 (a := a) (n := 2) (nm := nmS) (f := true) (by decide) rfl
    obtain ⟨s3,hs3⟩ := w3 (a := a) (n := 5) (nm := nmD) (f := true) (by decide) rfl
    intro yi hy
    refine Call.step hy ?_
    rw [body_eq t51]
    simp only [c51,c51x1,RUA,RUB,RUC,RUD,RUE,RUF,if_true,if_false,Int.reduceEq,Int.reduceLT,Int.reduceLE,qC,qO,qA,qS,qU,Nat.reduceEqDiff,qT,E.at,qR,Nat.reduceAdd,Nat.reduceSub,Nat.reduceLeDiff,Nat.reduceMul,qI,qP,qQ,hone,hone1]
    refine vars_p.callF rfl (by simp) fun z hz => ?_
    subst hz
    try simp only [c51,c51x1,RUA,RUB,RUC,RUD,RUE,RUF,if_true,if_false,Int.reduceEq,Int.reduceLT,Int.reduceLE,qC,qO,qA,qS,qU,Nat.reduceEqDiff,qT,E.at,qR,Nat.reduceAdd,Nat.reduceSub,Nat.reduceLeDiff,Nat.reduceMul,qI,qP,qQ]
    refine (within3_p _ 3 (by decide) (by decide)).callE rfl rfl rfl ?_
    simp only [c51,c51x1,RUA,RUB,RUC,RUD,RUE,RUF,if_true,if_false,Int.reduceEq,Int.reduceLT,Int.reduceLE,qC,qO,qA,qS,qU,Nat.reduceEqDiff,qT,E.at,qR,Nat.reduceAdd,Nat.reduceSub,Nat.reduceLeDiff,Nat.reduceMul,qI,qP,qQ,vV,hs1]
    refine stacks_p.callF rfl (by simp) fun z hz => ?_
    subst hz
    try simp only [c51,c51x1,RUA,RUB,RUC,RUD,RUE,RUF,if_true,if_false,Int.reduceEq,Int.reduceLT,Int.reduceLE,qC,qO,qA,qS,qU,Nat.reduceEqDiff,qT,E.at,qR,Nat.reduceAdd,Nat.reduceSub,Nat.reduceLeDiff,Nat.reduceMul,qI,qP,qQ]
    refine (within3_p _ 2 (by decide) (by decide)).callE rfl rfl rfl ?_
    simp only [c51,c51x1,RUA,RUB,RUC,RUD,RUE,RUF,if_true,if_false,Int.reduceEq,Int.reduceLT,Int.reduceLE,qC,qO,qA,qS,qU,Nat.reduceEqDiff,qT,E.at,qR,Nat.reduceAdd,Nat.reduceSub,Nat.reduceLeDiff,Nat.reduceMul,qI,qP,qQ,sVl,hs2]
    refine defs_p.callF rfl (by simp) fun z hz => ?_
    subst hz
    try simp only [c51,c51x1,RUA,RUB,RUC,RUD,RUE,RUF,if_true,if_false,Int.reduceEq,Int.reduceLT,Int.reduceLE,qC,qO,qA,qS,qU,Nat.reduceEqDiff,qT,E.at,qR,Nat.reduceAdd,Nat.reduceSub,Nat.reduceLeDiff,Nat.reduceMul,qI,qP,qQ]
    refine (within3_p _ 5 (by decide) (by decide)).callE rfl rfl rfl ?_
    simp only [c51,c51x1,c51x2,RUA,RUB,RUC,RUD,RUE,RUF,if_true,if_false,Int.reduceEq,Int.reduceLT,Int.reduceLE,qC,qO,qA,qS,qU,Nat.reduceEqDiff,qT,E.at,qR,Nat.reduceAdd,Nat.reduceSub,Nat.reduceLeDiff,Nat.reduceMul,qI,qP,qQ,dV,hs3,hone,hone1]
    repeat' (first
      | (refine And.intro ?_ ?_)
      | exact trivial
      | (refine hp0.callF rfl (hfr 0) fun z hz => ?_
         have hz' := hz
         obtain ⟨pk,pn,pt,qk,qn,qm,pe,pl,rfl,ho1,ho2⟩ := prP.agg hz)
      | (refine hp1.callF rfl (hfr 1) fun z hz => ?_
         have hz' := hz
         obtain ⟨pk,pn,pt,qk,qn,qm,pe,pl,rfl,ho3,ho4⟩ := prP.agg hz)
      | (simp only [c51,c51x1,c51x2,RUA,RUB,RUC,RUD,RUE,RUF,if_true,if_false,Int.reduceEq,Int.reduceLT,Int.reduceLE,qC,qO,qA,qS,qU,Nat.reduceEqDiff,qT,E.at,qR,Nat.reduceAdd,Nat.reduceSub,Nat.reduceLeDiff,Nat.reduceMul,qI,qP,qQ,ho1,ho2,ho3,ho4,hone,hone1])
      | (simp only [c51,c51x1,c51x2,RUA,RUB,RUC,RUD,RUE,RUF,if_true,if_false,Int.reduceEq,Int.reduceLT,Int.reduceLE,qC,qO,qA,qS,qU,Nat.reduceEqDiff,qT,E.at,qR,Nat.reduceAdd,Nat.reduceSub,Nat.reduceLeDiff,Nat.reduceMul,qI,qP,qQ,ho1,ho2,hone,hone1])
      | (simp only [c51,c51x1,c51x2,RUA,RUB,RUC,RUD,RUE,RUF,if_true,if_false,Int.reduceEq,Int.reduceLT,Int.reduceLE,qC,qO,qA,qS,qU,Nat.reduceEqDiff,qT,E.at,qR,Nat.reduceAdd,Nat.reduceSub,Nat.reduceLeDiff,Nat.reduceMul,qI,qP,qQ,ho3,ho4,hone,hone1])
      | (simp only [c51,c51x1,c51x2,RUA,RUB,RUC,RUD,RUE,RUF,if_true,if_false,Int.reduceEq,Int.reduceLT,Int.reduceLE,qC,qO,qA,qS,qU,Nat.reduceEqDiff,qT,E.at,qR,Nat.reduceAdd,Nat.reduceSub,Nat.reduceLeDiff,Nat.reduceMul,qI,qP,qQ,hone,hone1]))
    all_goals
      apply make3_tail (l := l) (vs := vs) e1 e3
      case gp => exact rfl
      case gq => exact rfl
      case g0 => exact rfl
      case g1 => exact rfl
      case hza => assumption
      case hzb => assumption
      case hy => exact hy
termination_by x => SizeOf.sizeOf x
decreasing_by have := List.sizeOf_lt_of_mem hx; simp; omega
end Go.Proofs.Ytfncfdiomolieaa
end

section
set_option linter.unusedVariables false
set_option linter.unusedSimpArgs false
set_option maxRecDepth 100000
set_option maxHeartbeats 4000000
open Go.Proofs.Pe renaming putCells → qC, bslOf → qO, bsaOf → qA, bslS → qS, isUpto → qU, step → qT, intOf → qI, iop → qP, sop → qQ
open List renaming replicate → qR
open Go.Proofs.Pe.V renaming dead → qD
namespace Go.Proofs.Ytfncfdiomolieaa
open Go.Proofs.Pe

theorem find_p {lv : V} {ns : List ByteArray} (h1 : IsSl 1 lv (nmsV ns)) (h3 : ns.length ≤ maxLen) (s : ByteArray) :
    PFn Try.prog T 62 [lv,sV s] fun z => z = iV (findI ns s) := by
  unfold maxLen at h3
  have hrow := fun o => h1.row o
  have hln := nms_len ns
  intro yi hy
  refine Call.step hy ?_
  rw [body_eq t62]
  simp only [c62,c62x1,c62x2,RUA,RUB,RUC,RUD,RUE,RUF,if_true,if_false,Int.reduceEq,Int.reduceLT,Int.reduceLE,qC,qO,qA,qS,qU,Nat.reduceEqDiff,qT,E.at,qR,Nat.reduceAdd,Nat.reduceSub,Nat.reduceLeDiff,Nat.reduceMul,qI,qP,qQ]
  refine Lfp.inv call_le hy (fun i : Nat => ⟨⟨[lv,sV s,.dead,.dead,.dead,iV i,.dead,.dead,.dead,.dead,.dead,.dead,.dead,.dead,.dead,.dead,.dead,.dead,.dead],[]⟩,[]⟩) (fun i => ns.length - i)
    (fun i => i ≤ ns.length ∧ ∀ j,j < i → ns[j]? ≠ some s) 0 ⟨Nat.zero_le _,fun j hj => by omega⟩ (by simp only [kill_L,killTs_nil,RUF] <;> rfl) ?_
  intro i ⟨hi,hj⟩
  by_cases hlt : i < ns.length
  · have hd1 : decide ((i : Int) < ((nmsV ns).length : Int)) = true := by rw [hln]; simpa using hlt
    have hx : ns[i]? = some ns[i] := List.getElem?_eq_getElem hlt
    generalize ns[i] = u at hx
    have hI := fun o => h1.ix o (nms_get hx)
    have hw1 : IntKind.i64.wrap ((i : Int) + 1) = ((i + 1 : Nat) : Int) := wrap_succ (by omega)
    by_cases hb : u = s
    · have hb' : (u.toList == s.toList) = true := by rw [ba_eq]; simpa using hb
      simp only [c62,c62x1,c62x2,c62x3,c62x4,c62x5,c62x6,c62x7,c62x8,RUA,RUB,RUC,RUD,RUE,RUF,if_true,if_false,Int.reduceEq,Int.reduceLT,Int.reduceLE,qC,qO,qA,qS,qU,Nat.reduceEqDiff,qT,E.at,qR,Nat.reduceAdd,Nat.reduceSub,Nat.reduceLeDiff,Nat.reduceMul,qI,qP,qQ,hd1,hI,hrow,hb']
      subst hb
      exact ⟨_,_,rfl,by unfold findI; rw [findO_at hj hx]⟩
    · have hb' : (u.toList == s.toList) = false := by rw [ba_eq]; simpa using hb
      simp only [c62,c62x1,c62x2,c62x3,c62x4,c62x5,c62x6,c62x7,c62x8,RUA,RUB,RUC,RUD,RUE,RUF,if_true,if_false,Int.reduceEq,Int.reduceLT,Int.reduceLE,qC,qO,qA,qS,qU,Nat.reduceEqDiff,qT,E.at,qR,Nat.reduceAdd,Nat.reduceSub,Nat.reduceLeDiff,Nat.reduceMul,qI,qP,qQ,hd1,hI,hrow,hb',hw1]
      refine ⟨i + 1,⟨by omega,fun j hj2 => ?_⟩,by omega,rfl⟩
      by_cases e : j = i
      · subst e; rw [hx]; simpa using hb
      · exact hj j (by omega)
  · have hd1 : decide ((i : Int) < ((nmsV ns).length : Int)) = false := by rw [hln]; simpa using hlt
    simp only [c62,c62x1,c62x2,c62x3,c62x4,c62x5,c62x6,c62x7,c62x8,RUA,RUB,RUC,RUD,RUE,RUF,if_true,if_false,Int.reduceEq,Int.reduceLT,Int.reduceLE,qC,qO,qA,qS,qU,Nat.reduceEqDiff,qT,E.at,qR,Nat.reduceAdd,Nat.reduceSub,Nat.reduceLeDiff,Nat.reduceMul,qI,qP,qQ,hd1,hrow]
    exact ⟨_,_,rfl,by unfold findI; rw [findO_none fun j hj2 => hj j (by omega)]⟩
theorem find_fr {lv : V} {ns : List ByteArray} (h1 : IsSl 1 lv (nmsV ns)) (s : ByteArray) (o : List O) : commits o [lv,sV s] = some ([lv,sV s],o) := cf2 h1.freeV rfl o
theorem twice_p {lv : V} {ns : List ByteArray} (h1 : IsSl 1 lv (nmsV ns)) (h3 : ns.length ≤ maxLen) :
    PFn Try.prog T 61 [lv] fun z => z = bV (twiceB ns) := by
  have h3' := h3
  unfold maxLen at h3
  have hrow := fun o => h1.row o
  have hln := nms_len ns
  intro yi hy
  refine Call.step hy ?_
  rw [body_eq t61]
  simp only [c61,c61x1,c61x2,RUA,RUB,RUC,RUD,RUE,RUF,if_true,if_false,Int.reduceEq,Int.reduceLT,Int.reduceLE,qC,qO,qA,qS,qU,Nat.reduceEqDiff,qT,E.at,qR,Nat.reduceAdd,Nat.reduceSub,Nat.reduceLeDiff,Nat.reduceMul,qI,qP,qQ]
  refine Lfp.inv call_le hy (fun i : Nat => ⟨⟨[lv,.dead,.dead,iV i,.dead,.dead,.dead,.dead,.dead,.dead,.dead,.dead,.dead,.dead,.dead,.dead,.dead,.dead],[]⟩,[]⟩) (fun i => ns.length - i)
    (fun i => i ≤ ns.length ∧ ∀ j,j < i → ∀ u,ns[j]? = some u → findI ns u = j) 0 ⟨Nat.zero_le _,fun j hj => by omega⟩ (by simp only [kill_L,killTs_nil,RUF] <;> rfl) ?_
  intro i ⟨hi,hj⟩
  by_cases hlt : i < ns.length
  · have hd1 : decide ((i : Int) < ((nmsV ns).length : Int)) = true := by rw [hln]; simpa using hlt
    have hx : ns[i]? = some ns[i] := List.getElem?_eq_getElem hlt
    generalize ns[i] = u at hx
    have hI := fun o => h1.ix o (nms_get hx)
    have hw1 : IntKind.i64.wrap ((i : Int) + 1) = ((i + 1 : Nat) : Int) := wrap_succ (by omega)
    simp only [c61,c61x1,c61x2,c61x3,c61x4,c61x5,c61x6,c61x7,c61x8,RUA,RUB,RUC,RUD,RUE,RUF,if_true,if_false,Int.reduceEq,Int.reduceLT,Int.reduceLE,qC,qO,qA,qS,qU,Nat.reduceEqDiff,qT,E.at,qR,Nat.reduceAdd,Nat.reduceSub,Nat.reduceLeDiff,Nat.reduceMul,qI,qP,qQ,hd1,hI,hrow]
    refine (find_p h1 h3' u).callE rfl (find_fr h1 u _) rfl ?_
    by_cases hb : findI ns u = (i : Int)
    · have hb' : decide (findI ns u = (i : Int)) = true := by simpa using hb
      simp only [c61,c61x1,c61x2,c61x3,c61x4,c61x5,c61x6,c61x7,c61x8,RUA,RUB,RUC,RUD,RUE,RUF,if_true,if_false,Int.reduceEq,Int.reduceLT,Int.reduceLE,qC,qO,qA,qS,qU,Nat.reduceEqDiff,qT,E.at,qR,Nat.reduceAdd,Nat.reduceSub,Nat.reduceLeDiff,Nat.reduceMul,qI,qP,qQ,hb',hw1]
      refine ⟨i + 1,⟨by omega,fun j hj2 w hw => ?_⟩,by omega,rfl⟩
      by_cases e : j = i
      · subst e; rw [hx] at hw; cases hw; exact hb
      · exact hj j (by omega) w hw
    · have hb' : decide (findI ns u = (i : Int)) = false := by simpa using hb
      simp only [c61,c61x1,c61x2,c61x3,c61x4,c61x5,c61x6,c61x7,c61x8,RUA,RUB,RUC,RUD,RUE,RUF,if_true,if_false,Int.reduceEq,Int.reduceLT,Int.reduceLE,qC,qO,qA,qS,qU,Nat.reduceEqDiff,qT,E.at,qR,Nat.reduceAdd,Nat.reduceSub,Nat.reduceLeDiff,Nat.reduceMul,qI,qP,qQ,hb']
      refine ⟨_,_,rfl, ?_⟩
      have : twiceB ns = true := by
        unfold twiceB; rw [List.any_eq_true]
        exact ⟨i,by simpa using hlt,by rw [hx]; simpa using hb⟩
      rw [this]
  · have hd1 : decide ((i : Int) < ((nmsV ns).length : Int)) = false := by rw [hln]; simpa using hlt
    simp only [c61,c61x1,c61x2,c61x3,c61x4,c61x5,c61x6,c61x7,c61x8,RUA,RUB,RUC,RUD,RUE,RUF,if_true,if_false,Int.reduceEq,Int.reduceLT,Int.reduceLE,qC,qO,qA,qS,qU,Nat.reduceEqDiff,qT,E.at,qR,Nat.reduceAdd,Nat.reduceSub,Nat.reduceLeDiff,Nat.reduceMul,qI,qP,qQ,hd1,hrow]
    refine ⟨_,_,rfl, ?_⟩
    have : twiceB ns = false := by
      unfold twiceB; rw [List.any_eq_false]
      intro j hj2
      have hj3 : j < ns.length := by simpa using hj2
      rw [List.getElem?_eq_getElem hj3]
      simpa using hj j (by omega) _ (List.getElem?_eq_getElem hj3)
    rw [this]
end Go.Proofs.Ytfncfdiomolieaa
end

section
set_option linter.unusedVariables false
set_option linter.unusedSimpArgs false
set_option maxRecDepth 100000
set_option maxHeartbeats 4000000
open Go.Proofs.Pe renaming putCells → qC, bslOf → qO, bsaOf → qA, bslS → qS, isUpto → qU, step → qT, intOf → qI, iop → qP, sop → qQ
open List renaming replicate → qR
open Go.Proofs.Pe.V renaming dead → qD
namespace Go.Proofs.Ytfncfdiomolieaa
open Go.Proofs.Pe

inductive VarD where
  | mk (nm : ByteArray) (n : Int)
inductive DefD where
  | mk (nm : ByteArray) (p : Pr)
def VarD.nm : VarD → ByteArray | .mk s _ => s
def DefD.nm : DefD → ByteArray | .mk s _ => s
def DefD.p : DefD → Pr | .mk _ p => p
def IsVar : VarD → V → Prop
  | .mk s n,x => x = .agg [sV s,iV n]
def IsDef : DefD → V → Prop
  | .mk s p,x => ∃ b,x = .agg (sV s :: b) ∧ IsPr p (.agg b)
theorem IsPr.agg {p : Pr} {b : List V} (h : IsPr p (.agg b)) : ∃ pk pn pt qk qn qm ev lv,b = [iV pk,sV pn,sV pt,iV qk,iV qn,sV qm,ev,lv] ∧ ev.one = true ∧ lv.one = true := by
  rcases p with ⟨pk,pn,pt,⟨qk,qn,qm,ql⟩,pl⟩
  obtain ⟨ev2,evs2,lv2,vs2,e,g1,_,_,g2,_⟩ := h
  cases e
  exact ⟨pk,pn,pt,qk,qn,qm,ev2,lv2,rfl,free1_one g1.free,free1_one g2.free⟩
theorem names_p {vv sv pv : V} {vs ps : List V} {lv : List VarD} {lp : List DefD} (h1 : IsSl 2 vv vs) (h2 : All2 IsVar lv vs) (h3 : vs.length ≤ 1000) (h4 : IsSl 9 pv ps) (h5 : All2 IsDef lp ps) (h6 : ps.length ≤ 1000) (hs : sv.one = true) :
    PFn Try.prog T 60 [.agg [vv,sv,pv]] fun z => ∃ v d,z = .tup [v,d] ∧ IsSl 1 v (nmsV (lv.map VarD.nm)) ∧ IsSl 1 d (nmsV (lp.map DefD.nm)) := by
  have hr1 := fun o => h1.row o
  have hr4 := fun o => h4.row o
  have ho1 : vv.one = true := free1_one h1.free
  have ho4 : pv.one = true := free1_one h4.free
  have hl2 := h2.len
  have hl5 := h5.len
  intro yi hy
  refine Call.step hy ?_
  rw [body_eq t60]
  simp only [c60,c60x1,c60x2,RUA,RUB,RUC,RUD,RUE,RUF,if_true,if_false,Int.reduceEq,Int.reduceLT,Int.reduceLE,qC,qO,qA,qS,qU,Nat.reduceEqDiff,qT,E.at,qR,Nat.reduceAdd,Nat.reduceSub,Nat.reduceLeDiff,Nat.reduceMul,qI,qP,qQ,ho1,ho4,hs]
  refine Lfp.inv call_le hy (fun a : Nat × List O × V => ⟨⟨[.dead,.pt 0 0,.dead,.dead,a.2.2,nilV,iV a.1,.dead,.dead,.dead,.dead,.dead,.dead,.dead,.dead,.dead,.dead,.dead,.dead,.dead,.dead,.dead,.dead,.dead,.dead,.dead,.dead,.dead,.dead,.dead,.dead,.dead,.dead,.dead,.dead,.dead,.dead,.dead,.dead,.dead,.dead,.dead],.cells [vv,sv,pv] :: a.2.1⟩,[]⟩) (fun a => vs.length - a.1)
    (fun a => a.1 ≤ vs.length ∧ Tail 1 1 a.2.2 (nmsV ((lv.map VarD.nm).take a.1)) a.2.1) (0,[],nilV) ⟨Nat.zero_le _,.nil _ _⟩ (by simp only [kill_L,killTs_nil,RUF] <;> rfl) ?_
  rintro ⟨i,tl,out⟩ ⟨hi,hrow⟩
  dsimp only at hi hrow
  by_cases hlt : i < vs.length
  · have hd1 : decide ((i : Int) < (vs.length : Int)) = true := by simpa using hlt
    have hx : vs[i]? = some vs[i] := List.getElem?_eq_getElem hlt
    have hlx : i < lv.length := by omega
    have hxl : lv[i]? = some lv[i] := List.getElem?_eq_getElem hlx
    have hE := h2.get hx hxl
    generalize vs[i] = u at hx hE
    generalize lv[i] = x at hxl hE
    rcases x with ⟨s,n⟩
    obtain rfl := hE
    have hI := fun o => h1.ix o hx
    have hw1 : IntKind.i64.wrap ((i : Int) + 1) = ((i + 1 : Nat) : Int) := wrap_succ (by omega)
    obtain ⟨rv',tl',p1,p2⟩ := hrow.push (b := 16) (f := true) (y := sV s) rfl (by rw [nms_len]; simp; unfold room; omega) (o := [.cells [vv,sv,pv]]) rfl
    simp only [List.cons_append,List.nil_append] at p1
    simp only [c60,c60x1,c60x2,c60x3,c60x4,c60x5,c60x6,c60x7,RUA,RUB,RUC,RUD,RUE,RUF,if_true,if_false,Int.reduceEq,Int.reduceLT,Int.reduceLE,qC,qO,qA,qS,qU,Nat.reduceEqDiff,qT,E.at,qR,Nat.reduceAdd,Nat.reduceSub,Nat.reduceLeDiff,Nat.reduceMul,qI,qP,qQ,hd1,hI,hr1,p1,hw1]
    refine ⟨(i + 1,tl',rv'),⟨by simp only; omega, ?_⟩,by simp only; omega,rfl⟩
    simp only [take_succ_map hxl,VarD.nm]
    rw [← nms_snoc]; exact p2
  · have hd1 : decide ((i : Int) < (vs.length : Int)) = false := by simpa using hlt
    simp only [c60,c60x1,c60x2,c60x3,c60x4,c60x5,c60x6,c60x7,c60x8,c60x9,RUA,RUB,RUC,RUD,RUE,RUF,if_true,if_false,Int.reduceEq,Int.reduceLT,Int.reduceLE,qC,qO,qA,qS,qU,Nat.reduceEqDiff,qT,E.at,qR,Nat.reduceAdd,Nat.reduceSub,Nat.reduceLeDiff,Nat.reduceMul,qI,qP,qQ,hd1,hr1]
    rw [List.take_of_length_le (by simp; omega)] at hrow
    refine Lfp.inv call_le hy (fun a : Nat × List O × V => ⟨⟨[.dead,.pt 0 0,.dead,.dead,out,a.2.2,.dead,iV a.1,.dead,.dead,.dead,.dead,.dead,.dead,.dead,.dead,.dead,.dead,.dead,.dead,.dead,.dead,.dead,.dead,.dead,.dead,.dead,.dead,.dead,.dead,.dead,.dead,.dead,.dead,.dead,.dead,.dead,.dead,.dead,.dead,.dead,.dead],(.cells [vv,sv,pv] :: tl) ++ a.2.1⟩,[]⟩) (fun a => ps.length - a.1)
      (fun a => a.1 ≤ ps.length ∧ Tail (tl.length + 1) 1 a.2.2 (nmsV ((lp.map DefD.nm).take a.1)) a.2.1) (0,[],nilV) ⟨Nat.zero_le _,.nil _ _⟩ (by simp only [kill_L,killTs_nil,RUF,List.append_nil] <;> rfl) ?_
    rintro ⟨j,tl2,out2⟩ ⟨hj,hrow2⟩
    dsimp only at hj hrow2
    by_cases hlt : j < ps.length
    · have hd1 : decide ((j : Int) < (ps.length : Int)) = true := by simpa using hlt
      have hx : ps[j]? = some ps[j] := List.getElem?_eq_getElem hlt
      have hlx : j < lp.length := by omega
      have hxl : lp[j]? = some lp[j] := List.getElem?_eq_getElem hlx
      have hE := h5.get hx hxl
      generalize ps[j] = u at hx hE
      generalize lp[j] = x at hxl hE
      rcases x with ⟨s,p⟩
      obtain ⟨b,rfl,hb⟩ := hE
      have hI := fun o => h4.ix o hx
      have hw1 : IntKind.i64.wrap ((j : Int) + 1) = ((j + 1 : Nat) : Int) := wrap_succ (by omega)
      obtain ⟨rv',tl',p1,p2⟩ := hrow2.push (b := 16) (f := true) (y := sV s) rfl (by rw [nms_len]; simp; unfold room; omega) (o := .cells [vv,sv,pv] :: tl) (by simp)
      simp only [List.cons_append] at p1
      obtain ⟨pk,pn,pt,qk,qn,qm,pe,pl,rfl,_,_⟩ := IsPr.agg hb
      simp only [c60,c60x1,c60x2,c60x3,c60x4,c60x5,c60x6,c60x7,c60x8,c60x9,c60x10,c60x11,c60x12,c60x13,c60x14,RUA,RUB,RUC,RUD,RUE,RUF,if_true,if_false,Int.reduceEq,Int.reduceLT,Int.reduceLE,qC,qO,qA,qS,qU,Nat.reduceEqDiff,qT,E.at,qR,Nat.reduceAdd,Nat.reduceSub,Nat.reduceLeDiff,Nat.reduceMul,qI,qP,qQ,hd1,hI,hr4,p1,hw1]
      refine ⟨(j + 1,tl',rv'),⟨by simp only; omega, ?_⟩,by simp only; omega,by simp only [List.cons_append]⟩
      simp only [take_succ_map hxl,DefD.nm]
      rw [← nms_snoc]; exact p2
    · have hd1 : decide ((j : Int) < (ps.length : Int)) = false := by simpa using hlt
      rw [List.take_of_length_le (by simp; omega)] at hrow2
      obtain ⟨w1,tl3,f1,f2⟩ : ∃ w tl3,freezeD (.cells [vv,sv,pv] :: (tl ++ tl2)) out = some (w,.cells [vv,sv,pv] :: (tl3 ++ tl2)) ∧ IsSl 1 w (nmsV (lv.map VarD.nm)) ∧ tl3.length = tl.length := by
        rcases hrow with ⟨rfl,e,rfl⟩ | ⟨v,wr,rfl,rfl⟩
        · exact ⟨nilV,[],rfl,.inl ⟨rfl,e⟩,rfl⟩
        · exact ⟨.sl 1 false (nmsV (lv.map VarD.nm)),[.arr v false 1 (nmsV (lv.map VarD.nm))],by simp [freezeD,nms_free],.inr ⟨_,rfl⟩,rfl⟩
      obtain ⟨w2,tl4,f4,f5⟩ := hrow2.frzD (nms_free _) (o := .cells [vv,sv,pv] :: tl3) (by simp [f2.2])
      simp only [List.cons_append] at f4
      simp only [c60,c60x1,c60x2,c60x3,c60x4,c60x5,c60x6,c60x7,c60x8,c60x9,c60x10,c60x11,c60x12,c60x13,c60x14,RUA,RUB,RUC,RUD,RUE,RUF,if_true,if_false,Int.reduceEq,Int.reduceLT,Int.reduceLE,qC,qO,qA,qS,qU,Nat.reduceEqDiff,qT,E.at,qR,Nat.reduceAdd,Nat.reduceSub,Nat.reduceLeDiff,Nat.reduceMul,qI,qP,qQ,hd1,hr4]
      have hf : freezeT (.cells [vv,sv,pv] :: (tl ++ tl2)) (.tup [out,out2]) = some (.tup [w1,w2],.cells [vv,sv,pv] :: (tl3 ++ tl4)) := by
        simp only [freezeT,freezeDs,f1,f4,Option.map_some]
      exact ⟨.tup [w1,w2],_,hf,w1,w2,rfl,f2.1,f5⟩
end Go.Proofs.Ytfncfdiomolieaa
end

section
set_option linter.unusedVariables false
set_option linter.unusedSimpArgs false
set_option maxRecDepth 100000
set_option maxHeartbeats 4000000
open Go.Proofs.Pe renaming putCells → qC, bslOf → qO, bsaOf → qA, bslS → qS, isUpto → qU, step → qT, intOf → qI, iop → qP, sop → qQ
open List renaming replicate → qR
open Go.Proofs.Pe.V renaming dead → qD
namespace Go.Proofs.Ytfncfdiomolieaa
open Go.Proofs.Pe

structure Low (v s d : V) (vs ss ds : List ByteArray) : Prop where
  v1 : IsSl 1 v (nmsV vs)
  v3 : vs.length ≤ 1000
  s1 : IsSl 1 s (nmsV ss)
  s3 : ss.length ≤ 1000
  d1 : IsSl 1 d (nmsV ds)
  d3 : ds.length ≤ 1000
theorem Low.fr {v s d : V} {vs ss ds : List ByteArray} (h : Low v s d vs ss ds) (b : Bool) : ([v,s,d,bV b].all V.free1) = true := by
  simp only [List.all_cons,List.all_nil,h.v1.free,h.s1.free,h.d1.free,free1_sc,Bool.and_self]
theorem at_c {v s d lv : V} {vs ss ds ls : List ByteArray} (L : Low v s d vs ss ds) (b : Bool) (h1 : IsSl 1 lv (nmsV ls)) (h3 : ls.length ≤ 1000) (u : ByteArray) :
    SFn Try.prog T 68 [.pt 0 0,lv,sV u] [.cells [v,s,d,bV b]] fun z os' => z = iV (findI ls u) ∧ os' = [.cells [v,s,d,bV (b || decide (findI ls u < 0))]] := by
  intro yi hy
  refine Call.step hy ?_
  rw [body_eq t68]
  simp only [c68,c68x1,c68x2,c68x3,c68x4,RUA,RUB,RUC,RUD,RUE,RUF,if_true,if_false,Int.reduceEq,Int.reduceLT,Int.reduceLE,qC,qO,qA,qS,qU,Nat.reduceEqDiff,qT,E.at,qR,Nat.reduceAdd,Nat.reduceSub,Nat.reduceLeDiff,Nat.reduceMul,qI,qP,qQ]
  refine (find_p h1 (by unfold maxLen; omega) u).callE rfl (find_fr h1 u _) rfl ?_
  cases hb : decide (findI ls u < 0) with
  | false =>
    simp only [c68,c68x1,c68x2,c68x3,c68x4,RUA,RUB,RUC,RUD,RUE,RUF,if_true,if_false,Int.reduceEq,Int.reduceLT,Int.reduceLE,qC,qO,qA,qS,qU,Nat.reduceEqDiff,qT,E.at,qR,Nat.reduceAdd,Nat.reduceSub,Nat.reduceLeDiff,Nat.reduceMul,qI,qP,qQ,hb]
    exact ⟨_,_,fin1 (L.fr b) rfl,rfl,by rw [Bool.or_false]⟩
  | true =>
    simp only [c68,c68x1,c68x2,c68x3,c68x4,RUA,RUB,RUC,RUD,RUE,RUF,if_true,if_false,Int.reduceEq,Int.reduceLT,Int.reduceLE,qC,qO,qA,qS,qU,Nat.reduceEqDiff,qT,E.at,qR,Nat.reduceAdd,Nat.reduceSub,Nat.reduceLeDiff,Nat.reduceMul,qI,qP,qQ,hb]
    exact ⟨_,_,fin1 (L.fr true) rfl,rfl,rfl⟩
end Go.Proofs.Ytfncfdiomolieaa
end

section
set_option linter.unusedVariables false
set_option linter.unusedSimpArgs false
set_option maxRecDepth 100000
set_option maxHeartbeats 4000000
open Go.Proofs.Pe renaming putCells → qC, bslOf → qO, bsaOf → qA, bslS → qS, isUpto → qU, step → qT, intOf → qI, iop → qP, sop → qQ
open List renaming replicate → qR
open Go.Proofs.Pe.V renaming dead → qD
namespace Go.Proofs.Ytfncfdiomolieaa
open Go.Proofs.Pe

theorem expr_b {v s d : V} {vs ss ds : List ByteArray} (L : Low v s d vs ss ds) {k n : Int} {m : ByteArray} {xl : List Ex} {u : V} (h : IsEx (.mk k n m xl) u) (b : Bool)
    (ih : ∀ x ∈ xl,∀ u,IsEx x u → ∀ (b : Bool),SFn Try.prog T 69 [.pt 0 0,u] [.cells [v,s,d,bV b]] fun z os' => IsEx (lowE vs x) z ∧ os' = [.cells [v,s,d,bV (b || badE vs x)]]) :
    SFn Try.prog T 69 [.pt 0 0,u] [.cells [v,s,d,bV b]] fun z os' => IsEx (lowE vs (.mk k n m xl)) z ∧ os' = [.cells [v,s,d,bV (b || badE vs (.mk k n m xl))]] := by
  obtain ⟨lv,es,rfl,e1,e2,e3⟩ := h
  rw [isExs_all] at e3
  have hln := e3.len
  have hone : lv.one = true := free1_one e1.free
  have hrow := fun o => e1.row o
  simp only [lowE,badE,lowEs_map,badEs_any]
  intro yi hy
  refine Call.step hy ?_
  rw [body_eq t69]
  unfold cap at e2
  have tail : ∀ (b' : Bool) (N : Int) (x7 x8 x9 x10 x11 x12 x13 x14 x15 x16 x17 x18 x19 x20 x21 x22 x23 x24 x25 x26 x27 x28 x29 x30 x31 x32 x33 x34 x35 x36 x37 x38 x39 x40 x41 x42 : V),
      ev Try.prog T (Pe.Call Try.prog T) Lfp c69x4 none yi ⟨⟨[.pt 0 0,.agg [iV k,iV n,sV m,lv],.dead,.pt 1 0,.pt 2 0,.pt 3 0,.dead,x7,x8,x9,x10,x11,x12,x13,x14,x15,x16,x17,x18,x19,x20,x21,x22,x23,x24,x25,x26,x27,x28,x29,x30,x31,x32,x33,x34,x35,x36,x37,x38,x39,x40,x41,x42,.dead],[.cells [v,s,d,bV b'],.cells [iV k,iV n,sV m,lv],.cells [iV 0,iV 0,sV (ByteArray.mk #[]),nilV],.cells [iV k,iV N,sV (ByteArray.mk #[]),nilV]]⟩,[]⟩
        (endK [Rv.cell 4 true 4] fun y o' => ∃ z os',Fin5 1 y o' z os' ∧ IsEx (.mk k N emp (xl.map (lowE vs))) z ∧ os' = [.cells [v,s,d,bV (b' || xl.any (badE vs))]]) := by
    intro b' N x7 x8 x9 x10 x11 x12 x13 x14 x15 x16 x17 x18 x19 x20 x21 x22 x23 x24 x25 x26 x27 x28 x29 x30 x31 x32 x33 x34 x35 x36 x37 x38 x39 x40 x41 x42
    simp only [c69x4,c69x5,RUA,RUB,RUC,RUD,RUE,RUF,if_true,if_false,Int.reduceEq,Int.reduceLT,Int.reduceLE,qC,qO,qA,qS,qU,Nat.reduceEqDiff,qT,E.at,qR,Nat.reduceAdd,Nat.reduceSub,Nat.reduceLeDiff,Nat.reduceMul,qI,qP,qQ]
    refine Lfp.inv call_le hy (fun a : Nat × V × List O => ⟨⟨[.pt 0 0,.dead,.dead,.pt 1 0,.pt 2 0,.pt 3 0,iV a.1,.dead,.dead,.dead,.dead,.dead,.dead,.dead,.dead,.dead,.dead,.dead,.dead,.dead,.dead,.dead,.dead,.dead,.dead,.dead,.dead,.dead,.dead,.dead,.dead,.dead,.dead,.dead,.dead,.dead,.dead,.dead,.dead,.dead,.dead,.dead,.dead,.dead],.cells [v,s,d,bV (b' || (xl.take a.1).any (badE vs))] :: .cells [iV k,iV n,sV m,lv] :: .cells [iV 0,iV 0,sV (ByteArray.mk #[]),nilV] :: .cells [iV k,iV N,sV (ByteArray.mk #[]),a.2.1] :: a.2.2⟩,[]⟩) (fun a => es.length - a.1)
      (fun a => a.1 ≤ es.length ∧ ∃ us,Tail 4 4 a.2.1 us a.2.2 ∧ All2 IsEx ((xl.map (lowE vs)).take a.1) us) (0,nilV,[])
      ⟨Nat.zero_le _,[],.nil _ _,rfl⟩ (by simp only [kill_L,killTs_nil,RUF,List.take_zero,List.any_nil,Bool.or_false] <;> rfl) ?_
    rintro ⟨i,rv,tl⟩ ⟨hi,us,hT,hA⟩
    dsimp only at hi hT hA
    have hul := hA.len
    by_cases hlt : i < es.length
    · have hd1 : decide ((i : Int) < (es.length : Int)) = true := by simpa using hlt
      have hx : es[i]? = some es[i] := List.getElem?_eq_getElem hlt
      have hlx : i < xl.length := by omega
      have hxl : xl[i]? = some xl[i] := List.getElem?_eq_getElem hlx
      have hE := e3.get hx hxl
      have hxm : xl[i] ∈ xl := List.getElem_mem _
      generalize es[i] = w at hx hE
      generalize xl[i] = y at hxl hE hxm
      have hI := fun o => e1.ix o hx
      have hw1 : IntKind.i64.wrap ((i : Int) + 1) = ((i + 1 : Nat) : Int) := wrap_succ (by omega)
      have hfr := hE.ok.1
      have hag : ∃ k' n' m' lv',w = .agg [iV k',iV n',sV m',lv'] ∧ lv'.one = true := by
        rcases y with ⟨yk,yn,ym,yl⟩
        obtain ⟨lv',_,e,h1,_⟩ := hE
        exact ⟨_,_,_,_,e,free1_one h1.free⟩
      obtain ⟨k',n',m',lv',rfl,hlv'⟩ := hag
      simp only [c69,c69x1,c69x2,c69x3,c69x4,c69x5,c69x6,c69x7,c69x8,c69x8,RUA,RUB,RUC,RUD,RUE,RUF,if_true,if_false,Int.reduceEq,Int.reduceLT,Int.reduceLE,qC,qO,qA,qS,qU,Nat.reduceEqDiff,qT,E.at,qR,Nat.reduceAdd,Nat.reduceSub,Nat.reduceLeDiff,Nat.reduceMul,qI,qP,qQ,hd1,hrow,hI]
      refine ⟨?_, ?_⟩
      all_goals
        refine (ih _ hxm _ hE _).call1 rfl (by simpa using hfr) rfl (L.fr _) fun z os' hq => ?_
        obtain ⟨hz,rfl⟩ := hq
        refine ⟨_,rfl,L.fr _,freeT_of hz.ok.1, ?_⟩
        have hz1 := hz.ok
        obtain ⟨rv',tl',p1,p2⟩ := hT.push (b := 56) (f := true) (y := z) (okRow1 hz.ok) (by rw [hul]; simp; unfold room; omega) (o := [.cells [v,s,d,bV ((b' || (xl.take i).any (badE vs)) || badE vs y)],.cells [iV k,iV n,sV m,lv],.cells [iV 0,iV 0,sV (ByteArray.mk #[]),nilV],.cells [iV k,iV N,sV (ByteArray.mk #[]),rv]]) rfl
        simp only [List.cons_append,List.nil_append] at p1
        have hz4 : decide (z.cells.length = 4) = true := by simpa using hz1.2
        have hs := p2.shape
        simp only [c69,c69x1,c69x2,c69x3,c69x4,c69x5,c69x6,c69x7,c69x8,c69x9,c69x10,c69x8,RUA,RUB,RUC,RUD,RUE,RUF,if_true,if_false,Int.reduceEq,Int.reduceLT,Int.reduceLE,qC,qO,qA,qS,qU,Nat.reduceEqDiff,qT,E.at,qR,Nat.reduceAdd,Nat.reduceSub,Nat.reduceLeDiff,Nat.reduceMul,qI,qP,qQ,hz1.1,hz4,p1,hw1,hs.1,hs.2.1,hs.2.2]
        refine ⟨(i + 1,rv',tl'),⟨by simp only; omega,us ++ [z],p2, ?_⟩,by simp only; omega,by simp only [take_succ_any hxl,Bool.or_assoc]⟩
        rw [take_succ_map hxl]
        exact hA.snoc hz
    · have hd1 : decide ((i : Int) < (es.length : Int)) = false := by simpa using hlt
      have hs := hT.shape
      rw [List.take_of_length_le (by simp; omega)] at hA
      have ht : xl.take i = xl := List.take_of_length_le (by omega)
      rw [ht]
      simp only [c69,c69x1,c69x2,c69x3,c69x4,c69x5,c69x6,c69x7,c69x8,c69x9,c69x10,RUA,RUB,RUC,RUD,RUE,RUF,if_true,if_false,Int.reduceEq,Int.reduceLT,Int.reduceLE,qC,qO,qA,qS,qU,Nat.reduceEqDiff,qT,E.at,qR,Nat.reduceAdd,Nat.reduceSub,Nat.reduceLeDiff,Nat.reduceMul,qI,qP,qQ,hd1,hrow,hs.1,hs.2.1,hs.2.2,rets,List.take]
      obtain ⟨w,tl',f1,f2⟩ := hT.frz1 (hA.free fun _ _ h => h.ok.1) (o := [.cells [v,s,d,bV (b' || xl.any (badE vs))],.cells [iV k,iV n,sV m,lv],.cells [iV k,iV N,sV (ByteArray.mk #[]),rv],.cells [iV k,iV N,sV (ByteArray.mk #[]),rv]]) rfl
      simp only [List.cons_append,List.nil_append] at f1
      have hf := frzT_ag (cs := [iV k,iV N,sV (ByteArray.mk #[]),rv]) (o := _) (by rw [frzs_cons (y := iV k) rfl,frzs_cons (y := iV N) rfl,frzs_cons (y := sV (ByteArray.mk #[])) rfl,frzs_cons f1]; rfl)
      refine ⟨_,_,fin1F hf (L.fr _) (by simp only [V.freeT,free_agg,List.all_cons,List.all_nil,free1_sc,f2.free,Bool.and_self]),⟨w,us,rfl,f2,by unfold cap; have := hA.len; simp at this; omega,isExs_all.2 hA⟩,rfl⟩
  simp only [c69,c69x1,c69x2,RUA,RUB,RUC,RUD,RUE,RUF,if_true,if_false,Int.reduceEq,Int.reduceLT,Int.reduceLE,qC,qO,qA,qS,qU,Nat.reduceEqDiff,qT,E.at,qR,Nat.reduceAdd,Nat.reduceSub,Nat.reduceLeDiff,Nat.reduceMul,qI,qP,qQ,hone,fillC]
  by_cases hk2 : k = 2
  · have d2 : decide (k = 2) = true := by simpa using hk2
    simp only [c69,c69x1,c69x2,c69x3,c69x3,RUA,RUB,RUC,RUD,RUE,RUF,if_true,if_false,Int.reduceEq,Int.reduceLT,Int.reduceLE,qC,qO,qA,qS,qU,Nat.reduceEqDiff,qT,E.at,qR,Nat.reduceAdd,Nat.reduceSub,Nat.reduceLeDiff,Nat.reduceMul,qI,qP,qQ,d2]
    refine (at_c L b L.v1 L.v3 m).call1 rfl (fun x hx => by simp only [List.mem_cons,List.not_mem_nil,or_false] at hx; rcases hx with rfl | rfl <;> first | exact L.v1.freeV | rfl) rfl (L.fr _) fun z os' hq => ?_
    obtain ⟨rfl,rfl⟩ := hq
    refine ⟨_,rfl,L.fr _,rfl, ?_⟩
    simp only [c69,c69x1,c69x2,c69x3,c69x3,RUA,RUB,RUC,RUD,RUE,RUF,if_true,if_false,Int.reduceEq,Int.reduceLT,Int.reduceLE,qC,qO,qA,qS,qU,Nat.reduceEqDiff,qT,E.at,qR,Nat.reduceAdd,Nat.reduceSub,Nat.reduceLeDiff,Nat.reduceMul,qI,qP,qQ,if_pos hk2]
    rw [← Bool.or_assoc]
    exact tail _ _ _ _ _ _ _ _ _ _ _ _ _ _ _ _ _ _ _ _ _ _ _ _ _ _ _ _ _ _ _ _ _ _ _ _ _ _
  · have d2 : decide (k = 2) = false := by simpa using hk2
    simp only [c69,c69x1,c69x2,c69x3,c69x3,RUA,RUB,RUC,RUD,RUE,RUF,if_true,if_false,Int.reduceEq,Int.reduceLT,Int.reduceLE,qC,qO,qA,qS,qU,Nat.reduceEqDiff,qT,E.at,qR,Nat.reduceAdd,Nat.reduceSub,Nat.reduceLeDiff,Nat.reduceMul,qI,qP,qQ,d2,if_neg hk2]
    exact tail _ _ _ _ _ _ _ _ _ _ _ _ _ _ _ _ _ _ _ _ _ _ _ _ _ _ _ _ _ _ _ _ _ _ _ _ _ _
theorem expr_c {v s d : V} {vs ss ds : List ByteArray} (L : Low v s d vs ss ds) : ∀ (x : Ex) (u : V),IsEx x u → ∀ (b : Bool),
    SFn Try.prog T 69 [.pt 0 0,u] [.cells [v,s,d,bV b]] fun z os' => IsEx (lowE vs x) z ∧ os' = [.cells [v,s,d,bV (b || badE vs x)]]
  | .mk k n m xl,u,h,b => expr_b L h b fun x hx u hu => expr_c L x u hu
termination_by x => SizeOf.sizeOf x
decreasing_by have := List.sizeOf_lt_of_mem hx; simp; omega
end Go.Proofs.Ytfncfdiomolieaa
end

section
set_option linter.unusedVariables false
set_option linter.unusedSimpArgs false
set_option maxRecDepth 100000
set_option maxHeartbeats 8000000
open Go.Proofs.Pe renaming putCells → qC, bslOf → qO, bsaOf → qA, bslS → qS, isUpto → qU, step → qT, intOf → qI, iop → qP, sop → qQ
open List renaming replicate → qR
open Go.Proofs.Pe.V renaming dead → qD
namespace Go.Proofs.Ytfncfdiomolieaa
open Go.Proofs.Pe

theorem exz : IsEx zE (.agg [iV 0,iV 0,sV (ByteArray.mk #[]),nilV]) := zeroE
theorem proc_tail {v s d : V} {vs ss ds : List ByteArray} (L : Low v s d vs ss ds) {xl : List Pr} {es : List V} {lv : V}
    (ih : ∀ x ∈ xl,∀ u,IsPr x u → ∀ (b : Bool),SFn Try.prog T 63 [.pt 0 0,u] [.cells [v,s,d,bV b]] fun z os' => IsTm (lowP vs ss ds x) z ∧ os' = [.cells [v,s,d,bV (b || badP vs ss ds x)]])
    (e1 : IsSl 8 lv es) (e2 : es.length ≤ cap) (e3 : All2 IsPr xl es) {yi : Nat → Sem'} (hy : YLe yi yi) (b' : Bool) {k : Int} {f1 f2 f3 f4 f5 f6 : V} {A B : Int} {nm : ByteArray} {ek en : Int} {em : ByteArray} {ev : V} {el : List Ex}
    (hE : IsEx (.mk ek en em el) (.agg [iV ek,iV en,sV em,ev])) (w1 x7 x8 x9 x10 x11 x12 x13 x14 x15 x16 x17 x18 x19 x20 x21 x22 x23 x24 x25 x26 x27 x28 x29 x30 x31 x32 x33 x34 x35 x36 x37 x38 x39 x40 x41 x42 x43 x44 x45 x46 x47 x48 x49 x50 x51 x52 x53 x54 x55 x56 x57 x58 x59 x60 x61 x62 x63 x64 x65 x66 x67 x68 x69 x70 x71 x72 x73 x74 x75 x76 x77 x78 x79 x80 x81 x82 x83 x84 x85 x86 x87 x88 x89 x90 x91 x92 x93 x94 x95 x96 x97 x98 x99 x100 x101 x102 x103 x104 x105 x106 x107 x108 x109 x110 x111 x112 x113 x114 x115 : V) :
        Pe.ev Try.prog T (Pe.Call Try.prog T) Lfp c63x14 none yi ⟨⟨(.pt 0 0 :: w1 :: qD::.pt 1 0 :: .pt 2 0 :: .pt 3 0 :: qD::x7 :: x8 :: x9 :: x10 :: x11 :: x12 :: x13 :: x14 :: x15 :: x16 :: x17 :: x18 :: x19 :: x20 :: x21 :: x22 :: x23 :: x24 :: x25 :: x26 :: x27 :: x28 :: x29 :: x30 :: x31 :: x32 :: x33 :: x34 :: x35 :: x36 :: x37 :: x38 :: x39 :: x40 :: x41 :: x42 :: x43 :: x44 :: x45 :: x46 :: x47 :: x48 :: x49 :: x50 :: x51 :: x52 :: x53 :: x54 :: x55 :: x56 :: x57 :: x58 :: x59 :: x60 :: x61 :: x62 :: x63 :: x64 :: x65 :: x66 :: x67 :: x68 :: x69 :: x70 :: x71 :: x72 :: x73 :: x74 :: x75 :: x76 :: x77 :: x78 :: x79 :: x80 :: x81 :: x82 :: x83 :: x84 :: x85 :: x86 :: x87 :: x88 :: x89 :: x90 :: x91 :: x92 :: x93 :: x94 :: x95 :: x96 :: x97 :: x98 :: x99 :: x100 :: x101 :: x102 :: x103 :: x104 :: x105 :: x106 :: x107 :: x108 :: x109 :: x110 :: x111 :: x112 :: x113 :: x114 :: x115 :: qD::[]),[.cells [v,s,d,bV b'],.cells [iV k,f1,f2,f3,f4,f5,f6,lv],.cells [iV 0,iV 0,iV 0,sV (ByteArray.mk #[]),iV 0,iV 0,sV (ByteArray.mk #[]),nilV,nilV],.cells [iV k,iV A,iV B,sV nm,iV ek,iV en,sV em,ev,nilV]]⟩,[]⟩
          (endK [Rv.cell 4 true 9] fun y o' => ∃ z os',Fin5 1 y o' z os' ∧ IsTm (.mk k A B nm (.mk ek en em el) (xl.map (lowP vs ss ds))) z ∧ os' = [.cells [v,s,d,bV (b' || xl.any (badP vs ss ds))]]) := by
  have hln := e3.len
  have hone : lv.one = true := free1_one e1.free
  have hrow := fun o => e1.row o
  unfold cap at e2
  obtain ⟨_,evs,e,hev1,hev2,hev3⟩ := hE
  cases e
  have hev : ev.one = true := free1_one hev1.free
  simp only [c63x14,c63x15,RUA,RUB,RUC,RUD,RUE,RUF,if_true,if_false,Int.reduceEq,Int.reduceLT,Int.reduceLE,qC,qO,qA,qS,qU,Nat.reduceEqDiff,qT,E.at,qR,Nat.reduceAdd,Nat.reduceSub,Nat.reduceLeDiff,Nat.reduceMul,qI,qP,qQ]
  refine Lfp.inv call_le hy (fun a : Nat × V × List O => ⟨⟨(.pt 0 0 :: qD::qD::.pt 1 0 :: .pt 2 0 :: .pt 3 0 :: iV a.1 :: qD::qD::qD::qD::qD::qD::qD::qD::qD::qD::qD::qD::qD::qD::qD::qD::qD::qD::qD::qD::qD::qD::qD::qD::qD::qD::qD::qD::qD::qD::qD::qD::qD::qD::qD::qD::qD::qD::qD::qD::qD::qD::qD::qD::qD::qD::qD::qD::qD::qD::qD::qD::qD::qD::qD::qD::qD::qD::qD::qD::qD::qD::qD::qD::qD::qD::qD::qD::qD::qD::qD::qD::qD::qD::qD::qD::qD::qD::qD::qD::qD::qD::qD::qD::qD::qD::qD::qD::qD::qD::qD::qD::qD::qD::qD::qD::qD::qD::qD::qD::qD::qD::qD::qD::qD::qD::qD::qD::qD::qD::[]),.cells [v,s,d,bV (b' || (xl.take a.1).any (badP vs ss ds))] :: .cells [iV k,f1,f2,f3,f4,f5,f6,lv] :: .cells [iV 0,iV 0,iV 0,sV (ByteArray.mk #[]),iV 0,iV 0,sV (ByteArray.mk #[]),nilV,nilV] :: .cells [iV k,iV A,iV B,sV nm,iV ek,iV en,sV em,ev,a.2.1] :: a.2.2⟩,[]⟩) (fun a => es.length - a.1)
    (fun a => a.1 ≤ es.length ∧ ∃ us,Tail 4 9 a.2.1 us a.2.2 ∧ All2 IsTm ((xl.map (lowP vs ss ds)).take a.1) us) (0,nilV,[])
    ⟨Nat.zero_le _,[],.nil _ _,rfl⟩ (by simp only [kill_L,killTs_nil,RUF,List.take_zero,List.any_nil,Bool.or_false] <;> rfl) ?_
  rintro ⟨i,rv,tl⟩ ⟨hi,us,hT,hA⟩
  dsimp only at hi hT hA
  have hul := hA.len
  by_cases hlt : i < es.length
  · have hd1 : decide ((i : Int) < (es.length : Int)) = true := by simpa using hlt
    have hx : es[i]? = some es[i] := List.getElem?_eq_getElem hlt
    have hlx : i < xl.length := by omega
    have hxl : xl[i]? = some xl[i] := List.getElem?_eq_getElem hlx
    have hE := e3.get hx hxl
    have hxm : xl[i] ∈ xl := List.getElem_mem _
    generalize es[i] = w at hx hE
    generalize xl[i] = y at hxl hE hxm
    have hI := fun o => e1.ix o hx
    have hw1 : IntKind.i64.wrap ((i : Int) + 1) = ((i + 1 : Nat) : Int) := wrap_succ (by omega)
    have hfr := hE.ok.1
    have hag : ∃ pk pn pt qk qn qm ev2 lv2,w = .agg [iV pk,sV pn,sV pt,iV qk,iV qn,sV qm,ev2,lv2] ∧ ev2.one = true ∧ lv2.one = true := by
      rcases y with ⟨pk,pn,pt,⟨qk,qn,qm,ql⟩,pl⟩
      obtain ⟨ev2,evs2,lv2,vs2,e,g1,_,_,g2,_⟩ := hE
      exact ⟨_,_,_,_,_,_,_,_,e,free1_one g1.free,free1_one g2.free⟩
    obtain ⟨pk,pn,pt,qk,qn,qm,ev2,lv2,rfl,ho1,ho2⟩ := hag
    simp only [c63,c63x1,c63x2,c63x3,c63x4,c63x5,c63x6,c63x7,c63x8,c63x9,c63x10,c63x11,c63x12,c63x13,c63x14,c63x15,c63x16,c63x17,c63x18,c63x18,RUA,RUB,RUC,RUD,RUE,RUF,if_true,if_false,Int.reduceEq,Int.reduceLT,Int.reduceLE,qC,qO,qA,qS,qU,Nat.reduceEqDiff,qT,E.at,qR,Nat.reduceAdd,Nat.reduceSub,Nat.reduceLeDiff,Nat.reduceMul,qI,qP,qQ,hd1,hrow,hI,ho1,ho2]
    refine ⟨?_, ?_⟩
    all_goals
      refine (ih _ hxm _ hE _).call1 rfl (by simpa using hfr) rfl (L.fr _) fun z os' hq => ?_
      obtain ⟨hz,rfl⟩ := hq
      refine ⟨_,rfl,L.fr _,freeT_of hz.ok.1, ?_⟩
      have hz1 := hz.ok
      obtain ⟨rv',tl',p1,p2⟩ := hT.push (b := 120) (f := true) (y := z) (okRow1 hz.ok) (by rw [hul]; simp; unfold room; omega) (o := [.cells [v,s,d,bV ((b' || (xl.take i).any (badP vs ss ds)) || badP vs ss ds y)],.cells [iV k,f1,f2,f3,f4,f5,f6,lv],.cells [iV 0,iV 0,iV 0,sV (ByteArray.mk #[]),iV 0,iV 0,sV (ByteArray.mk #[]),nilV,nilV],.cells [iV k,iV A,iV B,sV nm,iV ek,iV en,sV em,ev,rv]]) rfl
      simp only [List.cons_append,List.nil_append] at p1
      have hz4 : decide (z.cells.length = 9) = true := by simpa using hz1.2
      have hs := p2.shape
      simp only [c63,c63x1,c63x2,c63x3,c63x4,c63x5,c63x6,c63x7,c63x8,c63x9,c63x10,c63x11,c63x12,c63x13,c63x14,c63x15,c63x16,c63x17,c63x18,c63x19,c63x20,c63x18,RUA,RUB,RUC,RUD,RUE,RUF,if_true,if_false,Int.reduceEq,Int.reduceLT,Int.reduceLE,qC,qO,qA,qS,qU,Nat.reduceEqDiff,qT,E.at,qR,Nat.reduceAdd,Nat.reduceSub,Nat.reduceLeDiff,Nat.reduceMul,qI,qP,qQ,hz1.1,hz4,p1,hw1,hs.1,hs.2.1,hs.2.2]
      refine ⟨(i + 1,rv',tl'),⟨by simp only; omega,us ++ [z],p2, ?_⟩,by simp only; omega,by simp only [take_succ_any hxl,Bool.or_assoc]⟩
      rw [take_succ_map hxl]
      exact hA.snoc hz
  · have hd1 : decide ((i : Int) < (es.length : Int)) = false := by simpa using hlt
    have hs := hT.shape
    rw [List.take_of_length_le (by simp; omega)] at hA
    have ht : xl.take i = xl := List.take_of_length_le (by omega)
    rw [ht]
    simp only [c63,c63x1,c63x2,c63x3,c63x4,c63x5,c63x6,c63x7,c63x8,c63x9,c63x10,c63x11,c63x12,c63x13,c63x14,c63x15,c63x16,c63x17,c63x18,c63x19,c63x20,RUA,RUB,RUC,RUD,RUE,RUF,if_true,if_false,Int.reduceEq,Int.reduceLT,Int.reduceLE,qC,qO,qA,qS,qU,Nat.reduceEqDiff,qT,E.at,qR,Nat.reduceAdd,Nat.reduceSub,Nat.reduceLeDiff,Nat.reduceMul,qI,qP,qQ,hd1,hrow,hev,hs.1,hs.2.1,hs.2.2,rets,List.take]
    obtain ⟨w,tl',f1',f2'⟩ := hT.frz1 (hA.free fun _ _ h => h.ok.1) (o := [.cells [v,s,d,bV (b' || xl.any (badP vs ss ds))],.cells [iV k,f1,f2,f3,f4,f5,f6,lv],.cells [iV k,iV A,iV B,sV nm,iV ek,iV en,sV em,ev,rv],.cells [iV k,iV A,iV B,sV nm,iV ek,iV en,sV em,ev,rv]]) rfl
    simp only [List.cons_append,List.nil_append] at f1'
    have hf := frzT_ag (cs := [iV k,iV A,iV B,sV nm,iV ek,iV en,sV em,ev,rv]) (o := _) (by rw [frzs_cons (y := iV k) rfl,frzs_cons (y := iV A) rfl,frzs_cons (y := iV B) rfl,frzs_cons (y := sV nm) rfl,frzs_cons (y := iV ek) rfl,frzs_cons (y := iV en) rfl,frzs_cons (y := sV em) rfl,frzs_cons (hev1.frz1 _),frzs_cons f1']; rfl)
    refine ⟨_,_,fin1F hf (L.fr _) (by simp only [V.freeT,free_agg,List.all_cons,List.all_nil,free1_sc,f2'.free,hev1.free,Bool.and_self]),⟨ev,evs,w,us,rfl,hev1,hev2,hev3,f2',by unfold cap; have := hA.len; simp at this; omega,isTms_all.2 hA⟩,rfl⟩
end Go.Proofs.Ytfncfdiomolieaa
end

section
set_option linter.unusedVariables false
set_option linter.unusedSimpArgs false
set_option maxRecDepth 100000
set_option maxHeartbeats 8000000
open Go.Proofs.Pe renaming putCells → qC, bslOf → qO, bsaOf → qA, bslS → qS, isUpto → qU, step → qT, intOf → qI, iop → qP, sop → qQ
open List renaming replicate → qR
open Go.Proofs.Pe.V renaming dead → qD
namespace Go.Proofs.Ytfncfdiomolieaa
open Go.Proofs.Pe

theorem be_nil (a : ByteArray) : (a.toList == ([] : List UInt8)) = decide (a = emp) := by
  rw [← ba_eq,show emp.toList = [] from btl []]
theorem proc_k1 {v s d : V} {vs ss ds : List ByteArray} (L : Low v s d vs ss ds) {k : Int} {n m : ByteArray} {qk qn : Int} {qm : ByteArray} {ql : List Ex} {xl : List Pr} {u : V} (h : IsPr (.mk k n m (.mk qk qn qm ql) xl) u) (b : Bool)
    (ih : ∀ x ∈ xl,∀ u,IsPr x u → ∀ (b : Bool),SFn Try.prog T 63 [.pt 0 0,u] [.cells [v,s,d,bV b]] fun z os' => IsTm (lowP vs ss ds x) z ∧ os' = [.cells [v,s,d,bV (b || badP vs ss ds x)]]) (k1 : k = 1) :
    SFn Try.prog T 63 [.pt 0 0,u] [.cells [v,s,d,bV b]] fun z os' => IsTm (lowP vs ss ds (.mk k n m (.mk qk qn qm ql) xl)) z ∧ os' = [.cells [v,s,d,bV (b || badP vs ss ds (.mk k n m (.mk qk qn qm ql) xl))]] := by
  obtain ⟨ev,evs,lv,es,rfl,e1,e2,e3,g1,g2,g3⟩ := h
  have hE : IsEx (.mk qk qn qm ql) (.agg [iV qk,iV qn,sV qm,ev]) := ⟨ev,evs,rfl,e1,e2,e3⟩
  rw [isPrs_all] at g3
  have hone : lv.one = true := free1_one g1.free
  have hone1 : ev.one = true := free1_one e1.free
  have hEf := hE.ok.1
  have hba : ∀ (ls : List ByteArray) (lv : V),IsSl 1 lv (nmsV ls) → ∀ q,∀ x ∈ [lv,sV q],x.free = true := fun ls lv h q x hx => by
    simp only [List.mem_cons,List.not_mem_nil,or_false] at hx; rcases hx with rfl | rfl <;> first | exact h.freeV | rfl
  simp only [lowP,badP,lowPs_map,badPs_any]
  intro yi hy
  refine Call.step hy ?_
  rw [body_eq t63]
  simp only [c63,c63x1,c63x2,RUA,RUB,RUC,RUD,RUE,RUF,if_true,if_false,Int.reduceEq,Int.reduceLT,Int.reduceLE,qC,qO,qA,qS,qU,Nat.reduceEqDiff,qT,E.at,qR,Nat.reduceAdd,Nat.reduceSub,Nat.reduceLeDiff,Nat.reduceMul,qI,qP,qQ,hone,hone1,fillC]
  have d1 : decide (k = 1) = true := by simpa using k1
  have s1 : lowB ss k m = 0 := by subst k1; rfl
  have s2 : (if k = 2 ∨ k = 9 then lowE vs (.mk qk qn qm ql) else zE) = zE := by subst k1; rfl
  have s3 : decide (k = 2 ∨ k = 9) = false := by subst k1; rfl
  simp only [c63,c63x1,c63x2,c63x3,c63x4,RUA,RUB,RUC,RUD,RUE,RUF,if_true,if_false,Int.reduceEq,Int.reduceLT,Int.reduceLE,qC,qO,qA,qS,qU,Nat.reduceEqDiff,qT,E.at,qR,Nat.reduceAdd,Nat.reduceSub,Nat.reduceLeDiff,Nat.reduceMul,qI,qP,qQ,d1,be_nil,s1,s2,s3,if_pos k1,Bool.false_and,Bool.or_false]
  by_cases km : m = emp
  · have d2 : decide (m = emp) = true := by simpa using km
    have s4 : lowA vs ss ds k n m = -1 := by subst k1; simp [lowA,km]
    have s5 : badA vs ss ds k n m = false := by subst k1; simp [badA,km]
    rw [s4,s5]
    simp only [c63,c63x1,c63x2,c63x3,c63x4,c63x5,c63x6,RUA,RUB,RUC,RUD,RUE,RUF,if_true,if_false,Int.reduceEq,Int.reduceLT,Int.reduceLE,qC,qO,qA,qS,qU,Nat.reduceEqDiff,qT,E.at,qR,Nat.reduceAdd,Nat.reduceSub,Nat.reduceLeDiff,Nat.reduceMul,qI,qP,qQ,be_nil,d2]
    exact proc_tail L ih g1 g2 g3 hy b exz _ _ _ _ _ _ _ _ _ _ _ _ _ _ _ _ _ _ _ _ _ _ _ _ _ _ _ _ _ _ _ _ _ _ _ _ _ _ _ _ _ _ _ _ _ _ _ _ _ _ _ _ _ _ _ _ _ _ _ _ _ _ _ _ _ _ _ _ _ _ _ _ _ _ _ _ _ _ _ _ _ _ _ _ _ _ _ _ _ _ _ _ _ _ _ _ _ _ _ _ _ _ _ _ _ _ _ _ _ _
  · have d2 : decide (m = emp) = false := by simpa using km
    have s4 : lowA vs ss ds k n m = findI vs m := by subst k1; simp [lowA,km]
    have s5 : badA vs ss ds k n m = decide (findI vs m < 0) := by subst k1; simp [badA,km]
    rw [s4,s5]
    simp only [c63,c63x1,c63x2,c63x3,c63x4,c63x5,c63x6,RUA,RUB,RUC,RUD,RUE,RUF,if_true,if_false,Int.reduceEq,Int.reduceLT,Int.reduceLE,qC,qO,qA,qS,qU,Nat.reduceEqDiff,qT,E.at,qR,Nat.reduceAdd,Nat.reduceSub,Nat.reduceLeDiff,Nat.reduceMul,qI,qP,qQ,be_nil,d2]
    refine (at_c L b L.v1 L.v3 m).call1 rfl (hba _ _ L.v1 m) rfl (L.fr _) fun z os' hq => ?_
    obtain ⟨rfl,rfl⟩ := hq
    refine ⟨_,rfl,L.fr _,rfl, ?_⟩
    simp only [c63,c63x1,c63x2,c63x3,c63x4,c63x5,c63x6,RUA,RUB,RUC,RUD,RUE,RUF,if_true,if_false,Int.reduceEq,Int.reduceLT,Int.reduceLE,qC,qO,qA,qS,qU,Nat.reduceEqDiff,qT,E.at,qR,Nat.reduceAdd,Nat.reduceSub,Nat.reduceLeDiff,Nat.reduceMul,qI,qP,qQ]
    rw [← Bool.or_assoc]
    exact proc_tail L ih g1 g2 g3 hy _ exz _ _ _ _ _ _ _ _ _ _ _ _ _ _ _ _ _ _ _ _ _ _ _ _ _ _ _ _ _ _ _ _ _ _ _ _ _ _ _ _ _ _ _ _ _ _ _ _ _ _ _ _ _ _ _ _ _ _ _ _ _ _ _ _ _ _ _ _ _ _ _ _ _ _ _ _ _ _ _ _ _ _ _ _ _ _ _ _ _ _ _ _ _ _ _ _ _ _ _ _ _ _ _ _ _ _ _ _ _ _
theorem proc_k2 {v s d : V} {vs ss ds : List ByteArray} (L : Low v s d vs ss ds) {k : Int} {n m : ByteArray} {qk qn : Int} {qm : ByteArray} {ql : List Ex} {xl : List Pr} {u : V} (h : IsPr (.mk k n m (.mk qk qn qm ql) xl) u) (b : Bool)
    (ih : ∀ x ∈ xl,∀ u,IsPr x u → ∀ (b : Bool),SFn Try.prog T 63 [.pt 0 0,u] [.cells [v,s,d,bV b]] fun z os' => IsTm (lowP vs ss ds x) z ∧ os' = [.cells [v,s,d,bV (b || badP vs ss ds x)]]) (k1 : ¬ (k = 1)) (k2 : k = 2) :
    SFn Try.prog T 63 [.pt 0 0,u] [.cells [v,s,d,bV b]] fun z os' => IsTm (lowP vs ss ds (.mk k n m (.mk qk qn qm ql) xl)) z ∧ os' = [.cells [v,s,d,bV (b || badP vs ss ds (.mk k n m (.mk qk qn qm ql) xl))]] := by
  obtain ⟨ev,evs,lv,es,rfl,e1,e2,e3,g1,g2,g3⟩ := h
  have hE : IsEx (.mk qk qn qm ql) (.agg [iV qk,iV qn,sV qm,ev]) := ⟨ev,evs,rfl,e1,e2,e3⟩
  rw [isPrs_all] at g3
  have hone : lv.one = true := free1_one g1.free
  have hone1 : ev.one = true := free1_one e1.free
  have hEf := hE.ok.1
  have hba : ∀ (ls : List ByteArray) (lv : V),IsSl 1 lv (nmsV ls) → ∀ q,∀ x ∈ [lv,sV q],x.free = true := fun ls lv h q x hx => by
    simp only [List.mem_cons,List.not_mem_nil,or_false] at hx; rcases hx with rfl | rfl <;> first | exact h.freeV | rfl
  simp only [lowP,badP,lowPs_map,badPs_any]
  intro yi hy
  refine Call.step hy ?_
  rw [body_eq t63]
  simp only [c63,c63x1,c63x2,RUA,RUB,RUC,RUD,RUE,RUF,if_true,if_false,Int.reduceEq,Int.reduceLT,Int.reduceLE,qC,qO,qA,qS,qU,Nat.reduceEqDiff,qT,E.at,qR,Nat.reduceAdd,Nat.reduceSub,Nat.reduceLeDiff,Nat.reduceMul,qI,qP,qQ,hone,hone1,fillC]
  have n1 : decide (k = 1) = false := by simpa using k1
  have d1 : decide (k = 2) = true := by simpa using k2
  have s0 : (if k = 1 then n else emp) = emp := by rw [if_neg k1]
  have s1 : lowB ss k m = 0 := by subst k2; rfl
  have s2 : (if k = 2 ∨ k = 9 then lowE vs (.mk qk qn qm ql) else zE) = lowE vs (.mk qk qn qm ql) := by subst k2; rfl
  have s3 : decide (k = 2 ∨ k = 9) = true := by subst k2; rfl
  have s4 : lowA vs ss ds k n m = findI vs m := by subst k2; rfl
  have s5 : badA vs ss ds k n m = decide (findI vs m < 0) := by subst k2; rfl
  rw [s0,s1,s2,s3,s4,s5,Bool.true_and]
  clear s0 s1 s2 s3 s4 s5
  simp only [c63,c63x1,c63x2,c63x3,c63x4,c63x5,c63x6,c63x7,RUA,RUB,RUC,RUD,RUE,RUF,if_true,if_false,Int.reduceEq,Int.reduceLT,Int.reduceLE,qC,qO,qA,qS,qU,Nat.reduceEqDiff,qT,E.at,qR,Nat.reduceAdd,Nat.reduceSub,Nat.reduceLeDiff,Nat.reduceMul,qI,qP,qQ,n1,d1]
  repeat' (first
    | (refine And.intro ?_ ?_)
    | exact trivial
    | (refine (at_c L _ L.v1 L.v3 m).call1 rfl (hba _ _ L.v1 m) rfl (L.fr _) fun z os' hq => ?_
       obtain ⟨rfl,rfl⟩ := hq
       refine ⟨_,rfl,L.fr _,rfl, ?_⟩)
    | (refine (expr_c L _ _ hE _).call1 rfl (by simpa using hEf) rfl (L.fr _) fun z os' hq => ?_
       obtain ⟨hz,rfl⟩ := hq
       refine ⟨_,rfl,L.fr _,freeT_of hz.ok.1, ?_⟩
       generalize lowE vs (.mk qk qn qm ql) = ee at hz ⊢
       rcases ee with ⟨ek,en,em,el⟩
       have hz' := hz
       obtain ⟨ew,evs',rfl,hew,_,_⟩ := hz'
       have hew1 : ew.one = true := free1_one hew.free)
    | (simp only [c63,c63x1,c63x2,c63x3,c63x4,c63x5,c63x6,c63x7,RUA,RUB,RUC,RUD,RUE,RUF,if_true,if_false,Int.reduceEq,Int.reduceLT,Int.reduceLE,qC,qO,qA,qS,qU,Nat.reduceEqDiff,qT,E.at,qR,Nat.reduceAdd,Nat.reduceSub,Nat.reduceLeDiff,Nat.reduceMul,qI,qP,qQ,hew1])
    | (simp only [c63,c63x1,c63x2,c63x3,c63x4,c63x5,c63x6,c63x7,RUA,RUB,RUC,RUD,RUE,RUF,if_true,if_false,Int.reduceEq,Int.reduceLT,Int.reduceLE,qC,qO,qA,qS,qU,Nat.reduceEqDiff,qT,E.at,qR,Nat.reduceAdd,Nat.reduceSub,Nat.reduceLeDiff,Nat.reduceMul,qI,qP,qQ]))
  all_goals
    rw [← Bool.or_assoc,← Bool.or_assoc]
    exact proc_tail L ih g1 g2 g3 hy _ hz _ _ _ _ _ _ _ _ _ _ _ _ _ _ _ _ _ _ _ _ _ _ _ _ _ _ _ _ _ _ _ _ _ _ _ _ _ _ _ _ _ _ _ _ _ _ _ _ _ _ _ _ _ _ _ _ _ _ _ _ _ _ _ _ _ _ _ _ _ _ _ _ _ _ _ _ _ _ _ _ _ _ _ _ _ _ _ _ _ _ _ _ _ _ _ _ _ _ _ _ _ _ _ _ _ _ _ _ _ _
theorem proc_k9 {v s d : V} {vs ss ds : List ByteArray} (L : Low v s d vs ss ds) {k : Int} {n m : ByteArray} {qk qn : Int} {qm : ByteArray} {ql : List Ex} {xl : List Pr} {u : V} (h : IsPr (.mk k n m (.mk qk qn qm ql) xl) u) (b : Bool)
    (ih : ∀ x ∈ xl,∀ u,IsPr x u → ∀ (b : Bool),SFn Try.prog T 63 [.pt 0 0,u] [.cells [v,s,d,bV b]] fun z os' => IsTm (lowP vs ss ds x) z ∧ os' = [.cells [v,s,d,bV (b || badP vs ss ds x)]]) (k1 : ¬ (k = 1)) (k2 : ¬ (k = 2)) (k3 : ¬ (k = 3 ∨ k = 4 ∨ k = 5)) (k6 : ¬ (k = 6)) (k9 : k = 9) :
    SFn Try.prog T 63 [.pt 0 0,u] [.cells [v,s,d,bV b]] fun z os' => IsTm (lowP vs ss ds (.mk k n m (.mk qk qn qm ql) xl)) z ∧ os' = [.cells [v,s,d,bV (b || badP vs ss ds (.mk k n m (.mk qk qn qm ql) xl))]] := by
  obtain ⟨ev,evs,lv,es,rfl,e1,e2,e3,g1,g2,g3⟩ := h
  have hE : IsEx (.mk qk qn qm ql) (.agg [iV qk,iV qn,sV qm,ev]) := ⟨ev,evs,rfl,e1,e2,e3⟩
  rw [isPrs_all] at g3
  have hone : lv.one = true := free1_one g1.free
  have hone1 : ev.one = true := free1_one e1.free
  have hEf := hE.ok.1
  have hba : ∀ (ls : List ByteArray) (lv : V),IsSl 1 lv (nmsV ls) → ∀ q,∀ x ∈ [lv,sV q],x.free = true := fun ls lv h q x hx => by
    simp only [List.mem_cons,List.not_mem_nil,or_false] at hx; rcases hx with rfl | rfl <;> first | exact h.freeV | rfl
  simp only [lowP,badP,lowPs_map,badPs_any]
  intro yi hy
  refine Call.step hy ?_
  rw [body_eq t63]
  simp only [c63,c63x1,c63x2,RUA,RUB,RUC,RUD,RUE,RUF,if_true,if_false,Int.reduceEq,Int.reduceLT,Int.reduceLE,qC,qO,qA,qS,qU,Nat.reduceEqDiff,qT,E.at,qR,Nat.reduceAdd,Nat.reduceSub,Nat.reduceLeDiff,Nat.reduceMul,qI,qP,qQ,hone,hone1,fillC]
  have n1 : decide (k = 1) = false := by simpa using k1
  have n2 : decide (k = 2) = false := by simpa using k2
  have n3 : decide (k = 3) = false := by simp; omega
  have n4 : decide (k = 4) = false := by simp; omega
  have n5 : decide (k = 5) = false := by simp; omega
  have n6 : decide (k = 6) = false := by simpa using k6
  subst k9
  have s0 : (if (9 : Int) = 1 then n else emp) = emp := rfl
  have s1 : lowB ss 9 m = 0 := rfl
  have s2 : (if (9 : Int) = 2 ∨ (9 : Int) = 9 then lowE vs (.mk qk qn qm ql) else zE) = lowE vs (.mk qk qn qm ql) := rfl
  have s3 : decide ((9 : Int) = 2 ∨ (9 : Int) = 9) = true := rfl
  have s4 : lowA vs ss ds 9 n m = 0 := rfl
  have s5 : badA vs ss ds 9 n m = false := rfl
  rw [s0,s1,s2,s3,s4,s5,Bool.true_and,Bool.false_or]
  clear s0 s1 s2 s3 s4 s5
  simp only [c63,c63x1,c63x2,c63x3,c63x4,c63x5,c63x6,c63x7,c63x8,c63x9,c63x10,c63x11,c63x12,RUA,RUB,RUC,RUD,RUE,RUF,if_true,if_false,Int.reduceEq,Int.reduceLT,Int.reduceLE,qC,qO,qA,qS,qU,Nat.reduceEqDiff,qT,E.at,qR,Nat.reduceAdd,Nat.reduceSub,Nat.reduceLeDiff,Nat.reduceMul,qI,qP,qQ]
  refine (expr_c L _ _ hE _).call1 rfl (by simpa using hEf) rfl (L.fr _) fun z os' hq => ?_
  obtain ⟨hz,rfl⟩ := hq
  refine ⟨_,rfl,L.fr _,freeT_of hz.ok.1, ?_⟩
  generalize lowE vs (.mk qk qn qm ql) = ee at hz ⊢
  rcases ee with ⟨ek,en,em,el⟩
  have hz' := hz
  obtain ⟨ew,evs',rfl,hew,_,_⟩ := hz'
  have hew1 : ew.one = true := free1_one hew.free
  simp only [c63,c63x1,c63x2,c63x3,c63x4,c63x5,c63x6,c63x7,c63x8,c63x9,c63x10,c63x11,c63x12,RUA,RUB,RUC,RUD,RUE,RUF,if_true,if_false,Int.reduceEq,Int.reduceLT,Int.reduceLE,qC,qO,qA,qS,qU,Nat.reduceEqDiff,qT,E.at,qR,Nat.reduceAdd,Nat.reduceSub,Nat.reduceLeDiff,Nat.reduceMul,qI,qP,qQ,hew1]
  rw [← Bool.or_assoc]
  exact proc_tail L ih g1 g2 g3 hy _ hz _ _ _ _ _ _ _ _ _ _ _ _ _ _ _ _ _ _ _ _ _ _ _ _ _ _ _ _ _ _ _ _ _ _ _ _ _ _ _ _ _ _ _ _ _ _ _ _ _ _ _ _ _ _ _ _ _ _ _ _ _ _ _ _ _ _ _ _ _ _ _ _ _ _ _ _ _ _ _ _ _ _ _ _ _ _ _ _ _ _ _ _ _ _ _ _ _ _ _ _ _ _ _ _ _ _ _ _ _ _
end Go.Proofs.Ytfncfdiomolieaa
end

section
set_option linter.unusedVariables false
set_option linter.unusedSimpArgs false
set_option maxRecDepth 100000
set_option maxHeartbeats 8000000
open Go.Proofs.Pe renaming putCells → qC, bslOf → qO, bsaOf → qA, bslS → qS, isUpto → qU, step → qT, intOf → qI, iop → qP, sop → qQ
open List renaming replicate → qR
open Go.Proofs.Pe.V renaming dead → qD
namespace Go.Proofs.Ytfncfdiomolieaa
open Go.Proofs.Pe

theorem proc_k3 {v s d : V} {vs ss ds : List ByteArray} (L : Low v s d vs ss ds) {k : Int} {n m : ByteArray} {qk qn : Int} {qm : ByteArray} {ql : List Ex} {xl : List Pr} {u : V} (h : IsPr (.mk k n m (.mk qk qn qm ql) xl) u) (b : Bool)
    (ih : ∀ x ∈ xl,∀ u,IsPr x u → ∀ (b : Bool),SFn Try.prog T 63 [.pt 0 0,u] [.cells [v,s,d,bV b]] fun z os' => IsTm (lowP vs ss ds x) z ∧ os' = [.cells [v,s,d,bV (b || badP vs ss ds x)]]) (k1 : ¬ (k = 1)) (k2 : ¬ (k = 2)) (k3 : k = 3 ∨ k = 4 ∨ k = 5) :
    SFn Try.prog T 63 [.pt 0 0,u] [.cells [v,s,d,bV b]] fun z os' => IsTm (lowP vs ss ds (.mk k n m (.mk qk qn qm ql) xl)) z ∧ os' = [.cells [v,s,d,bV (b || badP vs ss ds (.mk k n m (.mk qk qn qm ql) xl))]] := by
  obtain ⟨ev,evs,lv,es,rfl,e1,e2,e3,g1,g2,g3⟩ := h
  have hE : IsEx (.mk qk qn qm ql) (.agg [iV qk,iV qn,sV qm,ev]) := ⟨ev,evs,rfl,e1,e2,e3⟩
  rw [isPrs_all] at g3
  have hone : lv.one = true := free1_one g1.free
  have hone1 : ev.one = true := free1_one e1.free
  have hEf := hE.ok.1
  have hba : ∀ (ls : List ByteArray) (lv : V),IsSl 1 lv (nmsV ls) → ∀ q,∀ x ∈ [lv,sV q],x.free = true := fun ls lv h q x hx => by
    simp only [List.mem_cons,List.not_mem_nil,or_false] at hx; rcases hx with rfl | rfl <;> first | exact h.freeV | rfl
  simp only [lowP,badP,lowPs_map,badPs_any]
  intro yi hy
  refine Call.step hy ?_
  rw [body_eq t63]
  simp only [c63,c63x1,c63x2,RUA,RUB,RUC,RUD,RUE,RUF,if_true,if_false,Int.reduceEq,Int.reduceLT,Int.reduceLE,qC,qO,qA,qS,qU,Nat.reduceEqDiff,qT,E.at,qR,Nat.reduceAdd,Nat.reduceSub,Nat.reduceLeDiff,Nat.reduceMul,qI,qP,qQ,hone,hone1,fillC]
  have n1 : decide (k = 1) = false := by simpa using k1
  have n2 : decide (k = 2) = false := by simpa using k2
  have s0 : (if k = 1 then n else emp) = emp := by rw [if_neg k1]
  have s1 : lowB ss k m = 0 := by rcases k3 with rfl | rfl | rfl <;> rfl
  have s2 : (if k = 2 ∨ k = 9 then lowE vs (.mk qk qn qm ql) else zE) = zE := by rcases k3 with rfl | rfl | rfl <;> rfl
  have s3 : decide (k = 2 ∨ k = 9) = false := by rcases k3 with rfl | rfl | rfl <;> rfl
  have s4 : lowA vs ss ds k n m = findI ss n := by rcases k3 with rfl | rfl | rfl <;> rfl
  have s5 : badA vs ss ds k n m = decide (findI ss n < 0) := by rcases k3 with rfl | rfl | rfl <;> rfl
  rw [s0,s1,s2,s3,s4,s5,Bool.false_and,Bool.or_false]
  clear s0 s1 s2 s3 s4 s5
  rcases k3 with rfl | rfl | rfl
  all_goals
    simp only [c63,c63x1,c63x2,c63x3,c63x4,c63x5,c63x6,c63x7,c63x8,c63x9,c63x10,RUA,RUB,RUC,RUD,RUE,RUF,if_true,if_false,Int.reduceEq,Int.reduceLT,Int.reduceLE,qC,qO,qA,qS,qU,Nat.reduceEqDiff,qT,E.at,qR,Nat.reduceAdd,Nat.reduceSub,Nat.reduceLeDiff,Nat.reduceMul,qI,qP,qQ]
    refine (at_c L b L.s1 L.s3 n).call1 rfl (hba _ _ L.s1 n) rfl (L.fr _) fun z os' hq => ?_
    obtain ⟨rfl,rfl⟩ := hq
    refine ⟨_,rfl,L.fr _,rfl, ?_⟩
    simp only [c63,c63x1,c63x2,c63x3,c63x4,c63x5,c63x6,c63x7,c63x8,c63x9,c63x10,RUA,RUB,RUC,RUD,RUE,RUF,if_true,if_false,Int.reduceEq,Int.reduceLT,Int.reduceLE,qC,qO,qA,qS,qU,Nat.reduceEqDiff,qT,E.at,qR,Nat.reduceAdd,Nat.reduceSub,Nat.reduceLeDiff,Nat.reduceMul,qI,qP,qQ]
    rw [← Bool.or_assoc]
    exact proc_tail L ih g1 g2 g3 hy _ exz _ _ _ _ _ _ _ _ _ _ _ _ _ _ _ _ _ _ _ _ _ _ _ _ _ _ _ _ _ _ _ _ _ _ _ _ _ _ _ _ _ _ _ _ _ _ _ _ _ _ _ _ _ _ _ _ _ _ _ _ _ _ _ _ _ _ _ _ _ _ _ _ _ _ _ _ _ _ _ _ _ _ _ _ _ _ _ _ _ _ _ _ _ _ _ _ _ _ _ _ _ _ _ _ _ _ _ _ _ _
theorem proc_k13 {v s d : V} {vs ss ds : List ByteArray} (L : Low v s d vs ss ds) {k : Int} {n m : ByteArray} {qk qn : Int} {qm : ByteArray} {ql : List Ex} {xl : List Pr} {u : V} (h : IsPr (.mk k n m (.mk qk qn qm ql) xl) u) (b : Bool)
    (ih : ∀ x ∈ xl,∀ u,IsPr x u → ∀ (b : Bool),SFn Try.prog T 63 [.pt 0 0,u] [.cells [v,s,d,bV b]] fun z os' => IsTm (lowP vs ss ds x) z ∧ os' = [.cells [v,s,d,bV (b || badP vs ss ds x)]]) (k1 : ¬ (k = 1)) (k2 : ¬ (k = 2)) (k3 : ¬ (k = 3 ∨ k = 4 ∨ k = 5)) (k6 : ¬ (k = 6)) (k9 : ¬ (k = 9)) (k13 : k = 13) :
    SFn Try.prog T 63 [.pt 0 0,u] [.cells [v,s,d,bV b]] fun z os' => IsTm (lowP vs ss ds (.mk k n m (.mk qk qn qm ql) xl)) z ∧ os' = [.cells [v,s,d,bV (b || badP vs ss ds (.mk k n m (.mk qk qn qm ql) xl))]] := by
  obtain ⟨ev,evs,lv,es,rfl,e1,e2,e3,g1,g2,g3⟩ := h
  have hE : IsEx (.mk qk qn qm ql) (.agg [iV qk,iV qn,sV qm,ev]) := ⟨ev,evs,rfl,e1,e2,e3⟩
  rw [isPrs_all] at g3
  have hone : lv.one = true := free1_one g1.free
  have hone1 : ev.one = true := free1_one e1.free
  have hEf := hE.ok.1
  have hba : ∀ (ls : List ByteArray) (lv : V),IsSl 1 lv (nmsV ls) → ∀ q,∀ x ∈ [lv,sV q],x.free = true := fun ls lv h q x hx => by
    simp only [List.mem_cons,List.not_mem_nil,or_false] at hx; rcases hx with rfl | rfl <;> first | exact h.freeV | rfl
  simp only [lowP,badP,lowPs_map,badPs_any]
  intro yi hy
  refine Call.step hy ?_
  rw [body_eq t63]
  simp only [c63,c63x1,c63x2,RUA,RUB,RUC,RUD,RUE,RUF,if_true,if_false,Int.reduceEq,Int.reduceLT,Int.reduceLE,qC,qO,qA,qS,qU,Nat.reduceEqDiff,qT,E.at,qR,Nat.reduceAdd,Nat.reduceSub,Nat.reduceLeDiff,Nat.reduceMul,qI,qP,qQ,hone,hone1,fillC]
  have n1 : decide (k = 1) = false := by simpa using k1
  have n2 : decide (k = 2) = false := by simpa using k2
  have n3 : decide (k = 3) = false := by simp; omega
  have n4 : decide (k = 4) = false := by simp; omega
  have n5 : decide (k = 5) = false := by simp; omega
  have n6 : decide (k = 6) = false := by simpa using k6
  have n9 : decide (k = 9) = false := by simpa using k9
  subst k13
  have s0 : (if (13 : Int) = 1 then n else emp) = emp := rfl
  have s1 : lowB ss 13 m = 0 := rfl
  have s2 : (if (13 : Int) = 2 ∨ (13 : Int) = 9 then lowE vs (.mk qk qn qm ql) else zE) = zE := rfl
  have s3 : decide ((13 : Int) = 2 ∨ (13 : Int) = 9) = false := rfl
  have s4 : lowA vs ss ds 13 n m = findI ds n := rfl
  have s5 : badA vs ss ds 13 n m = decide (findI ds n < 0) := rfl
  rw [s0,s1,s2,s3,s4,s5,Bool.false_and,Bool.or_false]
  clear s0 s1 s2 s3 s4 s5
  simp only [c63,c63x1,c63x2,c63x3,c63x4,c63x5,c63x6,c63x7,c63x8,c63x9,c63x10,c63x11,c63x12,c63x13,RUA,RUB,RUC,RUD,RUE,RUF,if_true,if_false,Int.reduceEq,Int.reduceLT,Int.reduceLE,qC,qO,qA,qS,qU,Nat.reduceEqDiff,qT,E.at,qR,Nat.reduceAdd,Nat.reduceSub,Nat.reduceLeDiff,Nat.reduceMul,qI,qP,qQ]
  refine (at_c L b L.d1 L.d3 n).call1 rfl (hba _ _ L.d1 n) rfl (L.fr _) fun z os' hq => ?_
  obtain ⟨rfl,rfl⟩ := hq
  refine ⟨_,rfl,L.fr _,rfl, ?_⟩
  simp only [c63,c63x1,c63x2,c63x3,c63x4,c63x5,c63x6,c63x7,c63x8,c63x9,c63x10,c63x11,c63x12,c63x13,RUA,RUB,RUC,RUD,RUE,RUF,if_true,if_false,Int.reduceEq,Int.reduceLT,Int.reduceLE,qC,qO,qA,qS,qU,Nat.reduceEqDiff,qT,E.at,qR,Nat.reduceAdd,Nat.reduceSub,Nat.reduceLeDiff,Nat.reduceMul,qI,qP,qQ]
  rw [← Bool.or_assoc]
  exact proc_tail L ih g1 g2 g3 hy _ exz _ _ _ _ _ _ _ _ _ _ _ _ _ _ _ _ _ _ _ _ _ _ _ _ _ _ _ _ _ _ _ _ _ _ _ _ _ _ _ _ _ _ _ _ _ _ _ _ _ _ _ _ _ _ _ _ _ _ _ _ _ _ _ _ _ _ _ _ _ _ _ _ _ _ _ _ _ _ _ _ _ _ _ _ _ _ _ _ _ _ _ _ _ _ _ _ _ _ _ _ _ _ _ _ _ _ _ _ _ _
theorem proc_z {v s d : V} {vs ss ds : List ByteArray} (L : Low v s d vs ss ds) {k : Int} {n m : ByteArray} {qk qn : Int} {qm : ByteArray} {ql : List Ex} {xl : List Pr} {u : V} (h : IsPr (.mk k n m (.mk qk qn qm ql) xl) u) (b : Bool)
    (ih : ∀ x ∈ xl,∀ u,IsPr x u → ∀ (b : Bool),SFn Try.prog T 63 [.pt 0 0,u] [.cells [v,s,d,bV b]] fun z os' => IsTm (lowP vs ss ds x) z ∧ os' = [.cells [v,s,d,bV (b || badP vs ss ds x)]]) (k1 : ¬ (k = 1)) (k2 : ¬ (k = 2)) (k3 : ¬ (k = 3 ∨ k = 4 ∨ k = 5)) (k6 : ¬ (k = 6)) (k9 : ¬ (k = 9)) (k13 : ¬ (k = 13)) :
    SFn Try.prog T 63 [.pt 0 0,u] [.cells [v,s,d,bV b]] fun z os' => IsTm (lowP vs ss ds (.mk k n m (.mk qk qn qm ql) xl)) z ∧ os' = [.cells [v,s,d,bV (b || badP vs ss ds (.mk k n m (.mk qk qn qm ql) xl))]] := by
  obtain ⟨ev,evs,lv,es,rfl,e1,e2,e3,g1,g2,g3⟩ := h
  have hE : IsEx (.mk qk qn qm ql) (.agg [iV qk,iV qn,sV qm,ev]) := ⟨ev,evs,rfl,e1,e2,e3⟩
  rw [isPrs_all] at g3
  have hone : lv.one = true := free1_one g1.free
  have hone1 : ev.one = true := free1_one e1.free
  have hEf := hE.ok.1
  have hba : ∀ (ls : List ByteArray) (lv : V),IsSl 1 lv (nmsV ls) → ∀ q,∀ x ∈ [lv,sV q],x.free = true := fun ls lv h q x hx => by
    simp only [List.mem_cons,List.not_mem_nil,or_false] at hx; rcases hx with rfl | rfl <;> first | exact h.freeV | rfl
  simp only [lowP,badP,lowPs_map,badPs_any]
  intro yi hy
  refine Call.step hy ?_
  rw [body_eq t63]
  simp only [c63,c63x1,c63x2,RUA,RUB,RUC,RUD,RUE,RUF,if_true,if_false,Int.reduceEq,Int.reduceLT,Int.reduceLE,qC,qO,qA,qS,qU,Nat.reduceEqDiff,qT,E.at,qR,Nat.reduceAdd,Nat.reduceSub,Nat.reduceLeDiff,Nat.reduceMul,qI,qP,qQ,hone,hone1,fillC]
  have n1 : decide (k = 1) = false := by simpa using k1
  have n2 : decide (k = 2) = false := by simpa using k2
  have n3 : decide (k = 3) = false := by simp; omega
  have n4 : decide (k = 4) = false := by simp; omega
  have n5 : decide (k = 5) = false := by simp; omega
  have n6 : decide (k = 6) = false := by simpa using k6
  have n9 : decide (k = 9) = false := by simpa using k9
  have n13 : decide (k = 13) = false := by simpa using k13
  have s0 : (if k = 1 then n else emp) = emp := by rw [if_neg k1]
  have s1 : lowB ss k m = 0 := by unfold lowB; rw [if_neg k6]
  have s2 : (if k = 2 ∨ k = 9 then lowE vs (.mk qk qn qm ql) else zE) = zE := if_neg (by omega)
  have s3 : decide (k = 2 ∨ k = 9) = false := by simp; omega
  have s4 : lowA vs ss ds k n m = 0 := by unfold lowA; simp [k1,k2,show ¬ (k = 3 ∨ k = 4 ∨ k = 5 ∨ k = 6) by omega,k13]
  have s5 : badA vs ss ds k n m = false := by unfold badA; simp [k1,k2,k3,k6,k13]
  rw [s0,s1,s2,s3,s4,s5,Bool.false_and,Bool.or_false,Bool.false_or]
  simp only [c63,c63x1,c63x2,c63x3,c63x4,c63x5,c63x6,c63x7,c63x8,c63x9,c63x10,c63x11,c63x12,c63x13,RUA,RUB,RUC,RUD,RUE,RUF,if_true,if_false,Int.reduceEq,Int.reduceLT,Int.reduceLE,qC,qO,qA,qS,qU,Nat.reduceEqDiff,qT,E.at,qR,Nat.reduceAdd,Nat.reduceSub,Nat.reduceLeDiff,Nat.reduceMul,qI,qP,qQ,n1,n2,n3,n4,n5,n6,n9,n13]
  exact proc_tail L ih g1 g2 g3 hy _ exz _ _ _ _ _ _ _ _ _ _ _ _ _ _ _ _ _ _ _ _ _ _ _ _ _ _ _ _ _ _ _ _ _ _ _ _ _ _ _ _ _ _ _ _ _ _ _ _ _ _ _ _ _ _ _ _ _ _ _ _ _ _ _ _ _ _ _ _ _ _ _ _ _ _ _ _ _ _ _ _ _ _ _ _ _ _ _ _ _ _ _ _ _ _ _ _ _ _ _ _ _ _ _ _ _ _ _ _ _ _
end Go.Proofs.Ytfncfdiomolieaa
end

section
set_option linter.unusedVariables false
set_option linter.unusedSimpArgs false
set_option maxRecDepth 100000
set_option maxHeartbeats 8000000
open Go.Proofs.Pe renaming putCells → qC, bslOf → qO, bsaOf → qA, bslS → qS, isUpto → qU, step → qT, intOf → qI, iop → qP, sop → qQ
open List renaming replicate → qR
open Go.Proofs.Pe.V renaming dead → qD
namespace Go.Proofs.Ytfncfdiomolieaa
open Go.Proofs.Pe

theorem proc_k6 {v s d : V} {vs ss ds : List ByteArray} (L : Low v s d vs ss ds) {k : Int} {n m : ByteArray} {qk qn : Int} {qm : ByteArray} {ql : List Ex} {xl : List Pr} {u : V} (h : IsPr (.mk k n m (.mk qk qn qm ql) xl) u) (b : Bool)
    (ih : ∀ x ∈ xl,∀ u,IsPr x u → ∀ (b : Bool),SFn Try.prog T 63 [.pt 0 0,u] [.cells [v,s,d,bV b]] fun z os' => IsTm (lowP vs ss ds x) z ∧ os' = [.cells [v,s,d,bV (b || badP vs ss ds x)]]) (k1 : ¬ (k = 1)) (k2 : ¬ (k = 2)) (k3 : ¬ (k = 3 ∨ k = 4 ∨ k = 5)) (k6 : k = 6) :
    SFn Try.prog T 63 [.pt 0 0,u] [.cells [v,s,d,bV b]] fun z os' => IsTm (lowP vs ss ds (.mk k n m (.mk qk qn qm ql) xl)) z ∧ os' = [.cells [v,s,d,bV (b || badP vs ss ds (.mk k n m (.mk qk qn qm ql) xl))]] := by
  obtain ⟨ev,evs,lv,es,rfl,e1,e2,e3,g1,g2,g3⟩ := h
  have hE : IsEx (.mk qk qn qm ql) (.agg [iV qk,iV qn,sV qm,ev]) := ⟨ev,evs,rfl,e1,e2,e3⟩
  rw [isPrs_all] at g3
  have hone : lv.one = true := free1_one g1.free
  have hone1 : ev.one = true := free1_one e1.free
  have hEf := hE.ok.1
  have hba : ∀ (ls : List ByteArray) (lv : V),IsSl 1 lv (nmsV ls) → ∀ q,∀ x ∈ [lv,sV q],x.free = true := fun ls lv h q x hx => by
    simp only [List.mem_cons,List.not_mem_nil,or_false] at hx; rcases hx with rfl | rfl <;> first | exact h.freeV | rfl
  simp only [lowP,badP,lowPs_map,badPs_any]
  intro yi hy
  refine Call.step hy ?_
  rw [body_eq t63]
  simp only [c63,c63x1,c63x2,RUA,RUB,RUC,RUD,RUE,RUF,if_true,if_false,Int.reduceEq,Int.reduceLT,Int.reduceLE,qC,qO,qA,qS,qU,Nat.reduceEqDiff,qT,E.at,qR,Nat.reduceAdd,Nat.reduceSub,Nat.reduceLeDiff,Nat.reduceMul,qI,qP,qQ,hone,hone1,fillC]
  have n1 : decide (k = 1) = false := by simpa using k1
  have n2 : decide (k = 2) = false := by simpa using k2
  have n3 : decide (k = 3) = false := by simp; omega
  have n4 : decide (k = 4) = false := by simp; omega
  have n5 : decide (k = 5) = false := by simp; omega
  subst k6
  have s0 : (if (6 : Int) = 1 then n else emp) = emp := rfl
  have s1 : lowB ss 6 m = findI ss m := rfl
  have s2 : (if (6 : Int) = 2 ∨ (6 : Int) = 9 then lowE vs (.mk qk qn qm ql) else zE) = zE := rfl
  have s3 : decide ((6 : Int) = 2 ∨ (6 : Int) = 9) = false := rfl
  have s4 : lowA vs ss ds 6 n m = findI ss n := rfl
  have s5 : badA vs ss ds 6 n m = (decide (findI ss n < 0) || decide (findI ss m < 0)) := rfl
  rw [s0,s1,s2,s3,s4,s5,Bool.false_and,Bool.or_false]
  clear s0 s1 s2 s3 s4 s5
  simp only [c63,c63x1,c63x2,c63x3,c63x4,c63x5,c63x6,c63x7,c63x8,c63x9,c63x10,c63x11,RUA,RUB,RUC,RUD,RUE,RUF,if_true,if_false,Int.reduceEq,Int.reduceLT,Int.reduceLE,qC,qO,qA,qS,qU,Nat.reduceEqDiff,qT,E.at,qR,Nat.reduceAdd,Nat.reduceSub,Nat.reduceLeDiff,Nat.reduceMul,qI,qP,qQ]
  repeat' (first
    | (refine And.intro ?_ ?_)
    | exact trivial
    | (refine (at_c L _ L.s1 L.s3 n).call1 rfl (hba _ _ L.s1 n) rfl (L.fr _) fun z os' hq => ?_
       obtain ⟨rfl,rfl⟩ := hq
       refine ⟨_,rfl,L.fr _,rfl, ?_⟩)
    | (refine (at_c L _ L.s1 L.s3 m).call1 rfl (hba _ _ L.s1 m) rfl (L.fr _) fun z os' hq => ?_
       obtain ⟨rfl,rfl⟩ := hq
       refine ⟨_,rfl,L.fr _,rfl, ?_⟩)
    | (simp only [c63,c63x1,c63x2,c63x3,c63x4,c63x5,c63x6,c63x7,c63x8,c63x9,c63x10,c63x11,RUA,RUB,RUC,RUD,RUE,RUF,if_true,if_false,Int.reduceEq,Int.reduceLT,Int.reduceLE,qC,qO,qA,qS,qU,Nat.reduceEqDiff,qT,E.at,qR,Nat.reduceAdd,Nat.reduceSub,Nat.reduceLeDiff,Nat.reduceMul,qI,qP,qQ]))
  all_goals
    rw [← Bool.or_assoc,← Bool.or_assoc]
    exact proc_tail L ih g1 g2 g3 hy _ exz _ _ _ _ _ _ _ _ _ _ _ _ _ _ _ _ _ _ _ _ _ _ _ _ _ _ _ _ _ _ _ _ _ _ _ _ _ _ _ _ _ _ _ _ _ _ _ _ _ _ _ _ _ _ _ _ _ _ _ _ _ _ _ _ _ _ _ _ _ _ _ _ _ _ _ _ _ _ _ _ _ _ _ _ _ _ _ _ _ _ _ _ _ _ _ _ _ _ _ _ _ _ _ _ _ _ _ _ _ _
end Go.Proofs.Ytfncfdiomolieaa
end

section
set_option linter.unusedVariables false
set_option linter.unusedSimpArgs false
set_option maxRecDepth 100000
set_option maxHeartbeats 8000000
namespace Go.Proofs.Ytfncfdiomolieaa
open Go.Proofs.Pe

theorem proc_c {v s d : V} {vs ss ds : List ByteArray} (L : Low v s d vs ss ds) : ∀ (x : Pr) (u : V),IsPr x u → ∀ (b : Bool),
    SFn Try.prog T 63 [.pt 0 0,u] [.cells [v,s,d,bV b]] fun z os' => IsTm (lowP vs ss ds x) z ∧ os' = [.cells [v,s,d,bV (b || badP vs ss ds x)]]
  | .mk k n m (.mk qk qn qm ql) xl,u,h,b => by
    have ih : ∀ x ∈ xl,∀ u,IsPr x u → ∀ (b : Bool),SFn Try.prog T 63 [.pt 0 0,u] [.cells [v,s,d,bV b]] fun z os' => IsTm (lowP vs ss ds x) z ∧ os' = [.cells [v,s,d,bV (b || badP vs ss ds x)]] := fun x hx u hu => proc_c L x u hu
    by_cases k1 : k = 1
    · exact proc_k1 L h b ih k1
    by_cases k2 : k = 2
    · exact proc_k2 L h b ih k1 k2
    by_cases k3 : k = 3 ∨ k = 4 ∨ k = 5
    · exact proc_k3 L h b ih k1 k2 k3
    by_cases k6 : k = 6
    · exact proc_k6 L h b ih k1 k2 k3 k6
    by_cases k9 : k = 9
    · exact proc_k9 L h b ih k1 k2 k3 k6 k9
    by_cases k13 : k = 13
    · exact proc_k13 L h b ih k1 k2 k3 k6 k9 k13
    exact proc_z L h b ih k1 k2 k3 k6 k9 k13
termination_by x => SizeOf.sizeOf x
decreasing_by have := List.sizeOf_lt_of_mem hx; simp; omega
end Go.Proofs.Ytfncfdiomolieaa
end

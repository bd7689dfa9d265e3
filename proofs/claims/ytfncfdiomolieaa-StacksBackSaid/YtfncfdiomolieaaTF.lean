/- Parts of the texts that the claim's proof needs: functions of the program as the evaluator reads them, and what they come to. Conditions: those that its theorems state. -/
import Derived.Test.YtfncfdiomolieaaTE
import Derived.Handed

section
set_option linter.unusedVariables false
set_option linter.unusedSimpArgs false
set_option maxRecDepth 100000
set_option maxHeartbeats 8000000
open Go.Proofs.Pe renaming putCells → qC, bslOf → qO, bsaOf → qA, bslS → qS, isUpto → qU, step → qT, intOf → qI, iop → qP, sop → qQ
open List renaming replicate → qR
open Go.Proofs.Pe.V renaming dead → qD
namespace Go.Proofs.Ytfncfdiomolieaa
open Go.Proofs.Pe
theorem pg_of {vv pv : V} {vs ps : List V} (h1 : IsSl 2 vv vs) (h2 : vs.length ≤ 1000) (h3 : ∀ x ∈ vs,∃ s n,x = .agg [sV s,iV n]) (h4 : IsSl 9 pv ps) (h5 : ps.length ≤ 1000) (h6 : ∀ x ∈ ps,∃ s b,x = .agg (sV s :: b) ∧ prP (.agg b)) :
    ∃ lv lp,Pg vv sVl pv vs ps lv nmS lp := by
  obtain ⟨lv,hlv⟩ := all2_of (R := IsVar) (vs := vs) fun y hy => by
    obtain ⟨s,n,rfl⟩ := h3 y hy; exact ⟨.mk s n,rfl⟩
  obtain ⟨lp,hlp⟩ := all2_of (R := fun d v => IsDef d v ∧ PrOk d.p) (vs := ps) fun y hy => by
    obtain ⟨s,b,rfl,p,hp,hk⟩ := h6 y hy; exact ⟨.mk s p,⟨b,rfl,hp⟩,hk⟩
  refine ⟨lv,lp,h1,hlv,h2,.inr ⟨true,rfl⟩,by decide,h4,hlp.imp fun x _ v h => h.1,h5,fun x hx => ?_⟩
  obtain ⟨i,hi⟩ := List.getElem?_of_mem hx
  have hl := hlp.len
  have hlt := (List.getElem?_eq_some_iff.1 hi).1
  exact (hlp.get (List.getElem?_eq_getElem (show i < ps.length by omega)) hi).2
theorem prLit {s : ByteArray} {b : List V} (h : prP (.agg b)) : ∃ a1 a2 a3 a4 a5 a6 a7 a8,b = [a1,a2,a3,a4,a5,a6,a7,a8] ∧ a1.one = true ∧ a2.one = true ∧ a3.one = true ∧ a4.one = true ∧ a5.one = true ∧ a6.one = true ∧ a7.one = true ∧ a8.one = true := by
  obtain ⟨pk,pn,pt,qk,qn,qm,pe,pl,e,h1,h2⟩ := prP.agg h
  cases e
  exact ⟨_,_,_,_,_,_,_,_,rfl,rfl,rfl,rfl,rfl,rfl,rfl,h1,h2⟩
def payB : List V := [iV 1,sV (ByteArray.mk #[112,97,121]),sV (ByteArray.mk #[]),iV 0,iV 0,sV (ByteArray.mk #[]),nilV,nilV]
theorem payP : prP (.agg payB) := prLeaf 1 (by decide) _ _
theorem mv_agg {ρ : Nat → Option Nat} {cs : List V} : (V.agg cs).mv ρ = (mapO (V.mv1 ρ) cs).map V.agg := rfl
theorem make5_tail {vs ps : List V} {v1 v2 : Nat} (h2 : vs.length = 3) (h3 : ∀ x ∈ vs,∃ s n,x = .agg [sV s,iV n]) (h5 : ps.length = 5) (h6 : ∀ x ∈ ps,∃ s b,x = .agg (sV s :: b) ∧ prP (.agg b)) {c0 : List V} {yi : Nat → Sem'} (hy : YLe yi yi) (t0 t2 t3 x6 x7 x8 x9 x10 x11 x12 x13 x14 x15 x16 x17 x18 x19 x20 x21 x22 x23 x24 x25 x26 x27 x28 x29 x30 x31 x32 x33 x34 x35 x36 x37 : V) :
    Pe.ev Try.prog T (Pe.Call Try.prog T) Lfp c21x8 none yi ⟨⟨[t0,iV 0,t2,t3,.pt 1 0,.pt 4 0,x6,x7,x8,x9,x10,x11,x12,x13,x14,x15,x16,x17,x18,x19,x20,x21,x22,x23,x24,x25,x26,x27,x28,x29,x30,x31,x32,x33,x34,x35,x36,x37],[.cells c0,.cells [iV 0,iV 0,iV 0,sV (ByteArray.mk #[]),iV 0,iV 0,sV (ByteArray.mk #[]),nilV,nilV],.arr v1 true 2 vs,.arr v2 true 9 ps,.cells [.ar 2 v1,sVl,.ar 3 v2]]⟩,[]⟩
      (endK [Rv.cell 4 true 9] fun y o' => ∃ z o2,freezeT o' y = some (z,o2) ∧ ∃ x,IsTm x z) := by
  have f1 : vs.all V.free = true := by rw [List.all_eq_true]; intro x hx; obtain ⟨s,n,rfl⟩ := h3 x hx; rfl
  have f2 : ps.all V.free = true := by
    rw [List.all_eq_true]; intro x hx; obtain ⟨s,b,rfl,hb⟩ := h6 x hx
    have := hb.ok.1
    simp only [free_agg,List.all_cons,free1_sc,Bool.true_and] at this ⊢; exact this
  obtain ⟨lv,lp,H⟩ := pg_of (vv := .sl 2 false vs) (pv := .sl 9 false ps) (.inr ⟨_,rfl⟩) (by omega) h3 (.inr ⟨_,rfl⟩) (by omega) h6
  have h0 : 0 < lp.length := by have := H.h5.len; omega
  have hone : sVl.one = true := rfl
  have hcm : commits [O.cells c0,.cells [iV 0,iV 0,iV 0,sV (ByteArray.mk #[]),iV 0,iV 0,sV (ByteArray.mk #[]),nilV,nilV],.arr v1 true 2 vs,.arr v2 true 9 ps,.cells [.ar 2 v1,sVl,.ar 3 v2]] [V.agg [.ar 2 v1,sVl,.ar 3 v2]] =
      some ([.agg [.sl 2 false vs,sVl,.sl 9 false ps]],[O.cells c0,.cells [iV 0,iV 0,iV 0,sV (ByteArray.mk #[]),iV 0,iV 0,sV (ByteArray.mk #[]),nilV,nilV],.arr v1 false 2 vs,.arr v2 false 9 ps,.cells [.ar 2 v1,sVl,.ar 3 v2]]) := by
    have e1 : freezes [O.cells c0,.cells [iV 0,iV 0,iV 0,sV (ByteArray.mk #[]),iV 0,iV 0,sV (ByteArray.mk #[]),nilV,nilV],.arr v1 true 2 vs,.arr v2 true 9 ps,.cells [.ar 2 v1,sVl,.ar 3 v2]] [V.ar 2 v1,sVl,.ar 3 v2] =
        some ([.sl 2 false vs,sVl,.sl 9 false ps],[O.cells c0,.cells [iV 0,iV 0,iV 0,sV (ByteArray.mk #[]),iV 0,iV 0,sV (ByteArray.mk #[]),nilV,nilV],.arr v1 false 2 vs,.arr v2 false 9 ps,.cells [.ar 2 v1,sVl,.ar 3 v2]]) := by
      rw [frzs_cons (y := .sl 2 false vs) (o1 := [O.cells c0,.cells [iV 0,iV 0,iV 0,sV (ByteArray.mk #[]),iV 0,iV 0,sV (ByteArray.mk #[]),nilV,nilV],.arr v1 false 2 vs,.arr v2 true 9 ps,.cells [.ar 2 v1,sVl,.ar 3 v2]]) (by simp [freeze1,f1]),
        frzs_cons (y := sVl) (o1 := [O.cells c0,.cells [iV 0,iV 0,iV 0,sV (ByteArray.mk #[]),iV 0,iV 0,sV (ByteArray.mk #[]),nilV,nilV],.arr v1 false 2 vs,.arr v2 true 9 ps,.cells [.ar 2 v1,sVl,.ar 3 v2]]) rfl,
        frzs_cons (y := .sl 9 false ps) (o1 := [O.cells c0,.cells [iV 0,iV 0,iV 0,sV (ByteArray.mk #[]),iV 0,iV 0,sV (ByteArray.mk #[]),nilV,nilV],.arr v1 false 2 vs,.arr v2 false 9 ps,.cells [.ar 2 v1,sVl,.ar 3 v2]]) (by simp [freeze1,f2])]
      rfl
    simp only [commits,step.freezes',Pe.freeze,e1,Option.map_some,Option.bind_eq_bind,Option.bind_some,Option.pure_def]
  simp only [c21,c21x1,c21x2,c21x3,c21x4,c21x5,c21x6,c21x7,c21x8,RUA,RUB,RUC,RUD,RUE,RUF,if_true,if_false,Int.reduceEq,Int.reduceLT,Int.reduceLE,qC,qO,qA,qS,qU,Nat.reduceEqDiff,qT,E.at,qR,Nat.reduceAdd,Nat.reduceSub,Nat.reduceLeDiff,Nat.reduceMul,qI,qP,qQ,hone]
  refine (ref4_p H h0).call rfl hcm fun z hz => ?_
  obtain ⟨t,b,rfl,q1,q2,q3⟩ := hz
  have hts : t.solid = true := free_solid q1
  have hz4 : decide (t.cells.length = 9) = true := by simpa using q2
  have hpc : putCells [V.sc (Value.int IntKind.i64 0),V.sc (Value.int IntKind.i64 0),V.sc (Value.int IntKind.i64 0),V.sc (Value.string (ByteArray.mk #[])),V.sc (Value.int IntKind.i64 0),V.sc (Value.int IntKind.i64 0),V.sc (Value.string (ByteArray.mk #[])),V.sc (Value.slice none 0 0),V.sc (Value.slice none 0 0)] 0 t.cells = t.cells := by
    rcases ht : t.cells with _ | ⟨a0,_ | ⟨a1,_ | ⟨a2,_ | ⟨a3,_ | ⟨a4,_ | ⟨a5,_ | ⟨a6,_ | ⟨a7,_ | ⟨a8,_ | ⟨a9,l⟩⟩⟩⟩⟩⟩⟩⟩⟩⟩ <;> simp [ht] at q2 <;> rfl
  split
  all_goals
    simp only [c21,c21x1,c21x2,c21x3,c21x4,c21x5,c21x6,c21x7,c21x8,c21x9,RUA,RUB,RUC,RUD,RUE,RUF,if_true,if_false,Int.reduceEq,Int.reduceLT,Int.reduceLE,qC,qO,qA,qS,qU,Nat.reduceEqDiff,qT,E.at,qR,Nat.reduceAdd,Nat.reduceSub,Nat.reduceLeDiff,Nat.reduceMul,qI,qP,qQ,q2,hts,hpc]
    cases b with
    | false =>
      simp only [c21,c21x1,c21x2,c21x3,c21x4,c21x5,c21x6,c21x7,c21x8,c21x9,c21x10,RUA,RUB,RUC,RUD,RUE,RUF,if_true,if_false,Int.reduceEq,Int.reduceLT,Int.reduceLE,qC,qO,qA,qS,qU,Nat.reduceEqDiff,qT,E.at,qR,Nat.reduceAdd,Nat.reduceSub,Nat.reduceLeDiff,Nat.reduceMul,qI,qP,qQ,fillC,rets,List.take]
      exact ⟨_,_,frzT_free rfl,.mk 1 (-1) 0 _ (.mk 0 0 _ []) [],nilV,[],nilV,[],rfl,.inl ⟨rfl,rfl⟩,by simp,rfl,.inl ⟨rfl,rfl⟩,by simp,rfl⟩
    | true =>
      have hT := q3 rfl
      obtain ⟨k',a',b',nm',ek',en',em',ev',lv',rfl,o1,o2,o3,o4⟩ := IsTm.agg hT
      have hz : mapO (V.mv2 (inS [6])) [V.agg [iV k',iV a',iV b',sV nm',iV ek',iV en',sV em',ev',lv'],iV 0,.pt 6 0,bV false] = some [V.agg [iV k',iV a',iV b',sV nm',iV ek',iV en',sV em',ev',lv'],iV 0,.pt 0 0,bV false] := by
        rw [mapO_cons (mv2_free q1),mapO_cons mv2_sc,mapO_cons (y := .pt 0 0) (by rw [mv2_pt,in1]; rfl),mapO_cons mv2_sc]; rfl
      simp only [c21,c21x1,c21x2,c21x3,c21x4,c21x5,c21x6,c21x7,c21x8,c21x9,c21x10,c21x11,c21x12,RUA,RUB,RUC,RUD,RUE,RUF,if_true,if_false,Int.reduceEq,Int.reduceLT,Int.reduceLE,qC,qO,qA,qS,qU,Nat.reduceEqDiff,qT,E.at,qR,Nat.reduceAdd,Nat.reduceSub,Nat.reduceLeDiff,Nat.reduceMul,qI,qP,qQ,o1,o2]
      refine (waiting_c _ _ hT 0 false).callP rfl (cm_free q1 (cm_free rfl (cm_pt (cm_free rfl cm_nil)))) hz rfl rfl fun z os' hq => ?_
      obtain ⟨hz2,c2,rfl⟩ := hq
      refine ⟨_,rfl,rfl,freeT_of hz2.ok.1, ?_⟩
      obtain ⟨k2,a2,b2,nm2,ek2,en2,em2,ev2,lv2,rfl,p1,p2,p3,p4⟩ := IsTm.agg hz2
      simp only [c21,c21x1,c21x2,c21x3,c21x4,c21x5,c21x6,c21x7,c21x8,c21x9,c21x10,c21x11,c21x12,RUA,RUB,RUC,RUD,RUE,RUF,if_true,if_false,Int.reduceEq,Int.reduceLT,Int.reduceLE,qC,qO,qA,qS,qU,Nat.reduceEqDiff,qT,E.at,qR,Nat.reduceAdd,Nat.reduceSub,Nat.reduceLeDiff,Nat.reduceMul,qI,qP,qQ,p1,p2,rets,List.take]
      exact ⟨_,_,frzT_free hz2.ok.1,_,hz2⟩
theorem make5_p {x : R3} {u : V} (hu : IsR3 x u) : PFn Try.prog T 21 [u,iV 0] fun z => ∃ x,IsTm x z := by
  rcases x with ⟨k,a3,b3,e,l⟩
  have hu' := hu
  obtain ⟨ev,evs,lv,vs0,rfl,h1,h2,h3,h4,h5,h6⟩ := hu
  have hone : lv.one = true := free1_one h4.free
  have hone1 : ev.one = true := free1_one h1.free
  have hfe : ev.free1 = true := h1.free
  have hfl : lv.free1 = true := h4.free
  intro yi hy
  have hst : ∀ c,BLe (Pe.ev Try.prog T (Pe.Call Try.prog T) Lfp c none yi) (Pe.ev Try.prog T (Pe.Call Try.prog T) Lfp c none yi) := fun c => ev_mono call_le lfp_le c none yi yi hy
  refine Call.step hy ?_
  rw [body_eq t21]
  simp only [c21,c21x1,RUA,RUB,RUC,RUD,RUE,RUF,if_true,if_false,Int.reduceEq,Int.reduceLT,Int.reduceLE,qC,qO,qA,qS,qU,Nat.reduceEqDiff,qT,E.at,qR,Nat.reduceAdd,Nat.reduceSub,Nat.reduceLeDiff,Nat.reduceMul,qI,qP,qQ,hone,hone1,hfe,hfl,fillC]
  refine (shape1_c (a := 0) (b := 0) hu').call0 rfl (by simp [V.free,V.free1]) fun z os' hq => ?_
  obtain ⟨v1,v2,vs,ps,rfl,rfl,q1,q2,q3,q4⟩ := hq
  have f1 : vs.all V.free = true := by rw [List.all_eq_true]; intro x hx; obtain ⟨s,n,rfl⟩ := q2 x hx; rfl
  have f2 : ps.all V.free = true := by
    rw [List.all_eq_true]; intro x hx; obtain ⟨s,b,rfl,hb⟩ := q4 x hx
    have := hb.ok.1
    simp only [free_agg,List.all_cons,free1_sc,Bool.true_and] at this ⊢; exact this
  refine ⟨.agg [.ar 2 v1,sVl,.ar 3 v2],[.arr v1 true 2 vs,.arr v2 true 9 ps], ?_, ?_, ?_⟩
  · rw [mv_agg,mapO_cons (y := .ar 2 v1) (by rw [mv1_ar]; rfl),mapO_cons (mv1_free rfl),mapO_cons (y := .ar 3 v2) (by rw [mv1_ar]; rfl)]; rfl
  · rw [mapO_cons (mvO_f f1),mapO_cons (mvO_f f2)]; rfl
  match ps,q3 with
  | [p0,p1,p2,p3,p4],_ =>
    obtain ⟨s0,b0,rfl,hp0⟩ := q4 p0 (by simp)
    obtain ⟨d00,d01,d02,d03,d04,d05,d06,d07,rfl,o00,o01,o02,o03,o04,o05,o06,o07⟩ := prLit (s := s0) hp0
    obtain ⟨s1,b1,rfl,hp1⟩ := q4 p1 (by simp)
    obtain ⟨d10,d11,d12,d13,d14,d15,d16,d17,rfl,o10,o11,o12,o13,o14,o15,o16,o17⟩ := prLit (s := s1) hp1
    obtain ⟨s2,b2,rfl,hp2⟩ := q4 p2 (by simp)
    obtain ⟨d20,d21,d22,d23,d24,d25,d26,d27,rfl,o20,o21,o22,o23,o24,o25,o26,o27⟩ := prLit (s := s2) hp2
    obtain ⟨s3,b3,rfl,hp3⟩ := q4 p3 (by simp)
    obtain ⟨d30,d31,d32,d33,d34,d35,d36,d37,rfl,o30,o31,o32,o33,o34,o35,o36,o37⟩ := prLit (s := s3) hp3
    obtain ⟨s4,b4,rfl,hp4⟩ := q4 p4 (by simp)
    obtain ⟨d40,d41,d42,d43,d44,d45,d46,d47,rfl,o40,o41,o42,o43,o44,o45,o46,o47⟩ := prLit (s := s4) hp4
    clear q4
    have e1 : sVl.one = true := rfl
    have rr : ∀ (q0 q1 q2 : O) (r : List O) (ps : List V),rowOf (q0 :: q1 :: q2 :: .arr v2 true 9 ps :: r) (.ar 3 v2) = some ps := fun q0 q1 q2 r ps => by simp [rowOf]
    have n5 : ((5 : Nat) : Int) = 5 := rfl
    simp only [c21,c21x1,c21x2,c21x3,RUA,RUB,RUC,RUD,RUE,RUF,if_true,if_false,Int.reduceEq,Int.reduceLT,Int.reduceLE,qC,qO,qA,qS,qU,Nat.reduceEqDiff,qT,E.at,qR,Nat.reduceAdd,Nat.reduceSub,Nat.reduceLeDiff,Nat.reduceMul,qI,qP,qQ,e1]
    refine Lfp.step (hst _) ?_
    simp only [c21,c21x1,c21x2,c21x3,c21x4,c21x5,c21x6,c21x7,RUA,RUB,RUC,RUD,RUE,RUF,if_true,if_false,Int.reduceEq,Int.reduceLT,Int.reduceLE,qC,qO,qA,qS,qU,Nat.reduceEqDiff,qT,E.at,qR,Nat.reduceAdd,Nat.reduceSub,Nat.reduceLeDiff,Nat.reduceMul,qI,qP,qQ,e1,fillC,rr,n5,wl1,wl2,wl3,wl4,and_self,false_and]
    have hx1 : ∀ (q0 q1 q2 : O) (r : List O),ixOf 9 (q0 :: q1 :: q2 :: .arr v2 true 9 [.agg [sV s0,d00,d01,d02,d03,d04,d05,d06,d07],.agg [sV s1,d10,d11,d12,d13,d14,d15,d16,d17],.agg [sV s2,d20,d21,d22,d23,d24,d25,d26,d27],.agg [sV s3,d30,d31,d32,d33,d34,d35,d36,d37],.agg [sV s4,d40,d41,d42,d43,d44,d45,d46,d47]] :: r) (.ar 3 v2) (iV 1) = some (.pa 3 v2 1 0,q0 :: q1 :: q2 :: .arr v2 true 9 [.agg [sV s0,d00,d01,d02,d03,d04,d05,d06,d07],.agg [sV s1,d10,d11,d12,d13,d14,d15,d16,d17],.agg [sV s2,d20,d21,d22,d23,d24,d25,d26,d27],.agg [sV s3,d30,d31,d32,d33,d34,d35,d36,d37],.agg [sV s4,d40,d41,d42,d43,d44,d45,d46,d47]] :: r) := fun q0 q1 q2 r => ix_ar (n := 1) rfl (by simp)
    simp only [c21,c21x1,c21x2,c21x3,c21x4,c21x5,c21x6,c21x7,RUA,RUB,RUC,RUD,RUE,RUF,if_true,if_false,Int.reduceEq,Int.reduceLT,Int.reduceLE,qC,qO,qA,qS,qU,Nat.reduceEqDiff,qT,E.at,qR,Nat.reduceAdd,Nat.reduceSub,Nat.reduceLeDiff,Nat.reduceMul,qI,qP,qQ,e1,fillC,rr,n5,wl1,wl2,wl3,wl4,and_self,false_and,hx1]
    refine Lfp.step (hst _) ?_
    simp only [c21,c21x1,c21x2,c21x3,c21x4,c21x5,c21x6,c21x7,RUA,RUB,RUC,RUD,RUE,RUF,if_true,if_false,Int.reduceEq,Int.reduceLT,Int.reduceLE,qC,qO,qA,qS,qU,Nat.reduceEqDiff,qT,E.at,qR,Nat.reduceAdd,Nat.reduceSub,Nat.reduceLeDiff,Nat.reduceMul,qI,qP,qQ,e1,fillC,rr,n5,wl1,wl2,wl3,wl4,and_self,false_and]
    have hx2 : ∀ (q0 q1 q2 : O) (r : List O),ixOf 9 (q0 :: q1 :: q2 :: .arr v2 true 9 [.agg [sV s0,d00,d01,d02,d03,d04,d05,d06,d07],.agg [sV s1,iV 1,sV (ByteArray.mk #[112,97,121]),sV (ByteArray.mk #[]),iV 0,iV 0,sV (ByteArray.mk #[]),nilV,nilV],.agg [sV s2,d20,d21,d22,d23,d24,d25,d26,d27],.agg [sV s3,d30,d31,d32,d33,d34,d35,d36,d37],.agg [sV s4,d40,d41,d42,d43,d44,d45,d46,d47]] :: r) (.ar 3 v2) (iV 2) = some (.pa 3 v2 2 0,q0 :: q1 :: q2 :: .arr v2 true 9 [.agg [sV s0,d00,d01,d02,d03,d04,d05,d06,d07],.agg [sV s1,iV 1,sV (ByteArray.mk #[112,97,121]),sV (ByteArray.mk #[]),iV 0,iV 0,sV (ByteArray.mk #[]),nilV,nilV],.agg [sV s2,d20,d21,d22,d23,d24,d25,d26,d27],.agg [sV s3,d30,d31,d32,d33,d34,d35,d36,d37],.agg [sV s4,d40,d41,d42,d43,d44,d45,d46,d47]] :: r) := fun q0 q1 q2 r => ix_ar (n := 2) rfl (by simp)
    simp only [c21,c21x1,c21x2,c21x3,c21x4,c21x5,c21x6,c21x7,RUA,RUB,RUC,RUD,RUE,RUF,if_true,if_false,Int.reduceEq,Int.reduceLT,Int.reduceLE,qC,qO,qA,qS,qU,Nat.reduceEqDiff,qT,E.at,qR,Nat.reduceAdd,Nat.reduceSub,Nat.reduceLeDiff,Nat.reduceMul,qI,qP,qQ,e1,fillC,rr,n5,wl1,wl2,wl3,wl4,and_self,false_and,hx2]
    refine Lfp.step (hst _) ?_
    simp only [c21,c21x1,c21x2,c21x3,c21x4,c21x5,c21x6,c21x7,RUA,RUB,RUC,RUD,RUE,RUF,if_true,if_false,Int.reduceEq,Int.reduceLT,Int.reduceLE,qC,qO,qA,qS,qU,Nat.reduceEqDiff,qT,E.at,qR,Nat.reduceAdd,Nat.reduceSub,Nat.reduceLeDiff,Nat.reduceMul,qI,qP,qQ,e1,fillC,rr,n5,wl1,wl2,wl3,wl4,and_self,false_and]
    have hx3 : ∀ (q0 q1 q2 : O) (r : List O),ixOf 9 (q0 :: q1 :: q2 :: .arr v2 true 9 [.agg [sV s0,d00,d01,d02,d03,d04,d05,d06,d07],.agg [sV s1,iV 1,sV (ByteArray.mk #[112,97,121]),sV (ByteArray.mk #[]),iV 0,iV 0,sV (ByteArray.mk #[]),nilV,nilV],.agg [sV s2,iV 1,sV (ByteArray.mk #[112,97,121]),sV (ByteArray.mk #[]),iV 0,iV 0,sV (ByteArray.mk #[]),nilV,nilV],.agg [sV s3,d30,d31,d32,d33,d34,d35,d36,d37],.agg [sV s4,d40,d41,d42,d43,d44,d45,d46,d47]] :: r) (.ar 3 v2) (iV 3) = some (.pa 3 v2 3 0,q0 :: q1 :: q2 :: .arr v2 true 9 [.agg [sV s0,d00,d01,d02,d03,d04,d05,d06,d07],.agg [sV s1,iV 1,sV (ByteArray.mk #[112,97,121]),sV (ByteArray.mk #[]),iV 0,iV 0,sV (ByteArray.mk #[]),nilV,nilV],.agg [sV s2,iV 1,sV (ByteArray.mk #[112,97,121]),sV (ByteArray.mk #[]),iV 0,iV 0,sV (ByteArray.mk #[]),nilV,nilV],.agg [sV s3,d30,d31,d32,d33,d34,d35,d36,d37],.agg [sV s4,d40,d41,d42,d43,d44,d45,d46,d47]] :: r) := fun q0 q1 q2 r => ix_ar (n := 3) rfl (by simp)
    simp only [c21,c21x1,c21x2,c21x3,c21x4,c21x5,c21x6,c21x7,RUA,RUB,RUC,RUD,RUE,RUF,if_true,if_false,Int.reduceEq,Int.reduceLT,Int.reduceLE,qC,qO,qA,qS,qU,Nat.reduceEqDiff,qT,E.at,qR,Nat.reduceAdd,Nat.reduceSub,Nat.reduceLeDiff,Nat.reduceMul,qI,qP,qQ,e1,fillC,rr,n5,wl1,wl2,wl3,wl4,and_self,false_and,hx3]
    refine Lfp.step (hst _) ?_
    simp only [c21,c21x1,c21x2,c21x3,c21x4,c21x5,c21x6,c21x7,RUA,RUB,RUC,RUD,RUE,RUF,if_true,if_false,Int.reduceEq,Int.reduceLT,Int.reduceLE,qC,qO,qA,qS,qU,Nat.reduceEqDiff,qT,E.at,qR,Nat.reduceAdd,Nat.reduceSub,Nat.reduceLeDiff,Nat.reduceMul,qI,qP,qQ,e1,fillC,rr,n5,wl1,wl2,wl3,wl4,and_self,false_and]
    have hx4 : ∀ (q0 q1 q2 : O) (r : List O),ixOf 9 (q0 :: q1 :: q2 :: .arr v2 true 9 [.agg [sV s0,d00,d01,d02,d03,d04,d05,d06,d07],.agg [sV s1,iV 1,sV (ByteArray.mk #[112,97,121]),sV (ByteArray.mk #[]),iV 0,iV 0,sV (ByteArray.mk #[]),nilV,nilV],.agg [sV s2,iV 1,sV (ByteArray.mk #[112,97,121]),sV (ByteArray.mk #[]),iV 0,iV 0,sV (ByteArray.mk #[]),nilV,nilV],.agg [sV s3,iV 1,sV (ByteArray.mk #[112,97,121]),sV (ByteArray.mk #[]),iV 0,iV 0,sV (ByteArray.mk #[]),nilV,nilV],.agg [sV s4,d40,d41,d42,d43,d44,d45,d46,d47]] :: r) (.ar 3 v2) (iV 4) = some (.pa 3 v2 4 0,q0 :: q1 :: q2 :: .arr v2 true 9 [.agg [sV s0,d00,d01,d02,d03,d04,d05,d06,d07],.agg [sV s1,iV 1,sV (ByteArray.mk #[112,97,121]),sV (ByteArray.mk #[]),iV 0,iV 0,sV (ByteArray.mk #[]),nilV,nilV],.agg [sV s2,iV 1,sV (ByteArray.mk #[112,97,121]),sV (ByteArray.mk #[]),iV 0,iV 0,sV (ByteArray.mk #[]),nilV,nilV],.agg [sV s3,iV 1,sV (ByteArray.mk #[112,97,121]),sV (ByteArray.mk #[]),iV 0,iV 0,sV (ByteArray.mk #[]),nilV,nilV],.agg [sV s4,d40,d41,d42,d43,d44,d45,d46,d47]] :: r) := fun q0 q1 q2 r => ix_ar (n := 4) rfl (by simp)
    simp only [c21,c21x1,c21x2,c21x3,c21x4,c21x5,c21x6,c21x7,RUA,RUB,RUC,RUD,RUE,RUF,if_true,if_false,Int.reduceEq,Int.reduceLT,Int.reduceLE,qC,qO,qA,qS,qU,Nat.reduceEqDiff,qT,E.at,qR,Nat.reduceAdd,Nat.reduceSub,Nat.reduceLeDiff,Nat.reduceMul,qI,qP,qQ,e1,fillC,rr,n5,wl1,wl2,wl3,wl4,and_self,false_and,hx4]
    refine Lfp.step (hst _) ?_
    simp only [c21,c21x1,c21x2,c21x3,c21x4,c21x5,c21x6,c21x7,RUA,RUB,RUC,RUD,RUE,RUF,if_true,if_false,Int.reduceEq,Int.reduceLT,Int.reduceLE,qC,qO,qA,qS,qU,Nat.reduceEqDiff,qT,E.at,qR,Nat.reduceAdd,Nat.reduceSub,Nat.reduceLeDiff,Nat.reduceMul,qI,qP,qQ,e1,fillC,rr,n5]
    refine make5_tail q1 q2 (ps := [.agg [sV s0,d00,d01,d02,d03,d04,d05,d06,d07],.agg (sV s1 :: payB),.agg (sV s2 :: payB),.agg (sV s3 :: payB),.agg (sV s4 :: payB)]) rfl (fun x hx => ?_) hy _ _ _ _ _ _ _ _ _ _ _ _ _ _ _ _ _ _ _ _ _ _ _ _ _ _ _ _ _ _ _ _ _ _ _
    simp only [List.mem_cons,List.not_mem_nil,or_false] at hx
    rcases hx with rfl | rfl | rfl | rfl | rfl
    · exact ⟨_,_,rfl,hp0⟩
    all_goals exact ⟨_,_,rfl,payP⟩
end Go.Proofs.Ytfncfdiomolieaa
end

section
set_option linter.unusedVariables false
set_option linter.unusedSimpArgs false
set_option maxRecDepth 100000
set_option maxHeartbeats 8000000
open Go.Proofs.Pe renaming putCells → qC, bslOf → qO, bsaOf → qA, bslS → qS, isUpto → qU, step → qT, intOf → qI, iop → qP, sop → qQ
open List renaming replicate → qR
open Go.Proofs.Pe.V renaming dead → qD
namespace Go.Proofs.Ytfncfdiomolieaa
open Go.Proofs.Pe
theorem within6_p (a : Int) (n : Int) (hn : 0 < n) (hn2 : n ≤ 1000000) : PFn Try.prog T 14 [iV a,iV n] fun z => z = iV (withinI a n) := by
  intro yi hy
  refine Call.step hy ?_
  rw [body_eq t14]
  have h0 : ¬ n = 0 := by omega
  have h1 := Int.tmod_lt_of_pos a hn
  have h2 := neg_lt_tmod a hn
  by_cases hlt : a.tmod n < 0
  · have hd : decide (a.tmod n < 0) = true := by simpa using hlt
    have hw : IntKind.i64.wrap (a.tmod n + n) = withinI a n := by rw [wrap_ok (by omega) (by omega)]; unfold withinI; rw [if_pos hlt]
    simp only [c14,c14x1,c14x2,c14x3,c14x4,RUA,RUB,RUC,RUD,RUE,RUF,if_true,if_false,Int.reduceEq,Int.reduceLT,Int.reduceLE,qC,qO,qA,qS,qU,Nat.reduceEqDiff,qT,E.at,qR,Nat.reduceAdd,Nat.reduceSub,Nat.reduceLeDiff,Nat.reduceMul,qI,qP,qQ,h0,hd,hw]
    exact ⟨_,_,rfl,rfl⟩
  · have hw : a.tmod n = withinI a n := by unfold withinI; rw [if_neg hlt]
    have hd : decide (a.tmod n < 0) = false := by simpa using hlt
    simp only [c14,c14x1,c14x2,c14x3,c14x4,RUA,RUB,RUC,RUD,RUE,RUF,if_true,if_false,Int.reduceEq,Int.reduceLT,Int.reduceLE,qC,qO,qA,qS,qU,Nat.reduceEqDiff,qT,E.at,qR,Nat.reduceAdd,Nat.reduceSub,Nat.reduceLeDiff,Nat.reduceMul,qI,qP,qQ,h0,hd]
    exact ⟨_,_,rfl,by rw [hw]⟩
def MakeQ (z : V) : Prop := ∃ S,IsStk S z ∧ 1 ≤ S.length ∧ S.length ≤ 3 ∧ ∀ r ∈ S,r.length ≤ 5
theorem IsR3.agg {x : R3} {u : V} (h : IsR3 x u) : ∃ k a b ev lv,u = .agg [iV k,iV a,iV b,ev,lv] ∧ ev.one = true ∧ lv.one = true := by
  rcases x with ⟨k,a,b,e,l⟩
  obtain ⟨ev,evs,lv,vs,rfl,h1,_,_,h2,_⟩ := h
  exact ⟨k,a,b,ev,lv,rfl,free1_one h1.free,free1_one h2.free⟩
theorem make6_p {l : List R3} {lv : V} {vs : List V} (h1 : IsSl 5 lv vs) (h3 : All2 IsR3 l vs) (h2 : vs.length ≤ 5) (n : Int) : PFn Try.prog T 18 [lv,iV n] MakeQ := by
  have hln := h3.len
  have hrl := fun o => h1.row o
  have hone : lv.one = true := free1_one h1.free
  intro yi hy
  refine Call.step hy ?_
  rw [body_eq t18]
  simp only [c18,c18x1,RUA,RUB,RUC,RUD,RUE,RUF,if_true,if_false,Int.reduceEq,Int.reduceLT,Int.reduceLE,qC,qO,qA,qS,qU,Nat.reduceEqDiff,qT,E.at,qR,Nat.reduceAdd,Nat.reduceSub,Nat.reduceLeDiff,Nat.reduceMul,qI,qP,qQ]
  refine (within6_p _ 3 (by decide) (by decide)).callE rfl rfl rfl ?_
  obtain ⟨w,hw,hw3⟩ := natI (a := n) (n := 3) (by decide)
  rw [hw]
  obtain ⟨K,hK,hK1,hK3⟩ : ∃ K : Nat,IntKind.i64.wrap (1 + (w : Int)) = (K : Int) ∧ 1 ≤ K ∧ K ≤ 3 := ⟨1 + w,by rw [wrap_in (by unfold I64; omega)]; omega,by omega,by omega⟩
  have f1 : ((0 : Int) ≤ (K : Int)) = True := by simp
  have f3 : ((K : Int) * ((24 : Nat) : Int) ≤ (room : Int)) = True := by unfold room; simp; omega
  have f4 : ((0 : Nat) < 24) = True := by simp
  simp only [c18,c18x1,c18x2,c18x3,RUA,RUB,RUC,RUD,RUE,RUF,if_true,if_false,Int.reduceEq,Int.reduceLT,Int.reduceLE,qC,qO,qA,qS,qU,Nat.reduceEqDiff,qT,E.at,qR,Nat.reduceAdd,Nat.reduceSub,Nat.reduceLeDiff,Nat.reduceMul,qI,qP,qQ,hK,f1,f3,f4,and_self,Int.le_refl]
  refine Lfp.inv call_le hy (fun a : Nat × List O => ⟨⟨[lv,.dead,.dead,.dead,.dead,.ar 0 0,iV a.1,.dead,.dead,.dead,.dead,.dead,.dead,.dead,.dead,.dead,.dead,.dead,.dead,.dead,.dead,.dead,.dead,.dead,.dead,.dead,.dead,.dead,.dead,.dead,.dead,.dead,.dead,.dead,.dead,.dead,.dead,.dead,.dead,.dead,.dead,.dead,.dead],a.2⟩,[]⟩) (fun a => vs.length - a.1)
    (fun a => a.1 ≤ vs.length ∧ ∃ ws S,a.2[0]? = some (.arr 0 true 1 ws) ∧ Nest a.2 ws S 1 ∧ S.length = K ∧ ∀ r ∈ S,r.length ≤ a.1) (0,[.arr 0 true 1 (List.replicate K nilV)])
    ⟨Nat.zero_le _,List.replicate K nilV,List.replicate K [],rfl,⟨by simp,fun i w ts hw hs => ?_,fun i j l v v' hw hs => ?_,fun i l v hw => ?_⟩,by simp,fun r hr => by rw [List.eq_of_mem_replicate hr]; simp⟩ (by simp only [kill_L,killTs_nil,RUF] <;> rfl) ?_
  · have e1 := List.eq_of_mem_replicate (List.mem_of_getElem? hw)
    have e2 := List.eq_of_mem_replicate (List.mem_of_getElem? hs)
    subst e1 e2
    exact ⟨[],.inl ⟨rfl,rfl⟩,by simp,rfl⟩
  · have e1 := List.eq_of_mem_replicate (List.mem_of_getElem? hw); cases e1
  · have e1 := List.eq_of_mem_replicate (List.mem_of_getElem? hw); cases e1
  rintro ⟨i,o1⟩ ⟨hi,ws,S,hL,hn,hSK,hr5⟩
  dsimp only at hi hL hn hr5
  have hwl := hn.len
  have hrow : rowOf o1 (.ar 0 0) = some ws := by simp only [rowOf,hL,if_true]
  by_cases hlt : i < vs.length
  · have hd1 : decide ((i : Int) < (vs.length : Int)) = true := by simpa using hlt
    have hx : vs[i]? = some vs[i] := List.getElem?_eq_getElem hlt
    have hxl : l[i]? = some l[i] := List.getElem?_eq_getElem (by omega)
    have hE := h3.get hx hxl
    generalize vs[i] = u at hx hE
    generalize l[i] = y at hxl hE
    have hE' := hE
    have hfr := hE.ok.1
    obtain ⟨rk,ra,rb,rev,rlv,rfl,hv1,hv2⟩ := IsR3.agg hE
    have hI := fun o => h1.ix o hx
    have hw1 : IntKind.i64.wrap ((i : Int) + 1) = ((i + 1 : Nat) : Int) := wrap_succ (by omega)
    have hKl : (ws.length : Int) = (K : Int) := by omega
    simp only [c18,c18x1,c18x2,c18x3,c18x4,c18x5,c18x6,RUA,RUB,RUC,RUD,RUE,RUF,if_true,if_false,Int.reduceEq,Int.reduceLT,Int.reduceLE,qC,qO,qA,qS,qU,Nat.reduceEqDiff,qT,E.at,qR,Nat.reduceAdd,Nat.reduceSub,Nat.reduceLeDiff,Nat.reduceMul,qI,qP,qQ,hrl,hd1,hI,hrow,hKl]
    refine (within6_p _ (K : Int) (by omega) (by omega)).callE rfl rfl rfl ?_
    obtain ⟨at',hat,hat2⟩ := natI (a := IntKind.i64.wrap (ra + (i : Int))) (n := (K : Int)) (by omega)
    rw [hat]
    have haw : at' < ws.length := by omega
    have ha : at' < S.length := by omega
    have hxw : ws[at']? = some ws[at'] := List.getElem?_eq_getElem haw
    have hSx : S[at']? = some S[at'] := List.getElem?_eq_getElem ha
    obtain ⟨us,r1,r2,r3⟩ := hn.row at' _ _ hxw hSx
    have hrm : S[at'].length ≤ i := hr5 _ (List.getElem_mem ha)
    generalize S[at'] = Sr at hSx r3 hrm
    generalize ws[at'] = w at hxw r1
    have hI1 : ixOf 1 o1 (.ar 0 0) (iV at') = some (.pa 0 0 at' 0,o1) := by simp [ixOf,intOf,hL,haw]
    have hro := r1.row
    obtain ⟨hw1',hw2,hw3'⟩ := r1.solid
    have hul : us.length ≤ i := by rw [r3.len]; exact hrm
    generalize hzv : (V.agg [iV 0,iV 0,iV 0,sV (ByteArray.mk #[]),iV 0,iV 0,sV (ByteArray.mk #[]),nilV,nilV]) = zv
    have hzt := zeroTm
    rw [hzv] at hzt
    obtain ⟨l2,v2',o2,hap,hl2,hlen2,hsame,hor⟩ := r1.push (b := 120) (f := true) (y := zv) (okRow1 hzt.ok).s (by unfold room; omega)
    have hl2lo : l2 ≠ 0 := fun e => by
      rcases hor with ⟨v0,rfl⟩ | h
      · have := hn.lo _ _ _ hxw; omega
      · have := get_lt hL; omega
    have hL2 : o2[0]? = some (.arr 0 true 1 ws) := by rw [hsame 0 (fun e => hl2lo e.symm) (get_lt hL)]; exact hL
    have hI2 : ixOf 9 o2 (.ar l2 v2') (iV us.length) = some (.pa l2 v2' us.length 0,o2) := by simp [ixOf,intOf,hl2]; omega
    have hI3 : ixOf 1 o2 (.ar 0 0) (iV at') = some (.pa 0 0 at' 0,o2) := by simp [ixOf,intOf,hL2,haw]
    have hel : (us ++ [zv])[us.length]? = some zv := by simp
    have hA : ∀ b,(o2.set l2 b)[0]? = some (.arr 0 true 1 ws) := fun b => get_set_ne hL2 hl2lo
    have hB : ∀ b,(o2.set 0 b)[l2]? = some (.arr v2' true 9 (us ++ [zv])) := fun b => get_set_ne hl2 (fun e => hl2lo e.symm)
    have hzl := hzt.ok.2
    have hzf := hzt.ok.1
    have hwc : w.cells.length = 1 := by rw [hw2]; rfl
    have fin : ∀ (x : Pe.Tm) z' o3,IsTm x z' → o3[0]? = some (.arr 0 true 1 (ws.set at' (.ar l2 v2'))) → o3[l2]? = some (.arr v2' true 9 ((us ++ [zv]).set us.length z')) → (∀ i,i ≠ l2 → i ≠ 0 → i < o1.length → o3[i]? = o1[i]?) →
        ∃ ws S,o3[0]? = some (.arr 0 true 1 ws) ∧ Nest o3 ws S 1 ∧ S.length = K ∧ ∀ r ∈ S,r.length ≤ i + 1 := fun x z' o3 hz h1 h2 h3 => by
      have e9 : (us ++ [zv]).set us.length z' = us ++ [z'] := by simp
      rw [e9] at h2
      refine ⟨ws.set at' (.ar l2 v2'),S.set at' (Sr ++ [x]),h1,Nest.turn (o := o1) (lo := 1) hn ha (.inr (.inr ⟨l2,v2',rfl,h2⟩)) (by simp [cap]; omega) (r3.snoc hz) (fun i l v0 hne' hi => ?_) (fun i l v0 v1 hne' hi e => ?_) (fun l v e => by cases e; omega),by simpa using hSK,fun r hr => ?_⟩
      · refine h3 l (fun e => ?_) (fun e => ?_) (hn.bound hi)
        · subst e
          rcases hor with ⟨v9,rfl⟩ | h
          · exact hne' (hn.inj i at' _ _ _ hi hxw)
          · have := hn.bound hi; omega
        · subst e; have := hn.lo _ _ _ hi; omega
      · cases e
        rcases hor with ⟨v9,rfl⟩ | h
        · exact hne' (hn.inj i at' _ _ _ hi hxw)
        · have := hn.bound hi; omega
      · rcases List.mem_or_eq_of_mem_set hr with h | h
        · have := hr5 r h; omega
        · subst h; simp; omega
    have hag : ∀ x ∈ [V.agg [iV rk,iV ra,iV rb,rev,rlv],iV 0],x.free = true := fun x hx => by
      simp only [List.mem_cons,List.not_mem_nil,or_false] at hx; rcases hx with rfl | rfl <;> first | exact hfr | rfl
    subst hzv
    simp only [c18,c18x1,c18x2,c18x3,c18x4,c18x5,c18x6,c18x7,RUA,RUB,RUC,RUD,RUE,RUF,if_true,if_false,Int.reduceEq,Int.reduceLT,Int.reduceLE,qC,qO,qA,qS,qU,Nat.reduceEqDiff,qT,E.at,qR,Nat.reduceAdd,Nat.reduceSub,Nat.reduceLeDiff,Nat.reduceMul,qI,qP,qQ,hrl,hI,hI1,hL,hxw,hw2,hro,hv1,hv2,depL_pa]
    refine ⟨(make5_p hE').callF rfl hag fun z' hz' => ?_,(make5_p hE').callF rfl hag fun z' hz' => ?_⟩
    all_goals
      obtain ⟨x,hz'⟩ := hz'
      have hz9 := hz'.ok
      have hz10 := free_solid hz9.1
      simp only [hap,hI2,hI3,hl2,hL2,hA,hB,hel,hxw,hz9.2,hz10,hzl,hwc,hw1,RUA,RUB,RUC,RUD,RUE,RUF,if_true,if_false,Int.reduceEq,Int.reduceLT,Int.reduceLE,qC,qO,qA,qS,qU,Nat.reduceEqDiff,qT,E.at,qR,Nat.reduceAdd,Nat.reduceSub,Nat.reduceLeDiff,Nat.reduceMul,qI,qP,qQ,c18,c18x1,c18x2,c18x3,c18x4,c18x5,c18x6,c18x7,c18x8,c18x9]
      refine ⟨⟨(i + 1,_),⟨by simp only; omega,fin x z' _ hz' ?_ ?_ fun i h1 h2 h3 => ?_⟩,by simp only; omega,rfl⟩,⟨(i + 1,_),⟨by simp only; omega,fin x z' _ hz' ?_ ?_ fun i h1 h2 h3 => ?_⟩,by simp only; omega,rfl⟩⟩
      · exact get_set (hA _)
      · rw [List.getElem?_set_ne (fun e => hl2lo e.symm)]; exact get_set hl2
      · rw [List.getElem?_set_ne (fun e => h2 e.symm),List.getElem?_set_ne (fun e => h1 e.symm)]; exact hsame i h1 h3
      · rw [List.getElem?_set_ne hl2lo]; exact get_set hL2
      · exact get_set (hB _)
      · rw [List.getElem?_set_ne (fun e => h1 e.symm),List.getElem?_set_ne (fun e => h2 e.symm)]; exact hsame i h1 h3
  · have hd1 : decide ((i : Int) < (vs.length : Int)) = false := by simpa using hlt
    simp only [c18,c18x1,c18x2,c18x3,c18x4,c18x5,c18x6,c18x7,c18x8,c18x9,RUA,RUB,RUC,RUD,RUE,RUF,if_true,if_false,Int.reduceEq,Int.reduceLT,Int.reduceLE,qC,qO,qA,qS,qU,Nat.reduceEqDiff,qT,E.at,qR,Nat.reduceAdd,Nat.reduceSub,Nat.reduceLeDiff,Nat.reduceMul,qI,qP,qQ,hrl,hd1]
    obtain ⟨z,o2,e1,e2⟩ := nest_frz hL hn (by unfold cap; omega)
    exact ⟨z,o2,e1,S,e2,by omega,by omega,fun r hr => by have := hr5 r hr; omega⟩
end Go.Proofs.Ytfncfdiomolieaa
end

section
set_option linter.unusedVariables false
set_option linter.unusedSimpArgs false
set_option maxRecDepth 100000
set_option maxHeartbeats 8000000
namespace Go.Proofs.Ytfncfdiomolieaa
open Go.Proofs.Pe
end Go.Proofs.Ytfncfdiomolieaa
end

section
set_option linter.unusedVariables false
set_option linter.unusedSimpArgs false
set_option maxRecDepth 100000
set_option maxHeartbeats 8000000
namespace Go.Proofs.Ytfncfdiomolieaa
open Go.Proofs.Pe
theorem IsStk.row {S : List (List Pe.Tm)} {v : V} (hv : IsStk S v) {a : Nat} (ha : a < S.length) : ∃ rows w ws,IsSl 1 v rows ∧ rows[a]? = some w ∧ w.cells = [w] ∧ IsSl 9 w ws ∧ ws.length ≤ cap ∧ All2 IsTm (S.getD a []) ws := by
  obtain ⟨rows,v1,v2,v3⟩ := hv
  have hln := v3.len
  have hx : rows[a]? = some rows[a] := List.getElem?_eq_getElem (by omega)
  have hxl : S[a]? = some S[a] := List.getElem?_eq_getElem ha
  obtain ⟨ws,w1,w2,w3⟩ := v3.get hx hxl
  refine ⟨rows,rows[a],ws,v1,hx,w1.cells,w1,w2, ?_⟩
  rw [List.getD_eq_getElem?_getD,hxl]; exact w3
theorem IsStk.fr {S : List (List Pe.Tm)} {z : V} (h : IsStk S z) (o : List O) : ∃ w o2,freezeT o z = some (w,o2) ∧ IsStk S w := ⟨z,o,frzT_free h.freeV,h⟩
end Go.Proofs.Ytfncfdiomolieaa
end

section
set_option linter.unusedVariables false
set_option linter.unusedSimpArgs false
set_option maxRecDepth 100000
set_option maxHeartbeats 8000000
open Go.Proofs.Pe renaming putCells → qC, bslOf → qO, bsaOf → qA, bslS → qS, isUpto → qU, step → qT, intOf → qI, iop → qP, sop → qQ
open List renaming replicate → qR
open Go.Proofs.Pe.V renaming dead → qD
namespace Go.Proofs.Ytfncfdiomolieaa
open Go.Proofs.Pe
theorem ba_rfl (a : ByteArray) : (a.toList == a.toList) = true := by simp
theorem sameE_b {k n : Int} {m : ByteArray} {xl : List Ex} {u v : V} (hu : IsEx (.mk k n m xl) u) (hv : IsEx (.mk k n m xl) v)
    (ih : ∀ x ∈ xl,∀ u v,IsEx x u → IsEx x v → PFn Try.prog T 38 [u,v] fun z => z = bV true) : PFn Try.prog T 38 [u,v] fun z => z = bV true := by
  obtain ⟨lu,us,rfl,a1,a2,a3⟩ := hu
  obtain ⟨lv,vs,rfl,b1,b2,b3⟩ := hv
  rw [isExs_all] at a3 b3
  have o1 : lu.one = true := free1_one a1.free
  have o2 : lv.one = true := free1_one b1.free
  have r1 := fun o => a1.row o
  have r2 := fun o => b1.row o
  have l1 := a3.len
  have l2 := b3.len
  have hl : (us.length : Int) = (vs.length : Int) := by omega
  have hs := ba_rfl m
  unfold cap at a2
  intro yi hy
  refine Call.step hy ?_
  rw [body_eq t38]
  simp only [c38,c38x1,c38x2,c38x3,c38x4,RUA,RUB,RUC,RUD,RUE,RUF,if_true,if_false,Int.reduceEq,Int.reduceLT,Int.reduceLE,qC,qO,qA,qS,qU,Nat.reduceEqDiff,qT,E.at,qR,Nat.reduceAdd,Nat.reduceSub,Nat.reduceLeDiff,Nat.reduceMul,qI,qP,qQ,o1,o2,r1,r2,hl,hs,decide_true]
  refine Lfp.inv call_le hy (fun i : Nat => ⟨⟨[.dead,.dead,.pt 0 0,.pt 1 0,.dead,iV i,.dead,.dead,.dead,.dead,.dead,.dead,.dead,.dead,.dead,.dead,.dead,.dead,.dead,.dead,.dead,.dead,.dead,.dead,.dead,.dead,.dead,.dead,.dead,.dead,.dead,.dead,.dead,.dead,.dead,.dead,.dead,.dead,.dead,.dead,.dead,.dead,.dead,.dead,.dead,.dead,.dead,.dead,.dead,.dead,.dead,.dead,.dead],[.cells [iV k,iV n,sV m,lu],.cells [iV k,iV n,sV m,lv]]⟩,[]⟩) (fun i => us.length - i) (fun i => i ≤ us.length) 0 (Nat.zero_le _) (by simp only [kill_L,killTs_nil,RUF] <;> rfl) ?_
  intro i hi
  by_cases hlt : i < us.length
  · have hd1 : decide ((i : Int) < (us.length : Int)) = true := by simpa using hlt
    have hx : us[i]? = some us[i] := List.getElem?_eq_getElem hlt
    have hy2 : vs[i]? = some vs[i] := List.getElem?_eq_getElem (by omega)
    have hxl : xl[i]? = some xl[i] := List.getElem?_eq_getElem (by omega)
    have hE := a3.get hx hxl
    have hF := b3.get hy2 hxl
    have hm : xl[i] ∈ xl := List.getElem_mem _
    generalize us[i] = u at hx hE
    generalize vs[i] = v at hy2 hF
    have hc := ih _ hm _ _ hE hF
    have hf1 := hE.ok.1
    have hf2 := hF.ok.1
    have ag : ∀ {x : Ex} {u : V},IsEx x u → ∃ k n m l,u = .agg [iV k,iV n,sV m,l] ∧ l.one = true := fun {x u} h => by
      rcases x with ⟨k,n,m,l⟩
      obtain ⟨lv,_,e,h1,_⟩ := h
      exact ⟨_,_,_,_,e,free1_one h1.free⟩
    obtain ⟨_,_,_,_,rfl,q1⟩ := ag hE
    obtain ⟨_,_,_,_,rfl,q2⟩ := ag hF
    have hI := fun o => a1.ix o hx
    have hJ := fun o => b1.ix o hy2
    have hw1 : IntKind.i64.wrap ((i : Int) + 1) = ((i + 1 : Nat) : Int) := wrap_succ (by omega)
    simp only [c38,c38x1,c38x2,c38x3,c38x4,c38x5,c38x6,c38x7,RUA,RUB,RUC,RUD,RUE,RUF,if_true,if_false,Int.reduceEq,Int.reduceLT,Int.reduceLE,qC,qO,qA,qS,qU,Nat.reduceEqDiff,qT,E.at,qR,Nat.reduceAdd,Nat.reduceSub,Nat.reduceLeDiff,Nat.reduceMul,qI,qP,qQ,hd1,r1,hI,hJ,q1,q2]
    refine hc.callE rfl (cf2 hf1 hf2 _) rfl ?_
    simp only [c38,c38x1,c38x2,c38x3,c38x4,c38x5,c38x6,c38x7,c38x8,c38x9,c38x10,RUA,RUB,RUC,RUD,RUE,RUF,if_true,if_false,Int.reduceEq,Int.reduceLT,Int.reduceLE,qC,qO,qA,qS,qU,Nat.reduceEqDiff,qT,E.at,qR,Nat.reduceAdd,Nat.reduceSub,Nat.reduceLeDiff,Nat.reduceMul,qI,qP,qQ,hw1]
    exact ⟨i + 1,by omega,by omega,rfl⟩
  · have hd1 : decide ((i : Int) < (us.length : Int)) = false := by simpa using hlt
    simp only [c38,c38x1,c38x2,c38x3,c38x4,c38x5,c38x6,c38x7,c38x8,c38x9,c38x10,RUA,RUB,RUC,RUD,RUE,RUF,if_true,if_false,Int.reduceEq,Int.reduceLT,Int.reduceLE,qC,qO,qA,qS,qU,Nat.reduceEqDiff,qT,E.at,qR,Nat.reduceAdd,Nat.reduceSub,Nat.reduceLeDiff,Nat.reduceMul,qI,qP,qQ,hd1,r1]
    exact ⟨_,_,rfl,rfl⟩
theorem sameE_p : ∀ (x : Ex) (u v : V),IsEx x u → IsEx x v → PFn Try.prog T 38 [u,v] fun z => z = bV true
  | .mk k n m xl,u,v,hu,hv => sameE_b hu hv fun x hx u v hu hv => sameE_p x u v hu hv
termination_by x => SizeOf.sizeOf x
decreasing_by have := List.sizeOf_lt_of_mem hx; simp; omega
theorem tmA {x : Pe.Tm} {u : V} (h : IsTm x u) : ∃ k' a' b' nm' ek' en' em' ev' lv',u = .agg [iV k',iV a',iV b',sV nm',iV ek',iV en',sV em',ev',lv'] ∧ ev'.one = true ∧ lv'.one = true ∧ ev'.free1 = true ∧ lv'.free1 = true := by
  rcases x with ⟨k,a,c,nm,⟨ek,en,em,el⟩,l⟩
  obtain ⟨ev,evs,lv,vs,e,g1,_,_,g2,_⟩ := h
  exact ⟨k,a,c,nm,ek,en,em,ev,lv,e,free1_one g1.free,free1_one g2.free,g1.free,g2.free⟩
theorem sameT_b {k a b ek en : Int} {nm em : ByteArray} {el : List Ex} {xl : List Pe.Tm} {u v : V} (hu : IsTm (.mk k a b nm (.mk ek en em el) xl) u) (hv : IsTm (.mk k a b nm (.mk ek en em el) xl) v)
    (ih : ∀ x ∈ xl,∀ u v,IsTm x u → IsTm x v → PFn Try.prog T 22 [u,v] fun z => z = bV true) : PFn Try.prog T 22 [u,v] fun z => z = bV true := by
  obtain ⟨eu,eus,lu,us,rfl,c1,c2,c3,a1,a2,a3⟩ := hu
  obtain ⟨ev,evs,lv,vs,rfl,d1,d2,d3,b1,b2,b3⟩ := hv
  have hEu : IsEx (.mk ek en em el) (.agg [iV ek,iV en,sV em,eu]) := ⟨eu,eus,rfl,c1,c2,c3⟩
  have hEv : IsEx (.mk ek en em el) (.agg [iV ek,iV en,sV em,ev]) := ⟨ev,evs,rfl,d1,d2,d3⟩
  rw [isTms_all] at a3 b3
  have o1 : lu.one = true := free1_one a1.free
  have o2 : lv.one = true := free1_one b1.free
  have o3 : eu.one = true := free1_one c1.free
  have o4 : ev.one = true := free1_one d1.free
  have r1 := fun o => a1.row o
  have r2 := fun o => b1.row o
  have l1 := a3.len
  have l2 := b3.len
  have hl : (us.length : Int) = (vs.length : Int) := by omega
  have hs := ba_rfl nm
  unfold cap at a2
  intro yi hy
  refine Call.step hy ?_
  rw [body_eq t22]
  simp only [c22,c22x1,RUA,RUB,RUC,RUD,RUE,RUF,if_true,if_false,Int.reduceEq,Int.reduceLT,Int.reduceLE,qC,qO,qA,qS,qU,Nat.reduceEqDiff,qT,E.at,qR,Nat.reduceAdd,Nat.reduceSub,Nat.reduceLeDiff,Nat.reduceMul,qI,qP,qQ,o1,o2,o3,o4,r1,r2,hl,hs,decide_true]
  refine (sameE_p _ _ _ hEu hEv).callE rfl (cf2 hEu.ok.1 hEv.ok.1 _) rfl ?_
  simp only [c22,c22x1,c22x2,c22x3,c22x4,RUA,RUB,RUC,RUD,RUE,RUF,if_true,if_false,Int.reduceEq,Int.reduceLT,Int.reduceLE,qC,qO,qA,qS,qU,Nat.reduceEqDiff,qT,E.at,qR,Nat.reduceAdd,Nat.reduceSub,Nat.reduceLeDiff,Nat.reduceMul,qI,qP,qQ,r1,r2,hl,decide_true]
  refine Lfp.inv call_le hy (fun i : Nat => ⟨⟨(qD::qD::.pt 0 0 :: .pt 1 0 :: qD::iV i :: qD::qD::qD::qD::qD::qD::qD::qD::qD::qD::qD::qD::qD::qD::qD::qD::qD::qD::qD::qD::qD::qD::qD::qD::qD::qD::qD::qD::qD::qD::qD::qD::qD::qD::qD::qD::qD::qD::qD::qD::qD::qD::qD::qD::qD::qD::qD::qD::qD::qD::qD::qD::qD::qD::qD::qD::qD::qD::qD::qD::qD::qD::[]),[.cells [iV k,iV a,iV b,sV nm,iV ek,iV en,sV em,eu,lu],.cells [iV k,iV a,iV b,sV nm,iV ek,iV en,sV em,ev,lv]]⟩,[]⟩) (fun i => us.length - i) (fun i => i ≤ us.length) 0 (Nat.zero_le _) (by simp only [kill_L,killTs_nil,RUF] <;> rfl) ?_
  intro i hi
  by_cases hlt : i < us.length
  · have hd1 : decide ((i : Int) < (us.length : Int)) = true := by simpa using hlt
    have hx : us[i]? = some us[i] := List.getElem?_eq_getElem hlt
    have hy2 : vs[i]? = some vs[i] := List.getElem?_eq_getElem (by omega)
    have hxl : xl[i]? = some xl[i] := List.getElem?_eq_getElem (by omega)
    have hE := a3.get hx hxl
    have hF := b3.get hy2 hxl
    have hm : xl[i] ∈ xl := List.getElem_mem _
    generalize us[i] = u at hx hE
    generalize vs[i] = v at hy2 hF
    have hc := ih _ hm _ _ hE hF
    have hf1 := hE.ok.1
    have hf2 := hF.ok.1
    obtain ⟨_,_,_,_,_,_,_,_,_,rfl,q1,q2,_,_⟩ := tmA hE
    obtain ⟨_,_,_,_,_,_,_,_,_,rfl,q3,q4,_,_⟩ := tmA hF
    have hI := fun o => a1.ix o hx
    have hJ := fun o => b1.ix o hy2
    have hw1 : IntKind.i64.wrap ((i : Int) + 1) = ((i + 1 : Nat) : Int) := wrap_succ (by omega)
    simp only [c22,c22x1,c22x2,c22x3,c22x4,c22x5,c22x6,c22x7,RUA,RUB,RUC,RUD,RUE,RUF,if_true,if_false,Int.reduceEq,Int.reduceLT,Int.reduceLE,qC,qO,qA,qS,qU,Nat.reduceEqDiff,qT,E.at,qR,Nat.reduceAdd,Nat.reduceSub,Nat.reduceLeDiff,Nat.reduceMul,qI,qP,qQ,hd1,r1,hI,hJ,q1,q2,q3,q4]
    refine hc.callE rfl (cf2 hf1 hf2 _) rfl ?_
    simp only [c22,c22x1,c22x2,c22x3,c22x4,c22x5,c22x6,c22x7,c22x8,c22x9,c22x10,RUA,RUB,RUC,RUD,RUE,RUF,if_true,if_false,Int.reduceEq,Int.reduceLT,Int.reduceLE,qC,qO,qA,qS,qU,Nat.reduceEqDiff,qT,E.at,qR,Nat.reduceAdd,Nat.reduceSub,Nat.reduceLeDiff,Nat.reduceMul,qI,qP,qQ,hw1]
    exact ⟨i + 1,by omega,by omega,rfl⟩
  · have hd1 : decide ((i : Int) < (us.length : Int)) = false := by simpa using hlt
    simp only [c22,c22x1,c22x2,c22x3,c22x4,c22x5,c22x6,c22x7,c22x8,c22x9,c22x10,RUA,RUB,RUC,RUD,RUE,RUF,if_true,if_false,Int.reduceEq,Int.reduceLT,Int.reduceLE,qC,qO,qA,qS,qU,Nat.reduceEqDiff,qT,E.at,qR,Nat.reduceAdd,Nat.reduceSub,Nat.reduceLeDiff,Nat.reduceMul,qI,qP,qQ,hd1,r1]
    exact ⟨_,_,rfl,rfl⟩
theorem sameT_p : ∀ (x : Pe.Tm) (u v : V),IsTm x u → IsTm x v → PFn Try.prog T 22 [u,v] fun z => z = bV true
  | .mk k a b nm (.mk ek en em el) xl,u,v,hu,hv => sameT_b hu hv fun x hx u v hu hv => sameT_p x u v hu hv
termination_by x => SizeOf.sizeOf x
decreasing_by have := List.sizeOf_lt_of_mem hx; simp; omega
theorem rows_p {ts : List Pe.Tm} {u v : V} (hu : IsRow ts u) (hv : IsRow ts v) : PFn Try.prog T 20 [u,v] fun z => z = bV true := by
  obtain ⟨us,a1,a2,a3⟩ := hu
  obtain ⟨vs,b1,b2,b3⟩ := hv
  have r1 := fun o => a1.row o
  have r2 := fun o => b1.row o
  have l1 := a3.len
  have l2 := b3.len
  have hl : (us.length : Int) = (vs.length : Int) := by omega
  unfold cap at a2
  intro yi hy
  refine Call.step hy ?_
  rw [body_eq t20]
  simp only [c20,c20x1,c20x2,c20x3,c20x4,RUA,RUB,RUC,RUD,RUE,RUF,if_true,if_false,Int.reduceEq,Int.reduceLT,Int.reduceLE,qC,qO,qA,qS,qU,Nat.reduceEqDiff,qT,E.at,qR,Nat.reduceAdd,Nat.reduceSub,Nat.reduceLeDiff,Nat.reduceMul,qI,qP,qQ,r1,r2,hl,decide_true]
  refine Lfp.inv call_le hy (fun i : Nat => ⟨⟨[u,v,.dead,.dead,.dead,iV i,.dead,.dead,.dead,.dead,.dead,.dead,.dead,.dead,.dead,.dead,.dead,.dead,.dead,.dead,.dead,.dead,.dead,.dead,.dead,.dead,.dead],[]⟩,[]⟩) (fun i => us.length - i) (fun i => i ≤ us.length) 0 (Nat.zero_le _) (by simp only [kill_L,killTs_nil,RUF] <;> rfl) ?_
  intro i hi
  by_cases hlt : i < us.length
  · have hd1 : decide ((i : Int) < (us.length : Int)) = true := by simpa using hlt
    have hx : us[i]? = some us[i] := List.getElem?_eq_getElem hlt
    have hy2 : vs[i]? = some vs[i] := List.getElem?_eq_getElem (by omega)
    have hxl : ts[i]? = some ts[i] := List.getElem?_eq_getElem (by omega)
    have hE := a3.get hx hxl
    have hF := b3.get hy2 hxl
    generalize us[i] = u at hx hE
    generalize vs[i] = v at hy2 hF
    have hc := sameT_p _ _ _ hE hF
    have hf1 := hE.ok.1
    have hf2 := hF.ok.1
    obtain ⟨_,_,_,_,_,_,_,_,_,rfl,q1,q2,_,_⟩ := tmA hE
    obtain ⟨_,_,_,_,_,_,_,_,_,rfl,q3,q4,_,_⟩ := tmA hF
    have hI := fun o => a1.ix o hx
    have hJ := fun o => b1.ix o hy2
    have hw1 : IntKind.i64.wrap ((i : Int) + 1) = ((i + 1 : Nat) : Int) := wrap_succ (by omega)
    simp only [c20,c20x1,c20x2,c20x3,c20x4,c20x5,c20x6,c20x7,RUA,RUB,RUC,RUD,RUE,RUF,if_true,if_false,Int.reduceEq,Int.reduceLT,Int.reduceLE,qC,qO,qA,qS,qU,Nat.reduceEqDiff,qT,E.at,qR,Nat.reduceAdd,Nat.reduceSub,Nat.reduceLeDiff,Nat.reduceMul,qI,qP,qQ,hd1,r1,hI,hJ,q1,q2,q3,q4]
    refine hc.callE rfl (cf2 hf1 hf2 _) rfl ?_
    simp only [c20,c20x1,c20x2,c20x3,c20x4,c20x5,c20x6,c20x7,c20x8,c20x9,c20x10,RUA,RUB,RUC,RUD,RUE,RUF,if_true,if_false,Int.reduceEq,Int.reduceLT,Int.reduceLE,qC,qO,qA,qS,qU,Nat.reduceEqDiff,qT,E.at,qR,Nat.reduceAdd,Nat.reduceSub,Nat.reduceLeDiff,Nat.reduceMul,qI,qP,qQ,hw1]
    exact ⟨i + 1,by omega,by omega,rfl⟩
  · have hd1 : decide ((i : Int) < (us.length : Int)) = false := by simpa using hlt
    simp only [c20,c20x1,c20x2,c20x3,c20x4,c20x5,c20x6,c20x7,c20x8,c20x9,c20x10,RUA,RUB,RUC,RUD,RUE,RUF,if_true,if_false,Int.reduceEq,Int.reduceLT,Int.reduceLE,qC,qO,qA,qS,qU,Nat.reduceEqDiff,qT,E.at,qR,Nat.reduceAdd,Nat.reduceSub,Nat.reduceLeDiff,Nat.reduceMul,qI,qP,qQ,hd1,r1]
    exact ⟨_,_,rfl,rfl⟩
theorem sames_p {S : List (List Pe.Tm)} {u v : V} (hu : IsStk S u) (hv : IsStk S v) : PFn Try.prog T 23 [u,v] fun z => z = bV true := by
  obtain ⟨us,a1,a2,a3⟩ := hu
  obtain ⟨vs,b1,b2,b3⟩ := hv
  have r1 := fun o => a1.row o
  have r2 := fun o => b1.row o
  have l1 := a3.len
  have l2 := b3.len
  have hl : (us.length : Int) = (vs.length : Int) := by omega
  unfold cap at a2
  intro yi hy
  refine Call.step hy ?_
  rw [body_eq t23]
  simp only [c23,c23x1,c23x2,c23x3,c23x4,RUA,RUB,RUC,RUD,RUE,RUF,if_true,if_false,Int.reduceEq,Int.reduceLT,Int.reduceLE,qC,qO,qA,qS,qU,Nat.reduceEqDiff,qT,E.at,qR,Nat.reduceAdd,Nat.reduceSub,Nat.reduceLeDiff,Nat.reduceMul,qI,qP,qQ,r1,r2,hl,decide_true]
  refine Lfp.inv call_le hy (fun i : Nat => ⟨⟨[u,v,.dead,.dead,.dead,iV i,.dead,.dead,.dead,.dead,.dead,.dead,.dead,.dead,.dead,.dead,.dead,.dead,.dead,.dead,.dead,.dead,.dead,.dead,.dead,.dead,.dead],[]⟩,[]⟩) (fun i => us.length - i) (fun i => i ≤ us.length) 0 (Nat.zero_le _) (by simp only [kill_L,killTs_nil,RUF] <;> rfl) ?_
  intro i hi
  by_cases hlt : i < us.length
  · have hd1 : decide ((i : Int) < (us.length : Int)) = true := by simpa using hlt
    have hx : us[i]? = some us[i] := List.getElem?_eq_getElem hlt
    have hy2 : vs[i]? = some vs[i] := List.getElem?_eq_getElem (by omega)
    have hxl : S[i]? = some S[i] := List.getElem?_eq_getElem (by omega)
    have hE := a3.get hx hxl
    have hF := b3.get hy2 hxl
    generalize us[i] = u at hx hE
    generalize vs[i] = v at hy2 hF
    have hc := rows_p hE hF
    have hf1 := hE.ok.1
    have hf2 := hF.ok.1
    have hc1 : u.cells = [u] := by obtain ⟨_,h,_⟩ := hE; exact h.cells
    have hc2 : v.cells = [v] := by obtain ⟨_,h,_⟩ := hF; exact h.cells
    have hI := fun o => a1.ix o hx
    have hJ := fun o => b1.ix o hy2
    have hw1 : IntKind.i64.wrap ((i : Int) + 1) = ((i + 1 : Nat) : Int) := wrap_succ (by omega)
    simp only [c23,c23x1,c23x2,c23x3,c23x4,c23x5,c23x6,c23x7,RUA,RUB,RUC,RUD,RUE,RUF,if_true,if_false,Int.reduceEq,Int.reduceLT,Int.reduceLE,qC,qO,qA,qS,qU,Nat.reduceEqDiff,qT,E.at,qR,Nat.reduceAdd,Nat.reduceSub,Nat.reduceLeDiff,Nat.reduceMul,qI,qP,qQ,hd1,r1,hI,hJ,hc1,hc2]
    refine hc.callE rfl (cf2 hf1 hf2 _) rfl ?_
    simp only [c23,c23x1,c23x2,c23x3,c23x4,c23x5,c23x6,c23x7,c23x8,c23x9,c23x10,RUA,RUB,RUC,RUD,RUE,RUF,if_true,if_false,Int.reduceEq,Int.reduceLT,Int.reduceLE,qC,qO,qA,qS,qU,Nat.reduceEqDiff,qT,E.at,qR,Nat.reduceAdd,Nat.reduceSub,Nat.reduceLeDiff,Nat.reduceMul,qI,qP,qQ,hw1]
    exact ⟨i + 1,by omega,by omega,rfl⟩
  · have hd1 : decide ((i : Int) < (us.length : Int)) = false := by simpa using hlt
    simp only [c23,c23x1,c23x2,c23x3,c23x4,c23x5,c23x6,c23x7,c23x8,c23x9,c23x10,RUA,RUB,RUC,RUD,RUE,RUF,if_true,if_false,Int.reduceEq,Int.reduceLT,Int.reduceLE,qC,qO,qA,qS,qU,Nat.reduceEqDiff,qT,E.at,qR,Nat.reduceAdd,Nat.reduceSub,Nat.reduceLeDiff,Nat.reduceMul,qI,qP,qQ,hd1,r1]
    exact ⟨_,_,rfl,rfl⟩
end Go.Proofs.Ytfncfdiomolieaa
end

section
set_option linter.unusedVariables false
set_option linter.unusedSimpArgs false
set_option maxRecDepth 100000
set_option maxHeartbeats 8000000
namespace Go.Proofs.Ytfncfdiomolieaa
open Go.Proofs.Pe
mutual
def szT : Pe.Tm → Int
  | .mk _ _ _ _ _ l => 1 + szTs l
def szTs : List Pe.Tm → Int
  | [] => 0
  | x :: l => szT x + szTs l
end
abbrev w64 (n : Int) : Int := IntKind.i64.wrap n
end Go.Proofs.Ytfncfdiomolieaa
end

section
set_option linter.unusedVariables false
set_option linter.unusedSimpArgs false
set_option maxRecDepth 100000
set_option maxHeartbeats 8000000
namespace Go.Proofs.Ytfncfdiomolieaa
open Go.Proofs.Pe

theorem rT : R3Types Try.prog 107 41 43 35 := ⟨⟨Try.underlying3,Try.underlying41,by kernel_rfl,_,Try.underlying107,rfl⟩,Try.underlying35,by kernel_rfl,_,Try.underlying43,rfl⟩
theorem known6_p : PFn Try.prog T 13 [] fun z => z = bV true := (PFn.ofB (test := isTrue) 400 (by kernel_rfl)).mono fun z h => isTrue_eq h
structure Stk3 (S : List (List Pe.Tm)) (v : V) : Prop where
  st : IsStk S v
  l1 : 1 ≤ S.length
  l3 : S.length ≤ 3
  l5 : ∀ r ∈ S,r.length ≤ 5
theorem Stk3.get {S : List (List Pe.Tm)} {v : V} (h : Stk3 S v) (a : Nat) : (S.getD a []).length ≤ 5 := by
  rw [List.getD_eq_getElem?_getD]
  cases e : S[a]? with
  | none => simp
  | some r => exact h.l5 r (List.mem_of_getElem? e)
theorem IsStk.len {S : List (List Pe.Tm)} {v : V} (h : IsStk S v) : ∃ rows,(∀ o,rowOf o v = some rows) ∧ rows.length = S.length := by
  obtain ⟨rows,v1,v2,v3⟩ := h
  exact ⟨rows,fun o => v1.row o,v3.len⟩
theorem gD_set {S : List (List Pe.Tm)} {a b : Nat} {r : List Pe.Tm} (h : a < S.length) : (S.set a r).getD b [] = if a = b then r else S.getD b [] := by
  rw [List.getD_eq_getElem?_getD,List.getElem?_set,List.getD_eq_getElem?_getD]
  by_cases e : a = b
  · subst e; simp [h]
  · simp [e]
theorem ext_gD {S S' : List (List Pe.Tm)} (h : S.length = S'.length) (hg : ∀ i,i < S.length → S.getD i [] = S'.getD i []) : S = S' := by
  refine List.ext_getElem h fun i h1 h2 => ?_
  have := hg i h1
  rwa [List.getD_eq_getElem?_getD,List.getD_eq_getElem?_getD,List.getElem?_eq_getElem h1,List.getElem?_eq_getElem h2] at this
theorem vfr {v : V} {S : List (List Pe.Tm)} (h : IsStk S v) (a : Int) : ∀ x ∈ [v,iV a],x.free = true := fun x hx => by
  simp only [List.mem_cons,List.not_mem_nil,or_false] at hx; rcases hx with rfl | rfl <;> first | exact h.freeV | rfl
theorem vfrt {v t : V} {S : List (List Pe.Tm)} (h : IsStk S v) (a : Int) (ht : t.free = true) : ∀ x ∈ [v,iV a,t],x.free = true := fun x hx => by
  simp only [List.mem_cons,List.not_mem_nil,or_false] at hx; rcases hx with rfl | rfl | rfl <;> first | exact h.freeV | exact ht | rfl
end Go.Proofs.Ytfncfdiomolieaa
end

section
-- the form's reach,handed on to the contract
set_option linter.unusedVariables false
namespace Go.Proofs.Pe
open Go
theorem slice_weight {P : Program} {H : Type} {enc : TypeId × Value → H} {w : World} {t e : TypeId} {a : Option Addr} {len cap : Nat} {d : DataW H} {ps : List MemPlace} (hu : P.underlying t = some (.slice e))
    (h : DataW.Trod enc P w 0 (fun _ => true) true t (.slice a len cap) d ps) (hz : (d.weights P t).all (· ≤ reachBytes) = true) : len * P.bytesOf e ≤ reachBytes := by
  obtain ⟨fuel,h⟩ := h
  rcases DataW.trod_slice hu h with ⟨hc,_⟩ | ⟨a',len',cap',elems,rest,m,hm,hc,hx,hb,hlc,hcm,hel,hxx,hr,_⟩
  · have hc' : [Value.slice a len cap] = [.slice none 0 0] := hc
    cases hc'; simp
  · have hc' : [Value.slice a len cap] = [.slice (some a') len' cap'] := hc
    cases hc'
    obtain ⟨rfl,rfl⟩ := Prod.mk.inj hx
    simp only [DataW.weights,hu,List.all_cons,Bool.and_eq_true,decide_eq_true_eq,List.length_map] at hz
    have h1 := hz.1
    have h2 : len * P.bytesOf e ≤ (elems.length + rest.length) * P.bytesOf e := Nat.mul_le_mul_right _ (by omega)
    omega
theorem rep_len {h : Array Obj} {g : G} {o : List O} {k : Nat} {f : Bool} {xs : List V} {a : Option Addr} {len cap : Nat} (H : Rep h g o (.sl k f xs) (.slice a len cap)) : xs.length = len := by
  cases H <;> rfl
theorem returnsInHanded_sized {H : Type} {enc : TypeId × Value → H} {a : Assume} {C : Checked} {os : Os} {f : FuncId} {fn : Func} {s : ChangeSpec} {conds : List PathCond} {apart fresh handsOn again : Bool}
    (own : ownKnob C.prog.godebug = none) (started : os.Started) (noInit : C.prog.inits.idxOf? f = none) (hfn : C.prog.funcs[f]? = some fn)
    (witness : ∃ (w : World) (tape : Tape) (i : Input),w.os = os ∧ (w.forCall tape i).Shaped C.prog ∧ i.vars = [] ∧ Input.okWide C.prog (w.forCall tape i) .any w.heap.size f i ∧
      s.pre6 enc C.prog fn conds apart (w.forCall tape i).memory i.args ∧ a.holds C.prog (lone (Frame.enter C.prog f i.args .normal) [] (w.forCall tape i)))
    (contract : ∀ (W : World) (base : Nat) (args : Array Value) (ds gs : List (DataW H)) (before : List MemPlace),
      (∀ (j : Nat) t v,fn.params[j]? = some t → args[j]? = some v → Value.okWide C.prog W .any base t v) →
      DataW.Whole enc C.prog fn.params.toList s.vars apart W args.toList ds gs before →
      (DataW.weightsEach C.prog (fn.params.toList ++ (OpenSpec.ofChange s).bare.plain.varTypes C.prog) (ds ++ gs)).all (· ≤ reachBytes) = true →
      a.holds C.prog (lone (Frame.enter C.prog f args .normal) [] W) →
      Calls C.prog f args W fun e W' => ∃ v,e = .returned v ∧ s.post enc C.prog fn apart fresh handsOn again W args v W') :
    ReturnsInHanded a C os f .any (s.pre6 enc C.prog fn conds apart) (s.post enc C.prog fn apart fresh handsOn again) := by
  refine returnsInHanded_of_calls own started noInit witness ?_
  intro w tape i _ _ _ hok hpre hholds
  obtain ⟨_,_,_,fn',hfn',_,_,_,_,hval⟩ := hok
  have e : fn' = fn := Option.some.inj (hfn'.symm.trans hfn)
  subst e
  obtain ⟨_,_,ds,gs,before,hw,hz⟩ := hpre
  have hw' := DataW.Whole.of_heap (w' := w.forCall tape i) (by rfl) hw
  refine (contract (w.forCall tape i) w.heap.size i.args ds gs before hval hw' hz hholds).mono fun e W' ⟨v,he,hp⟩ => ?_
  subst he
  exact ChangeSpec.post_blind hp
end Go.Proofs.Pe
end

/- Parts of the texts that the claim's proof needs. Conditions: those that its theorems state. -/
import Derived.Test.YtfncfdiomolieaaTG
section
set_option linter.unusedVariables false
set_option maxRecDepth 100000
namespace Go.Proofs.Ytfncfdiomolieaa
open Go.Proofs.Pe
theorem t4 : T.cf 4 = some c4 := rfl
theorem t5 : T.cf 5 = some c5 := rfl
theorem t6 : T.cf 6 = some c6 := rfl
theorem t7 : T.cf 7 = some c7 := rfl
theorem t8 : T.cf 8 = some c8 := rfl
theorem t15 : T.cf 15 = some c15 := rfl
theorem t16 : T.cf 16 = some c16 := rfl
theorem t19 : T.cf 19 = some c19 := rfl
end Go.Proofs.Ytfncfdiomolieaa
end

section
set_option linter.unusedVariables false
set_option linter.unusedSimpArgs false
set_option maxHeartbeats 1000000
namespace Go.Proofs.Ytfncfdiomolieaa
open Go.Proofs.Pe

theorem push_ok {v t : V} {S : List (List Tm)} {x : Tm} {at' : Nat} (hv : IsStk S v) (ht : IsTm x t) (ha : at' < S.length) (hb : ∀ r,r ∈ S → r.length < cap) :
    PFn Try.prog T 15 [v,iV at',t] (IsStk (S.set at' (S.getD at' [] ++ [x]))) := by
  obtain ⟨rows,v1,v2,v3⟩ := hv
  have hlen := v3.len
  have hSc : S.length ≤ cap := by rw [← hlen]; exact v2
  have htt := ht
  rcases x with ⟨k,a,b,nm,⟨ek,en,em,el⟩,tl⟩
  obtain ⟨ev,evs,lv,vs,rfl,e1,e2,e3,e4,e5,e6⟩ := ht
  intro yi hy
  refine Call.step hy ?_
  rw [body_eq t15]
  have hone : lv.one = true := free1_one e4.free
  have hone0 : ev.one = true := free1_one e1.free
  simp only [c15,c15x1,c15x2,RUA,RUB,RUC,RUD,RUE,RUF,if_true,if_false,ite_true,ite_false,Int.reduceEq,Int.reduceLT,Int.reduceLE,putCells,bslOf,bsaOf,bslS,isUpto,Nat.reduceEqDiff,Pe.step,E.at,List.replicate,Nat.reduceAdd,Nat.reduceSub,Nat.reduceLeDiff,Nat.reduceMul,Pe.intOf,Pe.iop,Pe.sop,hone,hone0]
  refine call3 rfl (cm_free v1.freeV cm_nil) (own_c v1 v3 v2 noY_le fun z o1 hf hN => ⟨hf.sim, ?_⟩)
  rcases hN with ⟨_,h0⟩ | ⟨L,v,ws,rfl,hL,hn,hLo,hne⟩
  · rw [h0] at ha; simp at ha
  have hwl := hn.len
  have hrow : rowOf o1 (.ar L v) = some ws := by simp only [rowOf,hL,if_true]
  refine call4 rfl (is_c hrow (by omega) hy ?_)
  have haw : at' < ws.length := by omega
  have hx : ws[at']? = some ws[at'] := List.getElem?_eq_getElem haw
  have hSx : S[at']? = some S[at'] := List.getElem?_eq_getElem ha
  obtain ⟨us,r1,r2,r3⟩ := hn.row at' _ _ hx hSx
  generalize hgw : ws[at'] = w at hx r1
  have hI : ixOf 1 o1 (.ar L v) (iV at') = some (.pa L v at' 0,o1) := by simp [ixOf,intOf,hL,haw]
  have hcells := hf.cells (l := 0) rfl (by simp)
  have hro := r1.row
  obtain ⟨hw1,hw2,hw3⟩ := r1.solid
  simp only [c15,c15x1,c15x2,c15x3,c15x3,RUA,RUB,RUC,RUD,RUE,RUF,if_true,if_false,ite_true,ite_false,Int.reduceEq,Int.reduceLT,Int.reduceLE,putCells,bslOf,bsaOf,bslS,isUpto,Nat.reduceEqDiff,Pe.step,E.at,List.replicate,Nat.reduceAdd,Nat.reduceSub,Nat.reduceLeDiff,Nat.reduceMul,Pe.intOf,Pe.iop,Pe.sop,hI,hL,hx,hw2,hcells,hro,depL_pa]
  have hgd : S.getD at' [] = S[at'] := by rw [List.getD_eq_getElem?_getD,hSx]; rfl
  have hul : us.length < cap := by rw [r3.len]; exact hb _ (List.getElem_mem ha)
  unfold cap at hul hSc
  generalize hzv : (V.agg [iV 0,iV 0,iV 0,sV (ByteArray.mk #[]),iV 0,iV 0,sV (ByteArray.mk #[]),nilV,nilV]) = zv
  have hzt := zeroTm
  rw [hzv] at hzt
  obtain ⟨l2,v2',o2,hap,hl2,hlen2,hsame,hor⟩ := r1.push (b := 120) (f := true) (y := zv) (okRow1 hzt.ok).s (by unfold room; omega)
  have hLl : L ≠ l2 := fun e => by
    rcases hor with ⟨v0,rfl⟩ | h
    · rcases r1 with ⟨e',_⟩ | ⟨e',_⟩ | ⟨l,v9,e',h⟩
      · cases e'
      · cases e'
      · cases e'; rw [← e,hL] at h; cases h
    · have := get_lt hL; omega
  have hL2 : o2[L]? = some (.arr v true 1 ws) := by rw [hsame L hLl (get_lt hL)]; exact hL
  have hI2 : ixOf 9 o2 (.ar l2 v2') (iV us.length) = some (.pa l2 v2' us.length 0,o2) := by simp [ixOf,intOf,hl2]; omega
  have hI3 : ixOf 1 o2 (.ar L v) (iV at') = some (.pa L v at' 0,o2) := by simp [ixOf,intOf,hL2,haw]
  have hel : (us ++ [zv])[us.length]? = some zv := by simp
  have hA : ∀ b,(o2.set l2 b)[L]? = some (.arr v true 1 ws) := fun b => get_set_ne hL2 (fun e => hLl e.symm)
  have hB : ∀ b,(o2.set L b)[l2]? = some (.arr v2' true 9 (us ++ [zv])) := fun b => get_set_ne hl2 hLl
  have hzl := hzt.ok.2
  have hwc : w.cells.length = 1 := by rw [hw2]; rfl
  have fin : ∀ z' o3,IsTm (.mk k a b nm (.mk ek en em el) tl) z' → o3[L]? = some (.arr v true 1 (ws.set at' (.ar l2 v2'))) → o3[l2]? = some (.arr v2' true 9 ((us ++ [zv]).set us.length z')) → (∀ i,i ≠ l2 → i ≠ L → i < o1.length → o3[i]? = o1[i]?) →
      ∃ z o2,freezeT o3 (.ar L v) = some (z,o2) ∧ IsStk (S.set at' (S[at'] ++ [.mk k a b nm (.mk ek en em el) tl])) z := fun z' o3 hz h1 h2 h3 => by
    have e9 : (us ++ [zv]).set us.length z' = us ++ [z'] := by simp
    rw [e9] at h2
    refine nest_frz (lo := 0) h1 (Nest.turn (o := o1) (lo := 0) ⟨hn.len,hn.row,hn.inj,fun _ _ _ _ => Nat.zero_le _⟩ ha (.inr (.inr ⟨l2,v2',rfl,h2⟩)) (by simp [cap]; omega) (r3.snoc hz) (fun i l v0 hne' hi => ?_) (fun i l v0 v1 hne' hi e => ?_) (fun _ _ _ => Nat.zero_le _)) (by simp [cap]; omega)
    · refine h3 l (fun e => ?_) (fun e => ?_) (hn.bound hi)
      · subst e
        rcases hor with ⟨v9,rfl⟩ | h
        · exact hne' (hn.inj i at' _ _ _ hi hx)
        · have := hn.bound hi; omega
      · subst e
        obtain ⟨vs',g1,_⟩ := hn.row i _ _ hi (List.getElem?_eq_getElem (by rw [← hn.len]; exact (List.getElem?_eq_some_iff.1 hi).1))
        rcases g1 with ⟨e',_⟩ | ⟨e',_⟩ | ⟨l',v9,e',h⟩
        · cases e'
        · cases e'
        · cases e'; rw [hL] at h; cases h
    · cases e
      rcases hor with ⟨v9,rfl⟩ | h
      · exact hne' (hn.inj i at' _ _ _ hi hx)
      · have := hn.bound hi; omega
  rw [hgd]
  refine ⟨(ownTm _ htt).callF rfl (by simpa using htt.ok.1) fun z' hz' => ?_,(ownTm _ htt).callF rfl (by simpa using htt.ok.1) fun z' hz' => ?_⟩
  all_goals
    have hz9 := hz'.ok
    have hz10 := free_solid hz9.1
    simp only [hap,hI2,hI3,hl2,hL2,hA,hB,hel,hx,hz9.2,hz10,hzl,hwc,RUA,RUB,RUC,RUD,RUE,RUF,if_true,if_false,ite_true,ite_false,Int.reduceEq,Int.reduceLT,Int.reduceLE,putCells,bslOf,bsaOf,bslS,isUpto,Nat.reduceEqDiff,Pe.step,E.at,List.replicate,Nat.reduceAdd,Nat.reduceSub,Nat.reduceLeDiff,Nat.reduceMul,Pe.intOf,Pe.iop,Pe.sop,c15,c15x1,c15x2,c15x3,c15x4]
    refine ⟨fin z' _ hz' ?_ ?_ fun i h1 h2 h3 => ?_,fin z' _ hz' ?_ ?_ fun i h1 h2 h3 => ?_⟩
    · exact get_set (hA _)
    · rw [List.getElem?_set_ne hLl]; exact get_set hl2
    · rw [List.getElem?_set_ne (fun e => h2 e.symm),List.getElem?_set_ne (fun e => h1 e.symm)]; exact hsame i h1 h3
    · rw [List.getElem?_set_ne hLl.symm]; exact get_set hL2
    · exact get_set (hB _)
    · rw [List.getElem?_set_ne (fun e => h1 e.symm),List.getElem?_set_ne (fun e => h2 e.symm)]; exact hsame i h1 h3
end Go.Proofs.Ytfncfdiomolieaa
end

section
set_option linter.unusedVariables false
set_option linter.unusedSimpArgs false
set_option maxHeartbeats 1000000
namespace Go.Proofs.Ytfncfdiomolieaa
open Go.Proofs.Pe

theorem accept_ok {v : V} {S : List (List Tm)} {at' : Nat} (hv : IsStk S v) (ha : at' < S.length) : PFn Try.prog T 19 [v,iV at'] (IsStk (S.set at' [])) := by
  obtain ⟨rows,v1,v2,v3⟩ := hv
  have hlen := v3.len
  intro yi hy
  refine Call.step hy ?_
  rw [body_eq t19]
  simp only [c19,c19x1,c19x2,RUA,RUB,RUC,RUD,RUE,RUF,if_true,if_false,ite_true,ite_false,Int.reduceEq,Int.reduceLT,Int.reduceLE,putCells,bslOf,bsaOf,bslS,isUpto,Nat.reduceEqDiff,Pe.step,E.at,List.replicate,Nat.reduceAdd,Nat.reduceSub,Nat.reduceLeDiff,Nat.reduceMul,Pe.intOf,Pe.iop,Pe.sop]
  refine call3 rfl (cm_free v1.freeV cm_nil) (own_c v1 v3 v2 noY_le fun z o1 hf hN => ⟨hf.sim, ?_⟩)
  rcases hN with ⟨_,h0⟩ | ⟨L,v,ws,rfl,hL,hn,hLo,hne⟩
  · rw [h0] at ha; simp at ha
  have hwl := hn.len
  have hrow : rowOf o1 (.ar L v) = some ws := by simp only [rowOf,hL,if_true]
  refine call4 rfl (is_c hrow (by omega) hy ?_)
  have haw : at' < ws.length := by omega
  have hx : ws[at']? = some ws[at'] := List.getElem?_eq_getElem haw
  have hSx : S[at']? = some S[at'] := List.getElem?_eq_getElem ha
  obtain ⟨us,r1,_⟩ := hn.row at' _ _ hx hSx
  generalize hgw : ws[at'] = w at hx r1
  have hI : ixOf 1 o1 (.ar L v) (iV at') = some (.pa L v at' 0,o1) := by simp [ixOf,intOf,hL,haw]
  have hwc : w.cells.length = 1 := by rw [r1.solid.2.1]; rfl
  simp only [c19,c19x1,c19x2,c19x3,c19x4,RUA,RUB,RUC,RUD,RUE,RUF,if_true,if_false,ite_true,ite_false,Int.reduceEq,Int.reduceLT,Int.reduceLE,putCells,bslOf,bsaOf,bslS,isUpto,Nat.reduceEqDiff,Pe.step,E.at,List.replicate,Nat.reduceAdd,Nat.reduceSub,Nat.reduceLeDiff,Nat.reduceMul,Pe.intOf,Pe.iop,Pe.sop,hI,hL,hx,hwc]
  exact nest_frz (get_set hL) (hn.empty (v' := 0) hL ha) (by simp; rw [← hlen]; exact v2)
def zTm : Tm := .mk 0 0 0 (ByteArray.mk #[]) (.mk 0 0 (ByteArray.mk #[]) []) []
def seqT (x y : Tm) : Tm := .mk 12 0 0 (ByteArray.mk #[]) (.mk 0 0 (ByteArray.mk #[]) []) [x,y]
def revT : List Tm → Tm
  | [] => zTm
  | x :: l => l.foldl (fun acc t => seqT t acc) x
theorem revT_snoc (l : List Tm) (x : Tm) : revT (l ++ [x]) = if l = [] then x else seqT x (revT l) := by
  cases l with
  | nil => rfl
  | cons a l => simp [revT,List.foldl_append]
theorem reverse_ok {v : V} {S : List (List Tm)} {at' : Nat} (hv : IsStk S v) (ha : at' < S.length) :
    PFn Try.prog T 16 [v,iV at'] fun z => ∃ t r,z = .tup [t,r] ∧ IsTm (revT (S.getD at' [])) t ∧ IsStk (S.set at' []) r := by
  have hv' := hv
  obtain ⟨rows,v1,v2,v3⟩ := hv
  have hlen := v3.len
  intro yi hy
  refine Call.step hy ?_
  rw [body_eq t16]
  simp only [c16,c16x1,RUA,RUB,RUC,RUD,RUE,RUF,if_true,if_false,ite_true,ite_false,Int.reduceEq,Int.reduceLT,Int.reduceLE,putCells,bslOf,bsaOf,bslS,isUpto,Nat.reduceEqDiff,Pe.step,E.at,List.replicate,Nat.reduceAdd,Nat.reduceSub,Nat.reduceLeDiff,Nat.reduceMul,Pe.intOf,Pe.iop,Pe.sop]
  have har : at' < rows.length := by omega
  refine call4 rfl (is_c (v1.row _) har hy ?_)
  have hx : rows[at']? = some rows[at'] := List.getElem?_eq_getElem har
  have hSx : S[at']? = some S[at'] := List.getElem?_eq_getElem ha
  have hgd : S.getD at' [] = S[at'] := by rw [List.getD_eq_getElem?_getD,hSx]; rfl
  obtain ⟨us,r1,r2,r3⟩ := v3.get hx hSx
  generalize hgw : rows[at'] = w at hx r1
  generalize S[at'] = ts at hSx hgd r3
  have hI := fun o => v1.ix o hx
  have hC := r1.cells
  have hlu := r3.len
  rw [hgd]
  simp only [c16,c16x1,c16x2,c16x3,c16x4,RUA,RUB,RUC,RUD,RUE,RUF,if_true,if_false,ite_true,ite_false,Int.reduceEq,Int.reduceLT,Int.reduceLE,putCells,bslOf,bsaOf,bslS,isUpto,Nat.reduceEqDiff,Pe.step,E.at,List.replicate,Nat.reduceAdd,Nat.reduceSub,Nat.reduceLeDiff,Nat.reduceMul,Pe.intOf,Pe.iop,Pe.sop,hI,hC,r1.row]
  refine Lfp.inv call_le hy (fun a : Nat × List O => ⟨⟨[v,iV at',.dead,.dead,.pt 0 0,.dead,.pt 1 0,.dead,.dead,.dead,.dead,.dead,.dead,.dead,.dead,w,iV us.length,iV a.1,.dead,.dead,.dead,.dead,.dead,.dead,.dead,.dead,.dead,.dead,.dead,.dead,.dead,.dead,.dead,.dead,.dead,.dead],a.2⟩,[]⟩) (fun a => us.length - a.1)
    (fun a => a.1 ≤ us.length ∧ a.2[0]? = some (.cells [iV 0,iV 0,iV 0,sV (ByteArray.mk #[]),iV 0,iV 0,sV (ByteArray.mk #[]),nilV,nilV]) ∧ ∃ cs,a.2[1]? = some (.cells cs) ∧ IsTm (revT (ts.take a.1)) (.agg cs))
    (0,[.cells [iV 0,iV 0,iV 0,sV (ByteArray.mk #[]),iV 0,iV 0,sV (ByteArray.mk #[]),nilV,nilV],.cells [iV 0,iV 0,iV 0,sV (ByteArray.mk #[]),iV 0,iV 0,sV (ByteArray.mk #[]),nilV,nilV]]) ⟨Nat.zero_le _,rfl,_,rfl,zeroTm⟩ (by simp only [kill_L,killTs_nil,RUF] <;> rfl) ?_
  rintro ⟨i,o'⟩ ⟨hi,h0,cs,h1,hT⟩
  dsimp only at hi h0 h1 hT
  have hTok := hT.ok
  have hl2 : 1 < o'.length := get_lt h1
  by_cases hlt : i < us.length
  · have hd1 : decide ((i : Int) < (us.length : Int)) = true := by simpa using hlt
    have hxu : us[i]? = some us[i] := List.getElem?_eq_getElem hlt
    have hlx : i < ts.length := by omega
    have hxl : ts[i]? = some ts[i] := List.getElem?_eq_getElem hlx
    have hE := r3.get hxu hxl
    have hE' := hE
    generalize hgv : us[i] = u at hxu hE hE'
    generalize hgx : ts[i] = x at hxl hE hE'
    have hok := hE.ok
    rcases x with ⟨k,a,b,s,⟨ek,en,em,el⟩,xl⟩
    obtain ⟨ev,evs,lv,us',rfl,he0,_,_,he1,he2,he3⟩ := hE
    have hone0 : ev.one = true := free1_one he0.free
    have hone : lv.one = true := free1_one he1.free
    have hI2 := fun o => r1.ix o hxu
    have hw1 : IntKind.i64.wrap ((i : Int) + 1) = ((i + 1 : Nat) : Int) := wrap_succ (by unfold cap at r2; omega)
    have htk : ts.take (i + 1) = ts.take i ++ [.mk k a b s (.mk ek en em el) xl] := by rw [List.take_add_one,hxl]; rfl
    generalize hrt : revT (ts.take i) = acc at hT
    rcases acc with ⟨k',a',b',s',⟨ek',en',em',el'⟩,xl'⟩
    have hT' := hT
    obtain ⟨ev',evs',lv',us'',hcs,hf0,_,_,hf1,hf2,hf3⟩ := hT
    cases hcs
    have hone2 : ev'.one = true := free1_one hf0.free
    have hone3 : lv'.one = true := free1_one hf1.free
    have hA : ∀ b,(o' ++ [b])[1]? = some (.cells [iV k',iV a',iV b',sV s',iV ek',iV en',sV em',ev',lv']) := fun b => get_app h1
    have hB : ∀ b,(o' ++ [b])[0]? = some (.cells [iV 0,iV 0,iV 0,sV (ByteArray.mk #[]),iV 0,iV 0,sV (ByteArray.mk #[]),nilV,nilV]) := fun b => get_app h0
    have hts : i ≠ 0 → ts.take i ≠ [] := fun h e => by
      have : (ts.take i).length = 0 := by rw [e]; rfl
      rw [List.length_take] at this; omega
    by_cases hz : i = 0
    · have hd2 : decide ((i : Int) = 0) = true := by simp [hz]
      simp only [c16,c16x1,c16x2,c16x3,c16x4,c16x5,c16x6,c16x7,c16x8,c16x9,c16x10,c16x11,RUA,RUB,RUC,RUD,RUE,RUF,if_true,if_false,ite_true,ite_false,Int.reduceEq,Int.reduceLT,Int.reduceLE,putCells,bslOf,bsaOf,bslS,isUpto,Nat.reduceEqDiff,Pe.step,E.at,List.replicate,Nat.reduceAdd,Nat.reduceSub,Nat.reduceLeDiff,Nat.reduceMul,Pe.intOf,Pe.iop,Pe.sop,hd1,hI2,hone,hone0,hd2]
      refine (ownTm _ hE').callF rfl (by simpa using hok.1) fun z hzt => ?_
      have hzt' := hzt
      obtain ⟨ev2,evs2,lv2,us2,rfl,hg0,_,_,hg1,hg2,hg3⟩ := hzt
      have hone4 : ev2.one = true := free1_one hg0.free
      have hone5 : lv2.one = true := free1_one hg1.free
      simp only [c16,c16x1,c16x2,c16x3,c16x4,c16x5,c16x6,c16x7,c16x8,c16x9,c16x10,c16x11,RUA,RUB,RUC,RUD,RUE,RUF,if_true,if_false,ite_true,ite_false,Int.reduceEq,Int.reduceLT,Int.reduceLE,putCells,bslOf,bsaOf,bslS,isUpto,Nat.reduceEqDiff,Pe.step,E.at,List.replicate,Nat.reduceAdd,Nat.reduceSub,Nat.reduceLeDiff,Nat.reduceMul,Pe.intOf,Pe.iop,Pe.sop,hone4,hone5,hA,hw1]
      refine ⟨(i + 1,_),⟨by simp only; omega, ?_,_,get_set (hA _), ?_⟩,by simp only; omega,rfl⟩
      · exact get_set_ne (hB _) (by omega)
      · show IsTm (revT (ts.take (i + 1))) _
        rw [htk,hz]; exact hzt'
    · have hd2 : decide ((i : Int) = 0) = false := by simpa using hz
      have hfr0 := hf0.free
      have hfr1 := hf1.free
      simp only [c16,c16x1,c16x2,c16x3,c16x4,c16x5,c16x6,c16x7,c16x8,c16x9,c16x10,c16x11,RUA,RUB,RUC,RUD,RUE,RUF,if_true,if_false,ite_true,ite_false,Int.reduceEq,Int.reduceLT,Int.reduceLE,putCells,bslOf,bsaOf,bslS,isUpto,Nat.reduceEqDiff,Pe.step,E.at,List.replicate,Nat.reduceAdd,Nat.reduceSub,Nat.reduceLeDiff,Nat.reduceMul,Pe.intOf,Pe.iop,Pe.sop,hd1,hI2,hone,hone0,hd2,hA,hfr0,hfr1]
      refine (ownTm _ hE').callF rfl (by simpa using hok.1) fun z hzt => ?_
      have hzk := hzt.ok
      have hz9 : decide (z.cells.length = 9) = true := by simpa using hzk.2
      simp only [c16,c16x1,c16x2,c16x3,c16x4,c16x5,c16x6,c16x7,c16x8,c16x9,c16x10,c16x11,RUA,RUB,RUC,RUD,RUE,RUF,if_true,if_false,ite_true,ite_false,Int.reduceEq,Int.reduceLT,Int.reduceLE,putCells,bslOf,bsaOf,bslS,isUpto,Nat.reduceEqDiff,Pe.step,E.at,List.replicate,Nat.reduceAdd,Nat.reduceSub,Nat.reduceLeDiff,Nat.reduceMul,Pe.intOf,Pe.iop,Pe.sop,hzk.1,hz9,hA,hw1,fillC]
      refine ⟨(i + 1,_),⟨by simp only; omega, ?_,_,get_set (hA _), ?_⟩,by simp only; omega,rfl⟩
      · exact get_set_ne (hB _) (by omega)
      · show IsTm (revT (ts.take (i + 1))) _
        rw [htk,revT_snoc,if_neg (hts hz),hrt]
        exact ⟨nilV,[],.sl 9 true [z,_],[z,_],rfl,.inl ⟨rfl,rfl⟩,by simp,rfl,.inr ⟨_,rfl⟩,by simp [cap],z,_,rfl,hzt,_,_,rfl,hT',rfl⟩
  · have hd1 : decide ((i : Int) < (us.length : Int)) = false := by simpa using hlt
    have hi' : ts.take i = ts := List.take_of_length_le (by omega)
    rw [hi'] at hT
    generalize hrt : revT ts = acc at hT
    rcases acc with ⟨k',a',b',s',⟨ek',en',em',el'⟩,xl'⟩
    have hT' := hT
    obtain ⟨ev',evs',lv',us'',hcs,hf0,_,_,hf1,hf2,hf3⟩ := hT
    cases hcs
    have hone2 : ev'.one = true := free1_one hf0.free
    have hone3 : lv'.one = true := free1_one hf1.free
    simp only [c16,c16x1,c16x2,c16x3,c16x4,c16x5,c16x6,c16x7,c16x8,c16x9,c16x10,c16x11,RUA,RUB,RUC,RUD,RUE,RUF,if_true,if_false,ite_true,ite_false,Int.reduceEq,Int.reduceLT,Int.reduceLE,putCells,bslOf,bsaOf,bslS,isUpto,Nat.reduceEqDiff,Pe.step,E.at,List.replicate,Nat.reduceAdd,Nat.reduceSub,Nat.reduceLeDiff,Nat.reduceMul,Pe.intOf,Pe.iop,Pe.sop,hd1,h1]
    refine (accept_ok hv' ha).callF rfl (fun x hx => by simp only [List.mem_cons,List.not_mem_nil,or_false] at hx; rcases hx with rfl | rfl <;> first | exact v1.freeV | rfl) fun z hz => ?_
    have hg0 : ∀ b,(o'.set 0 b)[0]? = some b := fun b => get_set h0
    simp only [c16,c16x1,c16x2,c16x3,c16x4,c16x5,c16x6,c16x7,c16x8,c16x9,c16x10,c16x11,RUA,RUB,RUC,RUD,RUE,RUF,if_true,if_false,ite_true,ite_false,Int.reduceEq,Int.reduceLT,Int.reduceLE,putCells,bslOf,bsaOf,bslS,isUpto,Nat.reduceEqDiff,Pe.step,E.at,List.replicate,Nat.reduceAdd,Nat.reduceSub,Nat.reduceLeDiff,Nat.reduceMul,Pe.intOf,Pe.iop,Pe.sop,h0,hone2,hone3,hg0,rets]
    exact ⟨_,_,frzT_tup hT'.ok.1 hz.freeV,_,_,rfl,hT',hz⟩
end Go.Proofs.Ytfncfdiomolieaa
end

section
set_option linter.unusedVariables false
set_option linter.unusedSimpArgs false
set_option maxRecDepth 100000
set_option maxHeartbeats 8000000
namespace Go.Proofs.Ytfncfdiomolieaa
open Go.Proofs.Pe

theorem dn (n : Int) : (!decide (n = n)) = false := by simp
theorem vfrt {v t : V} {S : List (List Pe.Tm)} (h : IsStk S v) (a : Int) (ht : t.free = true) : ∀ x ∈ [v,iV a,t],x.free = true := fun x hx => by
  simp only [List.mem_cons,List.not_mem_nil,or_false] at hx; rcases hx with rfl | rfl | rfl <;> first | exact h.freeV | exact ht | rfl
end Go.Proofs.Ytfncfdiomolieaa
end
section
set_option linter.unusedVariables false
set_option linter.unusedSimpArgs false
set_option maxRecDepth 100000
set_option maxHeartbeats 8000000
namespace Go.Proofs.Ytfncfdiomolieaa
open Go.Proofs.Pe
theorem stacksOthers_call (x : V) (w : ∃ n,VT Try.prog n 35 [x]) (n : Int) (w1 : (Lit.int .i64 n).wf = true) (p : Int) (w2 : (Lit.int .i64 p).wf = true) (q : Int) (w3 : (Lit.int .i64 q).wf = true) : Pe.Call Try.prog T noY 4 [x,.sc (.int .i64 n),.sc (.int .i64 p),.sc (.int .i64 q)] [] (fun y _ => y = .sc (.bool true)) := by
  obtain ⟨m,hm⟩ := w
  obtain ⟨l,vs,h1,h3,h2⟩ := (r3_of rT m).2 x hm
  refine Call.step noY_le ?_
  rw [body_eq t4]
  simp only [c4,c4x1,c4x2,RUA,RUB,RUC,RUD,RUE,RUF,if_true,if_false,ite_true,ite_false,Int.reduceEq,Int.reduceLT,Int.reduceLE,putCells,bslOf,bsaOf,bslS,isUpto,Nat.reduceEqDiff,Pe.step,E.at,List.replicate,Nat.reduceAdd,Nat.reduceSub,Nat.reduceLeDiff,Nat.reduceMul,Pe.intOf,Pe.iop,Pe.sop]
  refine known6_p.callE rfl rfl rfl ?_
  simp only [c4,c4x1,c4x2,c4x3,RUA,RUB,RUC,RUD,RUE,RUF,if_true,if_false,ite_true,ite_false,Int.reduceEq,Int.reduceLT,Int.reduceLE,putCells,bslOf,bsaOf,bslS,isUpto,Nat.reduceEqDiff,Pe.step,E.at,List.replicate,Nat.reduceAdd,Nat.reduceSub,Nat.reduceLeDiff,Nat.reduceMul,Pe.intOf,Pe.iop,Pe.sop]
  refine (few_p h1 h3 h2).callB rfl (cf1 h1.freeV _) (fun z hz => by obtain ⟨b,rfl,_⟩ := hz; rfl) fun z hz => ?_
  obtain ⟨b,rfl,hb⟩ := hz
  cases b with
  | false => simp only [c4,c4x1,c4x2,c4x3,c4x4,RUA,RUB,RUC,RUD,RUE,RUF,if_true,if_false,ite_true,ite_false,Int.reduceEq,Int.reduceLT,Int.reduceLE,putCells,bslOf,bsaOf,bslS,isUpto,Nat.reduceEqDiff,Pe.step,E.at,List.replicate,Nat.reduceAdd,Nat.reduceSub,Nat.reduceLeDiff,Nat.reduceMul,Pe.intOf,Pe.iop,Pe.sop]
  | true =>
  simp only [c4,c4x1,c4x2,c4x3,c4x4,c4x5,RUA,RUB,RUC,RUD,RUE,RUF,if_true,if_false,ite_true,ite_false,Int.reduceEq,Int.reduceLT,Int.reduceLE,putCells,bslOf,bsaOf,bslS,isUpto,Nat.reduceEqDiff,Pe.step,E.at,List.replicate,Nat.reduceAdd,Nat.reduceSub,Nat.reduceLeDiff,Nat.reduceMul,Pe.intOf,Pe.iop,Pe.sop]
  refine (make6_p h1 h3 (hb rfl) n).callF rfl (fun x hx => by simp only [List.mem_cons,List.not_mem_nil,or_false] at hx; rcases hx with rfl | rfl <;> first | exact h1.freeV | rfl) fun s hs => ?_
  obtain ⟨S,hS,hS1,hS3,hS5⟩ := hs
  have G : Stk3 S s := ⟨hS,hS1,hS3,hS5⟩
  obtain ⟨rows,hr,hrl⟩ := hS.len
  have hrl' : (rows.length : Int) = (S.length : Int) := by omega
  have c5 := G.get
  simp only [c4,c4x1,c4x2,c4x3,c4x4,c4x5,c4x6,RUA,RUB,RUC,RUD,RUE,RUF,if_true,if_false,ite_true,ite_false,Int.reduceEq,Int.reduceLT,Int.reduceLE,putCells,bslOf,bsaOf,bslS,isUpto,Nat.reduceEqDiff,Pe.step,E.at,List.replicate,Nat.reduceAdd,Nat.reduceSub,Nat.reduceLeDiff,Nat.reduceMul,Pe.intOf,Pe.iop,Pe.sop,hr,hrl']
  refine (within6_p p (S.length : Int) (by omega) (by omega)).callE rfl rfl rfl ?_
  obtain ⟨a,ha,la⟩ := natI (a := p) (n := (S.length : Int)) (by omega)
  rw [ha]
  have la' : a < S.length := by omega
  try simp only [c4,c4x1,c4x2,c4x3,c4x4,c4x5,c4x6,c4x7,c4x8,RUA,RUB,RUC,RUD,RUE,RUF,if_true,if_false,ite_true,ite_false,Int.reduceEq,Int.reduceLT,Int.reduceLE,putCells,bslOf,bsaOf,bslS,isUpto,Nat.reduceEqDiff,Pe.step,E.at,List.replicate,Nat.reduceAdd,Nat.reduceSub,Nat.reduceLeDiff,Nat.reduceMul,Pe.intOf,Pe.iop,Pe.sop,hr,hrl']
  refine (within6_p q 3 (by decide) (by decide)).callE rfl rfl rfl ?_
  obtain ⟨k,hk,lk⟩ := natI (a := q) (n := 3) (by decide)
  rw [hk]
  have fin : ∀ (u : V) (r : List Pe.Tm),IsStk (S.set a r) u → ∀ (t0 t1 t2 t3 t4 t5 t6 t7 t8 x13 x14 x15 x16 x17 x18 x19 x20 x21 x22 x23 x24 x25 x26 x27 x28 x29 x30 x31 x32 x33 x34 x35 x36 x37 x38 x39 x40 x41 x42 x43 x44 x45 x46 x47 x48 x49 x50 x51 x52 x53 x54 x55 x56 x57 x58 x59 x60 x61 x62 x63 x64 x65 x66 x67 x68 x69 x70 x71 : V),Pe.ev Try.prog T (Pe.Call Try.prog T) Lfp c4x13 none noY ⟨⟨(t0 :: t1 :: t2 :: t3 :: t4 :: t5 :: t6 :: t7 :: t8 :: s :: iV a :: u :: .dead :: x13 :: x14 :: x15 :: x16 :: x17 :: x18 :: x19 :: x20 :: x21 :: x22 :: x23 :: x24 :: x25 :: x26 :: x27 :: x28 :: x29 :: x30 :: x31 :: x32 :: x33 :: x34 :: x35 :: x36 :: x37 :: x38 :: x39 :: x40 :: x41 :: x42 :: x43 :: x44 :: x45 :: x46 :: x47 :: x48 :: x49 :: x50 :: x51 :: x52 :: x53 :: x54 :: x55 :: x56 :: x57 :: x58 :: x59 :: x60 :: x61 :: x62 :: x63 :: x64 :: x65 :: x66 :: x67 :: x68 :: x69 :: x70 :: x71 :: []),[]⟩,[]⟩ (endK [Rv.tmp 8] fun y _ => y = .sc (.bool true)) := fun u r hu t0 t1 t2 t3 t4 t5 t6 t7 t8 x13 x14 x15 x16 x17 x18 x19 x20 x21 x22 x23 x24 x25 x26 x27 x28 x29 x30 x31 x32 x33 x34 x35 x36 x37 x38 x39 x40 x41 x42 x43 x44 x45 x46 x47 x48 x49 x50 x51 x52 x53 x54 x55 x56 x57 x58 x59 x60 x61 x62 x63 x64 x65 x66 x67 x68 x69 x70 x71 => by
    obtain ⟨urows,hur,hurl⟩ := hu.len
    have hurl' : (urows.length : Int) = (S.length : Int) := by simp at hurl; omega
    simp only [c4,c4x1,c4x2,c4x3,c4x4,c4x5,c4x6,c4x7,c4x8,c4x9,c4x10,c4x11,c4x12,c4x13,c4x14,c4x15,c4x13,c4x14,c4x15,c4x16,RUA,RUB,RUC,RUD,RUE,RUF,if_true,if_false,ite_true,ite_false,Int.reduceEq,Int.reduceLT,Int.reduceLE,putCells,bslOf,bsaOf,bslS,isUpto,Nat.reduceEqDiff,Pe.step,E.at,List.replicate,Nat.reduceAdd,Nat.reduceSub,Nat.reduceLeDiff,Nat.reduceMul,Pe.intOf,Pe.iop,Pe.sop,hr,hrl',hur,hurl',dn]
    refine Lfp.inv call_le noY_le (fun i : Nat => ⟨⟨(.dead :: .dead :: .dead :: .dead :: .dead :: .dead :: .dead :: .dead :: .dead :: s :: iV a :: u :: iV i :: .dead :: .dead :: .dead :: .dead :: .dead :: .dead :: .dead :: .dead :: .dead :: .dead :: .dead :: .dead :: .dead :: .dead :: .dead :: .dead :: .dead :: .dead :: .dead :: .dead :: .dead :: .dead :: .dead :: .dead :: .dead :: .dead :: .dead :: .dead :: .dead :: .dead :: .dead :: .dead :: .dead :: .dead :: .dead :: .dead :: .dead :: .dead :: .dead :: .dead :: .dead :: .dead :: .dead :: .dead :: .dead :: .dead :: .dead :: .dead :: .dead :: .dead :: .dead :: .dead :: .dead :: .dead :: .dead :: .dead :: .dead :: .dead :: .dead :: []),[]⟩,[]⟩) (fun i => S.length - i) (fun i => i ≤ S.length) 0 (Nat.zero_le _) (by simp only [kill_L,killTs_nil,RUF] <;> rfl) ?_
    intro i hi
    have hw1 : IntKind.i64.wrap ((i : Int) + 1) = ((i + 1 : Nat) : Int) := wrap_succ (by omega)
    by_cases hlt : i < S.length
    · have hd1 : decide ((i : Int) < (S.length : Int)) = true := by simpa using hlt
      by_cases hia : i = a
      · have hd2 : (!decide ((i : Int) = (a : Int))) = false := by subst hia; simp
        simp only [c4,c4x1,c4x2,c4x3,c4x4,c4x5,c4x6,c4x7,c4x8,c4x9,c4x10,c4x11,c4x12,c4x13,c4x14,c4x15,c4x16,c4x17,c4x18,c4x19,c4x20,c4x21,c4x22,RUA,RUB,RUC,RUD,RUE,RUF,if_true,if_false,ite_true,ite_false,Int.reduceEq,Int.reduceLT,Int.reduceLE,putCells,bslOf,bsaOf,bslS,isUpto,Nat.reduceEqDiff,Pe.step,E.at,List.replicate,Nat.reduceAdd,Nat.reduceSub,Nat.reduceLeDiff,Nat.reduceMul,Pe.intOf,Pe.iop,Pe.sop,hr,hrl',hd1,hd2,hw1]
        exact ⟨i + 1,by omega,by omega,rfl⟩
      · have hd2 : (!decide ((i : Int) = (a : Int))) = true := by simp; omega
        obtain ⟨r1,w1',ws1,v1,hx,hwc,u1,u2,u3⟩ := hS.row hlt
        obtain ⟨r2,w2',ws2,v2,hx2,hwc2,y1,y2,y3⟩ := hu.row (a := i) (by simpa using hlt)
        rw [gD_set la',if_neg (Ne.symm hia)] at y3
        have hI := fun o => v1.ix o hx
        have hJ := fun o => v2.ix o hx2
        simp only [c4,c4x1,c4x2,c4x3,c4x4,c4x5,c4x6,c4x7,c4x8,c4x9,c4x10,c4x11,c4x12,c4x13,c4x14,c4x15,c4x16,c4x17,c4x18,c4x19,RUA,RUB,RUC,RUD,RUE,RUF,if_true,if_false,ite_true,ite_false,Int.reduceEq,Int.reduceLT,Int.reduceLE,putCells,bslOf,bsaOf,bslS,isUpto,Nat.reduceEqDiff,Pe.step,E.at,List.replicate,Nat.reduceAdd,Nat.reduceSub,Nat.reduceLeDiff,Nat.reduceMul,Pe.intOf,Pe.iop,Pe.sop,hr,hrl',hd1,hd2,hI,hJ,hwc,hwc2]
        refine (rows_p ⟨ws2,y1,y2,y3⟩ ⟨ws1,u1,u2,u3⟩).callE rfl (cf2 y1.freeV u1.freeV _) rfl ?_
        simp only [c4,c4x1,c4x2,c4x3,c4x4,c4x5,c4x6,c4x7,c4x8,c4x9,c4x10,c4x11,c4x12,c4x13,c4x14,c4x15,c4x16,c4x17,c4x18,c4x19,c4x20,c4x21,c4x22,RUA,RUB,RUC,RUD,RUE,RUF,if_true,if_false,ite_true,ite_false,Int.reduceEq,Int.reduceLT,Int.reduceLE,putCells,bslOf,bsaOf,bslS,isUpto,Nat.reduceEqDiff,Pe.step,E.at,List.replicate,Nat.reduceAdd,Nat.reduceSub,Nat.reduceLeDiff,Nat.reduceMul,Pe.intOf,Pe.iop,Pe.sop,hw1]
        exact ⟨i + 1,by omega,by omega,rfl⟩
    · have hd1 : decide ((i : Int) < (S.length : Int)) = false := by simpa using hlt
      simp only [c4,c4x1,c4x2,c4x3,c4x4,c4x5,c4x6,c4x7,c4x8,c4x9,c4x10,c4x11,c4x12,c4x13,c4x14,c4x15,c4x16,c4x17,c4x18,c4x19,c4x20,c4x21,c4x22,RUA,RUB,RUC,RUD,RUE,RUF,if_true,if_false,ite_true,ite_false,Int.reduceEq,Int.reduceLT,Int.reduceLE,putCells,bslOf,bsaOf,bslS,isUpto,Nat.reduceEqDiff,Pe.step,E.at,List.replicate,Nat.reduceAdd,Nat.reduceSub,Nat.reduceLeDiff,Nat.reduceMul,Pe.intOf,Pe.iop,Pe.sop,hr,hrl',hd1]
  have hk3 : k = 0 ∨ k = 1 ∨ k = 2 := by omega
  rcases hk3 with rfl | rfl | rfl
  · simp only [c4,c4x1,c4x2,c4x3,c4x4,c4x5,c4x6,c4x7,c4x8,c4x9,c4x10,c4x11,c4x12,RUA,RUB,RUC,RUD,RUE,RUF,if_true,if_false,ite_true,ite_false,Int.reduceEq,Int.reduceLT,Int.reduceLE,putCells,bslOf,bsaOf,bslS,isUpto,Nat.reduceEqDiff,Pe.step,E.at,List.replicate,Nat.reduceAdd,Nat.reduceSub,Nat.reduceLeDiff,Nat.reduceMul,Pe.intOf,Pe.iop,Pe.sop,fillC]
    refine (push_ok (at' := a) hS zeroTm la' (fun r hr => by have := hS5 r hr; unfold cap; omega)).callF rfl (vfrt hS _ rfl) fun u hu => ?_
    try simp only [c4,c4x1,c4x2,c4x3,c4x4,c4x5,c4x6,c4x7,c4x8,c4x9,c4x10,c4x11,c4x12,RUA,RUB,RUC,RUD,RUE,RUF,if_true,if_false,ite_true,ite_false,Int.reduceEq,Int.reduceLT,Int.reduceLE,putCells,bslOf,bsaOf,bslS,isUpto,Nat.reduceEqDiff,Pe.step,E.at,List.replicate,Nat.reduceAdd,Nat.reduceSub,Nat.reduceLeDiff,Nat.reduceMul,Pe.intOf,Pe.iop,Pe.sop]
    exact fin u _ hu _ _ _ _ _ _ _ _ _ _ _ _ _ _ _ _ _ _ _ _ _ _ _ _ _ _ _ _ _ _ _ _ _ _ _ _ _ _ _ _ _ _ _ _ _ _ _ _ _ _ _ _ _ _ _ _ _ _ _ _ _ _ _ _ _ _ _ _
  · simp only [c4,c4x1,c4x2,c4x3,c4x4,c4x5,c4x6,c4x7,c4x8,c4x9,c4x10,c4x11,c4x12,RUA,RUB,RUC,RUD,RUE,RUF,if_true,if_false,ite_true,ite_false,Int.reduceEq,Int.reduceLT,Int.reduceLE,putCells,bslOf,bsaOf,bslS,isUpto,Nat.reduceEqDiff,Pe.step,E.at,List.replicate,Nat.reduceAdd,Nat.reduceSub,Nat.reduceLeDiff,Nat.reduceMul,Pe.intOf,Pe.iop,Pe.sop]
    refine (reverse_ok hS la').callF rfl (vfr hS _) fun z hz => ?_
    obtain ⟨t,r,rfl,ht,hu⟩ := hz
    simp only [c4,c4x1,c4x2,c4x3,c4x4,c4x5,c4x6,c4x7,c4x8,c4x9,c4x10,c4x11,c4x12,RUA,RUB,RUC,RUD,RUE,RUF,if_true,if_false,ite_true,ite_false,Int.reduceEq,Int.reduceLT,Int.reduceLE,putCells,bslOf,bsaOf,bslS,isUpto,Nat.reduceEqDiff,Pe.step,E.at,List.replicate,Nat.reduceAdd,Nat.reduceSub,Nat.reduceLeDiff,Nat.reduceMul,Pe.intOf,Pe.iop,Pe.sop]
    exact fin r _ hu _ _ _ _ _ _ _ _ _ _ _ _ _ _ _ _ _ _ _ _ _ _ _ _ _ _ _ _ _ _ _ _ _ _ _ _ _ _ _ _ _ _ _ _ _ _ _ _ _ _ _ _ _ _ _ _ _ _ _ _ _ _ _ _ _ _ _ _
  · simp only [c4,c4x1,c4x2,c4x3,c4x4,c4x5,c4x6,c4x7,c4x8,c4x9,c4x10,c4x11,c4x12,RUA,RUB,RUC,RUD,RUE,RUF,if_true,if_false,ite_true,ite_false,Int.reduceEq,Int.reduceLT,Int.reduceLE,putCells,bslOf,bsaOf,bslS,isUpto,Nat.reduceEqDiff,Pe.step,E.at,List.replicate,Nat.reduceAdd,Nat.reduceSub,Nat.reduceLeDiff,Nat.reduceMul,Pe.intOf,Pe.iop,Pe.sop]
    refine (accept_ok hS la').callF rfl (vfr hS _) fun u hu => ?_
    try simp only [c4,c4x1,c4x2,c4x3,c4x4,c4x5,c4x6,c4x7,c4x8,c4x9,c4x10,c4x11,c4x12,RUA,RUB,RUC,RUD,RUE,RUF,if_true,if_false,ite_true,ite_false,Int.reduceEq,Int.reduceLT,Int.reduceLE,putCells,bslOf,bsaOf,bslS,isUpto,Nat.reduceEqDiff,Pe.step,E.at,List.replicate,Nat.reduceAdd,Nat.reduceSub,Nat.reduceLeDiff,Nat.reduceMul,Pe.intOf,Pe.iop,Pe.sop]
    exact fin u _ hu _ _ _ _ _ _ _ _ _ _ _ _ _ _ _ _ _ _ _ _ _ _ _ _ _ _ _ _ _ _ _ _ _ _ _ _ _ _ _ _ _ _ _ _ _ _ _ _ _ _ _ _ _ _ _ _ _ _ _ _ _ _ _ _ _ _ _ _
end Go.Proofs.Ytfncfdiomolieaa
end

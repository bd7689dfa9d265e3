/- Parts of the texts that the claim's proof needs. Conditions: those that its theorems state. -/
import Derived.Test.YtfncfdiomolieaaTG
section
set_option linter.unusedVariables false
set_option maxRecDepth 100000
namespace Go.Proofs.Ytfncfdiomolieaa
open Go.Proofs.Pe
theorem t10 : T.cf 10 = some c10 := rfl
theorem t16 : T.cf 16 = some c16 := rfl
theorem t19 : T.cf 19 = some c19 := rfl
end Go.Proofs.Ytfncfdiomolieaa
end

section
set_option linter.unusedVariables false
set_option linter.unusedSimpArgs false
set_option maxHeartbeats 1000000
namespace Go.Proofs.Ytfncfdiomolieaa
open Go.Proofs.Pe

theorem accept_ok {v : V} {S : List (List Tm)} {at' : Nat} (hv : IsStk S v) (ha : at' < S.length) : PFn Try.prog T 19 [v,iV at'] (IsStk (S.set at' [])) := by
  obtain ⟨rows,v1,v2,v3⟩ := hv
  have hlen := v3.len
  intro yi hy
  refine Call.step hy ?_
  rw [body_eq t19]
  simp only [c19,c19x1,c19x2,RUA,RUB,RUC,RUD,RUE,RUF,if_true,if_false,ite_true,ite_false,Int.reduceEq,Int.reduceLT,Int.reduceLE,putCells,bslOf,bsaOf,bslS,isUpto,Nat.reduceEqDiff,Pe.step,E.at,List.replicate,Nat.reduceAdd,Nat.reduceSub,Nat.reduceLeDiff,Nat.reduceMul,Pe.intOf,Pe.iop,Pe.sop]
  refine call3 rfl (cm_free v1.freeV cm_nil) (own_c v1 v3 v2 noY_le fun z o1 hf hN => ⟨hf.sim, ?_⟩)
  rcases hN with ⟨_,h0⟩ | ⟨L,v,ws,rfl,hL,hn,hLo,hne⟩
  · rw [h0] at ha; simp at ha
  have hwl := hn.len
  have hrow : rowOf o1 (.ar L v) = some ws := by simp only [rowOf,hL,if_true]
  refine call4 rfl (is_c hrow (by omega) hy ?_)
  have haw : at' < ws.length := by omega
  have hx : ws[at']? = some ws[at'] := List.getElem?_eq_getElem haw
  have hSx : S[at']? = some S[at'] := List.getElem?_eq_getElem ha
  obtain ⟨us,r1,_⟩ := hn.row at' _ _ hx hSx
  generalize hgw : ws[at'] = w at hx r1
  have hI : ixOf 1 o1 (.ar L v) (iV at') = some (.pa L v at' 0,o1) := by simp [ixOf,intOf,hL,haw]
  have hwc : w.cells.length = 1 := by rw [r1.solid.2.1]; rfl
  simp only [c19,c19x1,c19x2,c19x3,c19x4,RUA,RUB,RUC,RUD,RUE,RUF,if_true,if_false,ite_true,ite_false,Int.reduceEq,Int.reduceLT,Int.reduceLE,putCells,bslOf,bsaOf,bslS,isUpto,Nat.reduceEqDiff,Pe.step,E.at,List.replicate,Nat.reduceAdd,Nat.reduceSub,Nat.reduceLeDiff,Nat.reduceMul,Pe.intOf,Pe.iop,Pe.sop,hI,hL,hx,hwc]
  exact nest_frz (get_set hL) (hn.empty (v' := 0) hL ha) (by simp; rw [← hlen]; exact v2)
def zTm : Tm := .mk 0 0 0 (ByteArray.mk #[]) (.mk 0 0 (ByteArray.mk #[]) []) []
def seqT (x y : Tm) : Tm := .mk 12 0 0 (ByteArray.mk #[]) (.mk 0 0 (ByteArray.mk #[]) []) [x,y]
def revT : List Tm → Tm
  | [] => zTm
  | x :: l => l.foldl (fun acc t => seqT t acc) x
theorem revT_snoc (l : List Tm) (x : Tm) : revT (l ++ [x]) = if l = [] then x else seqT x (revT l) := by
  cases l with
  | nil => rfl
  | cons a l => simp [revT,List.foldl_append]
theorem reverse_ok {v : V} {S : List (List Tm)} {at' : Nat} (hv : IsStk S v) (ha : at' < S.length) :
    PFn Try.prog T 16 [v,iV at'] fun z => ∃ t r,z = .tup [t,r] ∧ IsTm (revT (S.getD at' [])) t ∧ IsStk (S.set at' []) r := by
  have hv' := hv
  obtain ⟨rows,v1,v2,v3⟩ := hv
  have hlen := v3.len
  intro yi hy
  refine Call.step hy ?_
  rw [body_eq t16]
  simp only [c16,c16x1,RUA,RUB,RUC,RUD,RUE,RUF,if_true,if_false,ite_true,ite_false,Int.reduceEq,Int.reduceLT,Int.reduceLE,putCells,bslOf,bsaOf,bslS,isUpto,Nat.reduceEqDiff,Pe.step,E.at,List.replicate,Nat.reduceAdd,Nat.reduceSub,Nat.reduceLeDiff,Nat.reduceMul,Pe.intOf,Pe.iop,Pe.sop]
  have har : at' < rows.length := by omega
  refine call4 rfl (is_c (v1.row _) har hy ?_)
  have hx : rows[at']? = some rows[at'] := List.getElem?_eq_getElem har
  have hSx : S[at']? = some S[at'] := List.getElem?_eq_getElem ha
  have hgd : S.getD at' [] = S[at'] := by rw [List.getD_eq_getElem?_getD,hSx]; rfl
  obtain ⟨us,r1,r2,r3⟩ := v3.get hx hSx
  generalize hgw : rows[at'] = w at hx r1
  generalize S[at'] = ts at hSx hgd r3
  have hI := fun o => v1.ix o hx
  have hC := r1.cells
  have hlu := r3.len
  rw [hgd]
  simp only [c16,c16x1,c16x2,c16x3,c16x4,RUA,RUB,RUC,RUD,RUE,RUF,if_true,if_false,ite_true,ite_false,Int.reduceEq,Int.reduceLT,Int.reduceLE,putCells,bslOf,bsaOf,bslS,isUpto,Nat.reduceEqDiff,Pe.step,E.at,List.replicate,Nat.reduceAdd,Nat.reduceSub,Nat.reduceLeDiff,Nat.reduceMul,Pe.intOf,Pe.iop,Pe.sop,hI,hC,r1.row]
  refine Lfp.inv call_le hy (fun a : Nat × List O => ⟨⟨[v,iV at',.dead,.dead,.pt 0 0,.dead,.pt 1 0,.dead,.dead,.dead,.dead,.dead,.dead,.dead,.dead,w,iV us.length,iV a.1,.dead,.dead,.dead,.dead,.dead,.dead,.dead,.dead,.dead,.dead,.dead,.dead,.dead,.dead,.dead,.dead,.dead,.dead],a.2⟩,[]⟩) (fun a => us.length - a.1)
    (fun a => a.1 ≤ us.length ∧ a.2[0]? = some (.cells [iV 0,iV 0,iV 0,sV (ByteArray.mk #[]),iV 0,iV 0,sV (ByteArray.mk #[]),nilV,nilV]) ∧ ∃ cs,a.2[1]? = some (.cells cs) ∧ IsTm (revT (ts.take a.1)) (.agg cs))
    (0,[.cells [iV 0,iV 0,iV 0,sV (ByteArray.mk #[]),iV 0,iV 0,sV (ByteArray.mk #[]),nilV,nilV],.cells [iV 0,iV 0,iV 0,sV (ByteArray.mk #[]),iV 0,iV 0,sV (ByteArray.mk #[]),nilV,nilV]]) ⟨Nat.zero_le _,rfl,_,rfl,zeroTm⟩ (by simp only [kill_L,killTs_nil,RUF] <;> rfl) ?_
  rintro ⟨i,o'⟩ ⟨hi,h0,cs,h1,hT⟩
  dsimp only at hi h0 h1 hT
  have hTok := hT.ok
  have hl2 : 1 < o'.length := get_lt h1
  by_cases hlt : i < us.length
  · have hd1 : decide ((i : Int) < (us.length : Int)) = true := by simpa using hlt
    have hxu : us[i]? = some us[i] := List.getElem?_eq_getElem hlt
    have hlx : i < ts.length := by omega
    have hxl : ts[i]? = some ts[i] := List.getElem?_eq_getElem hlx
    have hE := r3.get hxu hxl
    have hE' := hE
    generalize hgv : us[i] = u at hxu hE hE'
    generalize hgx : ts[i] = x at hxl hE hE'
    have hok := hE.ok
    rcases x with ⟨k,a,b,s,⟨ek,en,em,el⟩,xl⟩
    obtain ⟨ev,evs,lv,us',rfl,he0,_,_,he1,he2,he3⟩ := hE
    have hone0 : ev.one = true := free1_one he0.free
    have hone : lv.one = true := free1_one he1.free
    have hI2 := fun o => r1.ix o hxu
    have hw1 : IntKind.i64.wrap ((i : Int) + 1) = ((i + 1 : Nat) : Int) := wrap_succ (by unfold cap at r2; omega)
    have htk : ts.take (i + 1) = ts.take i ++ [.mk k a b s (.mk ek en em el) xl] := by rw [List.take_add_one,hxl]; rfl
    generalize hrt : revT (ts.take i) = acc at hT
    rcases acc with ⟨k',a',b',s',⟨ek',en',em',el'⟩,xl'⟩
    have hT' := hT
    obtain ⟨ev',evs',lv',us'',hcs,hf0,_,_,hf1,hf2,hf3⟩ := hT
    cases hcs
    have hone2 : ev'.one = true := free1_one hf0.free
    have hone3 : lv'.one = true := free1_one hf1.free
    have hA : ∀ b,(o' ++ [b])[1]? = some (.cells [iV k',iV a',iV b',sV s',iV ek',iV en',sV em',ev',lv']) := fun b => get_app h1
    have hB : ∀ b,(o' ++ [b])[0]? = some (.cells [iV 0,iV 0,iV 0,sV (ByteArray.mk #[]),iV 0,iV 0,sV (ByteArray.mk #[]),nilV,nilV]) := fun b => get_app h0
    have hts : i ≠ 0 → ts.take i ≠ [] := fun h e => by
      have : (ts.take i).length = 0 := by rw [e]; rfl
      rw [List.length_take] at this; omega
    by_cases hz : i = 0
    · have hd2 : decide ((i : Int) = 0) = true := by simp [hz]
      simp only [c16,c16x1,c16x2,c16x3,c16x4,c16x5,c16x6,c16x7,c16x8,c16x9,c16x10,c16x11,RUA,RUB,RUC,RUD,RUE,RUF,if_true,if_false,ite_true,ite_false,Int.reduceEq,Int.reduceLT,Int.reduceLE,putCells,bslOf,bsaOf,bslS,isUpto,Nat.reduceEqDiff,Pe.step,E.at,List.replicate,Nat.reduceAdd,Nat.reduceSub,Nat.reduceLeDiff,Nat.reduceMul,Pe.intOf,Pe.iop,Pe.sop,hd1,hI2,hone,hone0,hd2]
      refine (ownTm _ hE').callF rfl (by simpa using hok.1) fun z hzt => ?_
      have hzt' := hzt
      obtain ⟨ev2,evs2,lv2,us2,rfl,hg0,_,_,hg1,hg2,hg3⟩ := hzt
      have hone4 : ev2.one = true := free1_one hg0.free
      have hone5 : lv2.one = true := free1_one hg1.free
      simp only [c16,c16x1,c16x2,c16x3,c16x4,c16x5,c16x6,c16x7,c16x8,c16x9,c16x10,c16x11,RUA,RUB,RUC,RUD,RUE,RUF,if_true,if_false,ite_true,ite_false,Int.reduceEq,Int.reduceLT,Int.reduceLE,putCells,bslOf,bsaOf,bslS,isUpto,Nat.reduceEqDiff,Pe.step,E.at,List.replicate,Nat.reduceAdd,Nat.reduceSub,Nat.reduceLeDiff,Nat.reduceMul,Pe.intOf,Pe.iop,Pe.sop,hone4,hone5,hA,hw1]
      refine ⟨(i + 1,_),⟨by simp only; omega, ?_,_,get_set (hA _), ?_⟩,by simp only; omega,rfl⟩
      · exact get_set_ne (hB _) (by omega)
      · show IsTm (revT (ts.take (i + 1))) _
        rw [htk,hz]; exact hzt'
    · have hd2 : decide ((i : Int) = 0) = false := by simpa using hz
      have hfr0 := hf0.free
      have hfr1 := hf1.free
      simp only [c16,c16x1,c16x2,c16x3,c16x4,c16x5,c16x6,c16x7,c16x8,c16x9,c16x10,c16x11,RUA,RUB,RUC,RUD,RUE,RUF,if_true,if_false,ite_true,ite_false,Int.reduceEq,Int.reduceLT,Int.reduceLE,putCells,bslOf,bsaOf,bslS,isUpto,Nat.reduceEqDiff,Pe.step,E.at,List.replicate,Nat.reduceAdd,Nat.reduceSub,Nat.reduceLeDiff,Nat.reduceMul,Pe.intOf,Pe.iop,Pe.sop,hd1,hI2,hone,hone0,hd2,hA,hfr0,hfr1]
      refine (ownTm _ hE').callF rfl (by simpa using hok.1) fun z hzt => ?_
      have hzk := hzt.ok
      have hz9 : decide (z.cells.length = 9) = true := by simpa using hzk.2
      simp only [c16,c16x1,c16x2,c16x3,c16x4,c16x5,c16x6,c16x7,c16x8,c16x9,c16x10,c16x11,RUA,RUB,RUC,RUD,RUE,RUF,if_true,if_false,ite_true,ite_false,Int.reduceEq,Int.reduceLT,Int.reduceLE,putCells,bslOf,bsaOf,bslS,isUpto,Nat.reduceEqDiff,Pe.step,E.at,List.replicate,Nat.reduceAdd,Nat.reduceSub,Nat.reduceLeDiff,Nat.reduceMul,Pe.intOf,Pe.iop,Pe.sop,hzk.1,hz9,hA,hw1,fillC]
      refine ⟨(i + 1,_),⟨by simp only; omega, ?_,_,get_set (hA _), ?_⟩,by simp only; omega,rfl⟩
      · exact get_set_ne (hB _) (by omega)
      · show IsTm (revT (ts.take (i + 1))) _
        rw [htk,revT_snoc,if_neg (hts hz),hrt]
        exact ⟨nilV,[],.sl 9 true [z,_],[z,_],rfl,.inl ⟨rfl,rfl⟩,by simp,rfl,.inr ⟨_,rfl⟩,by simp [cap],z,_,rfl,hzt,_,_,rfl,hT',rfl⟩
  · have hd1 : decide ((i : Int) < (us.length : Int)) = false := by simpa using hlt
    have hi' : ts.take i = ts := List.take_of_length_le (by omega)
    rw [hi'] at hT
    generalize hrt : revT ts = acc at hT
    rcases acc with ⟨k',a',b',s',⟨ek',en',em',el'⟩,xl'⟩
    have hT' := hT
    obtain ⟨ev',evs',lv',us'',hcs,hf0,_,_,hf1,hf2,hf3⟩ := hT
    cases hcs
    have hone2 : ev'.one = true := free1_one hf0.free
    have hone3 : lv'.one = true := free1_one hf1.free
    simp only [c16,c16x1,c16x2,c16x3,c16x4,c16x5,c16x6,c16x7,c16x8,c16x9,c16x10,c16x11,RUA,RUB,RUC,RUD,RUE,RUF,if_true,if_false,ite_true,ite_false,Int.reduceEq,Int.reduceLT,Int.reduceLE,putCells,bslOf,bsaOf,bslS,isUpto,Nat.reduceEqDiff,Pe.step,E.at,List.replicate,Nat.reduceAdd,Nat.reduceSub,Nat.reduceLeDiff,Nat.reduceMul,Pe.intOf,Pe.iop,Pe.sop,hd1,h1]
    refine (accept_ok hv' ha).callF rfl (fun x hx => by simp only [List.mem_cons,List.not_mem_nil,or_false] at hx; rcases hx with rfl | rfl <;> first | exact v1.freeV | rfl) fun z hz => ?_
    have hg0 : ∀ b,(o'.set 0 b)[0]? = some b := fun b => get_set h0
    simp only [c16,c16x1,c16x2,c16x3,c16x4,c16x5,c16x6,c16x7,c16x8,c16x9,c16x10,c16x11,RUA,RUB,RUC,RUD,RUE,RUF,if_true,if_false,ite_true,ite_false,Int.reduceEq,Int.reduceLT,Int.reduceLE,putCells,bslOf,bsaOf,bslS,isUpto,Nat.reduceEqDiff,Pe.step,E.at,List.replicate,Nat.reduceAdd,Nat.reduceSub,Nat.reduceLeDiff,Nat.reduceMul,Pe.intOf,Pe.iop,Pe.sop,h0,hone2,hone3,hg0,rets]
    exact ⟨_,_,frzT_tup hT'.ok.1 hz.freeV,_,_,rfl,hT',hz⟩
end Go.Proofs.Ytfncfdiomolieaa
end

section
set_option linter.unusedVariables false
set_option linter.unusedSimpArgs false
set_option maxRecDepth 100000
set_option maxHeartbeats 8000000
namespace Go.Proofs.Ytfncfdiomolieaa
open Go.Proofs.Pe

theorem mrg_again {S : List (List Pe.Tm)} {a b : Nat} (ha : a < S.length) (hb : b < S.length) : mrg (mrg S a b) a b = mrg S a b := by
  refine ext_gD (by rw [mrg_len]) fun i hi => ?_
  rw [mrg_gD (by rw [mrg_len]; exact ha) (by rw [mrg_len]; exact hb),mrg_gD ha hb,mrg_gD ha hb,mrg_gD ha hb]
  by_cases e : a = b
  · subst e; simp
  · have e2 : ¬ b = a := fun h => e h.symm
    by_cases h1 : i = a
    · subst h1; simp [e]
    · by_cases h2 : i = b
      · subst h2; simp [e,e2]
      · simp [e,h1,h2]
end Go.Proofs.Ytfncfdiomolieaa
end
section
set_option linter.unusedVariables false
set_option linter.unusedSimpArgs false
set_option maxRecDepth 100000
set_option maxHeartbeats 8000000
namespace Go.Proofs.Ytfncfdiomolieaa
open Go.Proofs.Pe
theorem stacksTwice_call (x : V) (w : ∃ n,VT Try.prog n 35 [x]) (n : Int) (w1 : (Lit.int .i64 n).wf = true) (p : Int) (w2 : (Lit.int .i64 p).wf = true) (q : Int) (w3 : (Lit.int .i64 q).wf = true) : Pe.Call Try.prog T noY 10 [x,.sc (.int .i64 n),.sc (.int .i64 p),.sc (.int .i64 q)] [] (fun y _ => y = .sc (.bool true)) := by
  obtain ⟨m,hm⟩ := w
  obtain ⟨l,vs,h1,h3,h2⟩ := (r3_of rT m).2 x hm
  refine Call.step noY_le ?_
  rw [body_eq t10]
  try simp only [c10,c10x1,c10x2,RUA,RUB,RUC,RUD,RUE,RUF,if_true,if_false,ite_true,ite_false,Int.reduceEq,Int.reduceLT,Int.reduceLE,putCells,bslOf,bsaOf,bslS,isUpto,Nat.reduceEqDiff,Pe.step,E.at,List.replicate,Nat.reduceAdd,Nat.reduceSub,Nat.reduceLeDiff,Nat.reduceMul,Pe.intOf,Pe.iop,Pe.sop]
  refine known6_p.callE rfl rfl rfl ?_
  try simp only [c10,c10x1,c10x2,c10x3,RUA,RUB,RUC,RUD,RUE,RUF,if_true,if_false,ite_true,ite_false,Int.reduceEq,Int.reduceLT,Int.reduceLE,putCells,bslOf,bsaOf,bslS,isUpto,Nat.reduceEqDiff,Pe.step,E.at,List.replicate,Nat.reduceAdd,Nat.reduceSub,Nat.reduceLeDiff,Nat.reduceMul,Pe.intOf,Pe.iop,Pe.sop]
  refine (few_p h1 h3 h2).callB rfl (cf1 h1.freeV _) (fun z hz => by obtain ⟨b,rfl,_⟩ := hz; rfl) fun z hz => ?_
  obtain ⟨b,rfl,hb⟩ := hz
  cases b with
  | false => simp only [c10,c10x1,c10x2,c10x3,c10x4,RUA,RUB,RUC,RUD,RUE,RUF,if_true,if_false,ite_true,ite_false,Int.reduceEq,Int.reduceLT,Int.reduceLE,putCells,bslOf,bsaOf,bslS,isUpto,Nat.reduceEqDiff,Pe.step,E.at,List.replicate,Nat.reduceAdd,Nat.reduceSub,Nat.reduceLeDiff,Nat.reduceMul,Pe.intOf,Pe.iop,Pe.sop]
  | true =>
  try simp only [c10,c10x1,c10x2,c10x3,c10x4,c10x5,RUA,RUB,RUC,RUD,RUE,RUF,if_true,if_false,ite_true,ite_false,Int.reduceEq,Int.reduceLT,Int.reduceLE,putCells,bslOf,bsaOf,bslS,isUpto,Nat.reduceEqDiff,Pe.step,E.at,List.replicate,Nat.reduceAdd,Nat.reduceSub,Nat.reduceLeDiff,Nat.reduceMul,Pe.intOf,Pe.iop,Pe.sop]
  refine (make6_p h1 h3 (hb rfl) n).callF rfl (fun x hx => by simp only [List.mem_cons,List.not_mem_nil,or_false] at hx; rcases hx with rfl | rfl <;> first | exact h1.freeV | rfl) fun s hs => ?_
  obtain ⟨S,hS,hS1,hS3,hS5⟩ := hs
  have G : Stk3 S s := ⟨hS,hS1,hS3,hS5⟩
  obtain ⟨rows,hr,hrl⟩ := hS.len
  have hrl' : (rows.length : Int) = (S.length : Int) := by omega
  have c5 := G.get
  try simp only [c10,c10x1,c10x2,c10x3,c10x4,c10x5,c10x6,RUA,RUB,RUC,RUD,RUE,RUF,if_true,if_false,ite_true,ite_false,Int.reduceEq,Int.reduceLT,Int.reduceLE,putCells,bslOf,bsaOf,bslS,isUpto,Nat.reduceEqDiff,Pe.step,E.at,List.replicate,Nat.reduceAdd,Nat.reduceSub,Nat.reduceLeDiff,Nat.reduceMul,Pe.intOf,Pe.iop,Pe.sop,hr,hrl']
  refine (within6_p p (S.length : Int) (by omega) (by omega)).callE rfl rfl rfl ?_
  obtain ⟨a,ha,la⟩ := natI (a := p) (n := (S.length : Int)) (by omega)
  rw [ha]
  have la' : a < S.length := by omega
  try simp only [c10,c10x1,c10x2,c10x3,c10x4,c10x5,c10x6,RUA,RUB,RUC,RUD,RUE,RUF,if_true,if_false,ite_true,ite_false,Int.reduceEq,Int.reduceLT,Int.reduceLE,putCells,bslOf,bsaOf,bslS,isUpto,Nat.reduceEqDiff,Pe.step,E.at,List.replicate,Nat.reduceAdd,Nat.reduceSub,Nat.reduceLeDiff,Nat.reduceMul,Pe.intOf,Pe.iop,Pe.sop,hr,hrl']
  refine (within6_p q (S.length : Int) (by omega) (by omega)).callE rfl rfl rfl ?_
  obtain ⟨b,hb,lb⟩ := natI (a := q) (n := (S.length : Int)) (by omega)
  rw [hb]
  have lb' : b < S.length := by omega
  try simp only [c10,c10x1,c10x2,c10x3,c10x4,c10x5,c10x6,c10x7,RUA,RUB,RUC,RUD,RUE,RUF,if_true,if_false,ite_true,ite_false,Int.reduceEq,Int.reduceLT,Int.reduceLE,putCells,bslOf,bsaOf,bslS,isUpto,Nat.reduceEqDiff,Pe.step,E.at,List.replicate,Nat.reduceAdd,Nat.reduceSub,Nat.reduceLeDiff,Nat.reduceMul,Pe.intOf,Pe.iop,Pe.sop,hr,hrl']
  refine (accept_ok hS la').callF rfl (vfr hS _) fun x hx => ?_
  have hset2 : (S.set a []).set a [] = S.set a [] := by simp
  have hla2 : a < (S.set a []).length := by simpa using la'
  have hg0 : (S.set a []).getD a [] = [] := by rw [gD_set la',if_pos rfl]
  try simp only [c10,c10x1,c10x2,c10x3,c10x4,c10x5,c10x6,c10x7,c10x8,RUA,RUB,RUC,RUD,RUE,RUF,if_true,if_false,ite_true,ite_false,Int.reduceEq,Int.reduceLT,Int.reduceLE,putCells,bslOf,bsaOf,bslS,isUpto,Nat.reduceEqDiff,Pe.step,E.at,List.replicate,Nat.reduceAdd,Nat.reduceSub,Nat.reduceLeDiff,Nat.reduceMul,Pe.intOf,Pe.iop,Pe.sop]
  refine (reverse_ok hS la').callF rfl (vfr hS _) fun z hz => ?_
  obtain ⟨t0,y,rfl,ht0,hy⟩ := hz
  have ht0' := ht0
  obtain ⟨k0,a0,b0,nm0,ek0,en0,em0,ev0,lv0,rfl,o1,o2,_,_⟩ := tmA ht0
  try simp only [c10,c10x1,c10x2,c10x3,c10x4,c10x5,c10x6,c10x7,c10x8,c10x9,RUA,RUB,RUC,RUD,RUE,RUF,if_true,if_false,ite_true,ite_false,Int.reduceEq,Int.reduceLT,Int.reduceLE,putCells,bslOf,bsaOf,bslS,isUpto,Nat.reduceEqDiff,Pe.step,E.at,List.replicate,Nat.reduceAdd,Nat.reduceSub,Nat.reduceLeDiff,Nat.reduceMul,Pe.intOf,Pe.iop,Pe.sop,o1,o2]
  refine (reverse_ok hy hla2).callF rfl (vfr hy _) fun z hz => ?_
  obtain ⟨t1,zz,rfl,ht1,hzz⟩ := hz
  rw [hg0] at ht1
  rw [hset2] at hzz
  obtain ⟨e0,e0s,l0,l0s,rfl,f1,f2,f3,f4,f5,f6⟩ := ht1
  have o3 : e0.one = true := free1_one f1.free
  have o4 : l0.one = true := free1_one f4.free
  try simp only [c10,c10x1,c10x2,c10x3,c10x4,c10x5,c10x6,c10x7,c10x8,c10x9,c10x10,RUA,RUB,RUC,RUD,RUE,RUF,if_true,if_false,ite_true,ite_false,Int.reduceEq,Int.reduceLT,Int.reduceLE,putCells,bslOf,bsaOf,bslS,isUpto,Nat.reduceEqDiff,Pe.step,E.at,List.replicate,Nat.reduceAdd,Nat.reduceSub,Nat.reduceLeDiff,Nat.reduceMul,Pe.intOf,Pe.iop,Pe.sop,o3,o4]
  refine (merge2_ok hS la' lb' (by have := c5 a; have := c5 b; unfold cap; omega)).callF rfl (vfr3 hS _ _) fun u hu => ?_
  try simp only [c10,c10x1,c10x2,c10x3,c10x4,c10x5,c10x6,c10x7,c10x8,c10x9,c10x10,c10x11,RUA,RUB,RUC,RUD,RUE,RUF,if_true,if_false,ite_true,ite_false,Int.reduceEq,Int.reduceLT,Int.reduceLE,putCells,bslOf,bsaOf,bslS,isUpto,Nat.reduceEqDiff,Pe.step,E.at,List.replicate,Nat.reduceAdd,Nat.reduceSub,Nat.reduceLeDiff,Nat.reduceMul,Pe.intOf,Pe.iop,Pe.sop]
  refine (accept_ok hx hla2).callF rfl (vfr hx _) fun x2 hx2 => ?_
  rw [hset2] at hx2
  try simp only [c10,c10x1,c10x2,c10x3,c10x4,c10x5,c10x6,c10x7,c10x8,c10x9,c10x10,c10x11,RUA,RUB,RUC,RUD,RUE,RUF,if_true,if_false,ite_true,ite_false,Int.reduceEq,Int.reduceLT,Int.reduceLE,putCells,bslOf,bsaOf,bslS,isUpto,Nat.reduceEqDiff,Pe.step,E.at,List.replicate,Nat.reduceAdd,Nat.reduceSub,Nat.reduceLeDiff,Nat.reduceMul,Pe.intOf,Pe.iop,Pe.sop]
  refine (sames_p hx2 hx).callE rfl (cf2 hx2.freeV hx.freeV _) rfl ?_
  try simp only [c10,c10x1,c10x2,c10x3,c10x4,c10x5,c10x6,c10x7,c10x8,c10x9,c10x10,c10x11,RUA,RUB,RUC,RUD,RUE,RUF,if_true,if_false,ite_true,ite_false,Int.reduceEq,Int.reduceLT,Int.reduceLE,putCells,bslOf,bsaOf,bslS,isUpto,Nat.reduceEqDiff,Pe.step,E.at,List.replicate,Nat.reduceAdd,Nat.reduceSub,Nat.reduceLeDiff,Nat.reduceMul,Pe.intOf,Pe.iop,Pe.sop]
  refine (sames_p hx hy).callE rfl (cf2 hx.freeV hy.freeV _) rfl ?_
  try simp only [c10,c10x1,c10x2,c10x3,c10x4,c10x5,c10x6,c10x7,c10x8,c10x9,c10x10,c10x11,RUA,RUB,RUC,RUD,RUE,RUF,if_true,if_false,ite_true,ite_false,Int.reduceEq,Int.reduceLT,Int.reduceLE,putCells,bslOf,bsaOf,bslS,isUpto,Nat.reduceEqDiff,Pe.step,E.at,List.replicate,Nat.reduceAdd,Nat.reduceSub,Nat.reduceLeDiff,Nat.reduceMul,Pe.intOf,Pe.iop,Pe.sop]
  refine (sames_p hzz hy).callE rfl (cf2 hzz.freeV hy.freeV _) rfl ?_
  have m5 : ∀ i,((mrg S a b).getD i []).length ≤ 10 := fun i => by
    rw [mrg_gD la' lb']
    have := c5 i; have := c5 a; have := c5 b
    repeat' split
    all_goals (try simp only [List.length_append,List.length_nil]) <;> omega
  try simp only [c10,c10x1,c10x2,c10x3,c10x4,c10x5,c10x6,c10x7,c10x8,c10x9,c10x10,c10x11,RUA,RUB,RUC,RUD,RUE,RUF,if_true,if_false,ite_true,ite_false,Int.reduceEq,Int.reduceLT,Int.reduceLE,putCells,bslOf,bsaOf,bslS,isUpto,Nat.reduceEqDiff,Pe.step,E.at,List.replicate,Nat.reduceAdd,Nat.reduceSub,Nat.reduceLeDiff,Nat.reduceMul,Pe.intOf,Pe.iop,Pe.sop]
  refine (merge2_ok hu (by rw [mrg_len]; exact la') (by rw [mrg_len]; exact lb') (by have := m5 a; have := m5 b; unfold cap; omega)).callF rfl (vfr3 hu _ _) fun u2 hu2 => ?_
  rw [mrg_again la' lb'] at hu2
  try simp only [c10,c10x1,c10x2,c10x3,c10x4,c10x5,c10x6,c10x7,c10x8,c10x9,c10x10,c10x11,RUA,RUB,RUC,RUD,RUE,RUF,if_true,if_false,ite_true,ite_false,Int.reduceEq,Int.reduceLT,Int.reduceLE,putCells,bslOf,bsaOf,bslS,isUpto,Nat.reduceEqDiff,Pe.step,E.at,List.replicate,Nat.reduceAdd,Nat.reduceSub,Nat.reduceLeDiff,Nat.reduceMul,Pe.intOf,Pe.iop,Pe.sop]
  refine (sames_p hu2 hu).callE rfl (cf2 hu2.freeV hu.freeV _) rfl ?_
  try simp only [c10,c10x1,c10x2,c10x3,c10x4,c10x5,c10x6,c10x7,c10x8,c10x9,c10x10,c10x11,RUA,RUB,RUC,RUD,RUE,RUF,if_true,if_false,ite_true,ite_false,Int.reduceEq,Int.reduceLT,Int.reduceLE,putCells,bslOf,bsaOf,bslS,isUpto,Nat.reduceEqDiff,Pe.step,E.at,List.replicate,Nat.reduceAdd,Nat.reduceSub,Nat.reduceLeDiff,Nat.reduceMul,Pe.intOf,Pe.iop,Pe.sop]
end Go.Proofs.Ytfncfdiomolieaa
end

/- Parts of the texts that the claim's proof needs: functions of the program as the evaluator reads them, and what they come to. Conditions: those that its theorems state. -/
import Derived.Test.YtclaoegdlibapaaDoorTB
import Derived.Shelf.Strconv.Itoa3

section
set_option linter.unusedVariables false
set_option linter.unusedSimpArgs false
set_option maxRecDepth 100000
set_option maxHeartbeats 8000000
open Go.Proofs.Pe renaming putCells → qC, bslOf → qO, bsaOf → qA, bslS → qS, isUpto → qU, step → qT, intOf → qI, iop → qP, sop → qQ
open List renaming replicate → qR
open Go.Proofs.Pe.V renaming dead → qD
namespace Go.Proofs.YtclaoegdlibapaaDoor
open Go.Proofs.Pe


/-! ### Numbers are read -/
theorem nilI_sca {tt tr : TypeId} {x : Nat} {op : Oper} {ts : List V} {o : List O} (ho : op.op = .binOp .neq tt (.tmp x) (.const .nilIface) tr) (hx : ts.getD x .dead = .sc .nilIface)
    (hr : pureRun Tryd.prog (eqGuard .neq tt (.tmp x) (.const .nilIface) .nilIface .nilIface >>= fun _ => binOp .neq tt .nilIface .nilIface) = some (.bool false)) : Pe.step Tryd.prog ⟨ts,o⟩ (.sca op) = some (bV false,o) := by
  have e1 : scEnv ⟨ts,o⟩ (.tmp x) = some .nilIface := by
    show (some (E.tmp x)).bind _ = _
    simp only [Option.bind_some,E.ev,hx]; rfl
  have e2 : scEnv ⟨ts,o⟩ (.const .nilIface) = some .nilIface := rfl
  refine sca_of (v := .bool false) (fun z hz => ?_) ?_ rfl
  · rw [ho] at hz
    simp [Op.operands] at hz
    rcases hz with rfl | rfl
    · rw [e1]; rfl
    · rw [e2]; rfl
  · simp only [execOp,ho,getD_sc e1,getD_sc e2]
    show pureRun Tryd.prog ((eqGuard _ _ _ _ _ _ >>= fun _ => binOp _ _ _ _) >>= fun r => pure (Next.value r)) = _
    rw [pureRun_bind2 hr]; rfl
theorem q_nilI {tt tr : TypeId} {x : Nat} {op : Oper} {ts : List V} {o : List O} {yi : Nat → Sem'} {ca : Ca} {K : V → List O → Prop} (ho : op.op = .binOp .neq tt (.tmp x) (.const .nilIface) tr) (hx : ts.getD x .dead = .sc .nilIface)
    (hr : pureRun Tryd.prog (eqGuard .neq tt (.tmp x) (.const .nilIface) .nilIface .nilIface >>= fun _ => binOp .neq tt .nilIface .nilIface) = some (.bool false)) : evK Tryd.prog T ca yi (.sca op) ts o K = K (bV false) o := by
  rw [q_sca,nilI_sca ho hx hr]; rfl
theorem atoi76 {t : List UInt8} (h0 : t ≠ []) (h1 : t.length ≤ 18) (hd : ∀ c ∈ t,isDg c = true) : PFn Tryd.prog T 42 [tV t] fun z => z = .tup [iV (numI t),.sc .nilIface] := by
  obtain ⟨c0,t',rfl⟩ := List.exists_cons_of_ne_nil h0
  have hc0 := hd c0 (by simp)
  have hlen : 0 < (c0 :: t').length := by simp
  have hg0 : (c0 :: t')[0]? = some c0 := rfl
  generalize c0 :: t' = t at h1 hd hlen hg0
  simp [isDg] at hc0
  have hn := numI_lt hd
  intro yi hy
  refine Call.step hy ?_
  rw [body_eq t42]
  have d1 : decide ((0 : Int) < (t.length : Int)) = true := by simpa using hlen
  have d2 : decide ((t.length : Int) < 19) = true := by simp; omega
  have d3 : decide ((c0.toNat : Int) = 45) = false := by simp; omega
  have d4 : decide ((c0.toNat : Int) = 43) = false := by simp; omega
  have hb : bytesV ⟨t.toArray⟩ = t.map cV := by simp [bytesV,btl]
  have hsz : t.length ≤ room := by unfold room; omega
  simp only [c42,c42x1,c42x2,c42x3,c42x4,c42x5,c42x6,c42x7,c42x8,c42x9,c42x10,RUA,RUB,RUC,RUD,RUE,RUF,if_true,if_false,Int.reduceEq,Int.reduceLT,Int.reduceLE,qC,qO,qA,qS,qU,Nat.reduceEqDiff,qT,E.at,qR,Nat.reduceAdd,Nat.reduceSub,Nat.reduceLeDiff,Nat.reduceMul,qI,qP,qQ,d1,d2,hg0,d3,d4,hb,hsz]
  refine Lfp.inv call_le hy (fun k : Nat => ⟨⟨(qD::qD::qD::qD::qD::tV t :: iV (numI (t.take k)) :: qD::qD::qD::qD::qD::qD::qD::qD::qD::qD::qD::qD::qD::qD::qD::qD::qD::qD::qD::qD::qD::qD::qD::qD::qD::qD::qD::qD::qD::qD::qD::qD::qD::qD::qD::qD::qD::qD::qD::qD::.ar 0 0 :: iV (t.map cV).length :: iV k :: qD::qD::qD::qD::qD::qD::qD::qD::qD::qD::qD::qD::qD::qD::qD::qD::qD::qD::qD::qD::qD::qD::qD::qD::qD::qD::qD::[]),[O.arr 0 true 1 (t.map cV)]⟩,[]⟩) (fun k => t.length - k)
    (fun k => k ≤ t.length) 0 (Nat.zero_le _) (by simp only [kill_L,killTs_nil,RUF] <;> rfl) ?_
  intro k hk
  have hp := pow18 (k := k) (by omega)
  have hnk := hn k hk
  by_cases hlt : k < t.length
  · have e1 : decide ((k : Int) < ((t.map cV).length : Int)) = true := by simpa using hlt
    have hx : t[k]? = some t[k] := List.getElem?_eq_getElem hlt
    have hc := hd _ (List.getElem_mem hlt)
    generalize t[k] = c at hx hc
    simp [isDg] at hc
    have hk1 := numI_take hx
    have hn1 := hn (k + 1) (by omega)
    have hp1 := pow18 (k := k + 1) (by omega)
    have hI : (t.map cV)[k]? = some (cV c) := by rw [List.getElem?_map,hx]; rfl
    have w1 : IntKind.u8.wrap ((c.toNat : Int) - 48) = ((c.toNat - 48 : Nat) : Int) := by
      unfold IntKind.wrap; simp [IntKind.bits,IntKind.signed]; omega
    have e2 : decide ((9 : Int) < ((c.toNat - 48 : Nat) : Int)) = false := by simp; omega
    have w2 : IntKind.i64.wrap (((c.toNat - 48 : Nat) : Int)) = ((c.toNat - 48 : Nat) : Int) := wrap_ok (by omega) (by omega)
    have w3 : IntKind.i64.wrap ((numI (t.take k) : Int) * 10) = ((numI (t.take k) * 10 : Nat) : Int) := by rw [wrap_ok (by omega) (by omega)]; omega
    have w4 : IntKind.i64.wrap (((numI (t.take k) * 10 : Nat) : Int) + ((c.toNat - 48 : Nat) : Int)) = ((numI (t.take (k + 1)) : Nat) : Int) := by rw [wrap_ok (by omega) (by omega),hk1]; omega
    have w5 : IntKind.i64.wrap ((k : Int) + 1) = ((k + 1 : Nat) : Int) := wrap_succ (by omega)
    have hX : ixOf 1 [O.arr 0 true 1 (t.map cV)] (.ar 0 0) (iV k) = some (.pa 0 0 k 0,[O.arr 0 true 1 (t.map cV)]) := ix_ar rfl (by simpa using hlt)
    simp only [c42,c42x1,c42x2,c42x3,c42x4,c42x5,c42x6,c42x7,c42x8,c42x9,c42x10,c42x11,c42x12,c42x13,c42x14,c42x15,c42x16,c42x17,c42x18,c42x19,c42x20,c42x21,c42x22,c42x23,RUA,RUB,RUC,RUD,RUE,RUF,if_true,if_false,Int.reduceEq,Int.reduceLT,Int.reduceLE,qC,qO,qA,qS,qU,Nat.reduceEqDiff,qT,E.at,qR,Nat.reduceAdd,Nat.reduceSub,Nat.reduceLeDiff,Nat.reduceMul,qI,qP,qQ,e1,hX,hI,w1,e2,w2,w3,w4,w5]
    exact ⟨k + 1,by omega,by omega,rfl⟩
  · have e1 : decide ((k : Int) < ((t.map cV).length : Int)) = false := by simpa using hlt
    have ht : t.take k = t := List.take_of_length_le (by omega)
    simp only [c42,c42x1,c42x2,c42x3,c42x4,c42x5,c42x6,c42x7,c42x8,c42x9,c42x10,c42x11,c42x12,c42x13,c42x14,c42x15,c42x16,c42x17,c42x18,c42x19,c42x20,c42x21,c42x22,c42x23,RUA,RUB,RUC,RUD,RUE,RUF,if_true,if_false,Int.reduceEq,Int.reduceLT,Int.reduceLE,qC,qO,qA,qS,qU,Nat.reduceEqDiff,qT,E.at,qR,Nat.reduceAdd,Nat.reduceSub,Nat.reduceLeDiff,Nat.reduceMul,qI,qP,qQ,e1,hg0,d3,ht]
    exact ⟨_,_,frzT_tup rfl rfl,rfl⟩
theorem atoi_p {t : List UInt8} (h0 : t ≠ []) (h1 : t.length ≤ 18) (hd : ∀ c ∈ t,isDg c = true) : PFn Tryd.prog T 33 [tV t] fun z => z = .tup [iV (numI t),.sc .nilIface] := by
  intro yi hy
  refine Call.step hy ?_
  rw [body_eq t33]
  simp only [c33,c33x1,c33x2,c33x3,c33x4,RUA,RUB,RUC,RUD,RUE,RUF,if_true,if_false,Int.reduceEq,Int.reduceLT,Int.reduceLE,qC,qO,qA,qS,qU,Nat.reduceEqDiff,qT,E.at,qR,Nat.reduceAdd,Nat.reduceSub,Nat.reduceLeDiff,Nat.reduceMul,qI,qP,qQ]
  refine pcall (atoi76 h0 h1 hd) rfl (by simp [V.free,V.free1]) ?_
  simp only [c33,c33x1,c33x2,c33x3,c33x4,RUA,RUB,RUC,RUD,RUE,RUF,if_true,if_false,Int.reduceEq,Int.reduceLT,Int.reduceLE,qC,qO,qA,qS,qU,Nat.reduceEqDiff,qT,E.at,qR,Nat.reduceAdd,Nat.reduceSub,Nat.reduceLeDiff,Nat.reduceMul,qI,qP,qQ]
  rw [q_nilI rfl rfl (by kernel_rfl)]
  simp only [c33,c33x1,c33x2,c33x3,c33x4,RUA,RUB,RUC,RUD,RUE,RUF,if_true,if_false,Int.reduceEq,Int.reduceLT,Int.reduceLE,qC,qO,qA,qS,qU,Nat.reduceEqDiff,qT,E.at,qR,Nat.reduceAdd,Nat.reduceSub,Nat.reduceLeDiff,Nat.reduceMul,qI,qP,qQ]
  exact ⟨_,_,frzT_tup rfl rfl,rfl⟩
end Go.Proofs.YtclaoegdlibapaaDoor
end

section
set_option linter.unusedVariables false
namespace Go.Proofs.Pe
variable {P : Program} {T : Tab} {ca : Ca} {yi : Nat → Sem'}
/-! ### A reader, and the box in which it stands -/
abbrev bxO : O := .cells [.pt 0 0]
theorem SFn.call01 {f : FuncId} {a1 b1 xs : List V} {cs : List V} {r : List O} {Q : V → List O → Prop} {K : V → List O → Prop} (h : SFn P T f (a1 ++ xs ++ b1) [.cells cs,bxO] Q) (hm : T.mode f = 5)
    (hc : evCallV.commits' (.cells cs :: bxO :: r) (a1 ++ xs ++ b1) = some (a1 ++ xs ++ b1,.cells cs :: bxO :: r)) (hz : mapO (V.mv2 (inS [0,1])) (a1 ++ xs ++ b1) = some (a1 ++ xs ++ b1)) (hcs : cs.all V.free1 = true)
    (hK : ∀ z os',Q z os' → ∃ cs',os' = [.cells cs',bxO] ∧ cs'.all V.free1 = true ∧ z.freeT = true ∧ K z (.cells cs' :: bxO :: r)) :
    evCallV T (Call P T) yi (.fn (.func f) a1 b1) xs (.cells cs :: bxO :: r) K := by
  refine h.call (S := [0,1]) (ys := a1 ++ xs ++ b1) (o1 := .cells cs :: bxO :: r) (.inl hm) (by rw [hm]; simpa [evCallV.hand] using hc) (by simp) hz ?_ fun z os' hq => ?_
  · have b : mvO (inS [0,1]) bxO = some bxO := by simp [mvO,mapO,V.mv1,V.mv0,inS,List.idxOf,List.findIdx,List.findIdx.go]
    show mapO (fun l => ((O.cells cs :: bxO :: r)[l]?).bind (mvO (inS [0,1]))) [0,1] = _
    simp only [mapO,List.getElem?_cons_zero,List.getElem?_cons_succ,Option.bind_some,mvC_free hcs,b]
  · obtain ⟨cs',rfl,h1,h2,h3⟩ := hK z os' hq
    have b : ∀ m,mvO (outT [0,1] [0,1].length m) bxO = some bxO := fun m => by simp [mvO,mapO,V.mv1,V.mv0,outT]
    refine ⟨z,[.cells cs',bxO],mv_free h2, ?_,by simpa [putS] using h3⟩
    simp only [mapO,mvC_free h1,b]
theorem fin2 {z : V} {cs : List V} {r : List O} (h1 : cs.all V.free1 = true) (h2 : z.freeT = true) : Fin5 2 z (.cells cs :: bxO :: r) z [.cells cs,bxO] :=
  ⟨z,.cells cs :: bxO :: r,[],.inr ⟨rfl,rfl⟩,by simp,by simp,mv_free h2,by
    have b : mvO (outI 2 []) bxO = some bxO := by simp [mvO,mapO,V.mv1,V.mv0,outI]
    show mapO (fun i => ((O.cells cs :: bxO :: r)[i]?).bind (mvO (outI 2 []))) [0,1] = _
    simp only [mapO,List.getElem?_cons_zero,List.getElem?_cons_succ,Option.bind_some,mvC_free h1,b]⟩
end Go.Proofs.Pe
end

section
set_option linter.unusedVariables false
set_option linter.unusedSimpArgs false
set_option maxRecDepth 100000
set_option maxHeartbeats 8000000
open Go.Proofs.Pe renaming putCells → qC, bslOf → qO, bsaOf → qA, bslS → qS, isUpto → qU, step → qT, intOf → qI, iop → qP, sop → qQ
open List renaming replicate → qR
open Go.Proofs.Pe.V renaming dead → qD
namespace Go.Proofs.YtclaoegdlibapaaDoor
open Go.Proofs.Pe


/-! ### The reader of expressions -/
def Post (w : V) (d : Nat) (r : PR) (z : V) (os' : List O) : Prop := match r with
  | .ok x j => IsEx x z ∧ os' = [.cells [w,iV j,iV d,iV 0]]
  | .bad e j => (∃ x,IsEx x z) ∧ e ≠ 0 ∧ os' = [.cells [w,iV j,iV d,iV e]]
def Post2 (w : V) (d : Nat) (r : PR) (z : V) (os' : List O) : Prop := match r with
  | .ok x j => IsEx x z ∧ os' = [.cells [w,iV j,iV d,iV 0],bxO]
  | .bad e j => (∃ x,IsEx x z) ∧ e ≠ 0 ∧ os' = [.cells [w,iV j,iV d,iV e],bxO]
def oneR (k : Int) : PR → PR
  | .ok x j => .ok (.mk k 0 emp [x]) j
  | .bad e j => .bad e j
def brR (l : List Sg) : PR → PR
  | .ok x j => if markAt l j = [41] then .ok x (j + 1) else .bad 2 j
  | .bad e j => .bad e j
theorem mark_lt {l : List Sg} {j : Nat} {t : List UInt8} (h : markAt l j = t) (ht : t ≠ []) : j < l.length := by
  unfold markAt at h
  split at h
  · rename_i s hs; exact (List.getElem?_eq_some_iff.1 hs).1
  · exact absurd h.symm ht
section
variable {w : V} {l : List Sg} (hw : IsSl 3 w (l.map Sg.v))
include hw
theorem pfr (a b c : Int) : ([w,iV a,iV b,iV c].all V.free1) = true := by simp [hw.free,free1_sc]
theorem fail_c (i d e : Nat) : SFn Tryd.prog T 89 [.pt 0 0,iV e] [.cells [w,iV i,iV d,iV 0]] fun z os' => IsEx (.mk 0 0 emp []) z ∧ os' = [.cells [w,iV i,iV d,iV e]] := by
  have hone : w.one = true := free1_one hw.free
  intro yi hy
  refine Call.step hy ?_
  rw [body_eq t89]
  simp only [c89,c89x1,c89x2,c89x3,RUA,RUB,RUC,RUD,RUE,RUF,if_true,if_false,Int.reduceEq,Int.reduceLT,Int.reduceLE,qC,qO,qA,qS,qU,Nat.reduceEqDiff,qT,E.at,qR,Nat.reduceAdd,Nat.reduceSub,Nat.reduceLeDiff,Nat.reduceMul,qI,qP,qQ,hone,fillC,rets,List.take]
  exact ⟨_,_,fin1 (pfr hw _ _ _) (freeT_of zIs.ok.1),zIs,rfl⟩
theorem within_c {g : FuncId} {i d : Nat} {r : PR} (hm : T.mode g = 5) (hd : d < 20) (hi : i < lim) (h : SFn Tryd.prog T g [.pt 1 0] [.cells [w,iV (i + 1 : Nat),iV (d + 1 : Nat),iV 0],bxO] (Post2 w (d + 1) r)) :
    SFn Tryd.prog T 90 [.pt 0 0,.fn (.func g) [] [.pt 1 0]] [.cells [w,iV i,iV d,iV 0],bxO] (Post2 w d r) := by
  unfold lim at hi
  have hone : w.one = true := free1_one hw.free
  have e1 : decide ((20 : Int) ≤ (d : Int)) = false := by simp; omega
  have w1 : IntKind.i64.wrap ((i : Int) + 1) = ((i + 1 : Nat) : Int) := wrap_succ (by omega)
  have w2 : IntKind.i64.wrap ((d : Int) + 1) = ((d + 1 : Nat) : Int) := wrap_succ (by omega)
  have w3 : IntKind.i64.wrap (((d + 1 : Nat) : Int) - 1) = (d : Int) := by rw [wrap_ok (by omega) (by omega)]; omega
  intro yi hy
  refine Call.step hy ?_
  rw [body_eq t90]
  simp only [c90,c90x1,c90x2,c90x3,c90x4,c90x5,RUA,RUB,RUC,RUD,RUE,RUF,if_true,if_false,Int.reduceEq,Int.reduceLT,Int.reduceLE,qC,qO,qA,qS,qU,Nat.reduceEqDiff,qT,E.at,qR,Nat.reduceAdd,Nat.reduceSub,Nat.reduceLeDiff,Nat.reduceMul,qI,qP,qQ,hone,e1,w1,w2]
  refine SFn.call01 (a1 := []) (xs := []) (b1 := [.pt 1 0]) h hm (cm_pt cm_nil) rfl (pfr hw _ _ _) fun z os' hq => ?_
  rcases r with ⟨x,j⟩ | ⟨e,j⟩
  · obtain ⟨hx,rfl⟩ := hq
    have hx' := hx
    obtain ⟨a,b,c,dd,rfl,ho⟩ := ex_agg hx
    refine ⟨_,rfl,pfr hw _ _ _,freeT_of hx'.ok.1, ?_⟩
    simp only [c90,c90x1,c90x2,c90x3,c90x4,c90x5,c90x6,c90x7,RUA,RUB,RUC,RUD,RUE,RUF,if_true,if_false,Int.reduceEq,Int.reduceLT,Int.reduceLE,qC,qO,qA,qS,qU,Nat.reduceEqDiff,qT,E.at,qR,Nat.reduceAdd,Nat.reduceSub,Nat.reduceLeDiff,Nat.reduceMul,qI,qP,qQ,hone,ho,w3,rets,List.take]
    exact ⟨_,_,fin2 (pfr hw _ _ _) (freeT_of hx'.ok.1),hx',rfl⟩
  · obtain ⟨⟨x,hx⟩,he,rfl⟩ := hq
    have hx' := hx
    obtain ⟨a,b,c,dd,rfl,ho⟩ := ex_agg hx
    refine ⟨_,rfl,pfr hw _ _ _,freeT_of hx'.ok.1, ?_⟩
    simp only [c90,c90x1,c90x2,c90x3,c90x4,c90x5,c90x6,c90x7,RUA,RUB,RUC,RUD,RUE,RUF,if_true,if_false,Int.reduceEq,Int.reduceLT,Int.reduceLE,qC,qO,qA,qS,qU,Nat.reduceEqDiff,qT,E.at,qR,Nat.reduceAdd,Nat.reduceSub,Nat.reduceLeDiff,Nat.reduceMul,qI,qP,qQ,hone,ho,w3,rets,List.take]
    exact ⟨_,_,fin2 (pfr hw _ _ _) (freeT_of hx'.ok.1),⟨_,hx'⟩,he,rfl⟩
theorem within_f {g : FuncId} {i d : Nat} (hd : 20 ≤ d) : SFn Tryd.prog T 90 [.pt 0 0,.fn (.func g) [] [.pt 1 0]] [.cells [w,iV i,iV d,iV 0],bxO] (Post2 w d (.bad 3 i)) := by
  have hone : w.one = true := free1_one hw.free
  have e1 : decide ((20 : Int) ≤ (d : Int)) = true := by simp; omega
  intro yi hy
  refine Call.step hy ?_
  rw [body_eq t90]
  simp only [c90,c90x1,c90x2,c90x3,RUA,RUB,RUC,RUD,RUE,RUF,if_true,if_false,Int.reduceEq,Int.reduceLT,Int.reduceLE,qC,qO,qA,qS,qU,Nat.reduceEqDiff,qT,E.at,qR,Nat.reduceAdd,Nat.reduceSub,Nat.reduceLeDiff,Nat.reduceMul,qI,qP,qQ,hone,e1]
  refine (fail_c hw i d 3).call1 rfl (by simp [V.free,V.free1]) rfl (pfr hw _ _ _) fun z os' hq => ?_
  obtain ⟨hx,rfl⟩ := hq
  have hx' := hx
  obtain ⟨a,b,c,dd,rfl,ho⟩ := ex_agg hx
  refine ⟨_,rfl,pfr hw _ _ _,freeT_of hx'.ok.1, ?_⟩
  simp only [c90,c90x1,c90x2,c90x3,c90x4,c90x5,c90x6,c90x7,RUA,RUB,RUC,RUD,RUE,RUF,if_true,if_false,Int.reduceEq,Int.reduceLT,Int.reduceLE,qC,qO,qA,qS,qU,Nat.reduceEqDiff,qT,E.at,qR,Nat.reduceAdd,Nat.reduceSub,Nat.reduceLeDiff,Nat.reduceMul,qI,qP,qQ,hone,ho,rets,List.take]
  exact ⟨_,_,fin2 (pfr hw _ _ _) (freeT_of hx'.ok.1),⟨_,hx'⟩,by omega,rfl⟩
theorem not_c {i d : Nat} {r : PR} (h : SFn Tryd.prog T 87 [.pt 0 0] [.cells [w,iV i,iV d,iV 0]] (Post w d r)) : SFn Tryd.prog T 91 [.pt 1 0] [.cells [w,iV i,iV d,iV 0],bxO] (Post2 w d (oneR 3 r)) := by
  have hone : w.one = true := free1_one hw.free
  intro yi hy
  refine Call.step hy ?_
  rw [body_eq t91]
  simp only [c91,c91x1,RUA,RUB,RUC,RUD,RUE,RUF,if_true,if_false,Int.reduceEq,Int.reduceLT,Int.reduceLE,qC,qO,qA,qS,qU,Nat.reduceEqDiff,qT,E.at,qR,Nat.reduceAdd,Nat.reduceSub,Nat.reduceLeDiff,Nat.reduceMul,qI,qP,qQ,hone]
  refine h.call1 rfl (by simp) rfl (pfr hw _ _ _) fun z os' hq => ?_
  have key : ∀ x,IsEx x z → z.free = true ∧ decide (z.cells.length = 4) = true := fun x h => ⟨h.ok.1,by simpa using h.ok.2⟩
  rcases r with ⟨x,j⟩ | ⟨e,j⟩
  · obtain ⟨hx,rfl⟩ := hq
    obtain ⟨k1,k2⟩ := key x hx
    refine ⟨_,rfl,pfr hw _ _ _,freeT_of k1, ?_⟩
    simp only [c91,c91x1,RUA,RUB,RUC,RUD,RUE,RUF,if_true,if_false,Int.reduceEq,Int.reduceLT,Int.reduceLE,qC,qO,qA,qS,qU,Nat.reduceEqDiff,qT,E.at,qR,Nat.reduceAdd,Nat.reduceSub,Nat.reduceLeDiff,Nat.reduceMul,qI,qP,qQ,hone,k1,k2,fillC,rets,List.take]
    exact ⟨_,_,fin2 (pfr hw _ _ _) (freeT_of (ex_one (k := 3) hx).ok.1),ex_one hx,rfl⟩
  · obtain ⟨⟨x,hx⟩,he,rfl⟩ := hq
    obtain ⟨k1,k2⟩ := key x hx
    refine ⟨_,rfl,pfr hw _ _ _,freeT_of k1, ?_⟩
    simp only [c91,c91x1,RUA,RUB,RUC,RUD,RUE,RUF,if_true,if_false,Int.reduceEq,Int.reduceLT,Int.reduceLE,qC,qO,qA,qS,qU,Nat.reduceEqDiff,qT,E.at,qR,Nat.reduceAdd,Nat.reduceSub,Nat.reduceLeDiff,Nat.reduceMul,qI,qP,qQ,hone,k1,k2,fillC,rets,List.take]
    exact ⟨_,_,fin2 (pfr hw _ _ _) (freeT_of (ex_one (k := 3) hx).ok.1),⟨_,ex_one hx⟩,he,rfl⟩
theorem neg_c {i d : Nat} {r : PR} (h : SFn Tryd.prog T 87 [.pt 0 0] [.cells [w,iV i,iV d,iV 0]] (Post w d r)) : SFn Tryd.prog T 92 [.pt 1 0] [.cells [w,iV i,iV d,iV 0],bxO] (Post2 w d (oneR 4 r)) := by
  have hone : w.one = true := free1_one hw.free
  intro yi hy
  refine Call.step hy ?_
  rw [body_eq t92]
  simp only [c92,c92x1,RUA,RUB,RUC,RUD,RUE,RUF,if_true,if_false,Int.reduceEq,Int.reduceLT,Int.reduceLE,qC,qO,qA,qS,qU,Nat.reduceEqDiff,qT,E.at,qR,Nat.reduceAdd,Nat.reduceSub,Nat.reduceLeDiff,Nat.reduceMul,qI,qP,qQ,hone]
  refine h.call1 rfl (by simp) rfl (pfr hw _ _ _) fun z os' hq => ?_
  have key : ∀ x,IsEx x z → z.free = true ∧ decide (z.cells.length = 4) = true := fun x h => ⟨h.ok.1,by simpa using h.ok.2⟩
  rcases r with ⟨x,j⟩ | ⟨e,j⟩
  · obtain ⟨hx,rfl⟩ := hq
    obtain ⟨k1,k2⟩ := key x hx
    refine ⟨_,rfl,pfr hw _ _ _,freeT_of k1, ?_⟩
    simp only [c92,c92x1,RUA,RUB,RUC,RUD,RUE,RUF,if_true,if_false,Int.reduceEq,Int.reduceLT,Int.reduceLE,qC,qO,qA,qS,qU,Nat.reduceEqDiff,qT,E.at,qR,Nat.reduceAdd,Nat.reduceSub,Nat.reduceLeDiff,Nat.reduceMul,qI,qP,qQ,hone,k1,k2,fillC,rets,List.take]
    exact ⟨_,_,fin2 (pfr hw _ _ _) (freeT_of (ex_one (k := 4) hx).ok.1),ex_one hx,rfl⟩
  · obtain ⟨⟨x,hx⟩,he,rfl⟩ := hq
    obtain ⟨k1,k2⟩ := key x hx
    refine ⟨_,rfl,pfr hw _ _ _,freeT_of k1, ?_⟩
    simp only [c92,c92x1,RUA,RUB,RUC,RUD,RUE,RUF,if_true,if_false,Int.reduceEq,Int.reduceLT,Int.reduceLE,qC,qO,qA,qS,qU,Nat.reduceEqDiff,qT,E.at,qR,Nat.reduceAdd,Nat.reduceSub,Nat.reduceLeDiff,Nat.reduceMul,qI,qP,qQ,hone,k1,k2,fillC,rets,List.take]
    exact ⟨_,_,fin2 (pfr hw _ _ _) (freeT_of (ex_one (k := 4) hx).ok.1),⟨_,ex_one hx⟩,he,rfl⟩
theorem bra_c (hl : l.length ≤ lim) {i d : Nat} {r : PR} (h : SFn Tryd.prog T 83 [.pt 0 0,iV 0] [.cells [w,iV i,iV d,iV 0]] (Post w d r)) : SFn Tryd.prog T 93 [.pt 1 0] [.cells [w,iV i,iV d,iV 0],bxO] (Post2 w d (brR l r)) := by
  have hone : w.one = true := free1_one hw.free
  unfold lim at hl
  intro yi hy
  refine Call.step hy ?_
  rw [body_eq t93]
  simp only [c93,c93x1,RUA,RUB,RUC,RUD,RUE,RUF,if_true,if_false,Int.reduceEq,Int.reduceLT,Int.reduceLE,qC,qO,qA,qS,qU,Nat.reduceEqDiff,qT,E.at,qR,Nat.reduceAdd,Nat.reduceSub,Nat.reduceLeDiff,Nat.reduceMul,qI,qP,qQ,hone]
  refine h.call1 rfl (by simp [V.free,V.free1]) rfl (pfr hw _ _ _) fun z os' hq => ?_
  rcases r with ⟨x,j⟩ | ⟨e,j⟩
  · obtain ⟨hx,rfl⟩ := hq
    have hx' := hx
    obtain ⟨a,b,c,dd,rfl,ho⟩ := ex_agg hx
    refine ⟨_,rfl,pfr hw _ _ _,freeT_of hx'.ok.1, ?_⟩
    simp only [c93,c93x1,c93x2,RUA,RUB,RUC,RUD,RUE,RUF,if_true,if_false,Int.reduceEq,Int.reduceLT,Int.reduceLE,qC,qO,qA,qS,qU,Nat.reduceEqDiff,qT,E.at,qR,Nat.reduceAdd,Nat.reduceSub,Nat.reduceLeDiff,Nat.reduceMul,qI,qP,qQ,hone,ho]
    refine call3 rfl (cm_pt cm_nil) (pmark_c noY_le hw rfl ⟨Sim.refl _ _, ?_⟩)
    by_cases hm : markAt l j = [41]
    · have hb : (markAt l j == [41]) = true := by simpa using hm
      have hj := mark_lt hm (by simp)
      have w1 : IntKind.i64.wrap ((j : Int) + 1) = ((j + 1 : Nat) : Int) := wrap_succ (by omega)
      simp only [c93,c93x1,c93x2,c93x3,c93x4,c93x5,c93x6,RUA,RUB,RUC,RUD,RUE,RUF,if_true,if_false,Int.reduceEq,Int.reduceLT,Int.reduceLE,qC,qO,qA,qS,qU,Nat.reduceEqDiff,qT,E.at,qR,Nat.reduceAdd,Nat.reduceSub,Nat.reduceLeDiff,Nat.reduceMul,qI,qP,qQ,hone,ho,hb,w1,rets,List.take]
      refine ⟨_,_,fin2 (pfr hw _ _ _) (freeT_of hx'.ok.1), ?_⟩
      simp only [brR,if_pos hm]
      exact ⟨hx',rfl⟩
    · have hb : (markAt l j == [41]) = false := by simpa using hm
      simp only [c93,c93x1,c93x2,c93x3,c93x4,RUA,RUB,RUC,RUD,RUE,RUF,if_true,if_false,Int.reduceEq,Int.reduceLT,Int.reduceLE,qC,qO,qA,qS,qU,Nat.reduceEqDiff,qT,E.at,qR,Nat.reduceAdd,Nat.reduceSub,Nat.reduceLeDiff,Nat.reduceMul,qI,qP,qQ,hone,ho,hb]
      refine (fail_c hw j d 2).call1 rfl (by simp [V.free,V.free1]) rfl (pfr hw _ _ _) fun z os' hq => ?_
      obtain ⟨hx2,rfl⟩ := hq
      have hx2' := hx2
      obtain ⟨a2,b2,c2,d2,rfl,ho2⟩ := ex_agg hx2
      refine ⟨_,rfl,pfr hw _ _ _,freeT_of hx2'.ok.1, ?_⟩
      simp only [c93,c93x1,c93x2,c93x3,c93x4,c93x5,c93x6,RUA,RUB,RUC,RUD,RUE,RUF,if_true,if_false,Int.reduceEq,Int.reduceLT,Int.reduceLE,qC,qO,qA,qS,qU,Nat.reduceEqDiff,qT,E.at,qR,Nat.reduceAdd,Nat.reduceSub,Nat.reduceLeDiff,Nat.reduceMul,qI,qP,qQ,hone,ho,ho2,rets,List.take]
      refine ⟨_,_,fin2 (pfr hw _ _ _) (freeT_of hx2'.ok.1), ?_⟩
      simp only [brR,if_neg hm]
      exact ⟨⟨_,hx2'⟩,by omega,rfl⟩
  · obtain ⟨⟨x,hx⟩,he,rfl⟩ := hq
    have hx' := hx
    obtain ⟨a,b,c,dd,rfl,ho⟩ := ex_agg hx
    have hd : decide ((e : Int) = 0) = false := by simp; omega
    refine ⟨_,rfl,pfr hw _ _ _,freeT_of hx'.ok.1, ?_⟩
    simp only [c93,c93x1,c93x2,c93x3,c93x4,c93x5,c93x6,RUA,RUB,RUC,RUD,RUE,RUF,if_true,if_false,Int.reduceEq,Int.reduceLT,Int.reduceLE,qC,qO,qA,qS,qU,Nat.reduceEqDiff,qT,E.at,qR,Nat.reduceAdd,Nat.reduceSub,Nat.reduceLeDiff,Nat.reduceMul,qI,qP,qQ,hone,ho,hd,rets,List.take]
    exact ⟨_,_,fin2 (pfr hw _ _ _) (freeT_of hx'.ok.1),⟨_,hx'⟩,he,rfl⟩
end
end Go.Proofs.YtclaoegdlibapaaDoor
end

section
set_option linter.unusedVariables false
set_option linter.unusedSimpArgs false
set_option maxRecDepth 100000
set_option maxHeartbeats 8000000
open Go.Proofs.Pe renaming putCells → qC, bslOf → qO, bsaOf → qA, bslS → qS, isUpto → qU, step → qT, intOf → qI, iop → qP, sop → qQ
open List renaming replicate → qR
open Go.Proofs.Pe.V renaming dead → qD
namespace Go.Proofs.YtclaoegdlibapaaDoor
open Go.Proofs.Pe


section
variable {w : V} {l : List Sg} (hw : IsSl 3 w (l.map Sg.v))
include hw
theorem un_w33 {i d : Nat} {r : PR} {s : Sg} (h : l[i]? = some s) (hk : s.k = 3) (ht : s.t = [33]) (hr : SFn Tryd.prog T 90 [.pt 0 0,.fn (.func 91) [] [.pt 1 0]] [.cells [w,iV i,iV d,iV 0],bxO] (Post2 w d r)) :
    SFn Tryd.prog T 87 [.pt 0 0] [.cells [w,iV i,iV d,iV 0]] (Post w d r) := by
  have hone : w.one = true := free1_one hw.free
  have hrow := fun o => hw.row o
  have hlen : (l.map Sg.v).length = l.length := by simp
  have hlt := (List.getElem?_eq_some_iff.1 h).1
  have hI := fun o => sg_ix hw h o
  have hd : decide ((l.length : Int) ≤ (i : Int)) = false := by simp; omega
  have k2 : decide ((s.k : Int) = 2) = false := by rw [hk]; rfl
  have k1 : decide ((s.k : Int) = 1) = false := by rw [hk]; rfl
  have k3 : decide ((s.k : Int) = 3) = true := by rw [hk]; rfl
  have b33 : (s.t == [33]) = true := by rw [ht]; rfl
  have b45 : (s.t == [45]) = false := by rw [ht]; rfl
  have b40 : (s.t == [40]) = false := by rw [ht]; rfl
  intro yi hy
  refine Call.step hy ?_
  rw [body_eq t87]
  simp only [c87,c87x1,c87x2,c87x3,c87x4,c87x5,c87x6,c87x7,c87x8,c87x9,c87x10,c87x11,c87x12,c87x13,c87x14,c87x15,c87x16,RUA,RUB,RUC,RUD,RUE,RUF,if_true,if_false,Int.reduceEq,Int.reduceLT,Int.reduceLE,qC,qO,qA,qS,qU,Nat.reduceEqDiff,qT,E.at,qR,Nat.reduceAdd,Nat.reduceSub,Nat.reduceLeDiff,Nat.reduceMul,qI,qP,qQ,hone,hrow,hlen,hI,hd,k1,k2,k3,b33,b45,b40]
  refine hr.call01 (a1 := []) (xs := [.pt 0 0,.fn (.func 91) [] [.pt 1 0]]) (b1 := []) rfl (cm_pt (cm_keep rfl cm_nil)) rfl (pfr hw _ _ _) fun z os' hq => ?_
  rcases r with ⟨x,j⟩ | ⟨e,j⟩
  · obtain ⟨hx,rfl⟩ := hq
    have hx' := hx
    obtain ⟨a,b,c,dd,rfl,ho⟩ := ex_agg hx
    refine ⟨_,rfl,pfr hw _ _ _,freeT_of hx'.ok.1, ?_⟩
    simp only [c87,c87x1,c87x2,c87x3,c87x4,c87x5,c87x6,c87x7,c87x8,c87x9,c87x10,c87x11,c87x12,c87x13,c87x14,c87x15,c87x16,RUA,RUB,RUC,RUD,RUE,RUF,if_true,if_false,Int.reduceEq,Int.reduceLT,Int.reduceLE,qC,qO,qA,qS,qU,Nat.reduceEqDiff,qT,E.at,qR,Nat.reduceAdd,Nat.reduceSub,Nat.reduceLeDiff,Nat.reduceMul,qI,qP,qQ,hone,ho,rets,List.take]
    exact ⟨_,_,fin1 (pfr hw _ _ _) (freeT_of hx'.ok.1),hx',rfl⟩
  · obtain ⟨⟨x,hx⟩,he,rfl⟩ := hq
    have hx' := hx
    obtain ⟨a,b,c,dd,rfl,ho⟩ := ex_agg hx
    refine ⟨_,rfl,pfr hw _ _ _,freeT_of hx'.ok.1, ?_⟩
    simp only [c87,c87x1,c87x2,c87x3,c87x4,c87x5,c87x6,c87x7,c87x8,c87x9,c87x10,c87x11,c87x12,c87x13,c87x14,c87x15,c87x16,RUA,RUB,RUC,RUD,RUE,RUF,if_true,if_false,Int.reduceEq,Int.reduceLT,Int.reduceLE,qC,qO,qA,qS,qU,Nat.reduceEqDiff,qT,E.at,qR,Nat.reduceAdd,Nat.reduceSub,Nat.reduceLeDiff,Nat.reduceMul,qI,qP,qQ,hone,ho,rets,List.take]
    exact ⟨_,_,fin1 (pfr hw _ _ _) (freeT_of hx'.ok.1),⟨_,hx'⟩,he,rfl⟩
theorem un_w45 {i d : Nat} {r : PR} {s : Sg} (h : l[i]? = some s) (hk : s.k = 3) (ht : s.t = [45]) (hr : SFn Tryd.prog T 90 [.pt 0 0,.fn (.func 92) [] [.pt 1 0]] [.cells [w,iV i,iV d,iV 0],bxO] (Post2 w d r)) :
    SFn Tryd.prog T 87 [.pt 0 0] [.cells [w,iV i,iV d,iV 0]] (Post w d r) := by
  have hone : w.one = true := free1_one hw.free
  have hrow := fun o => hw.row o
  have hlen : (l.map Sg.v).length = l.length := by simp
  have hlt := (List.getElem?_eq_some_iff.1 h).1
  have hI := fun o => sg_ix hw h o
  have hd : decide ((l.length : Int) ≤ (i : Int)) = false := by simp; omega
  have k2 : decide ((s.k : Int) = 2) = false := by rw [hk]; rfl
  have k1 : decide ((s.k : Int) = 1) = false := by rw [hk]; rfl
  have k3 : decide ((s.k : Int) = 3) = true := by rw [hk]; rfl
  have b33 : (s.t == [33]) = false := by rw [ht]; rfl
  have b45 : (s.t == [45]) = true := by rw [ht]; rfl
  have b40 : (s.t == [40]) = false := by rw [ht]; rfl
  intro yi hy
  refine Call.step hy ?_
  rw [body_eq t87]
  simp only [c87,c87x1,c87x2,c87x3,c87x4,c87x5,c87x6,c87x7,c87x8,c87x9,c87x10,c87x11,c87x12,c87x13,c87x14,c87x15,c87x16,RUA,RUB,RUC,RUD,RUE,RUF,if_true,if_false,Int.reduceEq,Int.reduceLT,Int.reduceLE,qC,qO,qA,qS,qU,Nat.reduceEqDiff,qT,E.at,qR,Nat.reduceAdd,Nat.reduceSub,Nat.reduceLeDiff,Nat.reduceMul,qI,qP,qQ,hone,hrow,hlen,hI,hd,k1,k2,k3,b33,b45,b40]
  refine hr.call01 (a1 := []) (xs := [.pt 0 0,.fn (.func 92) [] [.pt 1 0]]) (b1 := []) rfl (cm_pt (cm_keep rfl cm_nil)) rfl (pfr hw _ _ _) fun z os' hq => ?_
  rcases r with ⟨x,j⟩ | ⟨e,j⟩
  · obtain ⟨hx,rfl⟩ := hq
    have hx' := hx
    obtain ⟨a,b,c,dd,rfl,ho⟩ := ex_agg hx
    refine ⟨_,rfl,pfr hw _ _ _,freeT_of hx'.ok.1, ?_⟩
    simp only [c87,c87x1,c87x2,c87x3,c87x4,c87x5,c87x6,c87x7,c87x8,c87x9,c87x10,c87x11,c87x12,c87x13,c87x14,c87x15,c87x16,RUA,RUB,RUC,RUD,RUE,RUF,if_true,if_false,Int.reduceEq,Int.reduceLT,Int.reduceLE,qC,qO,qA,qS,qU,Nat.reduceEqDiff,qT,E.at,qR,Nat.reduceAdd,Nat.reduceSub,Nat.reduceLeDiff,Nat.reduceMul,qI,qP,qQ,hone,ho,rets,List.take]
    exact ⟨_,_,fin1 (pfr hw _ _ _) (freeT_of hx'.ok.1),hx',rfl⟩
  · obtain ⟨⟨x,hx⟩,he,rfl⟩ := hq
    have hx' := hx
    obtain ⟨a,b,c,dd,rfl,ho⟩ := ex_agg hx
    refine ⟨_,rfl,pfr hw _ _ _,freeT_of hx'.ok.1, ?_⟩
    simp only [c87,c87x1,c87x2,c87x3,c87x4,c87x5,c87x6,c87x7,c87x8,c87x9,c87x10,c87x11,c87x12,c87x13,c87x14,c87x15,c87x16,RUA,RUB,RUC,RUD,RUE,RUF,if_true,if_false,Int.reduceEq,Int.reduceLT,Int.reduceLE,qC,qO,qA,qS,qU,Nat.reduceEqDiff,qT,E.at,qR,Nat.reduceAdd,Nat.reduceSub,Nat.reduceLeDiff,Nat.reduceMul,qI,qP,qQ,hone,ho,rets,List.take]
    exact ⟨_,_,fin1 (pfr hw _ _ _) (freeT_of hx'.ok.1),⟨_,hx'⟩,he,rfl⟩
theorem un_w40 {i d : Nat} {r : PR} {s : Sg} (h : l[i]? = some s) (hk : s.k = 3) (ht : s.t = [40]) (hr : SFn Tryd.prog T 90 [.pt 0 0,.fn (.func 93) [] [.pt 1 0]] [.cells [w,iV i,iV d,iV 0],bxO] (Post2 w d r)) :
    SFn Tryd.prog T 87 [.pt 0 0] [.cells [w,iV i,iV d,iV 0]] (Post w d r) := by
  have hone : w.one = true := free1_one hw.free
  have hrow := fun o => hw.row o
  have hlen : (l.map Sg.v).length = l.length := by simp
  have hlt := (List.getElem?_eq_some_iff.1 h).1
  have hI := fun o => sg_ix hw h o
  have hd : decide ((l.length : Int) ≤ (i : Int)) = false := by simp; omega
  have k2 : decide ((s.k : Int) = 2) = false := by rw [hk]; rfl
  have k1 : decide ((s.k : Int) = 1) = false := by rw [hk]; rfl
  have k3 : decide ((s.k : Int) = 3) = true := by rw [hk]; rfl
  have b33 : (s.t == [33]) = false := by rw [ht]; rfl
  have b45 : (s.t == [45]) = false := by rw [ht]; rfl
  have b40 : (s.t == [40]) = true := by rw [ht]; rfl
  intro yi hy
  refine Call.step hy ?_
  rw [body_eq t87]
  simp only [c87,c87x1,c87x2,c87x3,c87x4,c87x5,c87x6,c87x7,c87x8,c87x9,c87x10,c87x11,c87x12,c87x13,c87x14,c87x15,c87x16,RUA,RUB,RUC,RUD,RUE,RUF,if_true,if_false,Int.reduceEq,Int.reduceLT,Int.reduceLE,qC,qO,qA,qS,qU,Nat.reduceEqDiff,qT,E.at,qR,Nat.reduceAdd,Nat.reduceSub,Nat.reduceLeDiff,Nat.reduceMul,qI,qP,qQ,hone,hrow,hlen,hI,hd,k1,k2,k3,b33,b45,b40]
  refine hr.call01 (a1 := []) (xs := [.pt 0 0,.fn (.func 93) [] [.pt 1 0]]) (b1 := []) rfl (cm_pt (cm_keep rfl cm_nil)) rfl (pfr hw _ _ _) fun z os' hq => ?_
  rcases r with ⟨x,j⟩ | ⟨e,j⟩
  · obtain ⟨hx,rfl⟩ := hq
    have hx' := hx
    obtain ⟨a,b,c,dd,rfl,ho⟩ := ex_agg hx
    refine ⟨_,rfl,pfr hw _ _ _,freeT_of hx'.ok.1, ?_⟩
    simp only [c87,c87x1,c87x2,c87x3,c87x4,c87x5,c87x6,c87x7,c87x8,c87x9,c87x10,c87x11,c87x12,c87x13,c87x14,c87x15,c87x16,RUA,RUB,RUC,RUD,RUE,RUF,if_true,if_false,Int.reduceEq,Int.reduceLT,Int.reduceLE,qC,qO,qA,qS,qU,Nat.reduceEqDiff,qT,E.at,qR,Nat.reduceAdd,Nat.reduceSub,Nat.reduceLeDiff,Nat.reduceMul,qI,qP,qQ,hone,ho,rets,List.take]
    exact ⟨_,_,fin1 (pfr hw _ _ _) (freeT_of hx'.ok.1),hx',rfl⟩
  · obtain ⟨⟨x,hx⟩,he,rfl⟩ := hq
    have hx' := hx
    obtain ⟨a,b,c,dd,rfl,ho⟩ := ex_agg hx
    refine ⟨_,rfl,pfr hw _ _ _,freeT_of hx'.ok.1, ?_⟩
    simp only [c87,c87x1,c87x2,c87x3,c87x4,c87x5,c87x6,c87x7,c87x8,c87x9,c87x10,c87x11,c87x12,c87x13,c87x14,c87x15,c87x16,RUA,RUB,RUC,RUD,RUE,RUF,if_true,if_false,Int.reduceEq,Int.reduceLT,Int.reduceLE,qC,qO,qA,qS,qU,Nat.reduceEqDiff,qT,E.at,qR,Nat.reduceAdd,Nat.reduceSub,Nat.reduceLeDiff,Nat.reduceMul,qI,qP,qQ,hone,ho,rets,List.take]
    exact ⟨_,_,fin1 (pfr hw _ _ _) (freeT_of hx'.ok.1),⟨_,hx'⟩,he,rfl⟩
theorem un_e {i d : Nat} (h : l[i]? = none) : SFn Tryd.prog T 87 [.pt 0 0] [.cells [w,iV i,iV d,iV 0]] (Post w d (.bad 2 i)) := by
  have hone : w.one = true := free1_one hw.free
  have hrow := fun o => hw.row o
  have hlen : (l.map Sg.v).length = l.length := by simp
  have hd : decide ((l.length : Int) ≤ (i : Int)) = true := by have := List.getElem?_eq_none_iff.1 h; simp; omega
  intro yi hy
  refine Call.step hy ?_
  rw [body_eq t87]
  simp only [c87,c87x1,c87x2,c87x3,c87x4,c87x5,c87x6,c87x7,c87x8,c87x9,c87x10,c87x11,c87x12,c87x13,c87x14,c87x15,c87x16,RUA,RUB,RUC,RUD,RUE,RUF,if_true,if_false,Int.reduceEq,Int.reduceLT,Int.reduceLE,qC,qO,qA,qS,qU,Nat.reduceEqDiff,qT,E.at,qR,Nat.reduceAdd,Nat.reduceSub,Nat.reduceLeDiff,Nat.reduceMul,qI,qP,qQ,hone,hrow,hlen,hd]
  refine (fail_c hw i d 2).call1 rfl (by simp [V.free,V.free1]) rfl (pfr hw _ _ _) fun z os' hq => ?_
  obtain ⟨hx,rfl⟩ := hq
  have hx' := hx
  obtain ⟨a,b,c,dd,rfl,ho⟩ := ex_agg hx
  refine ⟨_,rfl,pfr hw _ _ _,freeT_of hx'.ok.1, ?_⟩
  simp only [c87,c87x1,c87x2,c87x3,c87x4,c87x5,c87x6,c87x7,c87x8,c87x9,c87x10,c87x11,c87x12,c87x13,c87x14,c87x15,c87x16,RUA,RUB,RUC,RUD,RUE,RUF,if_true,if_false,Int.reduceEq,Int.reduceLT,Int.reduceLE,qC,qO,qA,qS,qU,Nat.reduceEqDiff,qT,E.at,qR,Nat.reduceAdd,Nat.reduceSub,Nat.reduceLeDiff,Nat.reduceMul,qI,qP,qQ,hone,ho,rets,List.take]
  exact ⟨_,_,fin1 (pfr hw _ _ _) (freeT_of hx'.ok.1),⟨_,hx'⟩,by omega,rfl⟩
theorem un_x {i d : Nat} {s : Sg} (h : l[i]? = some s) (hk : s.k ≠ 1) (hk2 : s.k ≠ 2) (hk3 : s.k ≠ 3) : SFn Tryd.prog T 87 [.pt 0 0] [.cells [w,iV i,iV d,iV 0]] (Post w d (.bad 2 i)) := by
  have hone : w.one = true := free1_one hw.free
  have hrow := fun o => hw.row o
  have hlen : (l.map Sg.v).length = l.length := by simp
  have hlt := (List.getElem?_eq_some_iff.1 h).1
  have hI := fun o => sg_ix hw h o
  have hd : decide ((l.length : Int) ≤ (i : Int)) = false := by simp; omega
  have k2 : decide ((s.k : Int) = 2) = false := by simp; omega
  have k1 : decide ((s.k : Int) = 1) = false := by simp; omega
  have k3 : decide ((s.k : Int) = 3) = false := by simp; omega
  intro yi hy
  refine Call.step hy ?_
  rw [body_eq t87]
  simp only [c87,c87x1,c87x2,c87x3,c87x4,c87x5,c87x6,c87x7,c87x8,c87x9,c87x10,c87x11,c87x12,c87x13,c87x14,c87x15,c87x16,RUA,RUB,RUC,RUD,RUE,RUF,if_true,if_false,Int.reduceEq,Int.reduceLT,Int.reduceLE,qC,qO,qA,qS,qU,Nat.reduceEqDiff,qT,E.at,qR,Nat.reduceAdd,Nat.reduceSub,Nat.reduceLeDiff,Nat.reduceMul,qI,qP,qQ,hone,hrow,hlen,hI,hd,k1,k2,k3]
  refine (fail_c hw i d 2).call1 rfl (by simp [V.free,V.free1]) rfl (pfr hw _ _ _) fun z os' hq => ?_
  obtain ⟨hx,rfl⟩ := hq
  have hx' := hx
  obtain ⟨a,b,c,dd,rfl,ho⟩ := ex_agg hx
  refine ⟨_,rfl,pfr hw _ _ _,freeT_of hx'.ok.1, ?_⟩
  simp only [c87,c87x1,c87x2,c87x3,c87x4,c87x5,c87x6,c87x7,c87x8,c87x9,c87x10,c87x11,c87x12,c87x13,c87x14,c87x15,c87x16,RUA,RUB,RUC,RUD,RUE,RUF,if_true,if_false,Int.reduceEq,Int.reduceLT,Int.reduceLE,qC,qO,qA,qS,qU,Nat.reduceEqDiff,qT,E.at,qR,Nat.reduceAdd,Nat.reduceSub,Nat.reduceLeDiff,Nat.reduceMul,qI,qP,qQ,hone,ho,rets,List.take]
  exact ⟨_,_,fin1 (pfr hw _ _ _) (freeT_of hx'.ok.1),⟨_,hx'⟩,by omega,rfl⟩
theorem un_m {i d : Nat} {s : Sg} (h : l[i]? = some s) (hk : s.k = 3) (h1 : s.t ≠ [33]) (h2 : s.t ≠ [45]) (h3 : s.t ≠ [40]) : SFn Tryd.prog T 87 [.pt 0 0] [.cells [w,iV i,iV d,iV 0]] (Post w d (.bad 2 i)) := by
  have hone : w.one = true := free1_one hw.free
  have hrow := fun o => hw.row o
  have hlen : (l.map Sg.v).length = l.length := by simp
  have hlt := (List.getElem?_eq_some_iff.1 h).1
  have hI := fun o => sg_ix hw h o
  have hd : decide ((l.length : Int) ≤ (i : Int)) = false := by simp; omega
  have k2 : decide ((s.k : Int) = 2) = false := by simp; omega
  have k1 : decide ((s.k : Int) = 1) = false := by simp; omega
  have k3 : decide ((s.k : Int) = 3) = true := by simp; omega
  have b33 : (s.t == [33]) = false := by simpa using h1
  have b45 : (s.t == [45]) = false := by simpa using h2
  have b40 : (s.t == [40]) = false := by simpa using h3
  intro yi hy
  refine Call.step hy ?_
  rw [body_eq t87]
  simp only [c87,c87x1,c87x2,c87x3,c87x4,c87x5,c87x6,c87x7,c87x8,c87x9,c87x10,c87x11,c87x12,c87x13,c87x14,c87x15,c87x16,RUA,RUB,RUC,RUD,RUE,RUF,if_true,if_false,Int.reduceEq,Int.reduceLT,Int.reduceLE,qC,qO,qA,qS,qU,Nat.reduceEqDiff,qT,E.at,qR,Nat.reduceAdd,Nat.reduceSub,Nat.reduceLeDiff,Nat.reduceMul,qI,qP,qQ,hone,hrow,hlen,hI,hd,k1,k2,k3,b33,b45,b40]
  refine (fail_c hw i d 2).call1 rfl (by simp [V.free,V.free1]) rfl (pfr hw _ _ _) fun z os' hq => ?_
  obtain ⟨hx,rfl⟩ := hq
  have hx' := hx
  obtain ⟨a,b,c,dd,rfl,ho⟩ := ex_agg hx
  refine ⟨_,rfl,pfr hw _ _ _,freeT_of hx'.ok.1, ?_⟩
  simp only [c87,c87x1,c87x2,c87x3,c87x4,c87x5,c87x6,c87x7,c87x8,c87x9,c87x10,c87x11,c87x12,c87x13,c87x14,c87x15,c87x16,RUA,RUB,RUC,RUD,RUE,RUF,if_true,if_false,Int.reduceEq,Int.reduceLT,Int.reduceLE,qC,qO,qA,qS,qU,Nat.reduceEqDiff,qT,E.at,qR,Nat.reduceAdd,Nat.reduceSub,Nat.reduceLeDiff,Nat.reduceMul,qI,qP,qQ,hone,ho,rets,List.take]
  exact ⟨_,_,fin1 (pfr hw _ _ _) (freeT_of hx'.ok.1),⟨_,hx'⟩,by omega,rfl⟩
theorem un_k {i d : Nat} {s : Sg} (h : l[i]? = some s) (hs : SgOk s) (hk : s.k = 1) (hn : isName s.t = false) : SFn Tryd.prog T 87 [.pt 0 0] [.cells [w,iV i,iV d,iV 0]] (Post w d (.bad 2 i)) := by
  have hone : w.one = true := free1_one hw.free
  have hrow := fun o => hw.row o
  have hlen : (l.map Sg.v).length = l.length := by simp
  have hlt := (List.getElem?_eq_some_iff.1 h).1
  have hI := fun o => sg_ix hw h o
  have hd : decide ((l.length : Int) ≤ (i : Int)) = false := by simp; omega
  have k2 : decide ((s.k : Int) = 2) = false := by simp; omega
  have k1 : decide ((s.k : Int) = 1) = true := by simp; omega
  have k3 : decide ((s.k : Int) = 3) = false := by simp; omega
  intro yi hy
  refine Call.step hy ?_
  rw [body_eq t87]
  simp only [c87,c87x1,c87x2,c87x3,c87x4,c87x5,c87x6,c87x7,c87x8,RUA,RUB,RUC,RUD,RUE,RUF,if_true,if_false,Int.reduceEq,Int.reduceLT,Int.reduceLE,qC,qO,qA,qS,qU,Nat.reduceEqDiff,qT,E.at,qR,Nat.reduceAdd,Nat.reduceSub,Nat.reduceLeDiff,Nat.reduceMul,qI,qP,qQ,hone,hrow,hlen,hI,hd,k1,k2,k3]
  refine pcall (name_p (s := s.t) (by have := hs.1; unfold lim; omega)) rfl (by simp [V.free,V.free1]) ?_
  rw [hn]
  simp only [c87,c87x1,c87x2,c87x3,c87x4,c87x5,c87x6,c87x7,c87x8,c87x9,c87x10,c87x11,c87x12,c87x13,c87x14,c87x15,c87x16,RUA,RUB,RUC,RUD,RUE,RUF,if_true,if_false,Int.reduceEq,Int.reduceLT,Int.reduceLE,qC,qO,qA,qS,qU,Nat.reduceEqDiff,qT,E.at,qR,Nat.reduceAdd,Nat.reduceSub,Nat.reduceLeDiff,Nat.reduceMul,qI,qP,qQ,hone,hrow,hlen,hI,hd,k1,k2,k3]
  refine (fail_c hw i d 2).call1 rfl (by simp [V.free,V.free1]) rfl (pfr hw _ _ _) fun z os' hq => ?_
  obtain ⟨hx,rfl⟩ := hq
  have hx' := hx
  obtain ⟨a,b,c,dd,rfl,ho⟩ := ex_agg hx
  refine ⟨_,rfl,pfr hw _ _ _,freeT_of hx'.ok.1, ?_⟩
  simp only [c87,c87x1,c87x2,c87x3,c87x4,c87x5,c87x6,c87x7,c87x8,c87x9,c87x10,c87x11,c87x12,c87x13,c87x14,c87x15,c87x16,RUA,RUB,RUC,RUD,RUE,RUF,if_true,if_false,Int.reduceEq,Int.reduceLT,Int.reduceLE,qC,qO,qA,qS,qU,Nat.reduceEqDiff,qT,E.at,qR,Nat.reduceAdd,Nat.reduceSub,Nat.reduceLeDiff,Nat.reduceMul,qI,qP,qQ,hone,ho,rets,List.take]
  exact ⟨_,_,fin1 (pfr hw _ _ _) (freeT_of hx'.ok.1),⟨_,hx'⟩,by omega,rfl⟩
theorem un_v (hl : l.length ≤ lim) {i d : Nat} {s : Sg} (h : l[i]? = some s) (hs : SgOk s) (hk : s.k = 1) (hn : isName s.t = true) : SFn Tryd.prog T 87 [.pt 0 0] [.cells [w,iV i,iV d,iV 0]] (Post w d (.ok (.mk 2 0 ⟨s.t.toArray⟩ []) (i + 1))) := by
  have hone : w.one = true := free1_one hw.free
  have hrow := fun o => hw.row o
  have hlen : (l.map Sg.v).length = l.length := by simp
  have hlt := (List.getElem?_eq_some_iff.1 h).1
  have hI := fun o => sg_ix hw h o
  have hd : decide ((l.length : Int) ≤ (i : Int)) = false := by simp; omega
  have k2 : decide ((s.k : Int) = 2) = false := by simp; omega
  have k1 : decide ((s.k : Int) = 1) = true := by simp; omega
  have k3 : decide ((s.k : Int) = 3) = false := by simp; omega
  unfold lim at hl
  have w1 : IntKind.i64.wrap ((i : Int) + 1) = ((i + 1 : Nat) : Int) := wrap_succ (by omega)
  intro yi hy
  refine Call.step hy ?_
  rw [body_eq t87]
  simp only [c87,c87x1,c87x2,c87x3,c87x4,c87x5,c87x6,c87x7,c87x8,RUA,RUB,RUC,RUD,RUE,RUF,if_true,if_false,Int.reduceEq,Int.reduceLT,Int.reduceLE,qC,qO,qA,qS,qU,Nat.reduceEqDiff,qT,E.at,qR,Nat.reduceAdd,Nat.reduceSub,Nat.reduceLeDiff,Nat.reduceMul,qI,qP,qQ,hone,hrow,hlen,hI,hd,k1,k2,k3]
  refine pcall (name_p (s := s.t) (by have := hs.1; unfold lim; omega)) rfl (by simp [V.free,V.free1]) ?_
  rw [hn]
  have hE : IsEx (.mk 2 0 ⟨s.t.toArray⟩ []) (.agg [iV 2,iV 0,tV s.t,nilV]) := ⟨nilV,[],rfl,.inl ⟨rfl,rfl⟩,by simp,rfl⟩
  simp only [c87,c87x1,c87x2,c87x3,c87x4,c87x5,c87x6,c87x7,c87x8,c87x9,c87x10,c87x11,c87x12,c87x13,c87x14,c87x15,c87x16,RUA,RUB,RUC,RUD,RUE,RUF,if_true,if_false,Int.reduceEq,Int.reduceLT,Int.reduceLE,qC,qO,qA,qS,qU,Nat.reduceEqDiff,qT,E.at,qR,Nat.reduceAdd,Nat.reduceSub,Nat.reduceLeDiff,Nat.reduceMul,qI,qP,qQ,hone,hrow,hlen,hI,hd,k1,k2,k3,w1,fillC,rets,List.take]
  exact ⟨_,_,fin1 (pfr hw _ _ _) (freeT_of hE.ok.1),hE,rfl⟩
theorem un_n (hl : l.length ≤ lim) {i d : Nat} {s : Sg} (h : l[i]? = some s) (hs : SgOk s) (hk : s.k = 2) : SFn Tryd.prog T 87 [.pt 0 0] [.cells [w,iV i,iV d,iV 0]] (Post w d (.ok (.mk 1 (numI s.t) emp []) (i + 1))) := by
  have hone : w.one = true := free1_one hw.free
  have hrow := fun o => hw.row o
  have hlen : (l.map Sg.v).length = l.length := by simp
  have hlt := (List.getElem?_eq_some_iff.1 h).1
  have hI := fun o => sg_ix hw h o
  have hd : decide ((l.length : Int) ≤ (i : Int)) = false := by simp; omega
  have k2 : decide ((s.k : Int) = 2) = true := by simp; omega
  have k1 : decide ((s.k : Int) = 1) = false := by simp; omega
  have k3 : decide ((s.k : Int) = 3) = false := by simp; omega
  unfold lim at hl
  have w1 : IntKind.i64.wrap ((i : Int) + 1) = ((i + 1 : Nat) : Int) := wrap_succ (by omega)
  obtain ⟨q1,q2,q3⟩ := hs.2 hk
  intro yi hy
  refine Call.step hy ?_
  rw [body_eq t87]
  simp only [c87,c87x1,c87x2,c87x3,c87x4,c87x5,RUA,RUB,RUC,RUD,RUE,RUF,if_true,if_false,Int.reduceEq,Int.reduceLT,Int.reduceLE,qC,qO,qA,qS,qU,Nat.reduceEqDiff,qT,E.at,qR,Nat.reduceAdd,Nat.reduceSub,Nat.reduceLeDiff,Nat.reduceMul,qI,qP,qQ,hone,hrow,hlen,hI,hd,k1,k2,k3]
  refine pcall (atoi_p q1 q2 q3) rfl (by simp [V.free,V.free1]) ?_
  have hE : IsEx (.mk 1 (numI s.t) emp []) (.agg [iV 1,iV (numI s.t),sV emp,nilV]) := ⟨nilV,[],rfl,.inl ⟨rfl,rfl⟩,by simp,rfl⟩
  simp only [c87,c87x1,c87x2,c87x3,c87x4,c87x5,c87x6,c87x7,c87x8,c87x9,c87x10,c87x11,c87x12,c87x13,c87x14,c87x15,c87x16,RUA,RUB,RUC,RUD,RUE,RUF,if_true,if_false,Int.reduceEq,Int.reduceLT,Int.reduceLE,qC,qO,qA,qS,qU,Nat.reduceEqDiff,qT,E.at,qR,Nat.reduceAdd,Nat.reduceSub,Nat.reduceLeDiff,Nat.reduceMul,qI,qP,qQ,hone,hrow,hlen,hI,hd,k1,k2,k3,w1,fillC,rets,List.take]
  exact ⟨_,_,fin1 (pfr hw _ _ _) (freeT_of hE.ok.1),hE,rfl⟩
end
def G (w : V) : W → Nat → Nat → PR → Prop
  | .un,d,i,r => SFn Tryd.prog T 87 [.pt 0 0] [.cells [w,iV i,iV d,iV 0]] (Post w d r)
  | .bin lv,d,i,r => SFn Tryd.prog T 83 [.pt 0 0,iV lv] [.cells [w,iV i,iV d,iV 0]] (Post w d r)
  | .lp _ _,_,_,_ => True
theorem un_c {w : V} {l : List Sg} (hw : IsSl 3 w (l.map Sg.v)) (hl : l.length ≤ lim) (hok : ∀ s ∈ l,SgOk s) {n d i : Nat} {r : PR} (h : PS l (n + 1) .un d i r) (ih : ∀ w' d i r,PS l n w' d i r → G w w' d i r) : G w .un d i r := by
  have hs : ∀ {i : Nat} {s : Sg},l[i]? = some s → SgOk s ∧ i < lim := fun h => ⟨hok _ (List.mem_of_getElem? h),Nat.lt_of_lt_of_le (List.getElem?_eq_some_iff.1 h).1 hl⟩
  cases h with
  | unE h => exact un_e hw h
  | unN h hk => exact un_n hw hl h (hs h).1 hk
  | unV h hk hn => exact un_v hw hl h (hs h).1 hk hn
  | unW h hk hn => exact un_k hw h (hs h).1 hk hn
  | unX h hk hk2 hk3 => exact un_x hw h hk hk2 hk3
  | unM h hk h1 h2 h3 => exact un_m hw h hk h1 h2 h3
  | unD h hk ht hd =>
    rcases ht with ht | ht | ht
    · exact un_w33 hw h hk ht (within_f hw hd)
    · exact un_w45 hw h hk ht (within_f hw hd)
    · exact un_w40 hw h hk ht (within_f hw hd)
  | unS h hk ht hd h1 =>
    rcases ht with ⟨ht,rfl⟩ | ⟨ht,rfl⟩
    · exact un_w33 hw h hk ht (within_c hw rfl hd (hs h).2 (not_c hw (ih _ _ _ _ h1)))
    · exact un_w45 hw h hk ht (within_c hw rfl hd (hs h).2 (neg_c hw (ih _ _ _ _ h1)))
  | unSB h hk ht hd h1 =>
    rcases ht with ht | ht
    · exact un_w33 hw h hk ht (within_c hw rfl hd (hs h).2 (not_c hw (ih _ _ _ _ h1)))
    · exact un_w45 hw h hk ht (within_c hw rfl hd (hs h).2 (neg_c hw (ih _ _ _ _ h1)))
  | unP h hk ht hd h1 hm =>
    have := bra_c hw hl (ih _ _ _ _ h1)
    simp only [brR,if_pos hm] at this
    exact un_w40 hw h hk ht (within_c hw rfl hd (hs h).2 this)
  | unPM h hk ht hd h1 hm =>
    have := bra_c hw hl (ih _ _ _ _ h1)
    simp only [brR,if_neg hm] at this
    exact un_w40 hw h hk ht (within_c hw rfl hd (hs h).2 this)
  | unPB h hk ht hd h1 =>
    exact un_w40 hw h hk ht (within_c hw rfl hd (hs h).2 (bra_c hw hl (ih _ _ _ _ h1)))
end Go.Proofs.YtclaoegdlibapaaDoor
end

section
set_option linter.unusedVariables false
set_option linter.unusedSimpArgs false
set_option maxRecDepth 100000
set_option maxHeartbeats 8000000
open Go.Proofs.Pe renaming putCells → qC, bslOf → qO, bsaOf → qA, bslS → qS, isUpto → qU, step → qT, intOf → qI, iop → qP, sop → qQ
open List renaming replicate → qR
open Go.Proofs.Pe.V renaming dead → qD
namespace Go.Proofs.YtclaoegdlibapaaDoor
open Go.Proofs.Pe


abbrev z4O : O := .cells [iV 0,iV 0,sV (ByteArray.mk #[]),nilV]
def KP (w : V) (d : Nat) (r : PR) : V → List O → Prop := fun y o' => ∃ z os',Fin5 1 y o' z os' ∧ Post w d r z os'
def PsiB (w : V) (d : Nat) (r : PR) : X → Fr → Prop := fun x3 f3 => match x3 with
  | .goto _ => endK [Rv.cell 4 true 4] (KP w d r) .normal f3
  | x => endK [Rv.cell 4 true 4] (KP w d r) x f3
abbrev LoopB (yi : Nat → Sem') : Fr → (X → Fr → Prop) → Prop := Lfp (gBody 0 (Pe.ev Tryd.prog T (Pe.Call Tryd.prog T) Lfp (.seq .skip c83x5) none yi))
section
variable {w : V} {l : List Sg} (hw : IsSl 3 w (l.map Sg.v))
include hw
theorem head_e {lv d j e : Nat} (he : e ≠ 0) {a b : Int} {c : ByteArray} {xv : V} {tl : List O} {yi : Nat → Sem'} (hy : YLe yi yi) (C : X → Fr → Prop)
    (hret : ∀ f',endK [Rv.cell 4 true 4] (KP w d (.bad e j)) .ret f' → C .ret f') (x6 x7 x8 x9 x10 x11 x12 x13 x14 x15 x16 x17 x18 x19 x20 x21 x22 x23 x24 x25 x26 x27 x28 x29 x30 x31 x32 x33 x34 x35 x36 x37 x38 x39 x40 x41 x42 x43 x44 x45 x46 x47 x48 x49 : V) :
    Pe.ev Tryd.prog T (Pe.Call Tryd.prog T) Lfp c83x5 none yi ⟨⟨(.pt 0 0 :: iV lv :: qD::qD::.pt 1 0 :: .pt 2 0 :: x6 :: x7 :: x8 :: x9 :: x10 :: x11 :: x12 :: x13 :: x14 :: x15 :: x16 :: x17 :: x18 :: x19 :: x20 :: x21 :: x22 :: x23 :: x24 :: x25 :: x26 :: x27 :: x28 :: x29 :: x30 :: x31 :: x32 :: x33 :: x34 :: x35 :: x36 :: x37 :: x38 :: x39 :: x40 :: x41 :: x42 :: x43 :: x44 :: x45 :: x46 :: x47 :: x48 :: x49 :: []),.cells [w,iV j,iV d,iV e] :: z4O :: .cells [iV a,iV b,sV c,xv] :: tl⟩,[]⟩ C := by
  have hone : w.one = true := free1_one hw.free
  have he0 : decide ((e : Int) = 0) = false := by simp; omega
  simp only [c83,c83x1,c83x2,c83x3,c83x4,c83x5,c83x6,RUA,RUB,RUC,RUD,RUE,RUF,if_true,if_false,Int.reduceEq,Int.reduceLT,Int.reduceLE,qC,qO,qA,qS,qU,Nat.reduceEqDiff,qT,E.at,qR,Nat.reduceAdd,Nat.reduceSub,Nat.reduceLeDiff,Nat.reduceMul,qI,qP,qQ,hone,he0,fillC]
  refine hret _ ?_
  simp only [KP,RUA,RUB,RUC,RUD,RUE,RUF,if_true,if_false,Int.reduceEq,Int.reduceLT,Int.reduceLE,qC,qO,qA,qS,qU,Nat.reduceEqDiff,qT,E.at,qR,Nat.reduceAdd,Nat.reduceSub,Nat.reduceLeDiff,Nat.reduceMul,qI,qP,qQ,hone,rets,List.take]
  exact ⟨_,_,fin1 (pfr hw _ _ _) (freeT_of zIs.ok.1),⟨_,zIs⟩,he,rfl⟩
theorem head_c (hl : l.length ≤ lim) {lv : Nat} (hlv : lv < 5) {N : Nat} (ihb : ∀ m,m < N → ∀ d i r,PS l m (.bin (lv + 1)) d i r → G w (.bin (lv + 1)) d i r) :
    ∀ (n : Nat),n ≤ N → ∀ (d j : Nat) (r : PR) (x : Ex),PS l n (.lp lv x) d j r → ∀ (a b : Int) (c : ByteArray) (xv : V) (tl : List O),IsEx x (.agg [iV a,iV b,sV c,xv]) → ∀ {yi : Nat → Sem'} (hy : YLe yi yi) (C : X → Fr → Prop)
    (hret : ∀ f',endK [Rv.cell 4 true 4] (KP w d r) .ret f' → C .ret f') (hgo : ∀ f',LoopB yi f' (PsiB w d r) → C (.goto 0) f') (x6 x7 x8 x9 x10 x11 x12 x13 x14 x15 x16 x17 x18 x19 x20 x21 x22 x23 x24 x25 x26 x27 x28 x29 x30 x31 x32 x33 x34 x35 x36 x37 x38 x39 x40 x41 x42 x43 x44 x45 x46 x47 x48 x49 : V),
    Pe.ev Tryd.prog T (Pe.Call Tryd.prog T) Lfp c83x5 none yi ⟨⟨(.pt 0 0 :: iV lv :: qD::qD::.pt 1 0 :: .pt 2 0 :: x6 :: x7 :: x8 :: x9 :: x10 :: x11 :: x12 :: x13 :: x14 :: x15 :: x16 :: x17 :: x18 :: x19 :: x20 :: x21 :: x22 :: x23 :: x24 :: x25 :: x26 :: x27 :: x28 :: x29 :: x30 :: x31 :: x32 :: x33 :: x34 :: x35 :: x36 :: x37 :: x38 :: x39 :: x40 :: x41 :: x42 :: x43 :: x44 :: x45 :: x46 :: x47 :: x48 :: x49 :: []),.cells [w,iV j,iV d,iV 0] :: z4O :: .cells [iV a,iV b,sV c,xv] :: tl⟩,[]⟩ C := by
  have hone : w.one = true := free1_one hw.free
  have hrl : ∀ o,rowOf o (.sl 2 true lvlsV) = some lvlsV := fun o => rfl
  have hI : ∀ o,ixOf 2 o (.sl 2 true lvlsV) (iV lv) = some (.ep [iV (lvLo lv),iV (lvHi lv)],o) := fun o => IsSl.ix (.inr ⟨_,rfl⟩) o (lvls_get hlv)
  have hnil := kind_nil lv hlv
  have wl : IntKind.i64.wrap ((lv : Int) + 1) = ((lv + 1 : Nat) : Int) := wrap_succ (by omega)
  intro n
  induction n with
  | zero => intro _ d j r x h; cases h
  | succ n ih =>
    intro hN d j r x h a b c xv tl hx yi hy C hret hgo x6 x7 x8 x9 x10 x11 x12 x13 x14 x15 x16 x17 x18 x19 x20 x21 x22 x23 x24 x25 x26 x27 x28 x29 x30 x31 x32 x33 x34 x35 x36 x37 x38 x39 x40 x41 x42 x43 x44 x45 x46 x47 x48 x49
    have hxo : xv.one = true := by obtain ⟨a',b',c',d',e,h1⟩ := ex_agg hx; cases e; exact h1
    simp only [c83,c83x1,c83x2,c83x3,c83x4,c83x5,c83x6,c83x7,RUA,RUB,RUC,RUD,RUE,RUF,if_true,if_false,Int.reduceEq,Int.reduceLT,Int.reduceLE,qC,qO,qA,qS,qU,Nat.reduceEqDiff,qT,E.at,qR,Nat.reduceAdd,Nat.reduceSub,Nat.reduceLeDiff,Nat.reduceMul,qI,qP,qQ,hone]
    refine pcall levels_p rfl (by simp) ?_
    simp only [c83,c83x1,c83x2,c83x3,c83x4,c83x5,c83x6,c83x7,RUA,RUB,RUC,RUD,RUE,RUF,if_true,if_false,Int.reduceEq,Int.reduceLT,Int.reduceLE,qC,qO,qA,qS,qU,Nat.reduceEqDiff,qT,E.at,qR,Nat.reduceAdd,Nat.reduceSub,Nat.reduceLeDiff,Nat.reduceMul,qI,qP,qQ,hone,hI]
    refine call3 rfl (cm_pt (cm_free rfl cm_nil)) (pkind_c noY_le hw hlv rfl fun bb => ⟨(Frm.app _ _ []).sim, ?_⟩)
    by_cases hk0 : kindM lv (markAt l j) = 0
    · have hr : r = .ok x j := by
        cases h with
        | lpE h => rfl
        | lpB h h1 => exact absurd hk0 h
        | lp2 h h1 => exact absurd hk0 h
        | lp h h0 h1 h2 => exact absurd hk0 h
      subst hr
      rw [hk0]
      simp only [c83,c83x1,c83x2,c83x3,c83x4,c83x5,c83x6,c83x7,c83x8,c83x9,RUA,RUB,RUC,RUD,RUE,RUF,if_true,if_false,Int.reduceEq,Int.reduceLT,Int.reduceLE,qC,qO,qA,qS,qU,Nat.reduceEqDiff,qT,E.at,qR,Nat.reduceAdd,Nat.reduceSub,Nat.reduceLeDiff,Nat.reduceMul,qI,qP,qQ,hone,hxo]
      refine hret _ ?_
      simp only [KP,RUA,RUB,RUC,RUD,RUE,RUF,if_true,if_false,Int.reduceEq,Int.reduceLT,Int.reduceLE,qC,qO,qA,qS,qU,Nat.reduceEqDiff,qT,E.at,qR,Nat.reduceAdd,Nat.reduceSub,Nat.reduceLeDiff,Nat.reduceMul,qI,qP,qQ,hone,hxo,rets,List.take]
      exact ⟨_,_,fin1 (pfr hw _ _ _) (freeT_of hx.ok.1),hx,rfl⟩
    · have hj : j < l.length := by
        by_cases hm : markAt l j = []
        · exact absurd (by rw [hm]; exact hnil) hk0
        · exact mark_lt rfl hm
      have hkd : decide ((kindM lv (markAt l j) : Int) = 0) = false := by simp; omega
      have wj : IntKind.i64.wrap ((j : Int) + 1) = ((j + 1 : Nat) : Int) := wrap_succ (by unfold lim at hl; omega)
      have hxf : xv.free1 = true := by
        have := hx.ok.1
        simp only [free_agg,List.all_cons,List.all_nil,free1_sc,Bool.and_true,Bool.true_and] at this
        exact this
      have key : ∀ (y : Ex) z,IsEx y z → z.free = true ∧ decide (z.cells.length = 4) = true := fun y z h => ⟨h.ok.1,by simpa using h.ok.2⟩
      generalize hkk : kindM lv (markAt l j) = kk at hk0 hkd
      have hbin : ∃ rb,PS l n (.bin (lv + 1)) d (j + 1) rb ∧ match rb with
          | .bad e j2 => r = .bad e j2
          | .ok y j2 => if lv = 2 then r = .ok (.mk kk 0 emp [x,y]) j2 else PS l n (.lp lv (.mk kk 0 emp [x,y])) d j2 r := by
        cases h with
        | lpE h => rw [hkk] at h; exact absurd h hk0
        | lpB h h1 => exact ⟨_,h1,rfl⟩
        | lp2 h h1 => exact ⟨_,h1,by rw [hkk]; simp⟩
        | lp h h0 h1 h2 => rw [hkk] at h2; exact ⟨_,h1,by simp only [if_neg h0]; exact h2⟩
      obtain ⟨rb,hb1,hb2⟩ := hbin
      have hB := ihb n (by omega) _ _ _ hb1
      simp only [c83,c83x1,c83x2,c83x3,c83x4,c83x5,c83x6,c83x7,c83x8,c83x9,c83x10,c83x11,RUA,RUB,RUC,RUD,RUE,RUF,if_true,if_false,Int.reduceEq,Int.reduceLT,Int.reduceLE,qC,qO,qA,qS,qU,Nat.reduceEqDiff,qT,E.at,qR,Nat.reduceAdd,Nat.reduceSub,Nat.reduceLeDiff,Nat.reduceMul,qI,qP,qQ,hone,hxo,hkd,wj,wl]
      refine ⟨?_, ?_⟩
      all_goals
        refine SFn.call1 hB rfl (by simp [V.free,V.free1]) rfl (pfr hw _ _ _) fun z os' hq => ?_
        rcases rb with ⟨y,j2⟩ | ⟨e,j2⟩
        · obtain ⟨hz,rfl⟩ := hq
          obtain ⟨k1,k2⟩ := key y z hz
          have hx' := ex_two (k := kk) hx hz
          refine ⟨_,rfl,pfr hw _ _ _,freeT_of k1, ?_⟩
          by_cases h2 : lv = 2
          · have hd2 : decide ((lv : Int) = 2) = true := by simp; omega
            simp only [if_pos h2] at hb2
            subst hb2
            simp only [c83,c83x1,c83x2,c83x3,c83x4,c83x5,c83x6,c83x7,c83x8,c83x9,c83x10,c83x11,c83x12,c83x13,c83x14,RUA,RUB,RUC,RUD,RUE,RUF,if_true,if_false,Int.reduceEq,Int.reduceLT,Int.reduceLE,qC,qO,qA,qS,qU,Nat.reduceEqDiff,qT,E.at,qR,Nat.reduceAdd,Nat.reduceSub,Nat.reduceLeDiff,Nat.reduceMul,qI,qP,qQ,hone,hxo,hxf,k1,k2,fillC,hd2]
            refine hret _ ?_
            simp only [KP,RUA,RUB,RUC,RUD,RUE,RUF,if_true,if_false,Int.reduceEq,Int.reduceLT,Int.reduceLE,qC,qO,qA,qS,qU,Nat.reduceEqDiff,qT,E.at,qR,Nat.reduceAdd,Nat.reduceSub,Nat.reduceLeDiff,Nat.reduceMul,qI,qP,qQ,hone,hxo,rets,List.take]
            exact ⟨_,_,fin1 (pfr hw _ _ _) (freeT_of hx'.ok.1),hx',rfl⟩
          · have hd2 : decide ((lv : Int) = 2) = false := by simp; omega
            simp only [if_neg h2] at hb2
            simp only [c83,c83x1,c83x2,c83x3,c83x4,c83x5,c83x6,c83x7,c83x8,c83x9,c83x10,c83x11,c83x12,c83x13,c83x14,RUA,RUB,RUC,RUD,RUE,RUF,if_true,if_false,Int.reduceEq,Int.reduceLT,Int.reduceLE,qC,qO,qA,qS,qU,Nat.reduceEqDiff,qT,E.at,qR,Nat.reduceAdd,Nat.reduceSub,Nat.reduceLeDiff,Nat.reduceMul,qI,qP,qQ,hone,hxo,hxf,k1,k2,fillC,hd2]
            refine hgo _ (Lfp.step (gBody_mono (ev_mono call_le lfp_le _ _ _ _ hy)) ?_)
            unfold gBody
            simp only [s_seq,s_skip]
            refine ih (by omega) _ _ _ _ hb2 _ _ _ _ _ hx' hy _ ?_ ?_ _ _ _ _ _ _ _ _ _ _ _ _ _ _ _ _ _ _ _ _ _ _ _ _ _ _ _ _ _ _ _ _ _ _ _ _ _ _ _ _ _ _ _ _
            · exact fun f' h => h
            · exact fun f' h => h
        · obtain ⟨⟨y,hz⟩,he,rfl⟩ := hq
          obtain ⟨k1,k2⟩ := key y z hz
          have hx' := ex_two (k := kk) hx hz
          dsimp only at hb2
          subst hb2
          refine ⟨_,rfl,pfr hw _ _ _,freeT_of k1, ?_⟩
          by_cases h2 : lv = 2
          · have hd2 : decide ((lv : Int) = 2) = true := by simp; omega
            simp only [c83,c83x1,c83x2,c83x3,c83x4,c83x5,c83x6,c83x7,c83x8,c83x9,c83x10,c83x11,c83x12,c83x13,c83x14,RUA,RUB,RUC,RUD,RUE,RUF,if_true,if_false,Int.reduceEq,Int.reduceLT,Int.reduceLE,qC,qO,qA,qS,qU,Nat.reduceEqDiff,qT,E.at,qR,Nat.reduceAdd,Nat.reduceSub,Nat.reduceLeDiff,Nat.reduceMul,qI,qP,qQ,hone,hxo,hxf,k1,k2,fillC,hd2]
            refine hret _ ?_
            simp only [KP,RUA,RUB,RUC,RUD,RUE,RUF,if_true,if_false,Int.reduceEq,Int.reduceLT,Int.reduceLE,qC,qO,qA,qS,qU,Nat.reduceEqDiff,qT,E.at,qR,Nat.reduceAdd,Nat.reduceSub,Nat.reduceLeDiff,Nat.reduceMul,qI,qP,qQ,hone,hxo,rets,List.take]
            exact ⟨_,_,fin1 (pfr hw _ _ _) (freeT_of hx'.ok.1),⟨_,hx'⟩,he,rfl⟩
          · have hd2 : decide ((lv : Int) = 2) = false := by simp; omega
            simp only [c83,c83x1,c83x2,c83x3,c83x4,c83x5,c83x6,c83x7,c83x8,c83x9,c83x10,c83x11,c83x12,c83x13,c83x14,RUA,RUB,RUC,RUD,RUE,RUF,if_true,if_false,Int.reduceEq,Int.reduceLT,Int.reduceLE,qC,qO,qA,qS,qU,Nat.reduceEqDiff,qT,E.at,qR,Nat.reduceAdd,Nat.reduceSub,Nat.reduceLeDiff,Nat.reduceMul,qI,qP,qQ,hone,hxo,hxf,k1,k2,fillC,hd2]
            refine hgo _ (Lfp.step (gBody_mono (ev_mono call_le lfp_le _ _ _ _ hy)) ?_)
            unfold gBody
            simp only [s_seq,s_skip]
            refine head_e hw he hy _ ?_ _ _ _ _ _ _ _ _ _ _ _ _ _ _ _ _ _ _ _ _ _ _ _ _ _ _ _ _ _ _ _ _ _ _ _ _ _ _ _ _ _ _ _ _
            exact fun f' h => h
end
end Go.Proofs.YtclaoegdlibapaaDoor
end

section
set_option linter.unusedVariables false
set_option linter.unusedSimpArgs false
set_option maxRecDepth 100000
set_option maxHeartbeats 8000000
open Go.Proofs.Pe renaming putCells → qC, bslOf → qO, bsaOf → qA, bslS → qS, isUpto → qU, step → qT, intOf → qI, iop → qP, sop → qQ
open List renaming replicate → qR
open Go.Proofs.Pe.V renaming dead → qD
namespace Go.Proofs.YtclaoegdlibapaaDoor
open Go.Proofs.Pe


theorem bin_c {w : V} {l : List Sg} (hw : IsSl 3 w (l.map Sg.v)) (hl : l.length ≤ lim) {n lv d i : Nat} {r : PR} (h : PS l (n + 1) (.bin lv) d i r) (ih : ∀ m,m ≤ n → ∀ w' d i r,PS l m w' d i r → G w w' d i r) : G w (.bin lv) d i r := by
  have hone : w.one = true := free1_one hw.free
  have hrl : ∀ o,rowOf o (.sl 2 true lvlsV) = some lvlsV := fun o => rfl
  have hll : lvlsV.length = 5 := rfl
  intro yi hy
  refine Call.step hy ?_
  rw [body_eq t83]
  cases h with
  | bin5 h1 =>
    have hB := ih n (Nat.le_refl _) _ _ _ _ h1
    simp only [c83,c83x1,RUA,RUB,RUC,RUD,RUE,RUF,if_true,if_false,Int.reduceEq,Int.reduceLT,Int.reduceLE,qC,qO,qA,qS,qU,Nat.reduceEqDiff,qT,E.at,qR,Nat.reduceAdd,Nat.reduceSub,Nat.reduceLeDiff,Nat.reduceMul,qI,qP,qQ,s_scopeG,hone]
    refine pcall levels_p rfl (by simp) ?_
    have hd : decide (((5 : Nat) : Int) = 5) = true := rfl
    simp only [c83,c83x1,c83x2,c83x3,RUA,RUB,RUC,RUD,RUE,RUF,if_true,if_false,Int.reduceEq,Int.reduceLT,Int.reduceLE,qC,qO,qA,qS,qU,Nat.reduceEqDiff,qT,E.at,qR,Nat.reduceAdd,Nat.reduceSub,Nat.reduceLeDiff,Nat.reduceMul,qI,qP,qQ,s_scopeG,hone,hrl,hll,hd]
    refine SFn.call1 hB rfl (by simp) rfl (pfr hw _ _ _) fun z os' hq => ?_
    rcases r with ⟨x,j⟩ | ⟨e,j⟩
    · obtain ⟨hx,rfl⟩ := hq
      have hx' := hx
      obtain ⟨a,b,c,dd,rfl,ho⟩ := ex_agg hx
      refine ⟨_,rfl,pfr hw _ _ _,freeT_of hx'.ok.1, ?_⟩
      simp only [c83,c83x1,c83x2,c83x3,RUA,RUB,RUC,RUD,RUE,RUF,if_true,if_false,Int.reduceEq,Int.reduceLT,Int.reduceLE,qC,qO,qA,qS,qU,Nat.reduceEqDiff,qT,E.at,qR,Nat.reduceAdd,Nat.reduceSub,Nat.reduceLeDiff,Nat.reduceMul,qI,qP,qQ,hone,ho,rets,List.take]
      exact ⟨_,_,fin1 (pfr hw _ _ _) (freeT_of hx'.ok.1),hx',rfl⟩
    · obtain ⟨⟨x,hx⟩,he,rfl⟩ := hq
      have hx' := hx
      obtain ⟨a,b,c,dd,rfl,ho⟩ := ex_agg hx
      refine ⟨_,rfl,pfr hw _ _ _,freeT_of hx'.ok.1, ?_⟩
      simp only [c83,c83x1,c83x2,c83x3,RUA,RUB,RUC,RUD,RUE,RUF,if_true,if_false,Int.reduceEq,Int.reduceLT,Int.reduceLE,qC,qO,qA,qS,qU,Nat.reduceEqDiff,qT,E.at,qR,Nat.reduceAdd,Nat.reduceSub,Nat.reduceLeDiff,Nat.reduceMul,qI,qP,qQ,hone,ho,rets,List.take]
      exact ⟨_,_,fin1 (pfr hw _ _ _) (freeT_of hx'.ok.1),⟨_,hx'⟩,he,rfl⟩
  | binB hlv h1 =>
    have hB := ih n (Nat.le_refl _) _ _ _ _ h1
    have wl : IntKind.i64.wrap ((lv : Int) + 1) = ((lv + 1 : Nat) : Int) := wrap_succ (by omega)
    have hd : decide ((lv : Int) = ((5 : Nat) : Int)) = false := by simp; omega
    simp only [c83,c83x1,RUA,RUB,RUC,RUD,RUE,RUF,if_true,if_false,Int.reduceEq,Int.reduceLT,Int.reduceLE,qC,qO,qA,qS,qU,Nat.reduceEqDiff,qT,E.at,qR,Nat.reduceAdd,Nat.reduceSub,Nat.reduceLeDiff,Nat.reduceMul,qI,qP,qQ,s_scopeG,hone]
    refine pcall levels_p rfl (by simp) ?_
    simp only [c83,c83x1,c83x2,c83x3,c83x4,RUA,RUB,RUC,RUD,RUE,RUF,if_true,if_false,Int.reduceEq,Int.reduceLT,Int.reduceLE,qC,qO,qA,qS,qU,Nat.reduceEqDiff,qT,E.at,qR,Nat.reduceAdd,Nat.reduceSub,Nat.reduceLeDiff,Nat.reduceMul,qI,qP,qQ,s_scopeG,hone,hrl,hll,hd,wl]
    refine SFn.call1 hB rfl (by simp [V.free,V.free1]) rfl (pfr hw _ _ _) fun z os' hq => ?_
    obtain ⟨⟨x,hx⟩,he,rfl⟩ := hq
    have hx' := hx
    obtain ⟨a,b,c,dd,rfl,ho⟩ := ex_agg hx
    refine ⟨_,rfl,pfr hw _ _ _,freeT_of hx'.ok.1, ?_⟩
    simp only [c83,c83x1,c83x2,c83x3,c83x4,RUA,RUB,RUC,RUD,RUE,RUF,if_true,if_false,Int.reduceEq,Int.reduceLT,Int.reduceLE,qC,qO,qA,qS,qU,Nat.reduceEqDiff,qT,E.at,qR,Nat.reduceAdd,Nat.reduceSub,Nat.reduceLeDiff,Nat.reduceMul,qI,qP,qQ,hone,ho]
    refine head_e hw he hy _ ?_ _ _ _ _ _ _ _ _ _ _ _ _ _ _ _ _ _ _ _ _ _ _ _ _ _ _ _ _ _ _ _ _ _ _ _ _ _ _ _ _ _ _ _ _
    exact fun f' h => h
  | bin hlv h1 h2 =>
    have hB := ih n (Nat.le_refl _) _ _ _ _ h1
    have wl : IntKind.i64.wrap ((lv : Int) + 1) = ((lv + 1 : Nat) : Int) := wrap_succ (by omega)
    have hd : decide ((lv : Int) = ((5 : Nat) : Int)) = false := by simp; omega
    simp only [c83,c83x1,RUA,RUB,RUC,RUD,RUE,RUF,if_true,if_false,Int.reduceEq,Int.reduceLT,Int.reduceLE,qC,qO,qA,qS,qU,Nat.reduceEqDiff,qT,E.at,qR,Nat.reduceAdd,Nat.reduceSub,Nat.reduceLeDiff,Nat.reduceMul,qI,qP,qQ,s_scopeG,hone]
    refine pcall levels_p rfl (by simp) ?_
    simp only [c83,c83x1,c83x2,c83x3,c83x4,RUA,RUB,RUC,RUD,RUE,RUF,if_true,if_false,Int.reduceEq,Int.reduceLT,Int.reduceLE,qC,qO,qA,qS,qU,Nat.reduceEqDiff,qT,E.at,qR,Nat.reduceAdd,Nat.reduceSub,Nat.reduceLeDiff,Nat.reduceMul,qI,qP,qQ,s_scopeG,hone,hrl,hll,hd,wl]
    refine SFn.call1 hB rfl (by simp [V.free,V.free1]) rfl (pfr hw _ _ _) fun z os' hq => ?_
    obtain ⟨hx,rfl⟩ := hq
    have hx' := hx
    obtain ⟨a,b,c,dd,rfl,ho⟩ := ex_agg hx
    refine ⟨_,rfl,pfr hw _ _ _,freeT_of hx'.ok.1, ?_⟩
    simp only [c83,c83x1,c83x2,c83x3,c83x4,RUA,RUB,RUC,RUD,RUE,RUF,if_true,if_false,Int.reduceEq,Int.reduceLT,Int.reduceLE,qC,qO,qA,qS,qU,Nat.reduceEqDiff,qT,E.at,qR,Nat.reduceAdd,Nat.reduceSub,Nat.reduceLeDiff,Nat.reduceMul,qI,qP,qQ,hone,ho]
    refine head_c hw hl hlv (N := n) (fun m hm d i r h => ih m (by omega) _ _ _ _ h) n (Nat.le_refl _) _ _ _ _ h2 _ _ _ _ _ hx' hy _ ?_ ?_ _ _ _ _ _ _ _ _ _ _ _ _ _ _ _ _ _ _ _ _ _ _ _ _ _ _ _ _ _ _ _ _ _ _ _ _ _ _ _ _ _ _ _ _
    · exact fun f' h => h
    · exact fun f' h => h
theorem reads {w : V} {l : List Sg} (hw : IsSl 3 w (l.map Sg.v)) (hl : l.length ≤ lim) (hok : ∀ s ∈ l,SgOk s) : ∀ (n : Nat),∀ m,m ≤ n → ∀ w' d i r,PS l m w' d i r → G w w' d i r := by
  intro n
  induction n with
  | zero =>
    intro m hm w' d i r h
    have : m = 0 := by omega
    subst this
    cases h
  | succ n ih =>
    intro m hm w' d i r h
    by_cases hmn : m ≤ n
    · exact ih m hmn w' d i r h
    have : m = n + 1 := by omega
    subst this
    cases w' with
    | un => exact un_c hw hl hok h (ih n (Nat.le_refl _))
    | bin lv => exact bin_c hw hl h ih
    | lp lv x => exact trivial
end Go.Proofs.YtclaoegdlibapaaDoor
end

section
set_option linter.unusedVariables false
set_option linter.unusedSimpArgs false
set_option maxRecDepth 100000
set_option maxHeartbeats 1000000
namespace Go.Proofs.Pe

/-! ### Braces in one another -/
theorem sgn_word {c : UInt8} {t r : List UInt8} (hc : isSm c = true) (ht : ∀ d ∈ t,isIn d = true) (hl : (c :: t).length ≤ 20) (hr : Stop r) : sgnS (c :: t ++ r) = .ok 1 (c :: t).length := by
  have hn := rnN_app (p := isIn) (a := c :: t) (r := r) (fun d hd => by
    rcases List.mem_cons.1 hd with rfl | hd
    · simp [isIn,hc]
    · exact ht d hd) hr.wd
  rw [List.cons_append] at hn ⊢
  simp only [sgnS,hc,hn,if_true]
  rw [if_neg (by omega)]
def opB : Nat → List UInt8
  | 0 => []
  | k + 1 => 123 :: 32 :: opB k
def clB : Nat → List UInt8
  | 0 => []
  | k + 1 => 32 :: 125 :: clB k
def opSg : Nat → Nat → List Sg
  | 0,_ => []
  | k + 1,i => ⟨3,[123],i⟩ :: opSg k (i + 2)
def clSg : Nat → Nat → List Sg
  | 0,_ => []
  | k + 1,i => ⟨3,[125],i + 1⟩ :: clSg k (i + 2)
theorem opB_len : ∀ k,(opB k).length = 2 * k
  | 0 => rfl
  | k + 1 => by simp [opB,opB_len k]; omega
theorem clB_len : ∀ k,(clB k).length = 2 * k
  | 0 => rfl
  | k + 1 => by simp [clB,clB_len k]; omega
theorem opB_snoc : ∀ k,opB (k + 1) = opB k ++ [123,32]
  | 0 => rfl
  | k + 1 => by
    show 123 :: 32 :: opB (k + 1) = 123 :: 32 :: (opB k ++ [123,32])
    rw [opB_snoc k]
theorem clB_snoc : ∀ k,clB (k + 1) = clB k ++ [32,125]
  | 0 => rfl
  | k + 1 => by
    show 32 :: 125 :: clB (k + 1) = 32 :: 125 :: (clB k ++ [32,125])
    rw [clB_snoc k]
theorem sgn_brace (c : UInt8) (h : c = 123 ∨ c = 125) (r : List UInt8) : sgnS (c :: r) = .ok 3 1 := by
  rcases h with rfl | rfl <;> cases r <;> simp [sgnS,isSm,isDg,markN,dbls,sngs]
theorem clB_stop (k : Nat) : Stop (clB k) := fun c hc => by
  cases k with
  | zero => simp [clB] at hc
  | succ k => simp [clB] at hc; exact .inl hc.symm
theorem clB_SR : ∀ (k i : Nat) (acc : List Sg),SR (clB k) i acc (.ok (acc ++ clSg k i))
  | 0,i,acc => by rw [show clSg 0 i = [] from rfl,List.append_nil]; exact .done rfl
  | k + 1,i,acc => by
    have h := clB_SR k (i + 1 + 1) (acc ++ [⟨3,[125],i + 1⟩])
    rw [show acc ++ clSg (k + 1) i = (acc ++ [⟨3,[125],i + 1⟩]) ++ clSg k (i + 2) by simp [clSg]]
    exact SR.tok (gap := [32]) (t := [125]) (k := 3) (by
      show goneN false (32 :: 125 :: clB k) = 1
      rw [gone_bl (by decide),gone_no (by decide) (by decide)]) (sgn_brace 125 (.inr rfl) _) (by simp) h
theorem opB_SR {R : List UInt8} {res : Res} : ∀ (k i : Nat) (acc : List Sg),SR R (i + 2 * k) (acc ++ opSg k i) res → SR (opB k ++ R) i acc res
  | 0,i,acc,h => by
    rw [show opSg 0 i = [] from rfl,List.append_nil] at h
    exact h
  | k + 1,i,acc,h => by
    refine SR.tok (gap := []) (t := [123]) (rest := 32 :: (opB k ++ R)) (k := 3) (gone_no (by decide) (by decide)) (sgn_brace 123 (.inl rfl) _) (by simp) ?_
    refine SR.blank (opB_SR k (i + 0 + 1 + 1) _ ?_)
    have e : i + ([] : List UInt8).length = i := rfl
    rw [e]
    rw [show i + 1 + 1 + 2 * k = i + 2 * (k + 1) by omega]
    rw [show (acc ++ [⟨3,[123],i⟩]) ++ opSg k (i + 1 + 1) = acc ++ opSg (k + 1) i by simp [opSg]]
    exact h
def pP : List UInt8 := [112,114,111,99,32,112,32]
def sK : List UInt8 := [115,107,105,112]
def textD (k : Nat) : List UInt8 := pP ++ opB k ++ sK ++ clB k
def dpSg (k : Nat) : List Sg := ⟨1,[112,114,111,99],0⟩ :: ⟨1,[112],5⟩ :: (opSg k 7 ++ (⟨1,sK,7 + 2 * k⟩ :: clSg k (11 + 2 * k)))
theorem textD_len (k : Nat) : (textD k).length = 11 + 4 * k := by simp [textD,pP,sK,opB_len,clB_len]; omega
theorem textD_SR (k : Nat) : SR (textD k) 0 [] (.ok (dpSg k)) := by
  have e : textD k = [] ++ ([112,114,111,99] ++ (32 :: ([112] ++ (32 :: (opB k ++ (sK ++ clB k)))))) := by simp [textD,pP]
  rw [e]
  refine SR.tok (k := 1) (gone_no (by decide) (by decide)) (sgn_word (c := 112) (t := [114,111,99]) (by decide) (by decide) (by decide) (fun c hc => by simp at hc; exact .inl hc.symm)) (by simp) ?_
  refine SR.blank ?_
  refine SR.tok (gap := []) (t := [112]) (k := 1) (gone_no (by decide) (by decide)) (sgn_word (c := 112) (t := []) (by decide) (by decide) (by decide) (fun c hc => by simp at hc; exact .inl hc.symm)) (by simp) ?_
  refine SR.blank (opB_SR k _ _ ?_)
  refine SR.tok (gap := []) (t := sK) (k := 1) (gone_no (by decide) (by decide)) (sgn_word (c := 115) (t := [107,105,112]) (by decide) (by decide) (by decide) (clB_stop k)) (by simp [sK]) ?_
  have h := clB_SR k (11 + 2 * k) ([] ++ [⟨1,[112,114,111,99],0⟩] ++ [⟨1,[112],5⟩] ++ opSg k 7 ++ [⟨1,sK,7 + 2 * k⟩])
  have e2 : dpSg k = [] ++ [⟨1,[112,114,111,99],0⟩] ++ [⟨1,[112],5⟩] ++ opSg k 7 ++ [⟨1,sK,7 + 2 * k⟩] ++ clSg k (11 + 2 * k) := by simp [dpSg]
  rw [e2]
  have h4 : sK.length = 4 := rfl
  simp only [List.length_cons,List.length_nil,Nat.zero_add,Nat.add_zero,Nat.reduceAdd,h4]
  rw [show 7 + 2 * k + 4 = 11 + 2 * k by omega]
  exact h
end Go.Proofs.Pe
end

section
set_option linter.unusedVariables false
set_option linter.unusedSimpArgs false
set_option maxRecDepth 100000
set_option maxHeartbeats 1000000
namespace Go.Proofs.Pe

/-! ### A text's signs, reckoned -/
def noPr (at' e : Int) : V := .tup [.agg [nilV,nilV,nilV],iV at',iV e]
section
variable {P : Program} {T : Tab}
end
end Go.Proofs.Pe
end

section
set_option linter.unusedVariables false
set_option linter.unusedSimpArgs false
set_option maxRecDepth 100000
set_option maxHeartbeats 1000000
namespace Go.Proofs.Pe

/-! ### How signs are read az a program -/
def isA (l : List Sg) (i : Nat) (t : List UInt8) : Bool := match l[i]? with
  | some s => s.k != 2 && s.t == t
  | none => false
def nmA (l : List Sg) (i : Nat) : Bool := match l[i]? with
  | some s => s.k == 1 && isName s.t
  | none => false
def txA (l : List Sg) (i : Nat) : ByteArray := match l[i]? with
  | some s => ⟨s.t.toArray⟩
  | none => emp
abbrev Sp := Nat × Nat
def isS (l : List Sg) (s : Sp) (t : List UInt8) : Bool := s.2 == 0 && isA l s.1 t
def takeS (l : List Sg) (s : Sp) (t : List UInt8) : Sp := if isS l s t = true then (s.1 + 1,0) else s
def mustS (l : List Sg) (s : Sp) (t : List UInt8) : Sp := if s.2 = 0 then (if isA l s.1 t = true then (s.1 + 1,0) else (s.1,2)) else s
def nameS (l : List Sg) (s : Sp) : Sp := if s.2 = 0 then (if nmA l s.1 = true then (s.1 + 1,0) else (s.1,2)) else s
def nameT (l : List Sg) (s : Sp) : ByteArray := if s.2 = 0 ∧ nmA l s.1 = true then txA l s.1 else emp
def nuA (l : List Sg) (i : Nat) : Bool := match l[i]? with
  | some s => s.k == 2
  | none => false
def nuT (l : List Sg) (i : Nat) : Nat := match l[i]? with
  | some s => numI s.t
  | none => 0
def valS (l : List Sg) (s : Sp) : Sp :=
  let q := takeS l s [45]
  if q.2 = 0 then (if nuA l q.1 = true then (q.1 + 1,0) else (q.1,2)) else q
def valT (l : List Sg) (s : Sp) : Int :=
  let q := takeS l s [45]
  if q.2 = 0 ∧ nuA l q.1 = true then (if isS l s [45] = true then -(nuT l q.1 : Int) else nuT l q.1) else 0
inductive ER (l : List Sg) : Sp → Ex → Sp → Prop
  | err {s : Sp} {x : Ex} (h : s.2 ≠ 0) : ER l s x s
  | ok {n i j : Nat} {x : Ex} (h : PS (l.drop i) n (.bin 0) 0 0 (.ok x j)) : ER l (i,0) x (i + j,0)
  | bad {n i j e : Nat} {x : Ex} (h : PS (l.drop i) n (.bin 0) 0 0 (.bad e j)) : ER l (i,0) x (i + j,e)
def wSkip : List UInt8 := [115,107,105,112]
def wExit : List UInt8 := [101,120,105,116]
def wDo : List UInt8 := [100,111]
def wPush : List UInt8 := [112,117,115,104]
def wRev : List UInt8 := [114,101,118,101,114,115,101]
def wAcc : List UInt8 := [97,99,99,101,112,116]
def wCall : List UInt8 := [99,97,108,108]
def wMerge : List UInt8 := [109,101,114,103,101]
def wBlock : List UInt8 := [98,108,111,99,107]
def wIf : List UInt8 := [105,102]
def wChoose : List UInt8 := [99,104,111,111,115,101]
def wPar : List UInt8 := [112,97,114]
def wElse : List UInt8 := [101,108,115,101]
def wVar : List UInt8 := [118,97,114]
def wStack : List UInt8 := [115,116,97,99,107]
def wProc : List UInt8 := [112,114,111,99]
def stWs : List (List UInt8) := [wSkip,wExit,wDo,wPush,wRev,wAcc,wCall,wMerge,wBlock,wIf,wChoose,wPar,[123]]
def ex0 : Ex := .mk 0 0 emp []
inductive WT where
  | one
  | row
  | tl (x : Pr)
  | body
def bodS (l : List Sg) (d : Nat) (s : Sp) : Sp := mustS l (if isS l s [123] = true ∧ 20 ≤ d then (s.1,3) else s) [123]
inductive PT (l : List Sg) : Nat → WT → Nat → Sp → Pr → Sp → Prop
  | oneE {n d : Nat} {s : Sp} {x : Pr} (h : s.2 ≠ 0) : PT l (n + 1) .one d s x s
  | kw0 {n d i : Nat} {k : Int} {t : List UInt8} (h : isA l i t = true) (hk : (t = wSkip ∧ k = 0) ∨ (t = wExit ∧ k = 8)) : PT l (n + 1) .one d (i,0) (.mk k emp emp ex0 []) (i + 1,0)
  | kw1 {n d i : Nat} {k : Int} {t : List UInt8} (h : isA l i t = true) (hk : (t = wRev ∧ k = 4) ∨ (t = wAcc ∧ k = 5) ∨ (t = wCall ∧ k = 13)) :
      PT l (n + 1) .one d (i,0) (.mk k (nameT l (i + 1,0)) emp ex0 []) (nameS l (i + 1,0))
  | do0 {n d i : Nat} (h : isA l i wDo = true) (ha : isS l (nameS l (i + 1,0)) [45,62] = false) : PT l (n + 1) .one d (i,0) (.mk 1 (nameT l (i + 1,0)) emp ex0 []) (nameS l (i + 1,0))
  | do1 {n d i : Nat} (h : isA l i wDo = true) (ha : isS l (nameS l (i + 1,0)) [45,62] = true) :
      PT l (n + 1) .one d (i,0) (.mk 1 (nameT l (i + 1,0)) (nameT l ((nameS l (i + 1,0)).1 + 1,0)) ex0 []) (nameS l ((nameS l (i + 1,0)).1 + 1,0))
  | merge {n d i : Nat} (h : isA l i wMerge = true) : PT l (n + 1) .one d (i,0) (.mk 6 (nameT l (i + 1,0)) (nameT l (nameS l (i + 1,0))) ex0 []) (nameS l (nameS l (i + 1,0)))
  | push {n d i : Nat} {x : Pr} {s : Sp} (h : isA l i wPush = true) (h1 : PT l n .body d (nameS l (i + 1,0)) x s) : PT l (n + 1) .one d (i,0) (.mk 3 (nameT l (i + 1,0)) emp ex0 [x]) s
  | block {n d i : Nat} {x : Pr} {s : Sp} (h : isA l i wBlock = true) (h1 : PT l n .body d (i + 1,0) x s) : PT l (n + 1) .one d (i,0) (.mk 7 emp emp ex0 [x]) s
  | two {n d i : Nat} {k : Int} {t : List UInt8} {x y : Pr} {s1 s2 : Sp} (h : isA l i t = true) (hk : (t = wChoose ∧ k = 10) ∨ (t = wPar ∧ k = 11)) (h1 : PT l n .body d (i + 1,0) x s1) (h2 : PT l n .body d s1 y s2) :
      PT l (n + 1) .one d (i,0) (.mk k emp emp ex0 [x,y]) s2
  | iff {n d i : Nat} {e : Ex} {x y : Pr} {s1 s2 s3 : Sp} (h : isA l i wIf = true) (h1 : ER l (i + 1,0) e s1) (h2 : PT l n .body d s1 x s2) (h3 : PT l n .body d (mustS l s2 wElse) y s3) :
      PT l (n + 1) .one d (i,0) (.mk 9 emp emp e [x,y]) s3
  | brace {n d i : Nat} {x : Pr} {s : Sp} (h : isA l i [123] = true) (h1 : PT l n .body d (i,0) x s) : PT l (n + 1) .one d (i,0) x s
  | set {n d i : Nat} {e : Ex} {s : Sp} (h : ∀ t ∈ stWs,isA l i t = false) (h1 : ER l (mustS l (nameS l (i,0)) [58,61]) e s) : PT l (n + 1) .one d (i,0) (.mk 2 emp (nameT l (i,0)) e []) s
  | row {n d : Nat} {s s1 s2 : Sp} {x y : Pr} (h1 : PT l n .one d s x s1) (h2 : PT l n (.tl x) d s1 y s2) : PT l (n + 1) .row d s y s2
  | tlE {n d : Nat} {s : Sp} {x : Pr} (h : isS l s [59] = false) : PT l (n + 1) (.tl x) d s x s
  | tl {n d : Nat} {s s2 : Sp} {x y : Pr} (h : isS l s [59] = true) (h1 : PT l n .row d (s.1 + 1,0) y s2) : PT l (n + 1) (.tl x) d s (.mk 12 emp emp ex0 [x,y]) s2
  | body {n d : Nat} {s s2 : Sp} {x : Pr} (h1 : PT l n .row (d + 1) (bodS l d s) x s2) : PT l (n + 1) .body d s x (mustS l s2 [125])
inductive PP where
  | ok (vs : List (ByteArray × Int)) (ss : List ByteArray) (ps : List (ByteArray × Pr))
  | bad (i e : Nat)
inductive PI (l : List Sg) : Nat → List (ByteArray × Int) → List ByteArray → List (ByteArray × Pr) → Nat → PP → Prop
  | nil {n i vs ss ps} (h : l.length ≤ i) : PI l (n + 1) vs ss ps i (.ok vs ss ps)
  | var {n i vs ss ps r} (h : isA l i wVar = true) (h1 : (valS l (nameS l (i + 1,0))).2 = 0) (h2 : PI l n (vs ++ [(nameT l (i + 1,0),valT l (nameS l (i + 1,0)))]) ss ps (valS l (nameS l (i + 1,0))).1 r) : PI l (n + 1) vs ss ps i r
  | varB {n i vs ss ps} (h : isA l i wVar = true) (h1 : (valS l (nameS l (i + 1,0))).2 ≠ 0) : PI l (n + 1) vs ss ps i (.bad (valS l (nameS l (i + 1,0))).1 (valS l (nameS l (i + 1,0))).2)
  | stack {n i vs ss ps r} (h : isA l i wStack = true) (h1 : (nameS l (i + 1,0)).2 = 0) (h2 : PI l n vs (ss ++ [nameT l (i + 1,0)]) ps (nameS l (i + 1,0)).1 r) : PI l (n + 1) vs ss ps i r
  | stackB {n i vs ss ps} (h : isA l i wStack = true) (h1 : (nameS l (i + 1,0)).2 ≠ 0) : PI l (n + 1) vs ss ps i (.bad (nameS l (i + 1,0)).1 (nameS l (i + 1,0)).2)
  | proc {n i vs ss ps r x s} (h : isA l i wProc = true) (h1 : PT l n .body 0 (nameS l (i + 1,0)) x s) (h2 : s.2 = 0) (h3 : PI l n vs ss (ps ++ [(nameT l (i + 1,0),x)]) s.1 r) : PI l (n + 1) vs ss ps i r
  | procB {n i vs ss ps x s} (h : isA l i wProc = true) (h1 : PT l n .body 0 (nameS l (i + 1,0)) x s) (h2 : s.2 ≠ 0) : PI l (n + 1) vs ss ps i (.bad s.1 s.2)
  | no {n i vs ss ps} (h : i < l.length) (h1 : isA l i wVar = false) (h2 : isA l i wStack = false) (h3 : isA l i wProc = false) : PI l (n + 1) vs ss ps i (.bad i 2)

theorem isA_ne {l : List Sg} {i : Nat} {a b : List UInt8} (h : isA l i a = true) (hab : a ≠ b) : isA l i b = false := by
  unfold isA at *
  split at h
  · rename_i s hs
    simp only [Bool.and_eq_true,bne_iff_ne,beq_iff_eq] at h
    rw [h.2]
    simp [hab]
  · cases h
theorem isA_lt {l : List Sg} {i : Nat} {a : List UInt8} (h : isA l i a = true) : i < l.length := by
  unfold isA at h
  split at h
  · rename_i s hs; exact (List.getElem?_eq_some_iff.1 hs).1
  · cases h
theorem nmA_lt {l : List Sg} {i : Nat} (h : nmA l i = true) : i < l.length := by
  unfold nmA at h
  split at h
  · rename_i s hs; exact (List.getElem?_eq_some_iff.1 hs).1
  · cases h
theorem isS_lt {l : List Sg} {s : Sp} {a : List UInt8} (h : isS l s a = true) : s.2 = 0 ∧ s.1 < l.length := by
  simp only [isS,Bool.and_eq_true,beq_iff_eq] at h
  exact ⟨h.1,isA_lt h.2⟩
def PRle (l : List Sg) : PR → Prop
  | .ok _ j => j ≤ l.length
  | .bad _ j => j ≤ l.length
theorem markAt_lt {l : List Sg} {j : Nat} (h : markAt l j ≠ []) : j < l.length := by
  unfold markAt at h
  split at h
  · rename_i s hs; exact (List.getElem?_eq_some_iff.1 hs).1
  · exact absurd rfl h
theorem kindM_nil (lv : Nat) : kindM lv [] = 0 := by
  by_cases h : lv < 5
  · exact kind_nil lv h
  · have e1 : lvHi lv = 7 := by
      match lv,h with
      | 0,h => omega
      | 1,h => omega
      | 2,h => omega
      | 3,h => omega
      | n + 4,_ => rfl
    have e2 : lvLo lv = 5 := by
      match lv,h with
      | 0,h => omega
      | 1,h => omega
      | 2,h => omega
      | 3,h => omega
      | n + 4,_ => rfl
    unfold kindM
    rw [e1,e2]; decide
theorem PS.within {l : List Sg} {n : Nat} {w : W} {d i : Nat} {r : PR} (h : PS l n w d i r) (hi : i ≤ l.length) : PRle l r := by
  have sl : ∀ {i : Nat} {s : Sg},l[i]? = some s → i + 1 ≤ l.length := fun h => (List.getElem?_eq_some_iff.1 h).1
  have kl : ∀ {lv j : Nat},kindM lv (markAt l j) ≠ 0 → j + 1 ≤ l.length := fun {lv j} h => markAt_lt fun e => h (by rw [e]; exact kindM_nil lv)
  induction h with
  | unE h => exact hi
  | unN h hk => exact sl h
  | unV h hk hn => exact sl h
  | unW h hk hn => exact hi
  | unX h hk hk2 hk3 => exact hi
  | unM h hk h1 h2 h3 => exact hi
  | unD h hk ht hd => exact hi
  | unS h hk ht hd _ ih => exact ih (sl h)
  | unSB h hk ht hd _ ih => exact ih (sl h)
  | unP h hk ht hd _ hm ih => exact markAt_lt (by rw [hm]; simp)
  | unPM h hk ht hd _ hm ih => exact ih (sl h)
  | unPB h hk ht hd _ ih => exact ih (sl h)
  | bin5 _ ih => exact ih hi
  | binB hl _ ih => exact ih hi
  | bin hl _ _ ih1 ih2 => exact ih2 (ih1 hi)
  | lpE h => exact hi
  | lpB h _ ih => exact ih (kl h)
  | lp2 h _ ih => exact ih (kl h)
  | lp h hl _ _ ih1 ih2 => exact ih2 (ih1 (kl h))
theorem ER.e {l : List Sg} {s s2 : Sp} {x : Ex} (h : ER l s x s2) (h2 : s2.2 = 0) : s.2 = 0 := by
  cases h with
  | err h => exact h2
  | ok h => rfl
  | bad h => rfl
theorem ER.le {l : List Sg} {s s2 : Sp} {x : Ex} (h : ER l s x s2) (h2 : s.1 ≤ l.length) : s2.1 ≤ l.length := by
  cases h with
  | err h => exact h2
  | @ok n i j x h =>
    have := h.within (Nat.zero_le _)
    simp only [PRle,List.length_drop] at this
    have h1 : i ≤ l.length := h2
    show i + j ≤ _
    omega
  | @bad n i j e x h =>
    have := h.within (Nat.zero_le _)
    simp only [PRle,List.length_drop] at this
    have h1 : i ≤ l.length := h2
    show i + j ≤ _
    omega
end Go.Proofs.Pe
end

section
set_option linter.unusedVariables false
set_option linter.unusedSimpArgs false
set_option maxRecDepth 100000
set_option maxHeartbeats 8000000
open Go.Proofs.Pe renaming putCells → qC, bslOf → qO, bsaOf → qA, bslS → qS, isUpto → qU, step → qT, intOf → qI, iop → qP, sop → qQ
open List renaming replicate → qR
open Go.Proofs.Pe.V renaming dead → qD
namespace Go.Proofs.YtclaoegdlibapaaDoor
open Go.Proofs.Pe

/-! ### The reader of programs: what stands here -/
def cs (w : V) (s : Sp) (d : Nat) (en : Nat) : List V := [w,iV s.1,iV d,iV s.2,iV en]
theorem cs_fr {w : V} {xs : List V} (hw : IsSl 3 w xs) (s : Sp) (d en : Nat) : (cs w s d en).all V.free1 = true := by simp [cs,hw.free,free1_sc]
section
variable {w : V} {l : List Sg} (hw : IsSl 3 w (l.map Sg.v))
include hw
theorem is_c {o : List O} {p : Nat} {t : List UInt8} {s : Sp} {d en : Nat} {yi : Nat → Sem'} {K : V → List O → Prop} (hy : YLe yi yi) (ho : o[p]? = some (.cells (cs w s d en))) (hK : K (bV (isS l s t)) o) : Pe.Call Tryd.prog T yi 31 [.pt p 0,tV t] o K := by
  have hrow := fun o => hw.row o
  have hlen : (l.map Sg.v).length = l.length := by simp
  obtain ⟨i,e⟩ := s
  refine Call.step hy ?_
  rw [body_eq t31]
  simp only [cs] at ho
  by_cases he : e = 0
  · have hde : decide ((e : Int) = 0) = true := by simp; omega
    by_cases hlt : i < l.length
    · have hx : l[i]? = some l[i] := List.getElem?_eq_getElem hlt
      generalize l[i] = s at hx
      have hI := fun o => sg_ix hw hx o
      have hd : decide ((i : Int) < (l.length : Int)) = true := by simpa using hlt
      by_cases hk : s.k = 2
      · have hkd : decide ((s.k : Int) = 2) = true := by simp; omega
        have hm : isS l (i,e) t = false := by simp [isS,isA,hx,hk]
        rw [hm] at hK
        simp only [c31,c31x1,RUA,RUB,RUC,RUD,RUE,RUF,if_true,if_false,Int.reduceEq,Int.reduceLT,Int.reduceLE,qC,qO,qA,qS,qU,Nat.reduceEqDiff,qT,E.at,qR,Nat.reduceAdd,Nat.reduceSub,Nat.reduceLeDiff,Nat.reduceMul,qI,qP,qQ,ho,hrow,hlen,hde,hd,hI,hkd]
        exact hK
      · have hkd : decide ((s.k : Int) = 2) = false := by simp; omega
        have hm : isS l (i,e) t = (s.t == t) := by simp [isS,isA,hx,hk,he]
        rw [hm] at hK
        simp only [c31,c31x1,RUA,RUB,RUC,RUD,RUE,RUF,if_true,if_false,Int.reduceEq,Int.reduceLT,Int.reduceLE,qC,qO,qA,qS,qU,Nat.reduceEqDiff,qT,E.at,qR,Nat.reduceAdd,Nat.reduceSub,Nat.reduceLeDiff,Nat.reduceMul,qI,qP,qQ,ho,hrow,hlen,hde,hd,hI,hkd]
        exact hK
    · have hd : decide ((i : Int) < (l.length : Int)) = false := by simpa using hlt
      have hm : isS l (i,e) t = false := by simp [isS,isA,List.getElem?_eq_none (Nat.le_of_not_lt hlt)]
      rw [hm] at hK
      simp only [c31,c31x1,RUA,RUB,RUC,RUD,RUE,RUF,if_true,if_false,Int.reduceEq,Int.reduceLT,Int.reduceLE,qC,qO,qA,qS,qU,Nat.reduceEqDiff,qT,E.at,qR,Nat.reduceAdd,Nat.reduceSub,Nat.reduceLeDiff,Nat.reduceMul,qI,qP,qQ,ho,hrow,hlen,hde,hd]
      exact hK
  · have hde : decide ((e : Int) = 0) = false := by simp; omega
    have hm : isS l (i,e) t = false := by simp [isS,he]
    rw [hm] at hK
    simp only [c31,c31x1,RUA,RUB,RUC,RUD,RUE,RUF,if_true,if_false,Int.reduceEq,Int.reduceLT,Int.reduceLE,qC,qO,qA,qS,qU,Nat.reduceEqDiff,qT,E.at,qR,Nat.reduceAdd,Nat.reduceSub,Nat.reduceLeDiff,Nat.reduceMul,qI,qP,qQ,ho,hrow,hlen,hde]
    exact hK
theorem pfail_c (s : Sp) (d en e : Nat) : SFn Tryd.prog T 16 [.pt 0 0,iV e] [.cells (cs w s d en)] fun z os' => z = .tup [] ∧ os' = [.cells (cs w (if s.2 = 0 then (s.1,e) else s) d en)] := by
  have hone : w.one = true := free1_one hw.free
  obtain ⟨i,f⟩ := s
  intro yi hy
  refine Call.step hy ?_
  rw [body_eq t16]
  by_cases he : f = 0
  · have hde : decide ((f : Int) = 0) = true := by simp; omega
    simp only [c16,c16x1,RUA,RUB,RUC,RUD,RUE,RUF,if_true,if_false,Int.reduceEq,Int.reduceLT,Int.reduceLE,qC,qO,qA,qS,qU,Nat.reduceEqDiff,qT,E.at,qR,Nat.reduceAdd,Nat.reduceSub,Nat.reduceLeDiff,Nat.reduceMul,qI,qP,qQ,cs,hone,hde,if_pos he]
    exact ⟨_,_,fin1 (cs_fr hw (i,e) d en) rfl,rfl,rfl⟩
  · have hde : decide ((f : Int) = 0) = false := by simp; omega
    simp only [c16,c16x1,RUA,RUB,RUC,RUD,RUE,RUF,if_true,if_false,Int.reduceEq,Int.reduceLT,Int.reduceLE,qC,qO,qA,qS,qU,Nat.reduceEqDiff,qT,E.at,qR,Nat.reduceAdd,Nat.reduceSub,Nat.reduceLeDiff,Nat.reduceMul,qI,qP,qQ,cs,hone,hde,if_neg he]
    exact ⟨_,_,fin1 (cs_fr hw (i,f) d en) rfl,rfl,rfl⟩
theorem take_c (hl : l.length ≤ lim) (s : Sp) (d en : Nat) (t : List UInt8) : SFn Tryd.prog T 12 [.pt 0 0,tV t] [.cells (cs w s d en)] fun z os' => z = bV (isS l s t) ∧ os' = [.cells (cs w (takeS l s t) d en)] := by
  have hone : w.one = true := free1_one hw.free
  intro yi hy
  refine Call.step hy ?_
  rw [body_eq t12]
  simp only [c12,c12x1,RUA,RUB,RUC,RUD,RUE,RUF,if_true,if_false,Int.reduceEq,Int.reduceLT,Int.reduceLE,qC,qO,qA,qS,qU,Nat.reduceEqDiff,qT,E.at,qR,Nat.reduceAdd,Nat.reduceSub,Nat.reduceLeDiff,Nat.reduceMul,qI,qP,qQ]
  refine call3 rfl (cm_pt (cm_free rfl cm_nil)) (is_c hw noY_le rfl ⟨Sim.refl _ _, ?_⟩)
  by_cases h : isS l s t = true
  · obtain ⟨h1,h2⟩ := isS_lt h
    unfold lim at hl
    have w1 : IntKind.i64.wrap ((s.1 : Int) + 1) = ((s.1 + 1 : Nat) : Int) := wrap_succ (by omega)
    have hz : s.2 = 0 := h1
    rw [h]
    simp only [c12,c12x1,c12x2,c12x3,c12x4,RUA,RUB,RUC,RUD,RUE,RUF,if_true,if_false,Int.reduceEq,Int.reduceLT,Int.reduceLE,qC,qO,qA,qS,qU,Nat.reduceEqDiff,qT,E.at,qR,Nat.reduceAdd,Nat.reduceSub,Nat.reduceLeDiff,Nat.reduceMul,qI,qP,qQ,cs,hone,w1,takeS,h]
    rw [hz]
    exact ⟨_,_,fin1 (cs_fr hw (s.1 + 1,0) d en) rfl,rfl,rfl⟩
  · have h' : isS l s t = false := by simpa using h
    rw [h']
    simp only [c12,c12x1,c12x2,c12x3,c12x4,RUA,RUB,RUC,RUD,RUE,RUF,if_true,if_false,Int.reduceEq,Int.reduceLT,Int.reduceLE,qC,qO,qA,qS,qU,Nat.reduceEqDiff,qT,E.at,qR,Nat.reduceAdd,Nat.reduceSub,Nat.reduceLeDiff,Nat.reduceMul,qI,qP,qQ,cs,hone,takeS,h']
    exact ⟨_,_,fin1 (cs_fr hw s d en) rfl,rfl,rfl⟩
end
end Go.Proofs.YtclaoegdlibapaaDoor
end

section
set_option linter.unusedVariables false
set_option linter.unusedSimpArgs false
set_option maxRecDepth 100000
set_option maxHeartbeats 8000000
open Go.Proofs.Pe renaming putCells → qC, bslOf → qO, bsaOf → qA, bslS → qS, isUpto → qU, step → qT, intOf → qI, iop → qP, sop → qQ
open List renaming replicate → qR
open Go.Proofs.Pe.V renaming dead → qD
namespace Go.Proofs.YtclaoegdlibapaaDoor
open Go.Proofs.Pe

/-! ### The reader of programs: marks, names, numbers, expressions -/
section
variable {w : V} {l : List Sg} (hw : IsSl 3 w (l.map Sg.v))
include hw
theorem must_c (hl : l.length ≤ lim) (s : Sp) (d en : Nat) (t : List UInt8) : SFn Tryd.prog T 34 [.pt 0 0,tV t] [.cells (cs w s d en)] fun z os' => z = .tup [] ∧ os' = [.cells (cs w (mustS l s t) d en)] := by
  have hone : w.one = true := free1_one hw.free
  intro yi hy
  refine Call.step hy ?_
  rw [body_eq t34]
  simp only [c34,RUA,RUB,RUC,RUD,RUE,RUF,if_true,if_false,Int.reduceEq,Int.reduceLT,Int.reduceLE,qC,qO,qA,qS,qU,Nat.reduceEqDiff,qT,E.at,qR,Nat.reduceAdd,Nat.reduceSub,Nat.reduceLeDiff,Nat.reduceMul,qI,qP,qQ]
  refine (take_c hw hl s d en t).call1 rfl (by simp [V.free,V.free1]) rfl (cs_fr hw _ _ _) fun z os' hq => ?_
  obtain ⟨rfl,rfl⟩ := hq
  refine ⟨_,rfl,cs_fr hw _ _ _,rfl, ?_⟩
  by_cases h : isS l s t = true
  · obtain ⟨h1,h2⟩ := isS_lt h
    have h3 : isA l s.1 t = true := by simp only [isS,Bool.and_eq_true] at h; exact h.2
    have e1 : mustS l s t = takeS l s t := by simp [mustS,takeS,h,h1,h3]
    rw [e1]
    simp only [c34,c34x1,RUA,RUB,RUC,RUD,RUE,RUF,if_true,if_false,Int.reduceEq,Int.reduceLT,Int.reduceLE,qC,qO,qA,qS,qU,Nat.reduceEqDiff,qT,E.at,qR,Nat.reduceAdd,Nat.reduceSub,Nat.reduceLeDiff,Nat.reduceMul,qI,qP,qQ,h]
    exact ⟨_,_,fin1 (cs_fr hw _ _ _) rfl,rfl,rfl⟩
  · have h' : isS l s t = false := by simpa using h
    have e0 : takeS l s t = s := by simp [takeS,h']
    have e1 : mustS l s t = if s.2 = 0 then (s.1,2) else s := by
      unfold mustS
      split
      · rename_i h1
        have : isA l s.1 t = false := by simpa [isS,h1] using h'
        simp [this]
      · rfl
    rw [e0,e1]
    simp only [c34,c34x1,RUA,RUB,RUC,RUD,RUE,RUF,if_true,if_false,Int.reduceEq,Int.reduceLT,Int.reduceLE,qC,qO,qA,qS,qU,Nat.reduceEqDiff,qT,E.at,qR,Nat.reduceAdd,Nat.reduceSub,Nat.reduceLeDiff,Nat.reduceMul,qI,qP,qQ,h']
    refine (pfail_c hw s d en 2).call1 rfl (by simp [V.free,V.free1]) rfl (cs_fr hw _ _ _) fun z os' hq => ?_
    obtain ⟨rfl,rfl⟩ := hq
    refine ⟨_,rfl,cs_fr hw _ _ _,rfl, ?_⟩
    simp only [c34,c34x1,RUA,RUB,RUC,RUD,RUE,RUF,if_true,if_false,Int.reduceEq,Int.reduceLT,Int.reduceLE,qC,qO,qA,qS,qU,Nat.reduceEqDiff,qT,E.at,qR,Nat.reduceAdd,Nat.reduceSub,Nat.reduceLeDiff,Nat.reduceMul,qI,qP,qQ]
    exact ⟨_,_,fin1 (cs_fr hw _ _ _) rfl,rfl,rfl⟩
theorem name_bad {i d en e : Nat} (hnm : e ≠ 0 ∨ nmA l i = false) (hl : l.length ≤ lim) (hok : ∀ s ∈ l,SgOk s) : SFn Tryd.prog T 13 [.pt 0 0] [.cells (cs w (i,e) d en)] fun z os' => z = sV emp ∧ os' = [.cells (cs w (if e = 0 then (i,2) else (i,e)) d en)] := by
  have hone : w.one = true := free1_one hw.free
  have hrow := fun o => hw.row o
  have hlen : (l.map Sg.v).length = l.length := by simp
  have ht : ∀ {yi : Nat → Sem'} (hy : YLe yi yi),True := fun _ => trivial
  intro yi hy
  refine Call.step hy ?_
  rw [body_eq t13]
  by_cases he : e = 0
  · have hde : decide ((e : Int) = 0) = true := by simp; omega
    have hn : nmA l i = false := by rcases hnm with h | h; exact absurd he h; exact h
    by_cases hlt : i < l.length
    · have hx : l[i]? = some l[i] := List.getElem?_eq_getElem hlt
      have hs := hok _ (List.mem_of_getElem? hx)
      generalize l[i] = s at hx hs
      have hI := fun o => sg_ix hw hx o
      have hd : decide ((i : Int) < (l.length : Int)) = true := by simpa using hlt
      by_cases hk : s.k = 1
      · have hkd : decide ((s.k : Int) = 1) = true := by simp; omega
        have hn2 : isName s.t = false := by simpa [nmA,hx,hk] using hn
        simp only [c13,c13x1,RUA,RUB,RUC,RUD,RUE,RUF,if_true,if_false,Int.reduceEq,Int.reduceLT,Int.reduceLE,qC,qO,qA,qS,qU,Nat.reduceEqDiff,qT,E.at,qR,Nat.reduceAdd,Nat.reduceSub,Nat.reduceLeDiff,Nat.reduceMul,qI,qP,qQ,cs,hone,hrow,hlen,hde,hd,hI,hkd]
        refine pcall (name_p (s := s.t) (by have := hs.1; unfold lim; omega)) rfl (by simp [V.free,V.free1]) ?_
        rw [hn2]
        simp only [c13,c13x1,c13x2,c13x3,c13x4,RUA,RUB,RUC,RUD,RUE,RUF,if_true,if_false,Int.reduceEq,Int.reduceLT,Int.reduceLE,qC,qO,qA,qS,qU,Nat.reduceEqDiff,qT,E.at,qR,Nat.reduceAdd,Nat.reduceSub,Nat.reduceLeDiff,Nat.reduceMul,qI,qP,qQ,cs,hone,hrow,hlen,hde,hd,hI,hkd]
        refine (pfail_c hw (i,e) d en 2).call1 rfl (by simp [V.free,V.free1]) rfl (cs_fr hw _ _ _) fun z os' hq => ?_
        obtain ⟨rfl,rfl⟩ := hq
        refine ⟨_,rfl,cs_fr hw _ _ _,rfl, ?_⟩
        simp only [c13,c13x1,c13x2,c13x3,c13x4,c13x5,RUA,RUB,RUC,RUD,RUE,RUF,if_true,if_false,Int.reduceEq,Int.reduceLT,Int.reduceLE,qC,qO,qA,qS,qU,Nat.reduceEqDiff,qT,E.at,qR,Nat.reduceAdd,Nat.reduceSub,Nat.reduceLeDiff,Nat.reduceMul,qI,qP,qQ]
        exact ⟨_,_,fin1 (cs_fr hw _ _ _) rfl,rfl,rfl⟩
      · have hkd : decide ((s.k : Int) = 1) = false := by simp; omega
        simp only [c13,c13x1,c13x2,c13x3,c13x4,RUA,RUB,RUC,RUD,RUE,RUF,if_true,if_false,Int.reduceEq,Int.reduceLT,Int.reduceLE,qC,qO,qA,qS,qU,Nat.reduceEqDiff,qT,E.at,qR,Nat.reduceAdd,Nat.reduceSub,Nat.reduceLeDiff,Nat.reduceMul,qI,qP,qQ,cs,hone,hrow,hlen,hde,hd,hI,hkd]
        refine (pfail_c hw (i,e) d en 2).call1 rfl (by simp [V.free,V.free1]) rfl (cs_fr hw _ _ _) fun z os' hq => ?_
        obtain ⟨rfl,rfl⟩ := hq
        refine ⟨_,rfl,cs_fr hw _ _ _,rfl, ?_⟩
        simp only [c13,c13x1,c13x2,c13x3,c13x4,c13x5,RUA,RUB,RUC,RUD,RUE,RUF,if_true,if_false,Int.reduceEq,Int.reduceLT,Int.reduceLE,qC,qO,qA,qS,qU,Nat.reduceEqDiff,qT,E.at,qR,Nat.reduceAdd,Nat.reduceSub,Nat.reduceLeDiff,Nat.reduceMul,qI,qP,qQ]
        exact ⟨_,_,fin1 (cs_fr hw _ _ _) rfl,rfl,rfl⟩
    · have hd : decide ((i : Int) < (l.length : Int)) = false := by simpa using hlt
      simp only [c13,c13x1,c13x2,c13x3,c13x4,RUA,RUB,RUC,RUD,RUE,RUF,if_true,if_false,Int.reduceEq,Int.reduceLT,Int.reduceLE,qC,qO,qA,qS,qU,Nat.reduceEqDiff,qT,E.at,qR,Nat.reduceAdd,Nat.reduceSub,Nat.reduceLeDiff,Nat.reduceMul,qI,qP,qQ,cs,hone,hrow,hlen,hde,hd]
      refine (pfail_c hw (i,e) d en 2).call1 rfl (by simp [V.free,V.free1]) rfl (cs_fr hw _ _ _) fun z os' hq => ?_
      obtain ⟨rfl,rfl⟩ := hq
      refine ⟨_,rfl,cs_fr hw _ _ _,rfl, ?_⟩
      simp only [c13,c13x1,c13x2,c13x3,c13x4,c13x5,RUA,RUB,RUC,RUD,RUE,RUF,if_true,if_false,Int.reduceEq,Int.reduceLT,Int.reduceLE,qC,qO,qA,qS,qU,Nat.reduceEqDiff,qT,E.at,qR,Nat.reduceAdd,Nat.reduceSub,Nat.reduceLeDiff,Nat.reduceMul,qI,qP,qQ]
      exact ⟨_,_,fin1 (cs_fr hw _ _ _) rfl,rfl,rfl⟩
  · have hde : decide ((e : Int) = 0) = false := by simp; omega
    simp only [c13,c13x1,c13x2,c13x3,c13x4,RUA,RUB,RUC,RUD,RUE,RUF,if_true,if_false,Int.reduceEq,Int.reduceLT,Int.reduceLE,qC,qO,qA,qS,qU,Nat.reduceEqDiff,qT,E.at,qR,Nat.reduceAdd,Nat.reduceSub,Nat.reduceLeDiff,Nat.reduceMul,qI,qP,qQ,cs,hone,hrow,hlen,hde]
    refine (pfail_c hw (i,e) d en 2).call1 rfl (by simp [V.free,V.free1]) rfl (cs_fr hw _ _ _) fun z os' hq => ?_
    obtain ⟨rfl,rfl⟩ := hq
    refine ⟨_,rfl,cs_fr hw _ _ _,rfl, ?_⟩
    simp only [c13,c13x1,c13x2,c13x3,c13x4,c13x5,RUA,RUB,RUC,RUD,RUE,RUF,if_true,if_false,Int.reduceEq,Int.reduceLT,Int.reduceLE,qC,qO,qA,qS,qU,Nat.reduceEqDiff,qT,E.at,qR,Nat.reduceAdd,Nat.reduceSub,Nat.reduceLeDiff,Nat.reduceMul,qI,qP,qQ]
    exact ⟨_,_,fin1 (cs_fr hw _ _ _) rfl,rfl,rfl⟩
end
end Go.Proofs.YtclaoegdlibapaaDoor
end

section
set_option linter.unusedVariables false
set_option linter.unusedSimpArgs false
set_option maxRecDepth 100000
set_option maxHeartbeats 8000000
open Go.Proofs.Pe renaming putCells → qC, bslOf → qO, bsaOf → qA, bslS → qS, isUpto → qU, step → qT, intOf → qI, iop → qP, sop → qQ
open List renaming replicate → qR
open Go.Proofs.Pe.V renaming dead → qD
namespace Go.Proofs.YtclaoegdlibapaaDoor
open Go.Proofs.Pe

section
variable {w : V} {l : List Sg} (hw : IsSl 3 w (l.map Sg.v))
include hw
theorem name_ok {i d en : Nat} (hnm : nmA l i = true) (hl : l.length ≤ lim) (hok : ∀ s ∈ l,SgOk s) : SFn Tryd.prog T 13 [.pt 0 0] [.cells (cs w (i,0) d en)] fun z os' => z = sV (txA l i) ∧ os' = [.cells (cs w (i + 1,0) d en)] := by
  have hone : w.one = true := free1_one hw.free
  have hrow := fun o => hw.row o
  have hlen : (l.map Sg.v).length = l.length := by simp
  have hlt := nmA_lt hnm
  unfold lim at hl
  intro yi hy
  refine Call.step hy ?_
  rw [body_eq t13]
  have hde : decide (((0 : Nat) : Int) = 0) = true := rfl
  have hx : l[i]? = some l[i] := List.getElem?_eq_getElem hlt
  have hs := hok _ (List.mem_of_getElem? hx)
  generalize l[i] = s at hx hs
  have hI := fun o => sg_ix hw hx o
  have hd : decide ((i : Int) < (l.length : Int)) = true := by simpa using hlt
  have hkn : s.k = 1 ∧ isName s.t = true := by simpa [nmA,hx] using hnm
  have hkd : decide ((s.k : Int) = 1) = true := by simp; omega
  have htx : txA l i = ⟨s.t.toArray⟩ := by simp [txA,hx]
  have w1 : IntKind.i64.wrap ((i : Int) + 1) = ((i + 1 : Nat) : Int) := wrap_succ (by omega)
  have w2 : IntKind.i64.wrap (((i + 1 : Nat) : Int) - 1) = (i : Int) := by rw [wrap_ok (by omega) (by omega)]; omega
  simp only [c13,c13x1,RUA,RUB,RUC,RUD,RUE,RUF,if_true,if_false,Int.reduceEq,Int.reduceLT,Int.reduceLE,qC,qO,qA,qS,qU,Nat.reduceEqDiff,qT,E.at,qR,Nat.reduceAdd,Nat.reduceSub,Nat.reduceLeDiff,Nat.reduceMul,qI,qP,qQ,cs,hone,hrow,hlen,hde,hd,hI,hkd]
  refine pcall (name_p (s := s.t) (by have := hs.1; unfold lim; omega)) rfl (by simp [V.free,V.free1]) ?_
  rw [hkn.2,htx]
  simp only [c13,c13x1,c13x2,c13x3,c13x4,c13x5,RUA,RUB,RUC,RUD,RUE,RUF,if_true,if_false,Int.reduceEq,Int.reduceLT,Int.reduceLE,qC,qO,qA,qS,qU,Nat.reduceEqDiff,qT,E.at,qR,Nat.reduceAdd,Nat.reduceSub,Nat.reduceLeDiff,Nat.reduceMul,qI,qP,qQ,cs,hone,hrow,hlen,hde,hd,hI,hkd,w1,w2]
  exact ⟨_,_,fin1 (cs_fr hw (i + 1,0) d en) rfl,rfl,rfl⟩
theorem pname_c (hl : l.length ≤ lim) (hok : ∀ s ∈ l,SgOk s) (s : Sp) (d en : Nat) : SFn Tryd.prog T 13 [.pt 0 0] [.cells (cs w s d en)] fun z os' => z = sV (nameT l s) ∧ os' = [.cells (cs w (nameS l s) d en)] := by
  obtain ⟨i,e⟩ := s
  by_cases he : e = 0
  · subst he
    cases hn : nmA l i with
    | true =>
      have h := name_ok hw (d := d) (en := en) hn hl hok
      simpa [nameT,nameS,hn] using h
    | false =>
      have h := name_bad hw (i := i) (d := d) (en := en) (e := 0) (.inr hn) hl hok
      simpa [nameT,nameS,hn] using h
  · have h := name_bad hw (i := i) (d := d) (en := en) (.inl he) hl hok
    simpa [nameT,nameS,he] using h
end
end Go.Proofs.YtclaoegdlibapaaDoor
end

section
set_option linter.unusedVariables false
set_option linter.unusedSimpArgs false
set_option maxRecDepth 100000
set_option maxHeartbeats 8000000
open Go.Proofs.Pe renaming putCells → qC, bslOf → qO, bsaOf → qA, bslS → qS, isUpto → qU, step → qT, intOf → qI, iop → qP, sop → qQ
open List renaming replicate → qR
open Go.Proofs.Pe.V renaming dead → qD
namespace Go.Proofs.YtclaoegdlibapaaDoor
open Go.Proofs.Pe

/-! ### The reader of programs: one process -/
theorem pr_agg {y : Pr} {z : V} (h : IsPr y z) : ∃ a b c d e f g r,z = .agg [iV a,sV b,sV c,iV d,iV e,sV f,g,r] ∧ g.one = true ∧ r.one = true ∧ g.free1 = true ∧ r.free1 = true := by
  obtain ⟨pk,pn,pt,⟨qk,qn,qm,ql⟩,pl⟩ := y
  obtain ⟨ev2,evs2,lv2,vs2,rfl,g1,_,_,g2,_⟩ := h
  exact ⟨pk,pn,pt,qk,qn,qm,ev2,lv2,rfl,free1_one g1.free,free1_one g2.free,g1.free,g2.free⟩
theorem prLeafE (k : Int) (nm to : ByteArray) : IsPr (.mk k nm to ex0 []) (.agg [iV k,sV nm,sV to,iV 0,iV 0,sV emp,nilV,nilV]) :=
  ⟨nilV,[],nilV,[],rfl,.inl ⟨rfl,rfl⟩,by simp,rfl,.inl ⟨rfl,rfl⟩,by simp,rfl⟩
def GT (w : V) (en : Nat) (f : FuncId) (d : Nat) (s : Sp) (x : Pr) (s2 : Sp) : Prop :=
  SFn Tryd.prog T f [.pt 0 0] [.cells (cs w s d en)] fun z os' => (∃ y,IsPr y z ∧ (s2.2 = 0 → y = x)) ∧ os' = [.cells (cs w s2 d en)]
section
variable {w : V} {l : List Sg} (hw : IsSl 3 w (l.map Sg.v))
include hw
theorem take_no (hl : l.length ≤ lim) {i d en : Nat} {t : List UInt8} (h : isA l i t = false) : SFn Tryd.prog T 12 [.pt 0 0,tV t] [.cells (cs w (i,0) d en)] fun z os' => z = bV false ∧ os' = [.cells (cs w (i,0) d en)] := by
  have h1 := take_c hw hl (i,0) d en t
  have h2 : isS l (i,0) t = false := by simp [isS,h]
  simpa [takeS,h2] using h1
theorem take_yes (hl : l.length ≤ lim) {i d en : Nat} {t : List UInt8} (h : isA l i t = true) : SFn Tryd.prog T 12 [.pt 0 0,tV t] [.cells (cs w (i,0) d en)] fun z os' => z = bV true ∧ os' = [.cells (cs w (i + 1,0) d en)] := by
  have h1 := take_c hw hl (i,0) d en t
  have h2 : isS l (i,0) t = true := by simp [isS,h]
  simpa [takeS,h2] using h1
theorem one_e (hl : l.length ≤ lim) (hok : ∀ s ∈ l,SgOk s) {d en : Nat} {s : Sp} {x : Pr} (h : s.2 ≠ 0) : GT w en 44 d s x s := by
  have hone : w.one = true := free1_one hw.free
  have hde : decide ((s.2 : Int) = 0) = false := by simpa using h
  intro yi hy
  refine Call.step hy ?_
  rw [body_eq t44]
  simp only [c44,c44x1,c44x2,RUA,RUB,RUC,RUD,RUE,RUF,if_true,if_false,Int.reduceEq,Int.reduceLT,Int.reduceLE,qC,qO,qA,qS,qU,Nat.reduceEqDiff,qT,E.at,qR,Nat.reduceAdd,Nat.reduceSub,Nat.reduceLeDiff,Nat.reduceMul,qI,qP,qQ,cs,hone,hde,fillC,rets,List.take]
  exact ⟨_,_,fin1 (cs_fr hw s d en) (freeT_of (prLeafE 0 emp emp).ok.1),⟨_,prLeafE 0 emp emp,fun e => absurd e h⟩,rfl⟩
theorem one_skip (hl : l.length ≤ lim) (hok : ∀ s ∈ l,SgOk s) {i d en : Nat} (h : isA l i wSkip = true) : GT w en 44 d (i,0) (.mk 0 emp emp ex0 []) (i + 1,0) := by
  have hone : w.one = true := free1_one hw.free
  have hde : decide ((0 : Int) = 0) = true := rfl
  intro yi hy
  refine Call.step hy ?_
  rw [body_eq t44]
  simp only [c44,c44x1,c44x2,c44x3,RUA,RUB,RUC,RUD,RUE,RUF,if_true,if_false,Int.reduceEq,Int.reduceLT,Int.reduceLE,qC,qO,qA,qS,qU,Nat.reduceEqDiff,qT,E.at,qR,Nat.reduceAdd,Nat.reduceSub,Nat.reduceLeDiff,Nat.reduceMul,qI,qP,qQ,cs,hone,hde]
  refine (take_yes hw hl (d := d) (en := en) (t := wSkip) h).call1 rfl (by simp [V.free,V.free1]) rfl (cs_fr hw _ _ _) fun z os' hq => ?_
  obtain ⟨rfl,rfl⟩ := hq
  refine ⟨_,rfl,cs_fr hw _ _ _,rfl, ?_⟩
  simp only [c44x4,RUA,RUB,RUC,RUD,RUE,RUF,if_true,if_false,Int.reduceEq,Int.reduceLT,Int.reduceLE,qC,qO,qA,qS,qU,Nat.reduceEqDiff,qT,E.at,qR,Nat.reduceAdd,Nat.reduceSub,Nat.reduceLeDiff,Nat.reduceMul,qI,qP,qQ,cs,hone,fillC,rets,List.take]
  exact ⟨_,_,fin1 (cs_fr hw (i + 1,0) d en) (freeT_of (prLeafE 0 emp emp).ok.1),⟨_,prLeafE 0 emp emp,fun _ => rfl⟩,rfl⟩
theorem one_brace (hl : l.length ≤ lim) (hok : ∀ s ∈ l,SgOk s) {i d en : Nat} {x : Pr} {s : Sp} (h : isA l i [123] = true) (hb : GT w en 15 d (i,0) x s) : GT w en 44 d (i,0) (x) (s) := by
  have hone : w.one = true := free1_one hw.free
  have hde : decide ((0 : Int) = 0) = true := rfl
  intro yi hy
  refine Call.step hy ?_
  rw [body_eq t44]
  simp only [c44,c44x1,c44x2,c44x3,RUA,RUB,RUC,RUD,RUE,RUF,if_true,if_false,Int.reduceEq,Int.reduceLT,Int.reduceLE,qC,qO,qA,qS,qU,Nat.reduceEqDiff,qT,E.at,qR,Nat.reduceAdd,Nat.reduceSub,Nat.reduceLeDiff,Nat.reduceMul,qI,qP,qQ,cs,hone,hde]
  refine (take_no hw hl (d := d) (en := en) (t := wSkip) (isA_ne h (by decide))).call1 rfl (by simp [V.free,V.free1]) rfl (cs_fr hw _ _ _) fun z os' hq => ?_
  obtain ⟨rfl,rfl⟩ := hq
  refine ⟨_,rfl,cs_fr hw _ _ _,rfl, ?_⟩
  simp only [c44x4,RUA,RUB,RUC,RUD,RUE,RUF,if_true,if_false,Int.reduceEq,Int.reduceLT,Int.reduceLE,qC,qO,qA,qS,qU,Nat.reduceEqDiff,qT,E.at,qR,Nat.reduceAdd,Nat.reduceSub,Nat.reduceLeDiff,Nat.reduceMul,qI,qP,qQ,cs,hone,fillC]
  refine (take_no hw hl (d := d) (en := en) (t := wExit) (isA_ne h (by decide))).call1 rfl (by simp [V.free,V.free1]) rfl (cs_fr hw _ _ _) fun z os' hq => ?_
  obtain ⟨rfl,rfl⟩ := hq
  refine ⟨_,rfl,cs_fr hw _ _ _,rfl, ?_⟩
  simp only [c44x5,RUA,RUB,RUC,RUD,RUE,RUF,if_true,if_false,Int.reduceEq,Int.reduceLT,Int.reduceLE,qC,qO,qA,qS,qU,Nat.reduceEqDiff,qT,E.at,qR,Nat.reduceAdd,Nat.reduceSub,Nat.reduceLeDiff,Nat.reduceMul,qI,qP,qQ,cs,hone,fillC]
  refine (take_no hw hl (d := d) (en := en) (t := wDo) (isA_ne h (by decide))).call1 rfl (by simp [V.free,V.free1]) rfl (cs_fr hw _ _ _) fun z os' hq => ?_
  obtain ⟨rfl,rfl⟩ := hq
  refine ⟨_,rfl,cs_fr hw _ _ _,rfl, ?_⟩
  simp only [c44x6,RUA,RUB,RUC,RUD,RUE,RUF,if_true,if_false,Int.reduceEq,Int.reduceLT,Int.reduceLE,qC,qO,qA,qS,qU,Nat.reduceEqDiff,qT,E.at,qR,Nat.reduceAdd,Nat.reduceSub,Nat.reduceLeDiff,Nat.reduceMul,qI,qP,qQ,cs,hone,fillC]
  refine (take_no hw hl (d := d) (en := en) (t := wPush) (isA_ne h (by decide))).call1 rfl (by simp [V.free,V.free1]) rfl (cs_fr hw _ _ _) fun z os' hq => ?_
  obtain ⟨rfl,rfl⟩ := hq
  refine ⟨_,rfl,cs_fr hw _ _ _,rfl, ?_⟩
  simp only [c44x10,RUA,RUB,RUC,RUD,RUE,RUF,if_true,if_false,Int.reduceEq,Int.reduceLT,Int.reduceLE,qC,qO,qA,qS,qU,Nat.reduceEqDiff,qT,E.at,qR,Nat.reduceAdd,Nat.reduceSub,Nat.reduceLeDiff,Nat.reduceMul,qI,qP,qQ,cs,hone,fillC]
  refine (take_no hw hl (d := d) (en := en) (t := wRev) (isA_ne h (by decide))).call1 rfl (by simp [V.free,V.free1]) rfl (cs_fr hw _ _ _) fun z os' hq => ?_
  obtain ⟨rfl,rfl⟩ := hq
  refine ⟨_,rfl,cs_fr hw _ _ _,rfl, ?_⟩
  simp only [c44x13,RUA,RUB,RUC,RUD,RUE,RUF,if_true,if_false,Int.reduceEq,Int.reduceLT,Int.reduceLE,qC,qO,qA,qS,qU,Nat.reduceEqDiff,qT,E.at,qR,Nat.reduceAdd,Nat.reduceSub,Nat.reduceLeDiff,Nat.reduceMul,qI,qP,qQ,cs,hone,fillC]
  refine (take_no hw hl (d := d) (en := en) (t := wAcc) (isA_ne h (by decide))).call1 rfl (by simp [V.free,V.free1]) rfl (cs_fr hw _ _ _) fun z os' hq => ?_
  obtain ⟨rfl,rfl⟩ := hq
  refine ⟨_,rfl,cs_fr hw _ _ _,rfl, ?_⟩
  simp only [c44x14,RUA,RUB,RUC,RUD,RUE,RUF,if_true,if_false,Int.reduceEq,Int.reduceLT,Int.reduceLE,qC,qO,qA,qS,qU,Nat.reduceEqDiff,qT,E.at,qR,Nat.reduceAdd,Nat.reduceSub,Nat.reduceLeDiff,Nat.reduceMul,qI,qP,qQ,cs,hone,fillC]
  refine (take_no hw hl (d := d) (en := en) (t := wCall) (isA_ne h (by decide))).call1 rfl (by simp [V.free,V.free1]) rfl (cs_fr hw _ _ _) fun z os' hq => ?_
  obtain ⟨rfl,rfl⟩ := hq
  refine ⟨_,rfl,cs_fr hw _ _ _,rfl, ?_⟩
  simp only [c44x15,RUA,RUB,RUC,RUD,RUE,RUF,if_true,if_false,Int.reduceEq,Int.reduceLT,Int.reduceLE,qC,qO,qA,qS,qU,Nat.reduceEqDiff,qT,E.at,qR,Nat.reduceAdd,Nat.reduceSub,Nat.reduceLeDiff,Nat.reduceMul,qI,qP,qQ,cs,hone,fillC]
  refine (take_no hw hl (d := d) (en := en) (t := wMerge) (isA_ne h (by decide))).call1 rfl (by simp [V.free,V.free1]) rfl (cs_fr hw _ _ _) fun z os' hq => ?_
  obtain ⟨rfl,rfl⟩ := hq
  refine ⟨_,rfl,cs_fr hw _ _ _,rfl, ?_⟩
  simp only [c44x16,RUA,RUB,RUC,RUD,RUE,RUF,if_true,if_false,Int.reduceEq,Int.reduceLT,Int.reduceLE,qC,qO,qA,qS,qU,Nat.reduceEqDiff,qT,E.at,qR,Nat.reduceAdd,Nat.reduceSub,Nat.reduceLeDiff,Nat.reduceMul,qI,qP,qQ,cs,hone,fillC]
  refine (take_no hw hl (d := d) (en := en) (t := wBlock) (isA_ne h (by decide))).call1 rfl (by simp [V.free,V.free1]) rfl (cs_fr hw _ _ _) fun z os' hq => ?_
  obtain ⟨rfl,rfl⟩ := hq
  refine ⟨_,rfl,cs_fr hw _ _ _,rfl, ?_⟩
  simp only [c44x19,RUA,RUB,RUC,RUD,RUE,RUF,if_true,if_false,Int.reduceEq,Int.reduceLT,Int.reduceLE,qC,qO,qA,qS,qU,Nat.reduceEqDiff,qT,E.at,qR,Nat.reduceAdd,Nat.reduceSub,Nat.reduceLeDiff,Nat.reduceMul,qI,qP,qQ,cs,hone,fillC]
  refine (take_no hw hl (d := d) (en := en) (t := wIf) (isA_ne h (by decide))).call1 rfl (by simp [V.free,V.free1]) rfl (cs_fr hw _ _ _) fun z os' hq => ?_
  obtain ⟨rfl,rfl⟩ := hq
  refine ⟨_,rfl,cs_fr hw _ _ _,rfl, ?_⟩
  simp only [c44x20,RUA,RUB,RUC,RUD,RUE,RUF,if_true,if_false,Int.reduceEq,Int.reduceLT,Int.reduceLE,qC,qO,qA,qS,qU,Nat.reduceEqDiff,qT,E.at,qR,Nat.reduceAdd,Nat.reduceSub,Nat.reduceLeDiff,Nat.reduceMul,qI,qP,qQ,cs,hone,fillC]
  refine (take_no hw hl (d := d) (en := en) (t := wChoose) (isA_ne h (by decide))).call1 rfl (by simp [V.free,V.free1]) rfl (cs_fr hw _ _ _) fun z os' hq => ?_
  obtain ⟨rfl,rfl⟩ := hq
  refine ⟨_,rfl,cs_fr hw _ _ _,rfl, ?_⟩
  simp only [c44x25,RUA,RUB,RUC,RUD,RUE,RUF,if_true,if_false,Int.reduceEq,Int.reduceLT,Int.reduceLE,qC,qO,qA,qS,qU,Nat.reduceEqDiff,qT,E.at,qR,Nat.reduceAdd,Nat.reduceSub,Nat.reduceLeDiff,Nat.reduceMul,qI,qP,qQ,cs,hone,fillC]
  refine (take_no hw hl (d := d) (en := en) (t := wPar) (isA_ne h (by decide))).call1 rfl (by simp [V.free,V.free1]) rfl (cs_fr hw _ _ _) fun z os' hq => ?_
  obtain ⟨rfl,rfl⟩ := hq
  refine ⟨_,rfl,cs_fr hw _ _ _,rfl, ?_⟩
  simp only [c44x27,RUA,RUB,RUC,RUD,RUE,RUF,if_true,if_false,Int.reduceEq,Int.reduceLT,Int.reduceLE,qC,qO,qA,qS,qU,Nat.reduceEqDiff,qT,E.at,qR,Nat.reduceAdd,Nat.reduceSub,Nat.reduceLeDiff,Nat.reduceMul,qI,qP,qQ,cs,hone,fillC]
  have h123 : isS l (i,0) [123] = true := by simp [isS,h]
  refine call3 rfl (cm_pt (cm_free rfl cm_nil)) (is_c hw (s := (i,0)) (t := [123]) noY_le rfl ⟨Sim.refl _ _, ?_⟩)
  rw [h123]
  simp only [c44x29,RUA,RUB,RUC,RUD,RUE,RUF,if_true,if_false,Int.reduceEq,Int.reduceLT,Int.reduceLE,qC,qO,qA,qS,qU,Nat.reduceEqDiff,qT,E.at,qR,Nat.reduceAdd,Nat.reduceSub,Nat.reduceLeDiff,Nat.reduceMul,qI,qP,qQ,cs,hone]
  refine (hb).call1 rfl (by simp [V.free,V.free1]) rfl (cs_fr hw _ _ _) fun z os' hq => ?_
  obtain ⟨⟨y1,hy1,hx1⟩,rfl⟩ := hq
  have hz1 := hy1
  obtain ⟨a1,b1,c1,d1,e1,f1,g1,r1,rfl,o1,p1,q1,t1⟩ := pr_agg hy1
  refine ⟨_,rfl,cs_fr hw _ _ _,freeT_of hz1.ok.1, ?_⟩
  simp only [c44x29,RUA,RUB,RUC,RUD,RUE,RUF,if_true,if_false,Int.reduceEq,Int.reduceLT,Int.reduceLE,qC,qO,qA,qS,qU,Nat.reduceEqDiff,qT,E.at,qR,Nat.reduceAdd,Nat.reduceSub,Nat.reduceLeDiff,Nat.reduceMul,qI,qP,qQ,cs,hone,o1,p1,q1,t1,fillC,rets,List.take]
  exact ⟨_,_,fin1 (cs_fr hw s d en) (freeT_of hz1.ok.1),⟨_,hz1,hx1⟩,rfl⟩
end
end Go.Proofs.YtclaoegdlibapaaDoor
end

section
set_option linter.unusedVariables false
namespace Go.Proofs.Pe
variable {P : Program} {T : Tab}

/-! ### strconv.Itoa by its law -/
end Go.Proofs.Pe
end

section
set_option linter.unusedVariables false
set_option linter.unusedSimpArgs false
set_option maxRecDepth 100000
set_option maxHeartbeats 8000000
open Go.Proofs.Pe renaming putCells → qC, bslOf → qO, bsaOf → qA, bslS → qS, isUpto → qU, step → qT, intOf → qI, iop → qP, sop → qQ
open List renaming replicate → qR
open Go.Proofs.Pe.V renaming dead → qD
namespace Go.Proofs.YtclaoegdlibapaaDoor
open Go.Proofs.Pe

/-! ### The reader of programs: a process in braces -/
theorem slcHi {k : Nat} {v : V} {xs : List V} (h : IsSl k v xs) {hi : Nat} (h2 : hi ≤ xs.length) : ∃ w,(∀ o,slcOf k o v none (some (iV hi)) none = some (w,o)) ∧ IsSl k w (xs.take hi) := by
  rcases h with ⟨rfl,rfl⟩ | ⟨f,rfl⟩
  · have : hi = 0 := by simpa using h2
    subst this
    exact ⟨nilV,fun o => by simp [slcOf,freeze1,V.free1,boundV,intOf],.inl ⟨rfl,by simp⟩⟩
  · refine ⟨.sl k (f && decide (hi = xs.length)) ((xs.take hi).drop 0),fun o => ?_,.inr ⟨f && decide (hi = xs.length),by simp⟩⟩
    simp [slcOf,freeze1,V.free1,boundV,intOf,h2]
theorem back_c {yi : Nat → Sem'} (hy : YLe yi yi) {u : V} {o : List O} {K : V → List O → Prop} (hs : u.one = true) (hK : K (.fn (.func 59) [] [.pt o.length 0]) (o ++ [.cells [u]])) : Pe.Call Tryd.prog T yi 45 [u] o K := by
  have h1 : u.solid = true := by cases u <;> first | exact hs | (cases hs)
  have h2 : u.cells = [u] := by cases u <;> first | rfl | (cases hs)
  refine Call.step hy ?_
  rw [body_eq t45]
  simp only [c45,c45x1,RUA,RUB,RUC,RUD,RUE,RUF,if_true,if_false,Int.reduceEq,Int.reduceLT,Int.reduceLE,qC,qO,qA,qS,qU,Nat.reduceEqDiff,qT,E.at,qR,Nat.reduceAdd,Nat.reduceSub,Nat.reduceLeDiff,Nat.reduceMul,qI,qP,qQ,h1,h2]
  exact hK
section
variable {w : V} {l : List Sg} (hw : IsSl 3 w (l.map Sg.v))
include hw
theorem body_c (hl : l.length ≤ lim) {d en : Nat} {s s2 : Sp} {x : Pr} (hd : d ≤ 1000) (hr : GT w en 35 (d + 1) (bodS l d s) x s2) (he : (mustS l s2 [125]).2 = 0 → s2.2 = 0) : GT w en 15 d s x (mustS l s2 [125]) := by
  have hone : w.one = true := free1_one hw.free
  have w1 : IntKind.i64.wrap ((d : Int) + 1) = ((d + 1 : Nat) : Int) := wrap_succ (by omega)
  have w2 : IntKind.i64.wrap (((d + 1 : Nat) : Int) - 1) = (d : Int) := by rw [wrap_ok (by omega) (by omega)]; omega
  intro yi hy
  refine Call.step hy ?_
  rw [body_eq t15]
  have rest : ∀ (b : V) (t : List V),True := fun _ _ => trivial
  simp only [c15,c15x1,RUA,RUB,RUC,RUD,RUE,RUF,if_true,if_false,Int.reduceEq,Int.reduceLT,Int.reduceLE,qC,qO,qA,qS,qU,Nat.reduceEqDiff,qT,E.at,qR,Nat.reduceAdd,Nat.reduceSub,Nat.reduceLeDiff,Nat.reduceMul,qI,qP,qQ,cs,hone]
  refine call3 rfl (cm_pt (cm_free rfl cm_nil)) (is_c hw (s := s) (t := [123]) (d := d) (en := en) noY_le rfl ⟨Sim.refl _ _, ?_⟩)
  by_cases hf : isS l s [123] = true ∧ 20 ≤ d
  · have hd1 : decide ((20 : Int) ≤ (d : Int)) = true := by simp; omega
    rw [hf.1]
    simp only [c15x1,c15x2,RUA,RUB,RUC,RUD,RUE,RUF,if_true,if_false,Int.reduceEq,Int.reduceLT,Int.reduceLE,qC,qO,qA,qS,qU,Nat.reduceEqDiff,qT,E.at,qR,Nat.reduceAdd,Nat.reduceSub,Nat.reduceLeDiff,Nat.reduceMul,qI,qP,qQ,cs,hone,hd1]
    refine (pfail_c hw s d en 3).call1 rfl (by simp [V.free,V.free1]) rfl (cs_fr hw _ _ _) fun z os' hq => ?_
    obtain ⟨rfl,rfl⟩ := hq
    refine ⟨_,rfl,cs_fr hw _ _ _,rfl, ?_⟩
    simp only [c15x3,RUA,RUB,RUC,RUD,RUE,RUF,if_true,if_false,Int.reduceEq,Int.reduceLT,Int.reduceLE,qC,qO,qA,qS,qU,Nat.reduceEqDiff,qT,E.at,qR,Nat.reduceAdd,Nat.reduceSub,Nat.reduceLeDiff,Nat.reduceMul,qI,qP,qQ,cs,hone]
    have hs : (if s.2 = 0 then (s.1,3) else s) = ((s.1,3) : Sp) := by rw [if_pos (isS_lt hf.1).1]
    have hb : bodS l d s = mustS l (s.1,3) [123] := by unfold bodS; rw [if_pos hf]
    rw [hb] at hr
    rw [hs]
    refine (must_c hw hl (s.1,3) d en [123]).call1 rfl (by simp [V.free,V.free1]) rfl (cs_fr hw _ _ _) fun z os' hq => ?_
    obtain ⟨rfl,rfl⟩ := hq
    refine ⟨_,rfl,cs_fr hw _ _ _,rfl, ?_⟩
    simp only [c15x4,c15x5,RUA,RUB,RUC,RUD,RUE,RUF,if_true,if_false,Int.reduceEq,Int.reduceLT,Int.reduceLE,qC,qO,qA,qS,qU,Nat.reduceEqDiff,qT,E.at,qR,Nat.reduceAdd,Nat.reduceSub,Nat.reduceLeDiff,Nat.reduceMul,qI,qP,qQ,cs,hone,w1]
    refine hr.call1 rfl (by simp [V.free,V.free1]) rfl (cs_fr hw _ _ _) fun z os' hq => ?_
    obtain ⟨⟨y1,hy1,hx1⟩,rfl⟩ := hq
    have hz1 := hy1
    obtain ⟨a1,b1,c1,d1,e1,f1,g1,r1,rfl,o1,p1,q1,t1⟩ := pr_agg hy1
    refine ⟨_,rfl,cs_fr hw _ _ _,freeT_of hz1.ok.1, ?_⟩
    simp only [c15x5,c15x6,c15x7,RUA,RUB,RUC,RUD,RUE,RUF,if_true,if_false,Int.reduceEq,Int.reduceLT,Int.reduceLE,qC,qO,qA,qS,qU,Nat.reduceEqDiff,qT,E.at,qR,Nat.reduceAdd,Nat.reduceSub,Nat.reduceLeDiff,Nat.reduceMul,qI,qP,qQ,cs,hone,o1,p1,q1,t1,fillC,w2]
    refine (must_c hw hl s2 d en [125]).call1 rfl (by simp [V.free,V.free1]) rfl (cs_fr hw _ _ _) fun z os' hq => ?_
    obtain ⟨rfl,rfl⟩ := hq
    refine ⟨_,rfl,cs_fr hw _ _ _,rfl, ?_⟩
    simp only [c15x8,RUA,RUB,RUC,RUD,RUE,RUF,if_true,if_false,Int.reduceEq,Int.reduceLT,Int.reduceLE,qC,qO,qA,qS,qU,Nat.reduceEqDiff,qT,E.at,qR,Nat.reduceAdd,Nat.reduceSub,Nat.reduceLeDiff,Nat.reduceMul,qI,qP,qQ,cs,hone,o1,p1,q1,t1,fillC,rets,List.take]
    exact ⟨_,_,fin1 (cs_fr hw (mustS l s2 [125]) d en) (freeT_of hz1.ok.1),⟨_,hz1,fun e => hx1 (he e)⟩,rfl⟩
  · have hb : bodS l d s = mustS l s [123] := by unfold bodS; rw [if_neg hf]
    rw [hb] at hr
    have tail : ∀ (K : V → List O → Prop),True := fun _ => trivial
    have hq : (isS l s [123] = true ∧ decide ((20 : Int) ≤ (d : Int)) = false) ∨ isS l s [123] = false := by
      by_cases h1 : isS l s [123] = true
      · exact .inl ⟨h1,by simp; have : ¬ 20 ≤ d := fun h => hf ⟨h1,h⟩; omega⟩
      · exact .inr (by simpa using h1)
    rcases hq with ⟨h1,hd1⟩ | h1
    all_goals
      rw [h1]
      simp only [c15x1,c15x2,c15x3,RUA,RUB,RUC,RUD,RUE,RUF,if_true,if_false,Int.reduceEq,Int.reduceLT,Int.reduceLE,qC,qO,qA,qS,qU,Nat.reduceEqDiff,qT,E.at,qR,Nat.reduceAdd,Nat.reduceSub,Nat.reduceLeDiff,Nat.reduceMul,qI,qP,qQ,cs,hone, *]
      refine (must_c hw hl s d en [123]).call1 rfl (by simp [V.free,V.free1]) rfl (cs_fr hw _ _ _) fun z os' hq => ?_
      obtain ⟨rfl,rfl⟩ := hq
      refine ⟨_,rfl,cs_fr hw _ _ _,rfl, ?_⟩
      simp only [c15x4,c15x5,RUA,RUB,RUC,RUD,RUE,RUF,if_true,if_false,Int.reduceEq,Int.reduceLT,Int.reduceLE,qC,qO,qA,qS,qU,Nat.reduceEqDiff,qT,E.at,qR,Nat.reduceAdd,Nat.reduceSub,Nat.reduceLeDiff,Nat.reduceMul,qI,qP,qQ,cs,hone,w1]
      refine hr.call1 rfl (by simp [V.free,V.free1]) rfl (cs_fr hw _ _ _) fun z os' hq => ?_
      obtain ⟨⟨y1,hy1,hx1⟩,rfl⟩ := hq
      have hz1 := hy1
      obtain ⟨a1,b1,c1,d1,e1,f1,g1,r1,rfl,o1,p1,q1,t1⟩ := pr_agg hy1
      refine ⟨_,rfl,cs_fr hw _ _ _,freeT_of hz1.ok.1, ?_⟩
      simp only [c15x5,c15x6,c15x7,RUA,RUB,RUC,RUD,RUE,RUF,if_true,if_false,Int.reduceEq,Int.reduceLT,Int.reduceLE,qC,qO,qA,qS,qU,Nat.reduceEqDiff,qT,E.at,qR,Nat.reduceAdd,Nat.reduceSub,Nat.reduceLeDiff,Nat.reduceMul,qI,qP,qQ,cs,hone,o1,p1,q1,t1,fillC,w2]
      refine (must_c hw hl s2 d en [125]).call1 rfl (by simp [V.free,V.free1]) rfl (cs_fr hw _ _ _) fun z os' hq => ?_
      obtain ⟨rfl,rfl⟩ := hq
      refine ⟨_,rfl,cs_fr hw _ _ _,rfl, ?_⟩
      simp only [c15x8,RUA,RUB,RUC,RUD,RUE,RUF,if_true,if_false,Int.reduceEq,Int.reduceLT,Int.reduceLE,qC,qO,qA,qS,qU,Nat.reduceEqDiff,qT,E.at,qR,Nat.reduceAdd,Nat.reduceSub,Nat.reduceLeDiff,Nat.reduceMul,qI,qP,qQ,cs,hone,o1,p1,q1,t1,fillC,rets,List.take]
      exact ⟨_,_,fin1 (cs_fr hw (mustS l s2 [125]) d en) (freeT_of hz1.ok.1),⟨_,hz1,fun e => hx1 (he e)⟩,rfl⟩
theorem proc1_c (hl : l.length ≤ lim) {d en : Nat} {s s1 : Sp} {x : Pr} (ho : GT w en 44 d s x s1) (he : isS l s1 [59] = false) : GT w en 35 d s x s1 := by
  have hone : w.one = true := free1_one hw.free
  intro yi hy
  refine Call.step hy ?_
  rw [body_eq t35]
  simp only [c35,c35x1,RUA,RUB,RUC,RUD,RUE,RUF,if_true,if_false,Int.reduceEq,Int.reduceLT,Int.reduceLE,qC,qO,qA,qS,qU,Nat.reduceEqDiff,qT,E.at,qR,Nat.reduceAdd,Nat.reduceSub,Nat.reduceLeDiff,Nat.reduceMul,qI,qP,qQ,cs,hone]
  refine ho.call1 rfl (by simp [V.free,V.free1]) rfl (cs_fr hw _ _ _) fun z os' hq => ?_
  obtain ⟨⟨y1,hy1,hx1⟩,rfl⟩ := hq
  have hz1 := hy1
  obtain ⟨a1,b1,c1,d1,e1,f1,g1,r1,rfl,o1,p1,q1,t1⟩ := pr_agg hy1
  refine ⟨_,rfl,cs_fr hw _ _ _,freeT_of hz1.ok.1, ?_⟩
  obtain ⟨z1,hzz⟩ : ∃ z1,z1 = V.agg [iV a1,sV b1,sV c1,iV d1,iV e1,sV f1,g1,r1] := ⟨_,rfl⟩
  obtain ⟨w2,h2,h3⟩ := slcHi (k := 8) (v := .sl 8 true [z1]) (xs := [z1]) (.inr ⟨_,rfl⟩) (hi := 0) (by simp)
  have hI := fun o => IsSl.ix (k := 8) (v := .sl 8 true [z1]) (xs := [z1]) (.inr ⟨_,rfl⟩) o (n := 0) (y := z1) rfl
  rw [hzz] at h2 hI
  have hone2 : w2.one = true := free1_one h3.free
  have h2' : ∀ o,slcOf 8 o (V.sl 8 true [V.agg [iV a1,sV b1,sV c1,iV d1,iV e1,sV f1,g1,r1]]) none (some (iV 0)) none = some (w2,o) := h2
  have hI' : ∀ o,ixOf 8 o (V.sl 8 true [V.agg [iV a1,sV b1,sV c1,iV d1,iV e1,sV f1,g1,r1]]) (iV 0) = some (.ep [iV a1,sV b1,sV c1,iV d1,iV e1,sV f1,g1,r1],o) := hI
  have hw0 : IntKind.i64.wrap (1 - 1) = 0 := by decide
  simp only [c35x1,c35x2,RUA,RUB,RUC,RUD,RUE,RUF,if_true,if_false,Int.reduceEq,Int.reduceLT,Int.reduceLE,qC,qO,qA,qS,qU,Nat.reduceEqDiff,qT,E.at,qR,Nat.reduceAdd,Nat.reduceSub,Nat.reduceLeDiff,Nat.reduceMul,qI,qP,qQ,cs,hone,o1,p1,q1,t1,fillC]
  refine Lfp.inv call_le hy (fun _ : Unit => ⟨⟨[V.pt 0 0,.dead,V.pt 1 0,V.sl 8 true [V.agg [iV a1,sV b1,sV c1,iV d1,iV e1,sV f1,g1,r1]],.dead,.dead,V.dead,.dead,.dead,.dead,.dead,.dead,.dead,.dead,.dead,.dead,.dead,.dead,.dead,.dead,.dead,.dead,.dead,.dead,.dead,.dead,.dead,.dead,.dead,.dead,.dead,.dead,.dead,.dead,.dead,.dead],[O.cells (cs w s1 d en),
              O.cells [iV 0,sV emp,sV emp,iV 0,iV 0,sV emp,nilV,nilV]]⟩,[]⟩) (fun _ => 0) (fun _ => True) () trivial (by simp only [kill_L,killTs_nil,RUF] <;> rfl) ?_
  rintro - -
  simp only [c35x3,RUA,RUB,RUC,RUD,RUE,RUF,if_true,if_false,Int.reduceEq,Int.reduceLT,Int.reduceLE,qC,qO,qA,qS,qU,Nat.reduceEqDiff,qT,E.at,qR,Nat.reduceAdd,Nat.reduceSub,Nat.reduceLeDiff,Nat.reduceMul,qI,qP,qQ,cs,hone]
  refine (take_c hw hl s1 d en [59]).call1 rfl (by simp [V.free,V.free1]) rfl (cs_fr hw _ _ _) fun z os' hq => ?_
  obtain ⟨rfl,rfl⟩ := hq
  refine ⟨_,rfl,cs_fr hw _ _ _,rfl, ?_⟩
  have ht : takeS l s1 [59] = s1 := by simp [takeS,he]
  rw [ht,he]
  simp only [c35x4,c35x6,c35x7,RUA,RUB,RUC,RUD,RUE,RUF,if_true,if_false,Int.reduceEq,Int.reduceLT,Int.reduceLE,qC,qO,qA,qS,qU,Nat.reduceEqDiff,qT,E.at,qR,Nat.reduceAdd,Nat.reduceSub,Nat.reduceLeDiff,Nat.reduceMul,qI,qP,qQ,cs,hone,o1,p1,q1,t1,fillC,hw0,h2',hI']
  refine call2 rfl (cm_free h3.freeV cm_nil) (back_c hy hone2 ?_)
  simp only [c35x8,RUA,RUB,RUC,RUD,RUE,RUF,if_true,if_false,Int.reduceEq,Int.reduceLT,Int.reduceLE,qC,qO,qA,qS,qU,Nat.reduceEqDiff,qT,E.at,qR,Nat.reduceAdd,Nat.reduceSub,Nat.reduceLeDiff,Nat.reduceMul,qI,qP,qQ,cs,hone,o1,p1,q1,t1,fillC]
  refine ev_rfun rfl ?_
  simp only [List.length_cons,List.length_nil,Nat.reduceAdd,List.cons_append,List.nil_append]
  refine call2 rfl (cm_keep rfl (cm_pt cm_nil)) ?_
  have hy2 := yl_le (ca := Pe.Call Tryd.prog T) (P := Tryd.prog) (T := T) (ps := #[29,30]) (assign := ra35x0) (body := rb35x0) (cass := c35x9) (cb := c35x10) call_le lfp_le hy 5
  refine Call.step hy2 ?_
  rw [body_eq t59]
  have hrow := fun o => h3.row o
  have hlw : (List.take 0 [z1]).length = 0 := rfl
  have hwm : IntKind.i64.wrap (0 - 1) = -1 := by decide
  have hdm : decide ((0 : Int) ≤ -1) = false := by decide
  simp only [c59,c59x1,RUA,RUB,RUC,RUD,RUE,RUF,if_true,if_false,Int.reduceEq,Int.reduceLT,Int.reduceLE,qC,qO,qA,qS,qU,Nat.reduceEqDiff,qT,E.at,qR,Nat.reduceAdd,Nat.reduceSub,Nat.reduceLeDiff,Nat.reduceMul,qI,qP,qQ,hrow,hlw,hwm]
  refine Lfp.step (ev_mono call_le lfp_le _ _ _ _ hy2) ?_
  simp only [c59x2,c59x3,RUA,RUB,RUC,RUD,RUE,RUF,if_true,if_false,Int.reduceEq,Int.reduceLT,Int.reduceLE,qC,qO,qA,qS,qU,Nat.reduceEqDiff,qT,E.at,qR,Nat.reduceAdd,Nat.reduceSub,Nat.reduceLeDiff,Nat.reduceMul,qI,qP,qQ,hdm,hwm]
  refine rEnd_in rfl (by simp) rfl ?_
  simp only [c35x11,RUA,RUB,RUC,RUD,RUE,RUF,if_true,if_false,Int.reduceEq,Int.reduceLT,Int.reduceLE,qC,qO,qA,qS,qU,Nat.reduceEqDiff,qT,E.at,qR,Nat.reduceAdd,Nat.reduceSub,Nat.reduceLeDiff,Nat.reduceMul,qI,qP,qQ,cs,hone,o1,p1,q1,t1,fillC]
  rw [retK_one rfl]
  simp only [RUA,RUB,RUC,RUD,RUE,RUF,if_true,if_false,Int.reduceEq,Int.reduceLT,Int.reduceLE,qC,qO,qA,qS,qU,Nat.reduceEqDiff,qT,E.at,qR,Nat.reduceAdd,Nat.reduceSub,Nat.reduceLeDiff,Nat.reduceMul,qI,qP,qQ,rets,List.take]
  exact ⟨_,_,fin1 (cs_fr hw s1 d en) (freeT_of hz1.ok.1),⟨_,hz1,hx1⟩,rfl⟩
end
end Go.Proofs.YtclaoegdlibapaaDoor
end

section
set_option linter.unusedVariables false
set_option linter.unusedSimpArgs false
set_option maxRecDepth 100000
set_option maxHeartbeats 8000000
open Go.Proofs.Pe renaming putCells → qC, bslOf → qO, bsaOf → qA, bslS → qS, isUpto → qU, step → qT, intOf → qI, iop → qP, sop → qQ
open List renaming replicate → qR
open Go.Proofs.Pe.V renaming dead → qD
namespace Go.Proofs.YtclaoegdlibapaaDoor
open Go.Proofs.Pe

/-! ### The reader of programs: one process is declared, no more -/
theorem clone17 : PFn Tryd.prog T 17 [nilV] fun z => z = nilV := by
  intro yi hy
  refine Call.step hy ?_
  rw [body_eq t17]
  simp only [c17,c17x1,c17x2,c17x3,RUA,RUB,RUC,RUD,RUE,RUF,if_true,if_false,Int.reduceEq,Int.reduceLT,Int.reduceLE,qC,qO,qA,qS,qU,Nat.reduceEqDiff,qT,E.at,qR,Nat.reduceAdd,Nat.reduceSub,Nat.reduceLeDiff,Nat.reduceMul,qI,qP,qQ]
  exact ⟨_,_,rfl,rfl⟩
theorem clone18 : PFn Tryd.prog T 18 [nilV] fun z => z = nilV := by
  intro yi hy
  refine Call.step hy ?_
  rw [body_eq t18]
  simp only [c18,c18x1,c18x2,c18x3,RUA,RUB,RUC,RUD,RUE,RUF,if_true,if_false,Int.reduceEq,Int.reduceLT,Int.reduceLE,qC,qO,qA,qS,qU,Nat.reduceEqDiff,qT,E.at,qR,Nat.reduceAdd,Nat.reduceSub,Nat.reduceLeDiff,Nat.reduceMul,qI,qP,qQ]
  exact ⟨_,_,rfl,rfl⟩
theorem clone19 {v : V} {vs : List V} (hv : IsSl 9 v vs) (hk : okRow 9 vs) (hf : vs.all V.free = true) (hs : vs.length ≤ 1000000) : PFn Tryd.prog T 19 [v] fun z => IsSl 9 z vs := by
  intro yi hy
  refine Call.step hy ?_
  rw [body_eq t19]
  rcases hv with ⟨rfl,hn⟩ | ⟨f,rfl⟩
  · simp only [c19,c19x1,c19x2,c19x3,RUA,RUB,RUC,RUD,RUE,RUF,if_true,if_false,Int.reduceEq,Int.reduceLT,Int.reduceLE,qC,qO,qA,qS,qU,Nat.reduceEqDiff,qT,E.at,qR,Nat.reduceAdd,Nat.reduceSub,Nat.reduceLeDiff,Nat.reduceMul,qI,qP,qQ]
    exact ⟨_,_,rfl,.inl ⟨rfl,hn⟩⟩
  · by_cases h0 : vs = []
    · have ha : appOf 9 136 [] (.sl 9 true []) (.sl 9 f vs) = some (.sl 9 true [],[]) := ap_none (by rw [h0]; rfl) (.inl ⟨[],.inr ⟨_,rfl⟩⟩)
      simp only [c19,c19x1,c19x2,c19x3,RUA,RUB,RUC,RUD,RUE,RUF,if_true,if_false,Int.reduceEq,Int.reduceLT,Int.reduceLE,qC,qO,qA,qS,qU,Nat.reduceEqDiff,qT,E.at,qR,Nat.reduceAdd,Nat.reduceSub,Nat.reduceLeDiff,Nat.reduceMul,qI,qP,qQ,ha]
      exact ⟨_,_,rfl,.inr ⟨true,by rw [h0]⟩⟩
    · have ha : appOf 9 136 [] (.sl 9 true []) (.sl 9 f vs) = some (.ar 0 0,[] ++ [O.arr 0 true 9 ([] ++ vs)]) := ap_full rfl hk h0 (by simp [room]; omega)
      simp only [c19,c19x1,c19x2,c19x3,RUA,RUB,RUC,RUD,RUE,RUF,if_true,if_false,Int.reduceEq,Int.reduceLT,Int.reduceLE,qC,qO,qA,qS,qU,Nat.reduceEqDiff,qT,E.at,qR,Nat.reduceAdd,Nat.reduceSub,Nat.reduceLeDiff,Nat.reduceMul,qI,qP,qQ,ha]
      refine ⟨.sl 9 false vs,[O.arr 0 false 9 vs], ?_,.inr ⟨false,rfl⟩⟩
      simp [freezeT,freezeD,hf]
def OneP (nm : ByteArray) (x : Pr) (z : V) : Prop := ∃ a b c d e f g r v,IsPr x (.agg [iV a,sV b,sV c,iV d,iV e,sV f,g,r]) ∧ IsSl 9 v [.agg [sV nm,iV a,sV b,sV c,iV d,iV e,sV f,g,r]] ∧ z = .tup [.agg [nilV,nilV,v],iV 0,iV 0]
theorem parse1_c {t : List UInt8} {l : List Sg} {x : Pr} {s : Sp} (ht : t.length ≤ 4000) (hs : SR t 0 [] (.ok l)) (hl : l.length ≤ lim) (hok : ∀ s ∈ l,SgOk s) (h0 : isA l 0 wProc = true)
    (hb : ∀ w,IsSl 3 w (l.map Sg.v) → GT w t.length 15 0 (nameS l (1,0)) x s) (hsl : s.1 = l.length) (he : s.2 = 0) : PFn Tryd.prog T 8 [tV t] (OneP (nameT l (1,0)) x) := by
  intro yi hy
  refine Call.step hy ?_
  rw [body_eq t8]
  simp only [c8,c8x1,RUA,RUB,RUC,RUD,RUE,RUF,if_true,if_false,Int.reduceEq,Int.reduceLT,Int.reduceLE,qC,qO,qA,qS,qU,Nat.reduceEqDiff,qT,E.at,qR,Nat.reduceAdd,Nat.reduceSub,Nat.reduceLeDiff,Nat.reduceMul,qI,qP,qQ]
  refine (signs_p ht hs).callF rfl (by simp [V.free,V.free1]) fun z hz => ?_
  obtain ⟨w,rfl,hw⟩ := hz
  have hone : w.one = true := free1_one hw.free
  have hws : w.solid = true := hw.solid
  have hwc : w.cells = [w] := hw.cells
  have hrow := fun o => hw.row o
  have hlen : (l.map Sg.v).length = l.length := by simp
  have hd0 : decide ((0 : Int) < (l.length : Int)) = true := by have := isA_lt h0; simp; omega
  have hde : decide ((0 : Int) = 0) = true := rfl
  simp only [c8,c8x1,c8x2,c8x3,c8x4,c8x5,c8x6,RUA,RUB,RUC,RUD,RUE,RUF,if_true,if_false,Int.reduceEq,Int.reduceLT,Int.reduceLE,qC,qO,qA,qS,qU,Nat.reduceEqDiff,qT,E.at,qR,Nat.reduceAdd,Nat.reduceSub,Nat.reduceLeDiff,Nat.reduceMul,qI,qP,qQ,cs,hone,hws,hwc,fillC]
  refine Lfp.step (ev_mono call_le lfp_le _ _ _ _ hy) ?_
  simp only [c8x7,c8x8,c8x9,RUA,RUB,RUC,RUD,RUE,RUF,if_true,if_false,Int.reduceEq,Int.reduceLT,Int.reduceLE,qC,qO,qA,qS,qU,Nat.reduceEqDiff,qT,E.at,qR,Nat.reduceAdd,Nat.reduceSub,Nat.reduceLeDiff,Nat.reduceMul,qI,qP,qQ,cs,hone,hrow,hlen,hd0]
  refine (take_no hw hl (i := 0) (d := 0) (en := t.length) (t := wVar) (isA_ne h0 (by decide))).call1 rfl (by simp [V.free,V.free1]) rfl (cs_fr hw _ _ _) fun z os' hq => ?_
  obtain ⟨rfl,rfl⟩ := hq
  refine ⟨_,rfl,cs_fr hw _ _ _,rfl, ?_⟩
  simp only [c8x10,RUA,RUB,RUC,RUD,RUE,RUF,if_true,if_false,Int.reduceEq,Int.reduceLT,Int.reduceLE,qC,qO,qA,qS,qU,Nat.reduceEqDiff,qT,E.at,qR,Nat.reduceAdd,Nat.reduceSub,Nat.reduceLeDiff,Nat.reduceMul,qI,qP,qQ,cs,hone]
  refine (take_no hw hl (i := 0) (d := 0) (en := t.length) (t := wStack) (isA_ne h0 (by decide))).call1 rfl (by simp [V.free,V.free1]) rfl (cs_fr hw _ _ _) fun z os' hq => ?_
  obtain ⟨rfl,rfl⟩ := hq
  refine ⟨_,rfl,cs_fr hw _ _ _,rfl, ?_⟩
  simp only [c8x13,RUA,RUB,RUC,RUD,RUE,RUF,if_true,if_false,Int.reduceEq,Int.reduceLT,Int.reduceLE,qC,qO,qA,qS,qU,Nat.reduceEqDiff,qT,E.at,qR,Nat.reduceAdd,Nat.reduceSub,Nat.reduceLeDiff,Nat.reduceMul,qI,qP,qQ,cs,hone]
  refine (take_yes hw hl (i := 0) (d := 0) (en := t.length) (t := wProc) h0).call1 rfl (by simp [V.free,V.free1]) rfl (cs_fr hw _ _ _) fun z os' hq => ?_
  obtain ⟨rfl,rfl⟩ := hq
  refine ⟨_,rfl,cs_fr hw _ _ _,rfl, ?_⟩
  simp only [c8x14,RUA,RUB,RUC,RUD,RUE,RUF,if_true,if_false,Int.reduceEq,Int.reduceLT,Int.reduceLE,qC,qO,qA,qS,qU,Nat.reduceEqDiff,qT,E.at,qR,Nat.reduceAdd,Nat.reduceSub,Nat.reduceLeDiff,Nat.reduceMul,qI,qP,qQ,cs,hone,fillC]
  refine (pname_c hw hl hok (1,0) 0 t.length).call1 rfl (by simp [V.free,V.free1]) rfl (cs_fr hw _ _ _) fun z os' hq => ?_
  obtain ⟨rfl,rfl⟩ := hq
  refine ⟨_,rfl,cs_fr hw _ _ _,rfl, ?_⟩
  simp only [c8x15,RUA,RUB,RUC,RUD,RUE,RUF,if_true,if_false,Int.reduceEq,Int.reduceLT,Int.reduceLE,qC,qO,qA,qS,qU,Nat.reduceEqDiff,qT,E.at,qR,Nat.reduceAdd,Nat.reduceSub,Nat.reduceLeDiff,Nat.reduceMul,qI,qP,qQ,cs,hone,fillC]
  refine (hb w hw).call1 rfl (by simp [V.free,V.free1]) rfl (cs_fr hw _ _ _) fun z os' hq => ?_
  obtain ⟨⟨y1,hy1,hx1⟩,rfl⟩ := hq
  have hz1 := hy1
  obtain ⟨a1,b1,c1,d1,e1,f1,g1,r1,rfl,o1,p1,q1,t1⟩ := pr_agg hy1
  refine ⟨_,rfl,cs_fr hw _ _ _,freeT_of hz1.ok.1, ?_⟩
  have hx := hx1 he
  subst hx
  obtain ⟨dV,hdV⟩ : ∃ dV,dV = V.agg [sV (nameT l (1,0)),iV a1,sV b1,sV c1,iV d1,iV e1,sV f1,g1,r1] := ⟨_,rfl⟩
  have hdf : dV.free = true ∧ dV.cells.length = 9 := by rw [hdV]; simp [free_agg,free1_sc,q1,t1,cells_agg]
  have hap : ∀ o,appOf 9 136 o (V.sc (Value.slice none 0 0)) (.sl 9 true [dV]) = some (.ar o.length 0,o ++ [O.arr 0 true 9 [dV]]) := fun o => ap_nil rfl (by simp [okRow,hdf]) (by simp) (by simp [room])
  rw [hdV] at hap
  have he0 : decide ((s.2 : Int) = 0) = true := by simp; omega
  have hat : decide ((s.1 : Int) < (l.length : Int)) = false := by simp; omega
  simp only [c8x15,c8x16,RUA,RUB,RUC,RUD,RUE,RUF,if_true,if_false,Int.reduceEq,Int.reduceLT,Int.reduceLE,qC,qO,qA,qS,qU,Nat.reduceEqDiff,qT,E.at,qR,Nat.reduceAdd,Nat.reduceSub,Nat.reduceLeDiff,Nat.reduceMul,qI,qP,qQ,cs,hone,o1,p1,q1,t1,fillC,hap]
  simp only [c8x17,c8x18,RUA,RUB,RUC,RUD,RUE,RUF,if_true,if_false,Int.reduceEq,Int.reduceLT,Int.reduceLE,qC,qO,qA,qS,qU,Nat.reduceEqDiff,qT,E.at,qR,Nat.reduceAdd,Nat.reduceSub,Nat.reduceLeDiff,Nat.reduceMul,qI,qP,qQ,cs,hone,he0]
  refine Lfp.step (ev_mono call_le lfp_le _ _ _ _ hy) ?_
  simp only [c8x7,c8x8,RUA,RUB,RUC,RUD,RUE,RUF,if_true,if_false,Int.reduceEq,Int.reduceLT,Int.reduceLE,qC,qO,qA,qS,qU,Nat.reduceEqDiff,qT,E.at,qR,Nat.reduceAdd,Nat.reduceSub,Nat.reduceLeDiff,Nat.reduceMul,qI,qP,qQ,cs,hone,hrow,hlen,hat]
  simp only [c8x19,c8x20,RUA,RUB,RUC,RUD,RUE,RUF,if_true,if_false,Int.reduceEq,Int.reduceLT,Int.reduceLE,qC,qO,qA,qS,qU,Nat.reduceEqDiff,qT,E.at,qR,Nat.reduceAdd,Nat.reduceSub,Nat.reduceLeDiff,Nat.reduceMul,qI,qP,qQ,cs,hone,he0]
  simp only [c8x24,RUA,RUB,RUC,RUD,RUE,RUF,if_true,if_false,Int.reduceEq,Int.reduceLT,Int.reduceLE,qC,qO,qA,qS,qU,Nat.reduceEqDiff,qT,E.at,qR,Nat.reduceAdd,Nat.reduceSub,Nat.reduceLeDiff,Nat.reduceMul,qI,qP,qQ,cs,hone,he0]
  refine clone17.callE rfl rfl rfl ?_
  refine clone18.callE rfl rfl rfl ?_
  rw [← hdV]
  obtain ⟨w2,o2,hc,hw2,hf2⟩ := RowAt.commit (o := [O.cells [V.sc (Value.slice none 0 0),V.sc (Value.slice none 0 0),V.ar 3 0],O.cells [w,iV s.1,iV 0,iV s.2,iV t.length],O.cells [V.sc (Value.string (nameT l (1,0))),iV a1,sV b1,sV c1,iV d1,iV e1,sV f1,g1,r1],
      O.arr 0 true 9 [dV]]) (k := 9) (rv := .ar 3 0) (vs := [dV]) (A := [3]) (.inr ⟨3,0,true,rfl,rfl,rfl⟩) (by simp [hdf.1])
  have g0 := hf2.cells (l := 0) (cs := [V.sc (Value.slice none 0 0),V.sc (Value.slice none 0 0),V.ar 3 0]) rfl (by simp)
  refine (clone19 hw2 (by simp [okRow,hdf]) (by simp [hdf.1]) (by simp)).call rfl hc (fun z hz => ?_)
  have hzo : z.one = true := free1_one hz.free
  have hzc : z.cells = [z] := hz.cells
  have hzs : z.solid = true := hz.solid
  have hfin : ∀ o,∃ z_1 o2,freezeT o (.tup [.agg [nilV,nilV,z],iV 0,iV 0]) = some (z_1,o2) ∧ OneP (nameT l (1,0)) y1 z_1 := fun o => ⟨_,_,frzT_3 (frzD_free (by simp [free_agg,hz.free,free1_sc])) rfl rfl,a1,b1,c1,d1,e1,f1,g1,r1,z,hz1,by rw [← hdV]; exact hz,rfl⟩
  split
  · simp only [c8x25,RUA,RUB,RUC,RUD,RUE,RUF,if_true,if_false,Int.reduceEq,Int.reduceLT,Int.reduceLE,qC,qO,qA,qS,qU,Nat.reduceEqDiff,qT,E.at,qR,Nat.reduceAdd,Nat.reduceSub,Nat.reduceLeDiff,Nat.reduceMul,qI,qP,qQ,cs,hone,hzo,hzc,hzs,rets,List.take]
    exact hfin _
  · have g1' : ∀ a,(o2.set 0 a)[0]? = some a := fun a => get_set g0
    simp only [c8x25,RUA,RUB,RUC,RUD,RUE,RUF,if_true,if_false,Int.reduceEq,Int.reduceLT,Int.reduceLE,qC,qO,qA,qS,qU,Nat.reduceEqDiff,qT,E.at,qR,Nat.reduceAdd,Nat.reduceSub,Nat.reduceLeDiff,Nat.reduceMul,qI,qP,qQ,cs,hone,hzo,hzc,hzs,g0,g1',rets,List.take,List.set_set]
    exact hfin _
theorem parse1_e {t : List UInt8} {l : List Sg} {x : Pr} {s : Sp} (ht : t.length ≤ 4000) (hs : SR t 0 [] (.ok l)) (hl : l.length ≤ lim) (hok : ∀ s ∈ l,SgOk s) (h0 : isA l 0 wProc = true)
    (hb : ∀ w,IsSl 3 w (l.map Sg.v) → GT w t.length 15 0 (nameS l (1,0)) x s) {g : Sg} (hsl : l[s.1]? = some g) (he : s.2 ≠ 0) : PFn Tryd.prog T 8 [tV t] fun z => z = noPr g.i s.2 := by
  intro yi hy
  refine Call.step hy ?_
  rw [body_eq t8]
  simp only [c8,c8x1,RUA,RUB,RUC,RUD,RUE,RUF,if_true,if_false,Int.reduceEq,Int.reduceLT,Int.reduceLE,qC,qO,qA,qS,qU,Nat.reduceEqDiff,qT,E.at,qR,Nat.reduceAdd,Nat.reduceSub,Nat.reduceLeDiff,Nat.reduceMul,qI,qP,qQ]
  refine (signs_p ht hs).callF rfl (by simp [V.free,V.free1]) fun z hz => ?_
  obtain ⟨w,rfl,hw⟩ := hz
  have hone : w.one = true := free1_one hw.free
  have hws : w.solid = true := hw.solid
  have hwc : w.cells = [w] := hw.cells
  have hrow := fun o => hw.row o
  have hlen : (l.map Sg.v).length = l.length := by simp
  have hd0 : decide ((0 : Int) < (l.length : Int)) = true := by have := isA_lt h0; simp; omega
  have hde : decide ((0 : Int) = 0) = true := rfl
  simp only [c8,c8x1,c8x2,c8x3,c8x4,c8x5,c8x6,RUA,RUB,RUC,RUD,RUE,RUF,if_true,if_false,Int.reduceEq,Int.reduceLT,Int.reduceLE,qC,qO,qA,qS,qU,Nat.reduceEqDiff,qT,E.at,qR,Nat.reduceAdd,Nat.reduceSub,Nat.reduceLeDiff,Nat.reduceMul,qI,qP,qQ,cs,hone,hws,hwc,fillC]
  refine Lfp.step (ev_mono call_le lfp_le _ _ _ _ hy) ?_
  simp only [c8x7,c8x8,c8x9,RUA,RUB,RUC,RUD,RUE,RUF,if_true,if_false,Int.reduceEq,Int.reduceLT,Int.reduceLE,qC,qO,qA,qS,qU,Nat.reduceEqDiff,qT,E.at,qR,Nat.reduceAdd,Nat.reduceSub,Nat.reduceLeDiff,Nat.reduceMul,qI,qP,qQ,cs,hone,hrow,hlen,hd0]
  refine (take_no hw hl (i := 0) (d := 0) (en := t.length) (t := wVar) (isA_ne h0 (by decide))).call1 rfl (by simp [V.free,V.free1]) rfl (cs_fr hw _ _ _) fun z os' hq => ?_
  obtain ⟨rfl,rfl⟩ := hq
  refine ⟨_,rfl,cs_fr hw _ _ _,rfl, ?_⟩
  simp only [c8x10,RUA,RUB,RUC,RUD,RUE,RUF,if_true,if_false,Int.reduceEq,Int.reduceLT,Int.reduceLE,qC,qO,qA,qS,qU,Nat.reduceEqDiff,qT,E.at,qR,Nat.reduceAdd,Nat.reduceSub,Nat.reduceLeDiff,Nat.reduceMul,qI,qP,qQ,cs,hone]
  refine (take_no hw hl (i := 0) (d := 0) (en := t.length) (t := wStack) (isA_ne h0 (by decide))).call1 rfl (by simp [V.free,V.free1]) rfl (cs_fr hw _ _ _) fun z os' hq => ?_
  obtain ⟨rfl,rfl⟩ := hq
  refine ⟨_,rfl,cs_fr hw _ _ _,rfl, ?_⟩
  simp only [c8x13,RUA,RUB,RUC,RUD,RUE,RUF,if_true,if_false,Int.reduceEq,Int.reduceLT,Int.reduceLE,qC,qO,qA,qS,qU,Nat.reduceEqDiff,qT,E.at,qR,Nat.reduceAdd,Nat.reduceSub,Nat.reduceLeDiff,Nat.reduceMul,qI,qP,qQ,cs,hone]
  refine (take_yes hw hl (i := 0) (d := 0) (en := t.length) (t := wProc) h0).call1 rfl (by simp [V.free,V.free1]) rfl (cs_fr hw _ _ _) fun z os' hq => ?_
  obtain ⟨rfl,rfl⟩ := hq
  refine ⟨_,rfl,cs_fr hw _ _ _,rfl, ?_⟩
  simp only [c8x14,RUA,RUB,RUC,RUD,RUE,RUF,if_true,if_false,Int.reduceEq,Int.reduceLT,Int.reduceLE,qC,qO,qA,qS,qU,Nat.reduceEqDiff,qT,E.at,qR,Nat.reduceAdd,Nat.reduceSub,Nat.reduceLeDiff,Nat.reduceMul,qI,qP,qQ,cs,hone,fillC]
  refine (pname_c hw hl hok (1,0) 0 t.length).call1 rfl (by simp [V.free,V.free1]) rfl (cs_fr hw _ _ _) fun z os' hq => ?_
  obtain ⟨rfl,rfl⟩ := hq
  refine ⟨_,rfl,cs_fr hw _ _ _,rfl, ?_⟩
  simp only [c8x15,RUA,RUB,RUC,RUD,RUE,RUF,if_true,if_false,Int.reduceEq,Int.reduceLT,Int.reduceLE,qC,qO,qA,qS,qU,Nat.reduceEqDiff,qT,E.at,qR,Nat.reduceAdd,Nat.reduceSub,Nat.reduceLeDiff,Nat.reduceMul,qI,qP,qQ,cs,hone,fillC]
  refine (hb w hw).call1 rfl (by simp [V.free,V.free1]) rfl (cs_fr hw _ _ _) fun z os' hq => ?_
  obtain ⟨⟨y1,hy1,hx1⟩,rfl⟩ := hq
  have hz1 := hy1
  obtain ⟨a1,b1,c1,d1,e1,f1,g1,r1,rfl,o1,p1,q1,t1⟩ := pr_agg hy1
  refine ⟨_,rfl,cs_fr hw _ _ _,freeT_of hz1.ok.1, ?_⟩
  obtain ⟨dV,hdV⟩ : ∃ dV,dV = V.agg [sV (nameT l (1,0)),iV a1,sV b1,sV c1,iV d1,iV e1,sV f1,g1,r1] := ⟨_,rfl⟩
  have hdf : dV.free = true ∧ dV.cells.length = 9 := by rw [hdV]; simp [free_agg,free1_sc,q1,t1,cells_agg]
  have hap : ∀ o,appOf 9 136 o (V.sc (Value.slice none 0 0)) (.sl 9 true [dV]) = some (.ar o.length 0,o ++ [O.arr 0 true 9 [dV]]) := fun o => ap_nil rfl (by simp [okRow,hdf]) (by simp) (by simp [room])
  rw [hdV] at hap
  have he0 : decide ((s.2 : Int) = 0) = false := by simp; omega
  have hlt := (List.getElem?_eq_some_iff.1 hsl).1
  have hat : decide ((s.1 : Int) < (l.length : Int)) = true := by simp; omega
  have hI := fun o => sg_ix hw hsl o
  simp only [c8x15,c8x16,RUA,RUB,RUC,RUD,RUE,RUF,if_true,if_false,Int.reduceEq,Int.reduceLT,Int.reduceLE,qC,qO,qA,qS,qU,Nat.reduceEqDiff,qT,E.at,qR,Nat.reduceAdd,Nat.reduceSub,Nat.reduceLeDiff,Nat.reduceMul,qI,qP,qQ,cs,hone,o1,p1,q1,t1,fillC,hap]
  simp only [c8x17,c8x18,RUA,RUB,RUC,RUD,RUE,RUF,if_true,if_false,Int.reduceEq,Int.reduceLT,Int.reduceLE,qC,qO,qA,qS,qU,Nat.reduceEqDiff,qT,E.at,qR,Nat.reduceAdd,Nat.reduceSub,Nat.reduceLeDiff,Nat.reduceMul,qI,qP,qQ,cs,hone,he0]
  simp only [c8x19,c8x20,c8x21,c8x22,RUA,RUB,RUC,RUD,RUE,RUF,if_true,if_false,Int.reduceEq,Int.reduceLT,Int.reduceLE,qC,qO,qA,qS,qU,Nat.reduceEqDiff,qT,E.at,qR,Nat.reduceAdd,Nat.reduceSub,Nat.reduceLeDiff,Nat.reduceMul,qI,qP,qQ,cs,hone,hrow,hlen,he0,hat,hI,fillC]
  simp only [c8x23,RUA,RUB,RUC,RUD,RUE,RUF,if_true,if_false,Int.reduceEq,Int.reduceLT,Int.reduceLE,qC,qO,qA,qS,qU,Nat.reduceEqDiff,qT,E.at,qR,Nat.reduceAdd,Nat.reduceSub,Nat.reduceLeDiff,Nat.reduceMul,qI,qP,qQ,cs,hone,fillC,rets,List.take]
  repeat' apply And.intro
  all_goals exact ⟨_,_,frzT_3 (frzD_free (by simp [free_agg,free1_sc])) rfl rfl,rfl⟩
end Go.Proofs.YtclaoegdlibapaaDoor
end

section
set_option linter.unusedVariables false
set_option linter.unusedSimpArgs false
set_option maxRecDepth 100000
set_option maxHeartbeats 1000000
namespace Go.Proofs.Pe

/-! ### The signs of braces in one another -/
theorem opSg_len : ∀ k i,(opSg k i).length = k
  | 0,i => rfl
  | k + 1,i => by simp [opSg,opSg_len k]
theorem clSg_len : ∀ k i,(clSg k i).length = k
  | 0,i => rfl
  | k + 1,i => by simp [clSg,clSg_len k]
theorem opSg_get : ∀ {k j i : Nat},j < k → (opSg k i)[j]? = some ⟨3,[123],i + 2 * j⟩
  | k + 1,0,i,h => rfl
  | k + 1,j + 1,i,h => by
    show (opSg k (i + 2))[j]? = _
    rw [opSg_get (by omega)]
    simp; omega
theorem clSg_get : ∀ {k j i : Nat},j < k → (clSg k i)[j]? = some ⟨3,[125],i + 1 + 2 * j⟩
  | k + 1,0,i,h => rfl
  | k + 1,j + 1,i,h => by
    show (clSg k (i + 2))[j]? = _
    rw [clSg_get (by omega)]
    simp; omega
theorem dp_len (k : Nat) : (dpSg k).length = 2 * k + 3 := by simp [dpSg,opSg_len,clSg_len]; omega
theorem dp_op {k j : Nat} (h : j < k) : (dpSg k)[2 + j]? = some ⟨3,[123],7 + 2 * j⟩ := by
  rw [show 2 + j = j + 1 + 1 by omega]
  show (opSg k 7 ++ (⟨1,sK,7 + 2 * k⟩ :: clSg k (11 + 2 * k)))[j]? = _
  rw [List.getElem?_append_left (by rw [opSg_len]; exact h),opSg_get h]
theorem dp_sk (k : Nat) : (dpSg k)[k + 2]? = some ⟨1,sK,7 + 2 * k⟩ := by
  show (opSg k 7 ++ (⟨1,sK,7 + 2 * k⟩ :: clSg k (11 + 2 * k)))[k]? = _
  rw [List.getElem?_append_right (by rw [opSg_len]; exact Nat.le_refl _),opSg_len]
  simp
theorem dp_cl {k j : Nat} (h : j < k) : (dpSg k)[k + 3 + j]? = some ⟨3,[125],12 + 2 * k + 2 * j⟩ := by
  rw [show k + 3 + j = (k + 1 + j) + 1 + 1 by omega]
  show (opSg k 7 ++ (⟨1,sK,7 + 2 * k⟩ :: clSg k (11 + 2 * k)))[k + 1 + j]? = _
  rw [List.getElem?_append_right (by rw [opSg_len]; omega),opSg_len,show k + 1 + j - k = j + 1 by omega]
  show (clSg k (11 + 2 * k))[j]? = _
  rw [clSg_get h]
  simp; omega
theorem dp_no {k : Nat} : ∀ s ∈ dpSg k,s.t ≠ [59] := by
  intro s hs
  have ho : ∀ k i,∀ s ∈ opSg k i,s.t ≠ [59] := by
    intro k
    induction k with
    | zero => intro i s hs; cases hs
    | succ k ih =>
      intro i s hs
      rcases List.mem_cons.1 hs with rfl | hs
      · show ([_] : List UInt8) ≠ [59]; decide
      · exact ih _ s hs
  have hc : ∀ k i,∀ s ∈ clSg k i,s.t ≠ [59] := by
    intro k
    induction k with
    | zero => intro i s hs; cases hs
    | succ k ih =>
      intro i s hs
      rcases List.mem_cons.1 hs with rfl | hs
      · show ([_] : List UInt8) ≠ [59]; decide
      · exact ih _ s hs
  simp only [dpSg,List.mem_cons,List.mem_append] at hs
  rcases hs with rfl | rfl | hs | rfl | hs
  · simp
  · simp
  · exact ho _ _ s hs
  · simp [sK]
  · exact hc _ _ s hs
theorem isA_get {l : List Sg} {i : Nat} {s : Sg} (h : l[i]? = some s) (hk : s.k ≠ 2) : isA l i s.t = true := by
  simp [isA,h,hk]
theorem dp_semi (k : Nat) (s : Sp) : isS (dpSg k) s [59] = false := by
  unfold isS isA
  split
  · rename_i g hg
    have := dp_no g (List.mem_of_getElem? hg)
    simp [this]
  · simp
theorem dp_name (k : Nat) : nameS (dpSg k) (1,0) = (2,0) := by
  have h : nmA (dpSg k) 1 = true := by
    show (1 == 1 && isName [112]) = true
    decide
  simp [nameS,h]
end Go.Proofs.Pe
end

section
set_option linter.unusedVariables false
set_option maxRecDepth 100000
set_option maxHeartbeats 4000000
namespace Go.Proofs.YtclaoegdlibapaaDoor
open Go.Proofs.Pe
theorem known_p : PFn Tryd.prog T 6 [] fun z => z = bV true := (PFn.ofB (test := isTrue) 400 (by kernel_rfl)).mono fun z h => isTrue_eq h
end Go.Proofs.YtclaoegdlibapaaDoor
end

section
set_option linter.unusedVariables false
set_option linter.unusedSimpArgs false
set_option maxRecDepth 100000
set_option maxHeartbeats 4000000
open Go.Proofs.Pe renaming putCells → qC, bslOf → qO, bsaOf → qA, bslS → qS, isUpto → qU, step → qT, intOf → qI, iop → qP, sop → qQ
open List renaming replicate → qR
open Go.Proofs.Pe.V renaming dead → qD
namespace Go.Proofs.YtclaoegdlibapaaDoor
open Go.Proofs.Pe

theorem within_p (a : Int) (n : Int) (hn : 0 < n) (hn2 : n ≤ 1000000) : PFn Tryd.prog T 7 [iV a,iV n] fun z => z = iV (withinI a n) := by
  intro yi hy
  refine Call.step hy ?_
  rw [body_eq t7]
  have h0 : ¬ n = 0 := by omega
  have h1 := Int.tmod_lt_of_pos a hn
  have h2 := neg_lt_tmod a hn
  by_cases hlt : a.tmod n < 0
  · have hd : decide (a.tmod n < 0) = true := by simpa using hlt
    have hw : IntKind.i64.wrap (a.tmod n + n) = withinI a n := by rw [wrap_ok (by omega) (by omega)]; unfold withinI; rw [if_pos hlt]
    simp only [c7,c7x1,c7x2,c7x3,c7x4,RUA,RUB,RUC,RUD,RUE,RUF,if_true,if_false,Int.reduceEq,Int.reduceLT,Int.reduceLE,qC,qO,qA,qS,qU,Nat.reduceEqDiff,qT,E.at,qR,Nat.reduceAdd,Nat.reduceSub,Nat.reduceLeDiff,Nat.reduceMul,qI,qP,qQ,h0,hd,hw]
    exact ⟨_,_,rfl,rfl⟩
  · have hw : a.tmod n = withinI a n := by unfold withinI; rw [if_neg hlt]
    have hd : decide (a.tmod n < 0) = false := by simpa using hlt
    simp only [c7,c7x1,c7x2,c7x3,c7x4,RUA,RUB,RUC,RUD,RUE,RUF,if_true,if_false,Int.reduceEq,Int.reduceLT,Int.reduceLE,qC,qO,qA,qS,qU,Nat.reduceEqDiff,qT,E.at,qR,Nat.reduceAdd,Nat.reduceSub,Nat.reduceLeDiff,Nat.reduceMul,qI,qP,qQ,h0,hd]
    exact ⟨_,_,rfl,by rw [hw]⟩
end Go.Proofs.YtclaoegdlibapaaDoor
end

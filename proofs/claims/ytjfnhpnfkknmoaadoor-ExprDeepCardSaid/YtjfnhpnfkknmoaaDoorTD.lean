/- Parts of the texts that the claim's proof needs: functions of the program as the evaluator reads them, and what they come to. Conditions: those that its theorems state. -/
import Derived.Test.YtjfnhpnfkknmoaaDoorTC

section
set_option linter.unusedVariables false
set_option linter.unusedSimpArgs false
set_option maxRecDepth 100000
set_option maxHeartbeats 4000000
open Go.Proofs.Pe renaming putCells → qC, bslOf → qO, bsaOf → qA, bslS → qS, isUpto → qU, step → qT, intOf → qI, iop → qP, sop → qQ
open List renaming replicate → qR
open Go.Proofs.Pe.V renaming dead → qD
namespace Go.Proofs.YtjfnhpnfkknmoaaDoor
open Go.Proofs.Pe

/-! ### The reader of expressions: what stands here -/
def sgnsV : List V := (List.range 18).map fun k => tV (kTxt k)
def lvlsV : List V := (List.range 5).map fun k => .agg [iV (lvLo k),iV (lvHi k)]
theorem signs_l : PFn Tryd.prog T 44 [] fun z => z = .sl 1 true sgnsV := by
  intro yi hy
  refine Call.step hy ?_
  rw [body_eq t44]
  simp only [c44,c44x1,RUA,RUB,RUC,RUD,RUE,RUF,if_true,if_false,Int.reduceEq,Int.reduceLT,Int.reduceLE,qC,qO,qA,qS,qU,Nat.reduceEqDiff,qT,E.at,qR,Nat.reduceAdd,Nat.reduceSub,Nat.reduceLeDiff,Nat.reduceMul,qI,qP,qQ]
  exact ⟨_,_,rfl,rfl⟩
theorem levels_p : PFn Tryd.prog T 57 [] fun z => z = .sl 2 true lvlsV := by
  intro yi hy
  refine Call.step hy ?_
  rw [body_eq t57]
  simp only [c57,c57x1,RUA,RUB,RUC,RUD,RUE,RUF,if_true,if_false,Int.reduceEq,Int.reduceLT,Int.reduceLE,qC,qO,qA,qS,qU,Nat.reduceEqDiff,qT,E.at,qR,Nat.reduceAdd,Nat.reduceSub,Nat.reduceLeDiff,Nat.reduceMul,qI,qP,qQ]
  exact ⟨_,_,rfl,rfl⟩
theorem sgns_get {k : Nat} (h : k < 18) : sgnsV[k]? = some (tV (kTxt k)) := by simp [sgnsV,h]
theorem lvls_get {k : Nat} (h : k < 5) : lvlsV[k]? = some (.agg [iV (lvLo k),iV (lvHi k)]) := by simp [lvlsV,h]

section
variable {o : List O} {p : Nat} {w d e : V} {l : List Sg} {i : Nat} {yi : Nat → Sem'} {K : V → List O → Prop}
theorem sg_ix (hw : IsSl 3 w (l.map Sg.v)) {s : Sg} (h : l[i]? = some s) (o : List O) : ixOf 3 o w (iV i) = some (.ep [iV s.k,tV s.t,iV s.i],o) := by
  have := hw.ix o (n := i) (y := s.v) (by rw [List.getElem?_map,h]; rfl)
  exact this
theorem pmark_c (hy : YLe yi yi) (hw : IsSl 3 w (l.map Sg.v)) (ho : o[p]? = some (.cells [w,iV i,d,e])) (hK : K (tV (markAt l i)) o) : Pe.Call Tryd.prog T yi 74 [.pt p 0] o K := by
  have hrow := fun o => hw.row o
  have hlen : (l.map Sg.v).length = l.length := by simp
  refine Call.step hy ?_
  rw [body_eq t74]
  by_cases hlt : i < l.length
  · have hx : l[i]? = some l[i] := List.getElem?_eq_getElem hlt
    generalize l[i] = s at hx
    have hI := fun o => sg_ix hw hx o
    have hd : decide ((i : Int) < (l.length : Int)) = true := by simpa using hlt
    by_cases hk : s.k = 3
    · have hkd : decide ((s.k : Int) = 3) = true := by simp; omega
      have hm : markAt l i = s.t := by simp only [markAt,hx,hk,if_true]
      rw [hm] at hK
      simp only [c74,c74x1,c74x2,c74x3,RUA,RUB,RUC,RUD,RUE,RUF,if_true,if_false,Int.reduceEq,Int.reduceLT,Int.reduceLE,qC,qO,qA,qS,qU,Nat.reduceEqDiff,qT,E.at,qR,Nat.reduceAdd,Nat.reduceSub,Nat.reduceLeDiff,Nat.reduceMul,qI,qP,qQ,ho,hrow,hlen,hd,hI,hkd]
      exact hK
    · have hkd : decide ((s.k : Int) = 3) = false := by simp; omega
      have hm : markAt l i = [] := by simp only [markAt,hx,if_neg hk]
      rw [hm] at hK
      simp only [c74,c74x1,c74x2,c74x3,RUA,RUB,RUC,RUD,RUE,RUF,if_true,if_false,Int.reduceEq,Int.reduceLT,Int.reduceLE,qC,qO,qA,qS,qU,Nat.reduceEqDiff,qT,E.at,qR,Nat.reduceAdd,Nat.reduceSub,Nat.reduceLeDiff,Nat.reduceMul,qI,qP,qQ,ho,hrow,hlen,hd,hI,hkd]
      exact hK
  · have hd : decide ((i : Int) < (l.length : Int)) = false := by simpa using hlt
    have hm : markAt l i = [] := by simp only [markAt,List.getElem?_eq_none (Nat.le_of_not_lt hlt)]
    rw [hm] at hK
    simp only [c74,c74x1,c74x2,c74x3,RUA,RUB,RUC,RUD,RUE,RUF,if_true,if_false,Int.reduceEq,Int.reduceLT,Int.reduceLE,qC,qO,qA,qS,qU,Nat.reduceEqDiff,qT,E.at,qR,Nat.reduceAdd,Nat.reduceSub,Nat.reduceLeDiff,Nat.reduceMul,qI,qP,qQ,ho,hrow,hlen,hd]
    exact hK
theorem lv_ok : ∀ lv,lv < 5 → 5 ≤ lvLo lv ∧ lvLo lv ≤ lvHi lv ∧ lvHi lv ≤ 17 := by decide
theorem pkind_c (hy : YLe yi yi) (hw : IsSl 3 w (l.map Sg.v)) {lv : Nat} (hlv : lv < 5) (ho : o[p]? = some (.cells [w,iV i,d,e])) (hK : ∀ b,K (iV (kindM lv (markAt l i))) (o ++ [b])) :
    Pe.Call Tryd.prog T yi 59 [.pt p 0,.agg [iV (lvLo lv),iV (lvHi lv)]] o K := by
  obtain ⟨hl1,hl2,hl3⟩ := lv_ok lv hlv
  have hnil := kind_nil lv hlv
  refine Call.step hy ?_
  rw [body_eq t59]
  simp only [c59,c59x1,RUA,RUB,RUC,RUD,RUE,RUF,if_true,if_false,Int.reduceEq,Int.reduceLT,Int.reduceLE,qC,qO,qA,qS,qU,Nat.reduceEqDiff,qT,E.at,qR,Nat.reduceAdd,Nat.reduceSub,Nat.reduceLeDiff,Nat.reduceMul,qI,qP,qQ]
  refine call3 rfl (cm_pt cm_nil) (pmark_c noY_le hw (get_app ho) ⟨Sim.refl _ _, ?_⟩)
  generalize hmm : markAt l i = m at hK
  generalize hkk : kindM lv m = kk at hK
  have hK' := hK (.cells [.agg [iV (lvLo lv),iV (lvHi lv)]])
  simp only [c59,c59x1,c59x2,c59x3,RUA,RUB,RUC,RUD,RUE,RUF,if_true,if_false,Int.reduceEq,Int.reduceLT,Int.reduceLE,qC,qO,qA,qS,qU,Nat.reduceEqDiff,qT,E.at,qR,Nat.reduceAdd,Nat.reduceSub,Nat.reduceLeDiff,Nat.reduceMul,qI,qP,qQ]
  refine Lfp.inv call_le hy (fun k : Nat => ⟨⟨[.dead,.dead,.dead,.pt o.length 0,.dead,tV m,iV k,.dead,.dead,.dead,.dead,.dead,.dead,.dead,.dead,.dead,.dead,.dead,.dead,.dead,.dead,.dead,.dead,.dead,.dead,.dead,.dead,.dead],o ++ [.cells [iV (lvLo lv),iV (lvHi lv)]]⟩,[]⟩) (fun k => lvHi lv + 1 - k)
    (fun k => lvLo lv ≤ k ∧ k ≤ lvHi lv + 1 ∧ kindG (lvHi lv + 1 - k) k m = kk) (lvLo lv) ⟨Nat.le_refl _,by omega,hkk⟩ (by simp only [kill_L,killTs_nil,RUF] <;> rfl) ?_
  rintro k ⟨hk1,hk2,hf⟩
  have fin0 : kk = 0 → K (iV 0) (o ++ [.cells [iV (lvLo lv),iV (lvHi lv)]]) := fun h => by
    have := hK (.cells [iV (lvLo lv),iV (lvHi lv)])
    rw [h] at this; exact this
  by_cases h1 : k ≤ lvHi lv
  · have hd : decide ((k : Int) ≤ (lvHi lv : Int)) = true := by simpa using h1
    have e1 : lvHi lv + 1 - k = (lvHi lv + 1 - (k + 1)) + 1 := by omega
    by_cases hm0 : m = []
    · have hb : (m == ([] : List UInt8)) = true := by simpa using hm0
      have hz : kk = 0 := by rw [← hkk,hm0]; exact hnil
      simp only [c59,c59x1,c59x2,c59x3,c59x4,c59x5,c59x6,c59x7,c59x8,c59x9,RUA,RUB,RUC,RUD,RUE,RUF,if_true,if_false,Int.reduceEq,Int.reduceLT,Int.reduceLE,qC,qO,qA,qS,qU,Nat.reduceEqDiff,qT,E.at,qR,Nat.reduceAdd,Nat.reduceSub,Nat.reduceLeDiff,Nat.reduceMul,qI,qP,qQ,hd,hb]
      exact fin0 hz
    · have hb : (m == ([] : List UInt8)) = false := by simpa using hm0
      have hI : ∀ o,ixOf 1 o (.sl 1 true sgnsV) (iV k) = some (.ep [tV (kTxt k)],o) := fun o => IsSl.ix (.inr ⟨_,rfl⟩) o (sgns_get (by omega))
      have hw1 : IntKind.i64.wrap ((k : Int) + 1) = ((k + 1 : Nat) : Int) := wrap_succ (by omega)
      rw [e1] at hf
      simp only [c59,c59x1,c59x2,c59x3,c59x4,c59x5,c59x6,RUA,RUB,RUC,RUD,RUE,RUF,if_true,if_false,Int.reduceEq,Int.reduceLT,Int.reduceLE,qC,qO,qA,qS,qU,Nat.reduceEqDiff,qT,E.at,qR,Nat.reduceAdd,Nat.reduceSub,Nat.reduceLeDiff,Nat.reduceMul,qI,qP,qQ,hd,hb]
      refine pcall signs_l rfl (by simp) ?_
      simp only [c59,c59x1,c59x2,c59x3,c59x4,c59x5,c59x6,c59x7,c59x8,c59x9,RUA,RUB,RUC,RUD,RUE,RUF,if_true,if_false,Int.reduceEq,Int.reduceLT,Int.reduceLE,qC,qO,qA,qS,qU,Nat.reduceEqDiff,qT,E.at,qR,Nat.reduceAdd,Nat.reduceSub,Nat.reduceLeDiff,Nat.reduceMul,qI,qP,qQ,hI]
      by_cases he : kTxt k = m
      · have hq : (kTxt k == m) = true := by simpa using he
        have hz : kk = k := by rw [← hf,kindG,if_pos hq]
        simp only [c59,c59x1,c59x2,c59x3,c59x4,c59x5,c59x6,c59x7,c59x8,c59x9,RUA,RUB,RUC,RUD,RUE,RUF,if_true,if_false,Int.reduceEq,Int.reduceLT,Int.reduceLE,qC,qO,qA,qS,qU,Nat.reduceEqDiff,qT,E.at,qR,Nat.reduceAdd,Nat.reduceSub,Nat.reduceLeDiff,Nat.reduceMul,qI,qP,qQ,hq]
        rw [← hz]
        exact hK _
      · have hq : (kTxt k == m) = false := by simpa using he
        simp only [c59,c59x1,c59x2,c59x3,c59x4,c59x5,c59x6,c59x7,c59x8,c59x9,RUA,RUB,RUC,RUD,RUE,RUF,if_true,if_false,Int.reduceEq,Int.reduceLT,Int.reduceLE,qC,qO,qA,qS,qU,Nat.reduceEqDiff,qT,E.at,qR,Nat.reduceAdd,Nat.reduceSub,Nat.reduceLeDiff,Nat.reduceMul,qI,qP,qQ,hq,hw1]
        refine ⟨k + 1,⟨by omega,by omega, ?_⟩,by omega,rfl⟩
        rw [← hf,kindG,if_neg (by rw [hq]; simp)]
  · have hd : decide ((k : Int) ≤ (lvHi lv : Int)) = false := by simpa using h1
    have hz : kk = 0 := by rw [← hf,show lvHi lv + 1 - k = 0 by omega]; rfl
    simp only [c59,c59x1,c59x2,c59x3,c59x4,c59x5,c59x6,c59x7,c59x8,c59x9,RUA,RUB,RUC,RUD,RUE,RUF,if_true,if_false,Int.reduceEq,Int.reduceLT,Int.reduceLE,qC,qO,qA,qS,qU,Nat.reduceEqDiff,qT,E.at,qR,Nat.reduceAdd,Nat.reduceSub,Nat.reduceLeDiff,Nat.reduceMul,qI,qP,qQ,hd]
    exact fin0 hz
end
end Go.Proofs.YtjfnhpnfkknmoaaDoor
end

section
set_option linter.unusedVariables false
set_option linter.unusedSimpArgs false
set_option maxRecDepth 100000
set_option maxHeartbeats 4000000
open Go.Proofs.Pe renaming putCells → qC, bslOf → qO, bsaOf → qA, bslS → qS, isUpto → qU, step → qT, intOf → qI, iop → qP, sop → qQ
open List renaming replicate → qR
open Go.Proofs.Pe.V renaming dead → qD
namespace Go.Proofs.YtjfnhpnfkknmoaaDoor
open Go.Proofs.Pe

/-! ### Numbers are read -/
theorem numI_take {t : List UInt8} {k : Nat} {c : UInt8} (h : t[k]? = some c) : numI (t.take (k + 1)) = 10 * numI (t.take k) + (c.toNat - 48) := by
  rw [List.take_add_one,h,Option.toList_some,numI_snoc]
theorem numI_lt {t : List UInt8} (h : ∀ c ∈ t,isDg c = true) : ∀ k,k ≤ t.length → numI (t.take k) < 10 ^ k
  | 0,_ => by simp [numI]
  | k + 1,hk => by
    have hx : t[k]? = some t[k] := List.getElem?_eq_getElem (by omega)
    have hc := h _ (List.getElem_mem (l := t) (n := k) (by omega))
    have ih := numI_lt h k (by omega)
    rw [numI_take hx,Nat.pow_succ]
    simp [isDg] at hc
    omega
theorem pow18 {k : Nat} (h : k ≤ 18) : 10 ^ k ≤ 1000000000000000000 := Nat.pow_le_pow_right (by omega) h
theorem nilI_sca {tt tr : TypeId} {x : Nat} {op : Oper} {ts : List V} {o : List O} (ho : op.op = .binOp .neq tt (.tmp x) (.const .nilIface) tr) (hx : ts.getD x .dead = .sc .nilIface)
    (hr : pureRun Tryd.prog (eqGuard .neq tt (.tmp x) (.const .nilIface) .nilIface .nilIface >>= fun _ => binOp .neq tt .nilIface .nilIface) = some (.bool false)) : Pe.step Tryd.prog ⟨ts,o⟩ (.sca op) = some (bV false,o) := by
  have e1 : scEnv ⟨ts,o⟩ (.tmp x) = some .nilIface := by
    show (some (E.tmp x)).bind _ = _
    simp only [Option.bind_some,E.ev,hx]; rfl
  have e2 : scEnv ⟨ts,o⟩ (.const .nilIface) = some .nilIface := rfl
  refine sca_of (v := .bool false) (fun z hz => ?_) ?_ rfl
  · rw [ho] at hz
    simp [Op.operands] at hz
    rcases hz with rfl | rfl
    · rw [e1]; rfl
    · rw [e2]; rfl
  · simp only [execOp,ho,getD_sc e1,getD_sc e2]
    show pureRun Tryd.prog ((eqGuard _ _ _ _ _ _ >>= fun _ => binOp _ _ _ _) >>= fun r => pure (Next.value r)) = _
    rw [pureRun_bind2 hr]; rfl
theorem q_nilI {tt tr : TypeId} {x : Nat} {op : Oper} {ts : List V} {o : List O} {yi : Nat → Sem'} {ca : Ca} {K : V → List O → Prop} (ho : op.op = .binOp .neq tt (.tmp x) (.const .nilIface) tr) (hx : ts.getD x .dead = .sc .nilIface)
    (hr : pureRun Tryd.prog (eqGuard .neq tt (.tmp x) (.const .nilIface) .nilIface .nilIface >>= fun _ => binOp .neq tt .nilIface .nilIface) = some (.bool false)) : evK Tryd.prog T ca yi (.sca op) ts o K = K (bV false) o := by
  rw [q_sca,nilI_sca ho hx hr]; rfl
theorem atoi76 {t : List UInt8} (h0 : t ≠ []) (h1 : t.length ≤ 18) (hd : ∀ c ∈ t,isDg c = true) : PFn Tryd.prog T 76 [tV t] fun z => z = .tup [iV (numI t),.sc .nilIface] := by
  obtain ⟨c0,t',rfl⟩ := List.exists_cons_of_ne_nil h0
  have hc0 := hd c0 (by simp)
  have hlen : 0 < (c0 :: t').length := by simp
  have hg0 : (c0 :: t')[0]? = some c0 := rfl
  generalize c0 :: t' = t at h1 hd hlen hg0
  simp [isDg] at hc0
  have hn := numI_lt hd
  intro yi hy
  refine Call.step hy ?_
  rw [body_eq t76]
  have d1 : decide ((0 : Int) < (t.length : Int)) = true := by simpa using hlen
  have d2 : decide ((t.length : Int) < 19) = true := by simp; omega
  have d3 : decide ((c0.toNat : Int) = 45) = false := by simp; omega
  have d4 : decide ((c0.toNat : Int) = 43) = false := by simp; omega
  have hb : bytesV ⟨t.toArray⟩ = t.map cV := by simp [bytesV,btl]
  have hsz : t.length ≤ room := by unfold room; omega
  simp only [c76,c76x1,c76x2,c76x3,c76x4,c76x5,c76x6,c76x7,c76x8,c76x9,c76x10,RUA,RUB,RUC,RUD,RUE,RUF,if_true,if_false,Int.reduceEq,Int.reduceLT,Int.reduceLE,qC,qO,qA,qS,qU,Nat.reduceEqDiff,qT,E.at,qR,Nat.reduceAdd,Nat.reduceSub,Nat.reduceLeDiff,Nat.reduceMul,qI,qP,qQ,d1,d2,hg0,d3,d4,hb,hsz]
  refine Lfp.inv call_le hy (fun k : Nat => ⟨⟨(qD::qD::qD::qD::qD::tV t :: iV (numI (t.take k)) :: qD::qD::qD::qD::qD::qD::qD::qD::qD::qD::qD::qD::qD::qD::qD::qD::qD::qD::qD::qD::qD::qD::qD::qD::qD::qD::qD::qD::qD::qD::qD::qD::qD::qD::qD::qD::qD::qD::qD::qD::.ar 0 0 :: iV (t.map cV).length :: iV k :: qD::qD::qD::qD::qD::qD::qD::qD::qD::qD::qD::qD::qD::qD::qD::qD::qD::qD::qD::qD::qD::qD::qD::qD::qD::qD::qD::[]),[O.arr 0 true 1 (t.map cV)]⟩,[]⟩) (fun k => t.length - k)
    (fun k => k ≤ t.length) 0 (Nat.zero_le _) (by simp only [kill_L,killTs_nil,RUF] <;> rfl) ?_
  intro k hk
  have hp := pow18 (k := k) (by omega)
  have hnk := hn k hk
  by_cases hlt : k < t.length
  · have e1 : decide ((k : Int) < ((t.map cV).length : Int)) = true := by simpa using hlt
    have hx : t[k]? = some t[k] := List.getElem?_eq_getElem hlt
    have hc := hd _ (List.getElem_mem hlt)
    generalize t[k] = c at hx hc
    simp [isDg] at hc
    have hk1 := numI_take hx
    have hn1 := hn (k + 1) (by omega)
    have hp1 := pow18 (k := k + 1) (by omega)
    have hI : (t.map cV)[k]? = some (cV c) := by rw [List.getElem?_map,hx]; rfl
    have w1 : IntKind.u8.wrap ((c.toNat : Int) - 48) = ((c.toNat - 48 : Nat) : Int) := by
      unfold IntKind.wrap; simp [IntKind.bits,IntKind.signed]; omega
    have e2 : decide ((9 : Int) < ((c.toNat - 48 : Nat) : Int)) = false := by simp; omega
    have w2 : IntKind.i64.wrap (((c.toNat - 48 : Nat) : Int)) = ((c.toNat - 48 : Nat) : Int) := wrap_ok (by omega) (by omega)
    have w3 : IntKind.i64.wrap ((numI (t.take k) : Int) * 10) = ((numI (t.take k) * 10 : Nat) : Int) := by rw [wrap_ok (by omega) (by omega)]; omega
    have w4 : IntKind.i64.wrap (((numI (t.take k) * 10 : Nat) : Int) + ((c.toNat - 48 : Nat) : Int)) = ((numI (t.take (k + 1)) : Nat) : Int) := by rw [wrap_ok (by omega) (by omega),hk1]; omega
    have w5 : IntKind.i64.wrap ((k : Int) + 1) = ((k + 1 : Nat) : Int) := wrap_succ (by omega)
    have hX : ixOf 1 [O.arr 0 true 1 (t.map cV)] (.ar 0 0) (iV k) = some (.pa 0 0 k 0,[O.arr 0 true 1 (t.map cV)]) := ix_ar rfl (by simpa using hlt)
    simp only [c76,c76x1,c76x2,c76x3,c76x4,c76x5,c76x6,c76x7,c76x8,c76x9,c76x10,c76x11,c76x12,c76x13,c76x14,c76x15,c76x16,c76x17,c76x18,c76x19,c76x20,c76x21,c76x22,c76x23,RUA,RUB,RUC,RUD,RUE,RUF,if_true,if_false,Int.reduceEq,Int.reduceLT,Int.reduceLE,qC,qO,qA,qS,qU,Nat.reduceEqDiff,qT,E.at,qR,Nat.reduceAdd,Nat.reduceSub,Nat.reduceLeDiff,Nat.reduceMul,qI,qP,qQ,e1,hX,hI,w1,e2,w2,w3,w4,w5]
    exact ⟨k + 1,by omega,by omega,rfl⟩
  · have e1 : decide ((k : Int) < ((t.map cV).length : Int)) = false := by simpa using hlt
    have ht : t.take k = t := List.take_of_length_le (by omega)
    simp only [c76,c76x1,c76x2,c76x3,c76x4,c76x5,c76x6,c76x7,c76x8,c76x9,c76x10,c76x11,c76x12,c76x13,c76x14,c76x15,c76x16,c76x17,c76x18,c76x19,c76x20,c76x21,c76x22,c76x23,RUA,RUB,RUC,RUD,RUE,RUF,if_true,if_false,Int.reduceEq,Int.reduceLT,Int.reduceLE,qC,qO,qA,qS,qU,Nat.reduceEqDiff,qT,E.at,qR,Nat.reduceAdd,Nat.reduceSub,Nat.reduceLeDiff,Nat.reduceMul,qI,qP,qQ,e1,hg0,d3,ht]
    exact ⟨_,_,frzT_tup rfl rfl,rfl⟩
theorem atoi_p {t : List UInt8} (h0 : t ≠ []) (h1 : t.length ≤ 18) (hd : ∀ c ∈ t,isDg c = true) : PFn Tryd.prog T 68 [tV t] fun z => z = .tup [iV (numI t),.sc .nilIface] := by
  intro yi hy
  refine Call.step hy ?_
  rw [body_eq t68]
  simp only [c68,c68x1,c68x2,c68x3,c68x4,RUA,RUB,RUC,RUD,RUE,RUF,if_true,if_false,Int.reduceEq,Int.reduceLT,Int.reduceLE,qC,qO,qA,qS,qU,Nat.reduceEqDiff,qT,E.at,qR,Nat.reduceAdd,Nat.reduceSub,Nat.reduceLeDiff,Nat.reduceMul,qI,qP,qQ]
  refine pcall (atoi76 h0 h1 hd) rfl (by simp [V.free,V.free1]) ?_
  simp only [c68,c68x1,c68x2,c68x3,c68x4,RUA,RUB,RUC,RUD,RUE,RUF,if_true,if_false,Int.reduceEq,Int.reduceLT,Int.reduceLE,qC,qO,qA,qS,qU,Nat.reduceEqDiff,qT,E.at,qR,Nat.reduceAdd,Nat.reduceSub,Nat.reduceLeDiff,Nat.reduceMul,qI,qP,qQ]
  rw [q_nilI rfl rfl (by kernel_rfl)]
  simp only [c68,c68x1,c68x2,c68x3,c68x4,RUA,RUB,RUC,RUD,RUE,RUF,if_true,if_false,Int.reduceEq,Int.reduceLT,Int.reduceLE,qC,qO,qA,qS,qU,Nat.reduceEqDiff,qT,E.at,qR,Nat.reduceAdd,Nat.reduceSub,Nat.reduceLeDiff,Nat.reduceMul,qI,qP,qQ]
  exact ⟨_,_,frzT_tup rfl rfl,rfl⟩
end Go.Proofs.YtjfnhpnfkknmoaaDoor
end

section
set_option linter.unusedVariables false
set_option linter.unusedSimpArgs false
set_option maxRecDepth 100000
set_option maxHeartbeats 4000000
open Go.Proofs.Pe renaming putCells → qC, bslOf → qO, bsaOf → qA, bslS → qS, isUpto → qU, step → qT, intOf → qI, iop → qP, sop → qQ
open List renaming replicate → qR
open Go.Proofs.Pe.V renaming dead → qD
namespace Go.Proofs.YtjfnhpnfkknmoaaDoor
open Go.Proofs.Pe

/-! ### The reader of expressions -/
def Post (w : V) (d : Nat) (r : PR) (z : V) (os' : List O) : Prop := match r with
  | .ok x j => IsEx x z ∧ os' = [.cells [w,iV j,iV d,iV 0]]
  | .bad e j => (∃ x,IsEx x z) ∧ e ≠ 0 ∧ os' = [.cells [w,iV j,iV d,iV e]]
def Post2 (w : V) (d : Nat) (r : PR) (z : V) (os' : List O) : Prop := match r with
  | .ok x j => IsEx x z ∧ os' = [.cells [w,iV j,iV d,iV 0],bxO]
  | .bad e j => (∃ x,IsEx x z) ∧ e ≠ 0 ∧ os' = [.cells [w,iV j,iV d,iV e],bxO]
theorem zIs : IsEx (.mk 0 0 emp []) (.agg [iV 0,iV 0,sV emp,nilV]) := ⟨nilV,[],rfl,.inl ⟨rfl,rfl⟩,by simp,rfl⟩
theorem ex_agg {x : Ex} {z : V} (h : IsEx x z) : ∃ a b c d,z = .agg [iV a,iV b,sV c,d] ∧ d.one = true := by
  rcases x with ⟨k,n,nm,l⟩
  obtain ⟨lv,vs,rfl,h1,_⟩ := h
  exact ⟨_,_,_,_,rfl,free1_one h1.free⟩
theorem ex_one {k : Int} {x : Ex} {z : V} (h : IsEx x z) : IsEx (.mk k 0 emp [x]) (.agg [iV k,iV 0,sV emp,.sl 4 true [z]]) :=
  ⟨_,[z],rfl,.inr ⟨_,rfl⟩,by simp [cap],z,[],rfl,h,rfl⟩
theorem ex_two {k : Int} {x y : Ex} {z u : V} (h : IsEx x z) (h2 : IsEx y u) : IsEx (.mk k 0 emp [x,y]) (.agg [iV k,iV 0,sV emp,.sl 4 true [z,u]]) :=
  ⟨_,[z,u],rfl,.inr ⟨_,rfl⟩,by simp [cap],z,[u],rfl,h,u,[],rfl,h2,rfl⟩
def oneR (k : Int) : PR → PR
  | .ok x j => .ok (.mk k 0 emp [x]) j
  | .bad e j => .bad e j
def brR (l : List Sg) : PR → PR
  | .ok x j => if markAt l j = [41] then .ok x (j + 1) else .bad 2 j
  | .bad e j => .bad e j
theorem mark_lt {l : List Sg} {j : Nat} {t : List UInt8} (h : markAt l j = t) (ht : t ≠ []) : j < l.length := by
  unfold markAt at h
  split at h
  · rename_i s hs; exact (List.getElem?_eq_some_iff.1 hs).1
  · exact absurd h.symm ht
section
variable {w : V} {l : List Sg} (hw : IsSl 3 w (l.map Sg.v))
include hw
theorem pfr (a b c : Int) : ([w,iV a,iV b,iV c].all V.free1) = true := by simp [hw.free,free1_sc]
theorem fail_c (i d e : Nat) : SFn Tryd.prog T 67 [.pt 0 0,iV e] [.cells [w,iV i,iV d,iV 0]] fun z os' => IsEx (.mk 0 0 emp []) z ∧ os' = [.cells [w,iV i,iV d,iV e]] := by
  have hone : w.one = true := free1_one hw.free
  intro yi hy
  refine Call.step hy ?_
  rw [body_eq t67]
  simp only [c67,c67x1,c67x2,c67x3,RUA,RUB,RUC,RUD,RUE,RUF,if_true,if_false,Int.reduceEq,Int.reduceLT,Int.reduceLE,qC,qO,qA,qS,qU,Nat.reduceEqDiff,qT,E.at,qR,Nat.reduceAdd,Nat.reduceSub,Nat.reduceLeDiff,Nat.reduceMul,qI,qP,qQ,hone,fillC,rets,List.take]
  exact ⟨_,_,fin1 (pfr hw _ _ _) (freeT_of zIs.ok.1),zIs,rfl⟩
theorem within_c {g : FuncId} {i d : Nat} {r : PR} (hm : T.mode g = 5) (hd : d < 20) (hi : i < lim) (h : SFn Tryd.prog T g [.pt 1 0] [.cells [w,iV (i + 1 : Nat),iV (d + 1 : Nat),iV 0],bxO] (Post2 w (d + 1) r)) :
    SFn Tryd.prog T 70 [.pt 0 0,.fn (.func g) [] [.pt 1 0]] [.cells [w,iV i,iV d,iV 0],bxO] (Post2 w d r) := by
  unfold lim at hi
  have hone : w.one = true := free1_one hw.free
  have e1 : decide ((20 : Int) ≤ (d : Int)) = false := by simp; omega
  have w1 : IntKind.i64.wrap ((i : Int) + 1) = ((i + 1 : Nat) : Int) := wrap_succ (by omega)
  have w2 : IntKind.i64.wrap ((d : Int) + 1) = ((d + 1 : Nat) : Int) := wrap_succ (by omega)
  have w3 : IntKind.i64.wrap (((d + 1 : Nat) : Int) - 1) = (d : Int) := by rw [wrap_ok (by omega) (by omega)]; omega
  intro yi hy
  refine Call.step hy ?_
  rw [body_eq t70]
  simp only [c70,c70x1,c70x2,c70x3,c70x4,c70x5,RUA,RUB,RUC,RUD,RUE,RUF,if_true,if_false,Int.reduceEq,Int.reduceLT,Int.reduceLE,qC,qO,qA,qS,qU,Nat.reduceEqDiff,qT,E.at,qR,Nat.reduceAdd,Nat.reduceSub,Nat.reduceLeDiff,Nat.reduceMul,qI,qP,qQ,hone,e1,w1,w2]
  refine SFn.call01 (a1 := []) (xs := []) (b1 := [.pt 1 0]) h hm (cm_pt cm_nil) rfl (pfr hw _ _ _) fun z os' hq => ?_
  rcases r with ⟨x,j⟩ | ⟨e,j⟩
  · obtain ⟨hx,rfl⟩ := hq
    have hx' := hx
    obtain ⟨a,b,c,dd,rfl,ho⟩ := ex_agg hx
    refine ⟨_,rfl,pfr hw _ _ _,freeT_of hx'.ok.1, ?_⟩
    simp only [c70,c70x1,c70x2,c70x3,c70x4,c70x5,c70x6,c70x7,RUA,RUB,RUC,RUD,RUE,RUF,if_true,if_false,Int.reduceEq,Int.reduceLT,Int.reduceLE,qC,qO,qA,qS,qU,Nat.reduceEqDiff,qT,E.at,qR,Nat.reduceAdd,Nat.reduceSub,Nat.reduceLeDiff,Nat.reduceMul,qI,qP,qQ,hone,ho,w3,rets,List.take]
    exact ⟨_,_,fin2 (pfr hw _ _ _) (freeT_of hx'.ok.1),hx',rfl⟩
  · obtain ⟨⟨x,hx⟩,he,rfl⟩ := hq
    have hx' := hx
    obtain ⟨a,b,c,dd,rfl,ho⟩ := ex_agg hx
    refine ⟨_,rfl,pfr hw _ _ _,freeT_of hx'.ok.1, ?_⟩
    simp only [c70,c70x1,c70x2,c70x3,c70x4,c70x5,c70x6,c70x7,RUA,RUB,RUC,RUD,RUE,RUF,if_true,if_false,Int.reduceEq,Int.reduceLT,Int.reduceLE,qC,qO,qA,qS,qU,Nat.reduceEqDiff,qT,E.at,qR,Nat.reduceAdd,Nat.reduceSub,Nat.reduceLeDiff,Nat.reduceMul,qI,qP,qQ,hone,ho,w3,rets,List.take]
    exact ⟨_,_,fin2 (pfr hw _ _ _) (freeT_of hx'.ok.1),⟨_,hx'⟩,he,rfl⟩
theorem within_f {g : FuncId} {i d : Nat} (hd : 20 ≤ d) : SFn Tryd.prog T 70 [.pt 0 0,.fn (.func g) [] [.pt 1 0]] [.cells [w,iV i,iV d,iV 0],bxO] (Post2 w d (.bad 3 i)) := by
  have hone : w.one = true := free1_one hw.free
  have e1 : decide ((20 : Int) ≤ (d : Int)) = true := by simp; omega
  intro yi hy
  refine Call.step hy ?_
  rw [body_eq t70]
  simp only [c70,c70x1,c70x2,c70x3,RUA,RUB,RUC,RUD,RUE,RUF,if_true,if_false,Int.reduceEq,Int.reduceLT,Int.reduceLE,qC,qO,qA,qS,qU,Nat.reduceEqDiff,qT,E.at,qR,Nat.reduceAdd,Nat.reduceSub,Nat.reduceLeDiff,Nat.reduceMul,qI,qP,qQ,hone,e1]
  refine (fail_c hw i d 3).call1 rfl (by simp [V.free,V.free1]) rfl (pfr hw _ _ _) fun z os' hq => ?_
  obtain ⟨hx,rfl⟩ := hq
  have hx' := hx
  obtain ⟨a,b,c,dd,rfl,ho⟩ := ex_agg hx
  refine ⟨_,rfl,pfr hw _ _ _,freeT_of hx'.ok.1, ?_⟩
  simp only [c70,c70x1,c70x2,c70x3,c70x4,c70x5,c70x6,c70x7,RUA,RUB,RUC,RUD,RUE,RUF,if_true,if_false,Int.reduceEq,Int.reduceLT,Int.reduceLE,qC,qO,qA,qS,qU,Nat.reduceEqDiff,qT,E.at,qR,Nat.reduceAdd,Nat.reduceSub,Nat.reduceLeDiff,Nat.reduceMul,qI,qP,qQ,hone,ho,rets,List.take]
  exact ⟨_,_,fin2 (pfr hw _ _ _) (freeT_of hx'.ok.1),⟨_,hx'⟩,by omega,rfl⟩
theorem not_c {i d : Nat} {r : PR} (h : SFn Tryd.prog T 58 [.pt 0 0] [.cells [w,iV i,iV d,iV 0]] (Post w d r)) : SFn Tryd.prog T 71 [.pt 1 0] [.cells [w,iV i,iV d,iV 0],bxO] (Post2 w d (oneR 3 r)) := by
  have hone : w.one = true := free1_one hw.free
  intro yi hy
  refine Call.step hy ?_
  rw [body_eq t71]
  simp only [c71,c71x1,RUA,RUB,RUC,RUD,RUE,RUF,if_true,if_false,Int.reduceEq,Int.reduceLT,Int.reduceLE,qC,qO,qA,qS,qU,Nat.reduceEqDiff,qT,E.at,qR,Nat.reduceAdd,Nat.reduceSub,Nat.reduceLeDiff,Nat.reduceMul,qI,qP,qQ,hone]
  refine h.call1 rfl (by simp) rfl (pfr hw _ _ _) fun z os' hq => ?_
  have key : ∀ x,IsEx x z → z.free = true ∧ decide (z.cells.length = 4) = true := fun x h => ⟨h.ok.1,by simpa using h.ok.2⟩
  rcases r with ⟨x,j⟩ | ⟨e,j⟩
  · obtain ⟨hx,rfl⟩ := hq
    obtain ⟨k1,k2⟩ := key x hx
    refine ⟨_,rfl,pfr hw _ _ _,freeT_of k1, ?_⟩
    simp only [c71,c71x1,RUA,RUB,RUC,RUD,RUE,RUF,if_true,if_false,Int.reduceEq,Int.reduceLT,Int.reduceLE,qC,qO,qA,qS,qU,Nat.reduceEqDiff,qT,E.at,qR,Nat.reduceAdd,Nat.reduceSub,Nat.reduceLeDiff,Nat.reduceMul,qI,qP,qQ,hone,k1,k2,fillC,rets,List.take]
    exact ⟨_,_,fin2 (pfr hw _ _ _) (freeT_of (ex_one (k := 3) hx).ok.1),ex_one hx,rfl⟩
  · obtain ⟨⟨x,hx⟩,he,rfl⟩ := hq
    obtain ⟨k1,k2⟩ := key x hx
    refine ⟨_,rfl,pfr hw _ _ _,freeT_of k1, ?_⟩
    simp only [c71,c71x1,RUA,RUB,RUC,RUD,RUE,RUF,if_true,if_false,Int.reduceEq,Int.reduceLT,Int.reduceLE,qC,qO,qA,qS,qU,Nat.reduceEqDiff,qT,E.at,qR,Nat.reduceAdd,Nat.reduceSub,Nat.reduceLeDiff,Nat.reduceMul,qI,qP,qQ,hone,k1,k2,fillC,rets,List.take]
    exact ⟨_,_,fin2 (pfr hw _ _ _) (freeT_of (ex_one (k := 3) hx).ok.1),⟨_,ex_one hx⟩,he,rfl⟩
theorem neg_c {i d : Nat} {r : PR} (h : SFn Tryd.prog T 58 [.pt 0 0] [.cells [w,iV i,iV d,iV 0]] (Post w d r)) : SFn Tryd.prog T 72 [.pt 1 0] [.cells [w,iV i,iV d,iV 0],bxO] (Post2 w d (oneR 4 r)) := by
  have hone : w.one = true := free1_one hw.free
  intro yi hy
  refine Call.step hy ?_
  rw [body_eq t72]
  simp only [c72,c72x1,RUA,RUB,RUC,RUD,RUE,RUF,if_true,if_false,Int.reduceEq,Int.reduceLT,Int.reduceLE,qC,qO,qA,qS,qU,Nat.reduceEqDiff,qT,E.at,qR,Nat.reduceAdd,Nat.reduceSub,Nat.reduceLeDiff,Nat.reduceMul,qI,qP,qQ,hone]
  refine h.call1 rfl (by simp) rfl (pfr hw _ _ _) fun z os' hq => ?_
  have key : ∀ x,IsEx x z → z.free = true ∧ decide (z.cells.length = 4) = true := fun x h => ⟨h.ok.1,by simpa using h.ok.2⟩
  rcases r with ⟨x,j⟩ | ⟨e,j⟩
  · obtain ⟨hx,rfl⟩ := hq
    obtain ⟨k1,k2⟩ := key x hx
    refine ⟨_,rfl,pfr hw _ _ _,freeT_of k1, ?_⟩
    simp only [c72,c72x1,RUA,RUB,RUC,RUD,RUE,RUF,if_true,if_false,Int.reduceEq,Int.reduceLT,Int.reduceLE,qC,qO,qA,qS,qU,Nat.reduceEqDiff,qT,E.at,qR,Nat.reduceAdd,Nat.reduceSub,Nat.reduceLeDiff,Nat.reduceMul,qI,qP,qQ,hone,k1,k2,fillC,rets,List.take]
    exact ⟨_,_,fin2 (pfr hw _ _ _) (freeT_of (ex_one (k := 4) hx).ok.1),ex_one hx,rfl⟩
  · obtain ⟨⟨x,hx⟩,he,rfl⟩ := hq
    obtain ⟨k1,k2⟩ := key x hx
    refine ⟨_,rfl,pfr hw _ _ _,freeT_of k1, ?_⟩
    simp only [c72,c72x1,RUA,RUB,RUC,RUD,RUE,RUF,if_true,if_false,Int.reduceEq,Int.reduceLT,Int.reduceLE,qC,qO,qA,qS,qU,Nat.reduceEqDiff,qT,E.at,qR,Nat.reduceAdd,Nat.reduceSub,Nat.reduceLeDiff,Nat.reduceMul,qI,qP,qQ,hone,k1,k2,fillC,rets,List.take]
    exact ⟨_,_,fin2 (pfr hw _ _ _) (freeT_of (ex_one (k := 4) hx).ok.1),⟨_,ex_one hx⟩,he,rfl⟩
theorem bra_c (hl : l.length ≤ lim) {i d : Nat} {r : PR} (h : SFn Tryd.prog T 35 [.pt 0 0,iV 0] [.cells [w,iV i,iV d,iV 0]] (Post w d r)) : SFn Tryd.prog T 73 [.pt 1 0] [.cells [w,iV i,iV d,iV 0],bxO] (Post2 w d (brR l r)) := by
  have hone : w.one = true := free1_one hw.free
  unfold lim at hl
  intro yi hy
  refine Call.step hy ?_
  rw [body_eq t73]
  simp only [c73,c73x1,RUA,RUB,RUC,RUD,RUE,RUF,if_true,if_false,Int.reduceEq,Int.reduceLT,Int.reduceLE,qC,qO,qA,qS,qU,Nat.reduceEqDiff,qT,E.at,qR,Nat.reduceAdd,Nat.reduceSub,Nat.reduceLeDiff,Nat.reduceMul,qI,qP,qQ,hone]
  refine h.call1 rfl (by simp [V.free,V.free1]) rfl (pfr hw _ _ _) fun z os' hq => ?_
  rcases r with ⟨x,j⟩ | ⟨e,j⟩
  · obtain ⟨hx,rfl⟩ := hq
    have hx' := hx
    obtain ⟨a,b,c,dd,rfl,ho⟩ := ex_agg hx
    refine ⟨_,rfl,pfr hw _ _ _,freeT_of hx'.ok.1, ?_⟩
    simp only [c73,c73x1,c73x2,RUA,RUB,RUC,RUD,RUE,RUF,if_true,if_false,Int.reduceEq,Int.reduceLT,Int.reduceLE,qC,qO,qA,qS,qU,Nat.reduceEqDiff,qT,E.at,qR,Nat.reduceAdd,Nat.reduceSub,Nat.reduceLeDiff,Nat.reduceMul,qI,qP,qQ,hone,ho]
    refine call3 rfl (cm_pt cm_nil) (pmark_c noY_le hw rfl ⟨Sim.refl _ _, ?_⟩)
    by_cases hm : markAt l j = [41]
    · have hb : (markAt l j == [41]) = true := by simpa using hm
      have hj := mark_lt hm (by simp)
      have w1 : IntKind.i64.wrap ((j : Int) + 1) = ((j + 1 : Nat) : Int) := wrap_succ (by omega)
      simp only [c73,c73x1,c73x2,c73x3,c73x4,c73x5,c73x6,RUA,RUB,RUC,RUD,RUE,RUF,if_true,if_false,Int.reduceEq,Int.reduceLT,Int.reduceLE,qC,qO,qA,qS,qU,Nat.reduceEqDiff,qT,E.at,qR,Nat.reduceAdd,Nat.reduceSub,Nat.reduceLeDiff,Nat.reduceMul,qI,qP,qQ,hone,ho,hb,w1,rets,List.take]
      refine ⟨_,_,fin2 (pfr hw _ _ _) (freeT_of hx'.ok.1), ?_⟩
      simp only [brR,if_pos hm]
      exact ⟨hx',rfl⟩
    · have hb : (markAt l j == [41]) = false := by simpa using hm
      simp only [c73,c73x1,c73x2,c73x3,c73x4,RUA,RUB,RUC,RUD,RUE,RUF,if_true,if_false,Int.reduceEq,Int.reduceLT,Int.reduceLE,qC,qO,qA,qS,qU,Nat.reduceEqDiff,qT,E.at,qR,Nat.reduceAdd,Nat.reduceSub,Nat.reduceLeDiff,Nat.reduceMul,qI,qP,qQ,hone,ho,hb]
      refine (fail_c hw j d 2).call1 rfl (by simp [V.free,V.free1]) rfl (pfr hw _ _ _) fun z os' hq => ?_
      obtain ⟨hx2,rfl⟩ := hq
      have hx2' := hx2
      obtain ⟨a2,b2,c2,d2,rfl,ho2⟩ := ex_agg hx2
      refine ⟨_,rfl,pfr hw _ _ _,freeT_of hx2'.ok.1, ?_⟩
      simp only [c73,c73x1,c73x2,c73x3,c73x4,c73x5,c73x6,RUA,RUB,RUC,RUD,RUE,RUF,if_true,if_false,Int.reduceEq,Int.reduceLT,Int.reduceLE,qC,qO,qA,qS,qU,Nat.reduceEqDiff,qT,E.at,qR,Nat.reduceAdd,Nat.reduceSub,Nat.reduceLeDiff,Nat.reduceMul,qI,qP,qQ,hone,ho,ho2,rets,List.take]
      refine ⟨_,_,fin2 (pfr hw _ _ _) (freeT_of hx2'.ok.1), ?_⟩
      simp only [brR,if_neg hm]
      exact ⟨⟨_,hx2'⟩,by omega,rfl⟩
  · obtain ⟨⟨x,hx⟩,he,rfl⟩ := hq
    have hx' := hx
    obtain ⟨a,b,c,dd,rfl,ho⟩ := ex_agg hx
    have hd : decide ((e : Int) = 0) = false := by simp; omega
    refine ⟨_,rfl,pfr hw _ _ _,freeT_of hx'.ok.1, ?_⟩
    simp only [c73,c73x1,c73x2,c73x3,c73x4,c73x5,c73x6,RUA,RUB,RUC,RUD,RUE,RUF,if_true,if_false,Int.reduceEq,Int.reduceLT,Int.reduceLE,qC,qO,qA,qS,qU,Nat.reduceEqDiff,qT,E.at,qR,Nat.reduceAdd,Nat.reduceSub,Nat.reduceLeDiff,Nat.reduceMul,qI,qP,qQ,hone,ho,hd,rets,List.take]
    exact ⟨_,_,fin2 (pfr hw _ _ _) (freeT_of hx'.ok.1),⟨_,hx'⟩,he,rfl⟩
end
end Go.Proofs.YtjfnhpnfkknmoaaDoor
end

section
set_option linter.unusedVariables false
set_option linter.unusedSimpArgs false
set_option maxRecDepth 100000
set_option maxHeartbeats 4000000
open Go.Proofs.Pe renaming putCells → qC, bslOf → qO, bsaOf → qA, bslS → qS, isUpto → qU, step → qT, intOf → qI, iop → qP, sop → qQ
open List renaming replicate → qR
open Go.Proofs.Pe.V renaming dead → qD
namespace Go.Proofs.YtjfnhpnfkknmoaaDoor
open Go.Proofs.Pe

section
variable {w : V} {l : List Sg} (hw : IsSl 3 w (l.map Sg.v))
include hw
theorem un_w33 {i d : Nat} {r : PR} {s : Sg} (h : l[i]? = some s) (hk : s.k = 3) (ht : s.t = [33]) (hr : SFn Tryd.prog T 70 [.pt 0 0,.fn (.func 71) [] [.pt 1 0]] [.cells [w,iV i,iV d,iV 0],bxO] (Post2 w d r)) :
    SFn Tryd.prog T 58 [.pt 0 0] [.cells [w,iV i,iV d,iV 0]] (Post w d r) := by
  have hone : w.one = true := free1_one hw.free
  have hrow := fun o => hw.row o
  have hlen : (l.map Sg.v).length = l.length := by simp
  have hlt := (List.getElem?_eq_some_iff.1 h).1
  have hI := fun o => sg_ix hw h o
  have hd : decide ((l.length : Int) ≤ (i : Int)) = false := by simp; omega
  have k2 : decide ((s.k : Int) = 2) = false := by rw [hk]; rfl
  have k1 : decide ((s.k : Int) = 1) = false := by rw [hk]; rfl
  have k3 : decide ((s.k : Int) = 3) = true := by rw [hk]; rfl
  have b33 : (s.t == [33]) = true := by rw [ht]; rfl
  have b45 : (s.t == [45]) = false := by rw [ht]; rfl
  have b40 : (s.t == [40]) = false := by rw [ht]; rfl
  intro yi hy
  refine Call.step hy ?_
  rw [body_eq t58]
  simp only [c58,c58x1,c58x2,c58x3,c58x4,c58x5,c58x6,c58x7,c58x8,c58x9,c58x10,c58x11,c58x12,c58x13,c58x14,c58x15,c58x16,RUA,RUB,RUC,RUD,RUE,RUF,if_true,if_false,Int.reduceEq,Int.reduceLT,Int.reduceLE,qC,qO,qA,qS,qU,Nat.reduceEqDiff,qT,E.at,qR,Nat.reduceAdd,Nat.reduceSub,Nat.reduceLeDiff,Nat.reduceMul,qI,qP,qQ,hone,hrow,hlen,hI,hd,k1,k2,k3,b33,b45,b40]
  refine hr.call01 (a1 := []) (xs := [.pt 0 0,.fn (.func 71) [] [.pt 1 0]]) (b1 := []) rfl (cm_pt (cm_keep rfl cm_nil)) rfl (pfr hw _ _ _) fun z os' hq => ?_
  rcases r with ⟨x,j⟩ | ⟨e,j⟩
  · obtain ⟨hx,rfl⟩ := hq
    have hx' := hx
    obtain ⟨a,b,c,dd,rfl,ho⟩ := ex_agg hx
    refine ⟨_,rfl,pfr hw _ _ _,freeT_of hx'.ok.1, ?_⟩
    simp only [c58,c58x1,c58x2,c58x3,c58x4,c58x5,c58x6,c58x7,c58x8,c58x9,c58x10,c58x11,c58x12,c58x13,c58x14,c58x15,c58x16,RUA,RUB,RUC,RUD,RUE,RUF,if_true,if_false,Int.reduceEq,Int.reduceLT,Int.reduceLE,qC,qO,qA,qS,qU,Nat.reduceEqDiff,qT,E.at,qR,Nat.reduceAdd,Nat.reduceSub,Nat.reduceLeDiff,Nat.reduceMul,qI,qP,qQ,hone,ho,rets,List.take]
    exact ⟨_,_,fin1 (pfr hw _ _ _) (freeT_of hx'.ok.1),hx',rfl⟩
  · obtain ⟨⟨x,hx⟩,he,rfl⟩ := hq
    have hx' := hx
    obtain ⟨a,b,c,dd,rfl,ho⟩ := ex_agg hx
    refine ⟨_,rfl,pfr hw _ _ _,freeT_of hx'.ok.1, ?_⟩
    simp only [c58,c58x1,c58x2,c58x3,c58x4,c58x5,c58x6,c58x7,c58x8,c58x9,c58x10,c58x11,c58x12,c58x13,c58x14,c58x15,c58x16,RUA,RUB,RUC,RUD,RUE,RUF,if_true,if_false,Int.reduceEq,Int.reduceLT,Int.reduceLE,qC,qO,qA,qS,qU,Nat.reduceEqDiff,qT,E.at,qR,Nat.reduceAdd,Nat.reduceSub,Nat.reduceLeDiff,Nat.reduceMul,qI,qP,qQ,hone,ho,rets,List.take]
    exact ⟨_,_,fin1 (pfr hw _ _ _) (freeT_of hx'.ok.1),⟨_,hx'⟩,he,rfl⟩
theorem un_w45 {i d : Nat} {r : PR} {s : Sg} (h : l[i]? = some s) (hk : s.k = 3) (ht : s.t = [45]) (hr : SFn Tryd.prog T 70 [.pt 0 0,.fn (.func 72) [] [.pt 1 0]] [.cells [w,iV i,iV d,iV 0],bxO] (Post2 w d r)) :
    SFn Tryd.prog T 58 [.pt 0 0] [.cells [w,iV i,iV d,iV 0]] (Post w d r) := by
  have hone : w.one = true := free1_one hw.free
  have hrow := fun o => hw.row o
  have hlen : (l.map Sg.v).length = l.length := by simp
  have hlt := (List.getElem?_eq_some_iff.1 h).1
  have hI := fun o => sg_ix hw h o
  have hd : decide ((l.length : Int) ≤ (i : Int)) = false := by simp; omega
  have k2 : decide ((s.k : Int) = 2) = false := by rw [hk]; rfl
  have k1 : decide ((s.k : Int) = 1) = false := by rw [hk]; rfl
  have k3 : decide ((s.k : Int) = 3) = true := by rw [hk]; rfl
  have b33 : (s.t == [33]) = false := by rw [ht]; rfl
  have b45 : (s.t == [45]) = true := by rw [ht]; rfl
  have b40 : (s.t == [40]) = false := by rw [ht]; rfl
  intro yi hy
  refine Call.step hy ?_
  rw [body_eq t58]
  simp only [c58,c58x1,c58x2,c58x3,c58x4,c58x5,c58x6,c58x7,c58x8,c58x9,c58x10,c58x11,c58x12,c58x13,c58x14,c58x15,c58x16,RUA,RUB,RUC,RUD,RUE,RUF,if_true,if_false,Int.reduceEq,Int.reduceLT,Int.reduceLE,qC,qO,qA,qS,qU,Nat.reduceEqDiff,qT,E.at,qR,Nat.reduceAdd,Nat.reduceSub,Nat.reduceLeDiff,Nat.reduceMul,qI,qP,qQ,hone,hrow,hlen,hI,hd,k1,k2,k3,b33,b45,b40]
  refine hr.call01 (a1 := []) (xs := [.pt 0 0,.fn (.func 72) [] [.pt 1 0]]) (b1 := []) rfl (cm_pt (cm_keep rfl cm_nil)) rfl (pfr hw _ _ _) fun z os' hq => ?_
  rcases r with ⟨x,j⟩ | ⟨e,j⟩
  · obtain ⟨hx,rfl⟩ := hq
    have hx' := hx
    obtain ⟨a,b,c,dd,rfl,ho⟩ := ex_agg hx
    refine ⟨_,rfl,pfr hw _ _ _,freeT_of hx'.ok.1, ?_⟩
    simp only [c58,c58x1,c58x2,c58x3,c58x4,c58x5,c58x6,c58x7,c58x8,c58x9,c58x10,c58x11,c58x12,c58x13,c58x14,c58x15,c58x16,RUA,RUB,RUC,RUD,RUE,RUF,if_true,if_false,Int.reduceEq,Int.reduceLT,Int.reduceLE,qC,qO,qA,qS,qU,Nat.reduceEqDiff,qT,E.at,qR,Nat.reduceAdd,Nat.reduceSub,Nat.reduceLeDiff,Nat.reduceMul,qI,qP,qQ,hone,ho,rets,List.take]
    exact ⟨_,_,fin1 (pfr hw _ _ _) (freeT_of hx'.ok.1),hx',rfl⟩
  · obtain ⟨⟨x,hx⟩,he,rfl⟩ := hq
    have hx' := hx
    obtain ⟨a,b,c,dd,rfl,ho⟩ := ex_agg hx
    refine ⟨_,rfl,pfr hw _ _ _,freeT_of hx'.ok.1, ?_⟩
    simp only [c58,c58x1,c58x2,c58x3,c58x4,c58x5,c58x6,c58x7,c58x8,c58x9,c58x10,c58x11,c58x12,c58x13,c58x14,c58x15,c58x16,RUA,RUB,RUC,RUD,RUE,RUF,if_true,if_false,Int.reduceEq,Int.reduceLT,Int.reduceLE,qC,qO,qA,qS,qU,Nat.reduceEqDiff,qT,E.at,qR,Nat.reduceAdd,Nat.reduceSub,Nat.reduceLeDiff,Nat.reduceMul,qI,qP,qQ,hone,ho,rets,List.take]
    exact ⟨_,_,fin1 (pfr hw _ _ _) (freeT_of hx'.ok.1),⟨_,hx'⟩,he,rfl⟩
theorem un_w40 {i d : Nat} {r : PR} {s : Sg} (h : l[i]? = some s) (hk : s.k = 3) (ht : s.t = [40]) (hr : SFn Tryd.prog T 70 [.pt 0 0,.fn (.func 73) [] [.pt 1 0]] [.cells [w,iV i,iV d,iV 0],bxO] (Post2 w d r)) :
    SFn Tryd.prog T 58 [.pt 0 0] [.cells [w,iV i,iV d,iV 0]] (Post w d r) := by
  have hone : w.one = true := free1_one hw.free
  have hrow := fun o => hw.row o
  have hlen : (l.map Sg.v).length = l.length := by simp
  have hlt := (List.getElem?_eq_some_iff.1 h).1
  have hI := fun o => sg_ix hw h o
  have hd : decide ((l.length : Int) ≤ (i : Int)) = false := by simp; omega
  have k2 : decide ((s.k : Int) = 2) = false := by rw [hk]; rfl
  have k1 : decide ((s.k : Int) = 1) = false := by rw [hk]; rfl
  have k3 : decide ((s.k : Int) = 3) = true := by rw [hk]; rfl
  have b33 : (s.t == [33]) = false := by rw [ht]; rfl
  have b45 : (s.t == [45]) = false := by rw [ht]; rfl
  have b40 : (s.t == [40]) = true := by rw [ht]; rfl
  intro yi hy
  refine Call.step hy ?_
  rw [body_eq t58]
  simp only [c58,c58x1,c58x2,c58x3,c58x4,c58x5,c58x6,c58x7,c58x8,c58x9,c58x10,c58x11,c58x12,c58x13,c58x14,c58x15,c58x16,RUA,RUB,RUC,RUD,RUE,RUF,if_true,if_false,Int.reduceEq,Int.reduceLT,Int.reduceLE,qC,qO,qA,qS,qU,Nat.reduceEqDiff,qT,E.at,qR,Nat.reduceAdd,Nat.reduceSub,Nat.reduceLeDiff,Nat.reduceMul,qI,qP,qQ,hone,hrow,hlen,hI,hd,k1,k2,k3,b33,b45,b40]
  refine hr.call01 (a1 := []) (xs := [.pt 0 0,.fn (.func 73) [] [.pt 1 0]]) (b1 := []) rfl (cm_pt (cm_keep rfl cm_nil)) rfl (pfr hw _ _ _) fun z os' hq => ?_
  rcases r with ⟨x,j⟩ | ⟨e,j⟩
  · obtain ⟨hx,rfl⟩ := hq
    have hx' := hx
    obtain ⟨a,b,c,dd,rfl,ho⟩ := ex_agg hx
    refine ⟨_,rfl,pfr hw _ _ _,freeT_of hx'.ok.1, ?_⟩
    simp only [c58,c58x1,c58x2,c58x3,c58x4,c58x5,c58x6,c58x7,c58x8,c58x9,c58x10,c58x11,c58x12,c58x13,c58x14,c58x15,c58x16,RUA,RUB,RUC,RUD,RUE,RUF,if_true,if_false,Int.reduceEq,Int.reduceLT,Int.reduceLE,qC,qO,qA,qS,qU,Nat.reduceEqDiff,qT,E.at,qR,Nat.reduceAdd,Nat.reduceSub,Nat.reduceLeDiff,Nat.reduceMul,qI,qP,qQ,hone,ho,rets,List.take]
    exact ⟨_,_,fin1 (pfr hw _ _ _) (freeT_of hx'.ok.1),hx',rfl⟩
  · obtain ⟨⟨x,hx⟩,he,rfl⟩ := hq
    have hx' := hx
    obtain ⟨a,b,c,dd,rfl,ho⟩ := ex_agg hx
    refine ⟨_,rfl,pfr hw _ _ _,freeT_of hx'.ok.1, ?_⟩
    simp only [c58,c58x1,c58x2,c58x3,c58x4,c58x5,c58x6,c58x7,c58x8,c58x9,c58x10,c58x11,c58x12,c58x13,c58x14,c58x15,c58x16,RUA,RUB,RUC,RUD,RUE,RUF,if_true,if_false,Int.reduceEq,Int.reduceLT,Int.reduceLE,qC,qO,qA,qS,qU,Nat.reduceEqDiff,qT,E.at,qR,Nat.reduceAdd,Nat.reduceSub,Nat.reduceLeDiff,Nat.reduceMul,qI,qP,qQ,hone,ho,rets,List.take]
    exact ⟨_,_,fin1 (pfr hw _ _ _) (freeT_of hx'.ok.1),⟨_,hx'⟩,he,rfl⟩
theorem un_e {i d : Nat} (h : l[i]? = none) : SFn Tryd.prog T 58 [.pt 0 0] [.cells [w,iV i,iV d,iV 0]] (Post w d (.bad 2 i)) := by
  have hone : w.one = true := free1_one hw.free
  have hrow := fun o => hw.row o
  have hlen : (l.map Sg.v).length = l.length := by simp
  have hd : decide ((l.length : Int) ≤ (i : Int)) = true := by have := List.getElem?_eq_none_iff.1 h; simp; omega
  intro yi hy
  refine Call.step hy ?_
  rw [body_eq t58]
  simp only [c58,c58x1,c58x2,c58x3,c58x4,c58x5,c58x6,c58x7,c58x8,c58x9,c58x10,c58x11,c58x12,c58x13,c58x14,c58x15,c58x16,RUA,RUB,RUC,RUD,RUE,RUF,if_true,if_false,Int.reduceEq,Int.reduceLT,Int.reduceLE,qC,qO,qA,qS,qU,Nat.reduceEqDiff,qT,E.at,qR,Nat.reduceAdd,Nat.reduceSub,Nat.reduceLeDiff,Nat.reduceMul,qI,qP,qQ,hone,hrow,hlen,hd]
  refine (fail_c hw i d 2).call1 rfl (by simp [V.free,V.free1]) rfl (pfr hw _ _ _) fun z os' hq => ?_
  obtain ⟨hx,rfl⟩ := hq
  have hx' := hx
  obtain ⟨a,b,c,dd,rfl,ho⟩ := ex_agg hx
  refine ⟨_,rfl,pfr hw _ _ _,freeT_of hx'.ok.1, ?_⟩
  simp only [c58,c58x1,c58x2,c58x3,c58x4,c58x5,c58x6,c58x7,c58x8,c58x9,c58x10,c58x11,c58x12,c58x13,c58x14,c58x15,c58x16,RUA,RUB,RUC,RUD,RUE,RUF,if_true,if_false,Int.reduceEq,Int.reduceLT,Int.reduceLE,qC,qO,qA,qS,qU,Nat.reduceEqDiff,qT,E.at,qR,Nat.reduceAdd,Nat.reduceSub,Nat.reduceLeDiff,Nat.reduceMul,qI,qP,qQ,hone,ho,rets,List.take]
  exact ⟨_,_,fin1 (pfr hw _ _ _) (freeT_of hx'.ok.1),⟨_,hx'⟩,by omega,rfl⟩
theorem un_x {i d : Nat} {s : Sg} (h : l[i]? = some s) (hk : s.k ≠ 1) (hk2 : s.k ≠ 2) (hk3 : s.k ≠ 3) : SFn Tryd.prog T 58 [.pt 0 0] [.cells [w,iV i,iV d,iV 0]] (Post w d (.bad 2 i)) := by
  have hone : w.one = true := free1_one hw.free
  have hrow := fun o => hw.row o
  have hlen : (l.map Sg.v).length = l.length := by simp
  have hlt := (List.getElem?_eq_some_iff.1 h).1
  have hI := fun o => sg_ix hw h o
  have hd : decide ((l.length : Int) ≤ (i : Int)) = false := by simp; omega
  have k2 : decide ((s.k : Int) = 2) = false := by simp; omega
  have k1 : decide ((s.k : Int) = 1) = false := by simp; omega
  have k3 : decide ((s.k : Int) = 3) = false := by simp; omega
  intro yi hy
  refine Call.step hy ?_
  rw [body_eq t58]
  simp only [c58,c58x1,c58x2,c58x3,c58x4,c58x5,c58x6,c58x7,c58x8,c58x9,c58x10,c58x11,c58x12,c58x13,c58x14,c58x15,c58x16,RUA,RUB,RUC,RUD,RUE,RUF,if_true,if_false,Int.reduceEq,Int.reduceLT,Int.reduceLE,qC,qO,qA,qS,qU,Nat.reduceEqDiff,qT,E.at,qR,Nat.reduceAdd,Nat.reduceSub,Nat.reduceLeDiff,Nat.reduceMul,qI,qP,qQ,hone,hrow,hlen,hI,hd,k1,k2,k3]
  refine (fail_c hw i d 2).call1 rfl (by simp [V.free,V.free1]) rfl (pfr hw _ _ _) fun z os' hq => ?_
  obtain ⟨hx,rfl⟩ := hq
  have hx' := hx
  obtain ⟨a,b,c,dd,rfl,ho⟩ := ex_agg hx
  refine ⟨_,rfl,pfr hw _ _ _,freeT_of hx'.ok.1, ?_⟩
  simp only [c58,c58x1,c58x2,c58x3,c58x4,c58x5,c58x6,c58x7,c58x8,c58x9,c58x10,c58x11,c58x12,c58x13,c58x14,c58x15,c58x16,RUA,RUB,RUC,RUD,RUE,RUF,if_true,if_false,Int.reduceEq,Int.reduceLT,Int.reduceLE,qC,qO,qA,qS,qU,Nat.reduceEqDiff,qT,E.at,qR,Nat.reduceAdd,Nat.reduceSub,Nat.reduceLeDiff,Nat.reduceMul,qI,qP,qQ,hone,ho,rets,List.take]
  exact ⟨_,_,fin1 (pfr hw _ _ _) (freeT_of hx'.ok.1),⟨_,hx'⟩,by omega,rfl⟩
theorem un_m {i d : Nat} {s : Sg} (h : l[i]? = some s) (hk : s.k = 3) (h1 : s.t ≠ [33]) (h2 : s.t ≠ [45]) (h3 : s.t ≠ [40]) : SFn Tryd.prog T 58 [.pt 0 0] [.cells [w,iV i,iV d,iV 0]] (Post w d (.bad 2 i)) := by
  have hone : w.one = true := free1_one hw.free
  have hrow := fun o => hw.row o
  have hlen : (l.map Sg.v).length = l.length := by simp
  have hlt := (List.getElem?_eq_some_iff.1 h).1
  have hI := fun o => sg_ix hw h o
  have hd : decide ((l.length : Int) ≤ (i : Int)) = false := by simp; omega
  have k2 : decide ((s.k : Int) = 2) = false := by simp; omega
  have k1 : decide ((s.k : Int) = 1) = false := by simp; omega
  have k3 : decide ((s.k : Int) = 3) = true := by simp; omega
  have b33 : (s.t == [33]) = false := by simpa using h1
  have b45 : (s.t == [45]) = false := by simpa using h2
  have b40 : (s.t == [40]) = false := by simpa using h3
  intro yi hy
  refine Call.step hy ?_
  rw [body_eq t58]
  simp only [c58,c58x1,c58x2,c58x3,c58x4,c58x5,c58x6,c58x7,c58x8,c58x9,c58x10,c58x11,c58x12,c58x13,c58x14,c58x15,c58x16,RUA,RUB,RUC,RUD,RUE,RUF,if_true,if_false,Int.reduceEq,Int.reduceLT,Int.reduceLE,qC,qO,qA,qS,qU,Nat.reduceEqDiff,qT,E.at,qR,Nat.reduceAdd,Nat.reduceSub,Nat.reduceLeDiff,Nat.reduceMul,qI,qP,qQ,hone,hrow,hlen,hI,hd,k1,k2,k3,b33,b45,b40]
  refine (fail_c hw i d 2).call1 rfl (by simp [V.free,V.free1]) rfl (pfr hw _ _ _) fun z os' hq => ?_
  obtain ⟨hx,rfl⟩ := hq
  have hx' := hx
  obtain ⟨a,b,c,dd,rfl,ho⟩ := ex_agg hx
  refine ⟨_,rfl,pfr hw _ _ _,freeT_of hx'.ok.1, ?_⟩
  simp only [c58,c58x1,c58x2,c58x3,c58x4,c58x5,c58x6,c58x7,c58x8,c58x9,c58x10,c58x11,c58x12,c58x13,c58x14,c58x15,c58x16,RUA,RUB,RUC,RUD,RUE,RUF,if_true,if_false,Int.reduceEq,Int.reduceLT,Int.reduceLE,qC,qO,qA,qS,qU,Nat.reduceEqDiff,qT,E.at,qR,Nat.reduceAdd,Nat.reduceSub,Nat.reduceLeDiff,Nat.reduceMul,qI,qP,qQ,hone,ho,rets,List.take]
  exact ⟨_,_,fin1 (pfr hw _ _ _) (freeT_of hx'.ok.1),⟨_,hx'⟩,by omega,rfl⟩
theorem un_k {i d : Nat} {s : Sg} (h : l[i]? = some s) (hs : SgOk s) (hk : s.k = 1) (hn : isName s.t = false) : SFn Tryd.prog T 58 [.pt 0 0] [.cells [w,iV i,iV d,iV 0]] (Post w d (.bad 2 i)) := by
  have hone : w.one = true := free1_one hw.free
  have hrow := fun o => hw.row o
  have hlen : (l.map Sg.v).length = l.length := by simp
  have hlt := (List.getElem?_eq_some_iff.1 h).1
  have hI := fun o => sg_ix hw h o
  have hd : decide ((l.length : Int) ≤ (i : Int)) = false := by simp; omega
  have k2 : decide ((s.k : Int) = 2) = false := by simp; omega
  have k1 : decide ((s.k : Int) = 1) = true := by simp; omega
  have k3 : decide ((s.k : Int) = 3) = false := by simp; omega
  intro yi hy
  refine Call.step hy ?_
  rw [body_eq t58]
  simp only [c58,c58x1,c58x2,c58x3,c58x4,c58x5,c58x6,c58x7,c58x8,RUA,RUB,RUC,RUD,RUE,RUF,if_true,if_false,Int.reduceEq,Int.reduceLT,Int.reduceLE,qC,qO,qA,qS,qU,Nat.reduceEqDiff,qT,E.at,qR,Nat.reduceAdd,Nat.reduceSub,Nat.reduceLeDiff,Nat.reduceMul,qI,qP,qQ,hone,hrow,hlen,hI,hd,k1,k2,k3]
  refine pcall (name_p (s := s.t) (by have := hs.1; unfold lim; omega)) rfl (by simp [V.free,V.free1]) ?_
  rw [hn]
  simp only [c58,c58x1,c58x2,c58x3,c58x4,c58x5,c58x6,c58x7,c58x8,c58x9,c58x10,c58x11,c58x12,c58x13,c58x14,c58x15,c58x16,RUA,RUB,RUC,RUD,RUE,RUF,if_true,if_false,Int.reduceEq,Int.reduceLT,Int.reduceLE,qC,qO,qA,qS,qU,Nat.reduceEqDiff,qT,E.at,qR,Nat.reduceAdd,Nat.reduceSub,Nat.reduceLeDiff,Nat.reduceMul,qI,qP,qQ,hone,hrow,hlen,hI,hd,k1,k2,k3]
  refine (fail_c hw i d 2).call1 rfl (by simp [V.free,V.free1]) rfl (pfr hw _ _ _) fun z os' hq => ?_
  obtain ⟨hx,rfl⟩ := hq
  have hx' := hx
  obtain ⟨a,b,c,dd,rfl,ho⟩ := ex_agg hx
  refine ⟨_,rfl,pfr hw _ _ _,freeT_of hx'.ok.1, ?_⟩
  simp only [c58,c58x1,c58x2,c58x3,c58x4,c58x5,c58x6,c58x7,c58x8,c58x9,c58x10,c58x11,c58x12,c58x13,c58x14,c58x15,c58x16,RUA,RUB,RUC,RUD,RUE,RUF,if_true,if_false,Int.reduceEq,Int.reduceLT,Int.reduceLE,qC,qO,qA,qS,qU,Nat.reduceEqDiff,qT,E.at,qR,Nat.reduceAdd,Nat.reduceSub,Nat.reduceLeDiff,Nat.reduceMul,qI,qP,qQ,hone,ho,rets,List.take]
  exact ⟨_,_,fin1 (pfr hw _ _ _) (freeT_of hx'.ok.1),⟨_,hx'⟩,by omega,rfl⟩
theorem un_v (hl : l.length ≤ lim) {i d : Nat} {s : Sg} (h : l[i]? = some s) (hs : SgOk s) (hk : s.k = 1) (hn : isName s.t = true) : SFn Tryd.prog T 58 [.pt 0 0] [.cells [w,iV i,iV d,iV 0]] (Post w d (.ok (.mk 2 0 ⟨s.t.toArray⟩ []) (i + 1))) := by
  have hone : w.one = true := free1_one hw.free
  have hrow := fun o => hw.row o
  have hlen : (l.map Sg.v).length = l.length := by simp
  have hlt := (List.getElem?_eq_some_iff.1 h).1
  have hI := fun o => sg_ix hw h o
  have hd : decide ((l.length : Int) ≤ (i : Int)) = false := by simp; omega
  have k2 : decide ((s.k : Int) = 2) = false := by simp; omega
  have k1 : decide ((s.k : Int) = 1) = true := by simp; omega
  have k3 : decide ((s.k : Int) = 3) = false := by simp; omega
  unfold lim at hl
  have w1 : IntKind.i64.wrap ((i : Int) + 1) = ((i + 1 : Nat) : Int) := wrap_succ (by omega)
  intro yi hy
  refine Call.step hy ?_
  rw [body_eq t58]
  simp only [c58,c58x1,c58x2,c58x3,c58x4,c58x5,c58x6,c58x7,c58x8,RUA,RUB,RUC,RUD,RUE,RUF,if_true,if_false,Int.reduceEq,Int.reduceLT,Int.reduceLE,qC,qO,qA,qS,qU,Nat.reduceEqDiff,qT,E.at,qR,Nat.reduceAdd,Nat.reduceSub,Nat.reduceLeDiff,Nat.reduceMul,qI,qP,qQ,hone,hrow,hlen,hI,hd,k1,k2,k3]
  refine pcall (name_p (s := s.t) (by have := hs.1; unfold lim; omega)) rfl (by simp [V.free,V.free1]) ?_
  rw [hn]
  have hE : IsEx (.mk 2 0 ⟨s.t.toArray⟩ []) (.agg [iV 2,iV 0,tV s.t,nilV]) := ⟨nilV,[],rfl,.inl ⟨rfl,rfl⟩,by simp,rfl⟩
  simp only [c58,c58x1,c58x2,c58x3,c58x4,c58x5,c58x6,c58x7,c58x8,c58x9,c58x10,c58x11,c58x12,c58x13,c58x14,c58x15,c58x16,RUA,RUB,RUC,RUD,RUE,RUF,if_true,if_false,Int.reduceEq,Int.reduceLT,Int.reduceLE,qC,qO,qA,qS,qU,Nat.reduceEqDiff,qT,E.at,qR,Nat.reduceAdd,Nat.reduceSub,Nat.reduceLeDiff,Nat.reduceMul,qI,qP,qQ,hone,hrow,hlen,hI,hd,k1,k2,k3,w1,fillC,rets,List.take]
  exact ⟨_,_,fin1 (pfr hw _ _ _) (freeT_of hE.ok.1),hE,rfl⟩
theorem un_n (hl : l.length ≤ lim) {i d : Nat} {s : Sg} (h : l[i]? = some s) (hs : SgOk s) (hk : s.k = 2) : SFn Tryd.prog T 58 [.pt 0 0] [.cells [w,iV i,iV d,iV 0]] (Post w d (.ok (.mk 1 (numI s.t) emp []) (i + 1))) := by
  have hone : w.one = true := free1_one hw.free
  have hrow := fun o => hw.row o
  have hlen : (l.map Sg.v).length = l.length := by simp
  have hlt := (List.getElem?_eq_some_iff.1 h).1
  have hI := fun o => sg_ix hw h o
  have hd : decide ((l.length : Int) ≤ (i : Int)) = false := by simp; omega
  have k2 : decide ((s.k : Int) = 2) = true := by simp; omega
  have k1 : decide ((s.k : Int) = 1) = false := by simp; omega
  have k3 : decide ((s.k : Int) = 3) = false := by simp; omega
  unfold lim at hl
  have w1 : IntKind.i64.wrap ((i : Int) + 1) = ((i + 1 : Nat) : Int) := wrap_succ (by omega)
  obtain ⟨q1,q2,q3⟩ := hs.2 hk
  intro yi hy
  refine Call.step hy ?_
  rw [body_eq t58]
  simp only [c58,c58x1,c58x2,c58x3,c58x4,c58x5,RUA,RUB,RUC,RUD,RUE,RUF,if_true,if_false,Int.reduceEq,Int.reduceLT,Int.reduceLE,qC,qO,qA,qS,qU,Nat.reduceEqDiff,qT,E.at,qR,Nat.reduceAdd,Nat.reduceSub,Nat.reduceLeDiff,Nat.reduceMul,qI,qP,qQ,hone,hrow,hlen,hI,hd,k1,k2,k3]
  refine pcall (atoi_p q1 q2 q3) rfl (by simp [V.free,V.free1]) ?_
  have hE : IsEx (.mk 1 (numI s.t) emp []) (.agg [iV 1,iV (numI s.t),sV emp,nilV]) := ⟨nilV,[],rfl,.inl ⟨rfl,rfl⟩,by simp,rfl⟩
  simp only [c58,c58x1,c58x2,c58x3,c58x4,c58x5,c58x6,c58x7,c58x8,c58x9,c58x10,c58x11,c58x12,c58x13,c58x14,c58x15,c58x16,RUA,RUB,RUC,RUD,RUE,RUF,if_true,if_false,Int.reduceEq,Int.reduceLT,Int.reduceLE,qC,qO,qA,qS,qU,Nat.reduceEqDiff,qT,E.at,qR,Nat.reduceAdd,Nat.reduceSub,Nat.reduceLeDiff,Nat.reduceMul,qI,qP,qQ,hone,hrow,hlen,hI,hd,k1,k2,k3,w1,fillC,rets,List.take]
  exact ⟨_,_,fin1 (pfr hw _ _ _) (freeT_of hE.ok.1),hE,rfl⟩
end
def G (w : V) : W → Nat → Nat → PR → Prop
  | .un,d,i,r => SFn Tryd.prog T 58 [.pt 0 0] [.cells [w,iV i,iV d,iV 0]] (Post w d r)
  | .bin lv,d,i,r => SFn Tryd.prog T 35 [.pt 0 0,iV lv] [.cells [w,iV i,iV d,iV 0]] (Post w d r)
  | .lp _ _,_,_,_ => True
theorem un_c {w : V} {l : List Sg} (hw : IsSl 3 w (l.map Sg.v)) (hl : l.length ≤ lim) (hok : ∀ s ∈ l,SgOk s) {n d i : Nat} {r : PR} (h : PS l (n + 1) .un d i r) (ih : ∀ w' d i r,PS l n w' d i r → G w w' d i r) : G w .un d i r := by
  have hs : ∀ {i : Nat} {s : Sg},l[i]? = some s → SgOk s ∧ i < lim := fun h => ⟨hok _ (List.mem_of_getElem? h),Nat.lt_of_lt_of_le (List.getElem?_eq_some_iff.1 h).1 hl⟩
  cases h with
  | unE h => exact un_e hw h
  | unN h hk => exact un_n hw hl h (hs h).1 hk
  | unV h hk hn => exact un_v hw hl h (hs h).1 hk hn
  | unW h hk hn => exact un_k hw h (hs h).1 hk hn
  | unX h hk hk2 hk3 => exact un_x hw h hk hk2 hk3
  | unM h hk h1 h2 h3 => exact un_m hw h hk h1 h2 h3
  | unD h hk ht hd =>
    rcases ht with ht | ht | ht
    · exact un_w33 hw h hk ht (within_f hw hd)
    · exact un_w45 hw h hk ht (within_f hw hd)
    · exact un_w40 hw h hk ht (within_f hw hd)
  | unS h hk ht hd h1 =>
    rcases ht with ⟨ht,rfl⟩ | ⟨ht,rfl⟩
    · exact un_w33 hw h hk ht (within_c hw rfl hd (hs h).2 (not_c hw (ih _ _ _ _ h1)))
    · exact un_w45 hw h hk ht (within_c hw rfl hd (hs h).2 (neg_c hw (ih _ _ _ _ h1)))
  | unSB h hk ht hd h1 =>
    rcases ht with ht | ht
    · exact un_w33 hw h hk ht (within_c hw rfl hd (hs h).2 (not_c hw (ih _ _ _ _ h1)))
    · exact un_w45 hw h hk ht (within_c hw rfl hd (hs h).2 (neg_c hw (ih _ _ _ _ h1)))
  | unP h hk ht hd h1 hm =>
    have := bra_c hw hl (ih _ _ _ _ h1)
    simp only [brR,if_pos hm] at this
    exact un_w40 hw h hk ht (within_c hw rfl hd (hs h).2 this)
  | unPM h hk ht hd h1 hm =>
    have := bra_c hw hl (ih _ _ _ _ h1)
    simp only [brR,if_neg hm] at this
    exact un_w40 hw h hk ht (within_c hw rfl hd (hs h).2 this)
  | unPB h hk ht hd h1 =>
    exact un_w40 hw h hk ht (within_c hw rfl hd (hs h).2 (bra_c hw hl (ih _ _ _ _ h1)))
end Go.Proofs.YtjfnhpnfkknmoaaDoor
end

section
set_option linter.unusedVariables false
set_option linter.unusedSimpArgs false
set_option maxRecDepth 100000
set_option maxHeartbeats 8000000
open Go.Proofs.Pe renaming putCells → qC, bslOf → qO, bsaOf → qA, bslS → qS, isUpto → qU, step → qT, intOf → qI, iop → qP, sop → qQ
open List renaming replicate → qR
open Go.Proofs.Pe.V renaming dead → qD
namespace Go.Proofs.YtjfnhpnfkknmoaaDoor
open Go.Proofs.Pe

abbrev z4O : O := .cells [iV 0,iV 0,sV (ByteArray.mk #[]),nilV]
def KP (w : V) (d : Nat) (r : PR) : V → List O → Prop := fun y o' => ∃ z os',Fin5 1 y o' z os' ∧ Post w d r z os'
def PsiB (w : V) (d : Nat) (r : PR) : X → Fr → Prop := fun x3 f3 => match x3 with
  | .goto _ => endK [Rv.cell 4 true 4] (KP w d r) .normal f3
  | x => endK [Rv.cell 4 true 4] (KP w d r) x f3
abbrev LoopB (yi : Nat → Sem') : Fr → (X → Fr → Prop) → Prop := Lfp (gBody 0 (Pe.ev Tryd.prog T (Pe.Call Tryd.prog T) Lfp (.seq .skip c35x5) none yi))
section
variable {w : V} {l : List Sg} (hw : IsSl 3 w (l.map Sg.v))
include hw
theorem head_e {lv d j e : Nat} (he : e ≠ 0) {a b : Int} {c : ByteArray} {xv : V} {tl : List O} {yi : Nat → Sem'} (hy : YLe yi yi) (C : X → Fr → Prop)
    (hret : ∀ f',endK [Rv.cell 4 true 4] (KP w d (.bad e j)) .ret f' → C .ret f') (x6 x7 x8 x9 x10 x11 x12 x13 x14 x15 x16 x17 x18 x19 x20 x21 x22 x23 x24 x25 x26 x27 x28 x29 x30 x31 x32 x33 x34 x35 x36 x37 x38 x39 x40 x41 x42 x43 x44 x45 x46 x47 x48 x49 : V) :
    Pe.ev Tryd.prog T (Pe.Call Tryd.prog T) Lfp c35x5 none yi ⟨⟨(.pt 0 0 :: iV lv :: qD::qD::.pt 1 0 :: .pt 2 0 :: x6 :: x7 :: x8 :: x9 :: x10 :: x11 :: x12 :: x13 :: x14 :: x15 :: x16 :: x17 :: x18 :: x19 :: x20 :: x21 :: x22 :: x23 :: x24 :: x25 :: x26 :: x27 :: x28 :: x29 :: x30 :: x31 :: x32 :: x33 :: x34 :: x35 :: x36 :: x37 :: x38 :: x39 :: x40 :: x41 :: x42 :: x43 :: x44 :: x45 :: x46 :: x47 :: x48 :: x49 :: []),.cells [w,iV j,iV d,iV e] :: z4O :: .cells [iV a,iV b,sV c,xv] :: tl⟩,[]⟩ C := by
  have hone : w.one = true := free1_one hw.free
  have he0 : decide ((e : Int) = 0) = false := by simp; omega
  simp only [c35,c35x1,c35x2,c35x3,c35x4,c35x5,c35x6,RUA,RUB,RUC,RUD,RUE,RUF,if_true,if_false,Int.reduceEq,Int.reduceLT,Int.reduceLE,qC,qO,qA,qS,qU,Nat.reduceEqDiff,qT,E.at,qR,Nat.reduceAdd,Nat.reduceSub,Nat.reduceLeDiff,Nat.reduceMul,qI,qP,qQ,hone,he0,fillC]
  refine hret _ ?_
  simp only [KP,RUA,RUB,RUC,RUD,RUE,RUF,if_true,if_false,Int.reduceEq,Int.reduceLT,Int.reduceLE,qC,qO,qA,qS,qU,Nat.reduceEqDiff,qT,E.at,qR,Nat.reduceAdd,Nat.reduceSub,Nat.reduceLeDiff,Nat.reduceMul,qI,qP,qQ,hone,rets,List.take]
  exact ⟨_,_,fin1 (pfr hw _ _ _) (freeT_of zIs.ok.1),⟨_,zIs⟩,he,rfl⟩
theorem head_c (hl : l.length ≤ lim) {lv : Nat} (hlv : lv < 5) {N : Nat} (ihb : ∀ m,m < N → ∀ d i r,PS l m (.bin (lv + 1)) d i r → G w (.bin (lv + 1)) d i r) :
    ∀ (n : Nat),n ≤ N → ∀ (d j : Nat) (r : PR) (x : Ex),PS l n (.lp lv x) d j r → ∀ (a b : Int) (c : ByteArray) (xv : V) (tl : List O),IsEx x (.agg [iV a,iV b,sV c,xv]) → ∀ {yi : Nat → Sem'} (hy : YLe yi yi) (C : X → Fr → Prop)
    (hret : ∀ f',endK [Rv.cell 4 true 4] (KP w d r) .ret f' → C .ret f') (hgo : ∀ f',LoopB yi f' (PsiB w d r) → C (.goto 0) f') (x6 x7 x8 x9 x10 x11 x12 x13 x14 x15 x16 x17 x18 x19 x20 x21 x22 x23 x24 x25 x26 x27 x28 x29 x30 x31 x32 x33 x34 x35 x36 x37 x38 x39 x40 x41 x42 x43 x44 x45 x46 x47 x48 x49 : V),
    Pe.ev Tryd.prog T (Pe.Call Tryd.prog T) Lfp c35x5 none yi ⟨⟨(.pt 0 0 :: iV lv :: qD::qD::.pt 1 0 :: .pt 2 0 :: x6 :: x7 :: x8 :: x9 :: x10 :: x11 :: x12 :: x13 :: x14 :: x15 :: x16 :: x17 :: x18 :: x19 :: x20 :: x21 :: x22 :: x23 :: x24 :: x25 :: x26 :: x27 :: x28 :: x29 :: x30 :: x31 :: x32 :: x33 :: x34 :: x35 :: x36 :: x37 :: x38 :: x39 :: x40 :: x41 :: x42 :: x43 :: x44 :: x45 :: x46 :: x47 :: x48 :: x49 :: []),.cells [w,iV j,iV d,iV 0] :: z4O :: .cells [iV a,iV b,sV c,xv] :: tl⟩,[]⟩ C := by
  have hone : w.one = true := free1_one hw.free
  have hrl : ∀ o,rowOf o (.sl 2 true lvlsV) = some lvlsV := fun o => rfl
  have hI : ∀ o,ixOf 2 o (.sl 2 true lvlsV) (iV lv) = some (.ep [iV (lvLo lv),iV (lvHi lv)],o) := fun o => IsSl.ix (.inr ⟨_,rfl⟩) o (lvls_get hlv)
  have hnil := kind_nil lv hlv
  have wl : IntKind.i64.wrap ((lv : Int) + 1) = ((lv + 1 : Nat) : Int) := wrap_succ (by omega)
  intro n
  induction n with
  | zero => intro _ d j r x h; cases h
  | succ n ih =>
    intro hN d j r x h a b c xv tl hx yi hy C hret hgo x6 x7 x8 x9 x10 x11 x12 x13 x14 x15 x16 x17 x18 x19 x20 x21 x22 x23 x24 x25 x26 x27 x28 x29 x30 x31 x32 x33 x34 x35 x36 x37 x38 x39 x40 x41 x42 x43 x44 x45 x46 x47 x48 x49
    have hxo : xv.one = true := by obtain ⟨a',b',c',d',e,h1⟩ := ex_agg hx; cases e; exact h1
    simp only [c35,c35x1,c35x2,c35x3,c35x4,c35x5,c35x6,c35x7,RUA,RUB,RUC,RUD,RUE,RUF,if_true,if_false,Int.reduceEq,Int.reduceLT,Int.reduceLE,qC,qO,qA,qS,qU,Nat.reduceEqDiff,qT,E.at,qR,Nat.reduceAdd,Nat.reduceSub,Nat.reduceLeDiff,Nat.reduceMul,qI,qP,qQ,hone]
    refine pcall levels_p rfl (by simp) ?_
    simp only [c35,c35x1,c35x2,c35x3,c35x4,c35x5,c35x6,c35x7,RUA,RUB,RUC,RUD,RUE,RUF,if_true,if_false,Int.reduceEq,Int.reduceLT,Int.reduceLE,qC,qO,qA,qS,qU,Nat.reduceEqDiff,qT,E.at,qR,Nat.reduceAdd,Nat.reduceSub,Nat.reduceLeDiff,Nat.reduceMul,qI,qP,qQ,hone,hI]
    refine call3 rfl (cm_pt (cm_free rfl cm_nil)) (pkind_c noY_le hw hlv rfl fun bb => ⟨(Frm.app _ _ []).sim, ?_⟩)
    by_cases hk0 : kindM lv (markAt l j) = 0
    · have hr : r = .ok x j := by
        cases h with
        | lpE h => rfl
        | lpB h h1 => exact absurd hk0 h
        | lp2 h h1 => exact absurd hk0 h
        | lp h h0 h1 h2 => exact absurd hk0 h
      subst hr
      rw [hk0]
      simp only [c35,c35x1,c35x2,c35x3,c35x4,c35x5,c35x6,c35x7,c35x8,c35x9,RUA,RUB,RUC,RUD,RUE,RUF,if_true,if_false,Int.reduceEq,Int.reduceLT,Int.reduceLE,qC,qO,qA,qS,qU,Nat.reduceEqDiff,qT,E.at,qR,Nat.reduceAdd,Nat.reduceSub,Nat.reduceLeDiff,Nat.reduceMul,qI,qP,qQ,hone,hxo]
      refine hret _ ?_
      simp only [KP,RUA,RUB,RUC,RUD,RUE,RUF,if_true,if_false,Int.reduceEq,Int.reduceLT,Int.reduceLE,qC,qO,qA,qS,qU,Nat.reduceEqDiff,qT,E.at,qR,Nat.reduceAdd,Nat.reduceSub,Nat.reduceLeDiff,Nat.reduceMul,qI,qP,qQ,hone,hxo,rets,List.take]
      exact ⟨_,_,fin1 (pfr hw _ _ _) (freeT_of hx.ok.1),hx,rfl⟩
    · have hj : j < l.length := by
        by_cases hm : markAt l j = []
        · exact absurd (by rw [hm]; exact hnil) hk0
        · exact mark_lt rfl hm
      have hkd : decide ((kindM lv (markAt l j) : Int) = 0) = false := by simp; omega
      have wj : IntKind.i64.wrap ((j : Int) + 1) = ((j + 1 : Nat) : Int) := wrap_succ (by unfold lim at hl; omega)
      have hxf : xv.free1 = true := by
        have := hx.ok.1
        simp only [free_agg,List.all_cons,List.all_nil,free1_sc,Bool.and_true,Bool.true_and] at this
        exact this
      have key : ∀ (y : Ex) z,IsEx y z → z.free = true ∧ decide (z.cells.length = 4) = true := fun y z h => ⟨h.ok.1,by simpa using h.ok.2⟩
      generalize hkk : kindM lv (markAt l j) = kk at hk0 hkd
      have hbin : ∃ rb,PS l n (.bin (lv + 1)) d (j + 1) rb ∧ match rb with
          | .bad e j2 => r = .bad e j2
          | .ok y j2 => if lv = 2 then r = .ok (.mk kk 0 emp [x,y]) j2 else PS l n (.lp lv (.mk kk 0 emp [x,y])) d j2 r := by
        cases h with
        | lpE h => rw [hkk] at h; exact absurd h hk0
        | lpB h h1 => exact ⟨_,h1,rfl⟩
        | lp2 h h1 => exact ⟨_,h1,by rw [hkk]; simp⟩
        | lp h h0 h1 h2 => rw [hkk] at h2; exact ⟨_,h1,by simp only [if_neg h0]; exact h2⟩
      obtain ⟨rb,hb1,hb2⟩ := hbin
      have hB := ihb n (by omega) _ _ _ hb1
      simp only [c35,c35x1,c35x2,c35x3,c35x4,c35x5,c35x6,c35x7,c35x8,c35x9,c35x10,c35x11,RUA,RUB,RUC,RUD,RUE,RUF,if_true,if_false,Int.reduceEq,Int.reduceLT,Int.reduceLE,qC,qO,qA,qS,qU,Nat.reduceEqDiff,qT,E.at,qR,Nat.reduceAdd,Nat.reduceSub,Nat.reduceLeDiff,Nat.reduceMul,qI,qP,qQ,hone,hxo,hkd,wj,wl]
      refine ⟨?_, ?_⟩
      all_goals
        refine SFn.call1 hB rfl (by simp [V.free,V.free1]) rfl (pfr hw _ _ _) fun z os' hq => ?_
        rcases rb with ⟨y,j2⟩ | ⟨e,j2⟩
        · obtain ⟨hz,rfl⟩ := hq
          obtain ⟨k1,k2⟩ := key y z hz
          have hx' := ex_two (k := kk) hx hz
          refine ⟨_,rfl,pfr hw _ _ _,freeT_of k1, ?_⟩
          by_cases h2 : lv = 2
          · have hd2 : decide ((lv : Int) = 2) = true := by simp; omega
            simp only [if_pos h2] at hb2
            subst hb2
            simp only [c35,c35x1,c35x2,c35x3,c35x4,c35x5,c35x6,c35x7,c35x8,c35x9,c35x10,c35x11,c35x12,c35x13,c35x14,RUA,RUB,RUC,RUD,RUE,RUF,if_true,if_false,Int.reduceEq,Int.reduceLT,Int.reduceLE,qC,qO,qA,qS,qU,Nat.reduceEqDiff,qT,E.at,qR,Nat.reduceAdd,Nat.reduceSub,Nat.reduceLeDiff,Nat.reduceMul,qI,qP,qQ,hone,hxo,hxf,k1,k2,fillC,hd2]
            refine hret _ ?_
            simp only [KP,RUA,RUB,RUC,RUD,RUE,RUF,if_true,if_false,Int.reduceEq,Int.reduceLT,Int.reduceLE,qC,qO,qA,qS,qU,Nat.reduceEqDiff,qT,E.at,qR,Nat.reduceAdd,Nat.reduceSub,Nat.reduceLeDiff,Nat.reduceMul,qI,qP,qQ,hone,hxo,rets,List.take]
            exact ⟨_,_,fin1 (pfr hw _ _ _) (freeT_of hx'.ok.1),hx',rfl⟩
          · have hd2 : decide ((lv : Int) = 2) = false := by simp; omega
            simp only [if_neg h2] at hb2
            simp only [c35,c35x1,c35x2,c35x3,c35x4,c35x5,c35x6,c35x7,c35x8,c35x9,c35x10,c35x11,c35x12,c35x13,c35x14,RUA,RUB,RUC,RUD,RUE,RUF,if_true,if_false,Int.reduceEq,Int.reduceLT,Int.reduceLE,qC,qO,qA,qS,qU,Nat.reduceEqDiff,qT,E.at,qR,Nat.reduceAdd,Nat.reduceSub,Nat.reduceLeDiff,Nat.reduceMul,qI,qP,qQ,hone,hxo,hxf,k1,k2,fillC,hd2]
            refine hgo _ (Lfp.step (gBody_mono (ev_mono call_le lfp_le _ _ _ _ hy)) ?_)
            unfold gBody
            simp only [s_seq,s_skip]
            refine ih (by omega) _ _ _ _ hb2 _ _ _ _ _ hx' hy _ ?_ ?_ _ _ _ _ _ _ _ _ _ _ _ _ _ _ _ _ _ _ _ _ _ _ _ _ _ _ _ _ _ _ _ _ _ _ _ _ _ _ _ _ _ _ _ _
            · exact fun f' h => h
            · exact fun f' h => h
        · obtain ⟨⟨y,hz⟩,he,rfl⟩ := hq
          obtain ⟨k1,k2⟩ := key y z hz
          have hx' := ex_two (k := kk) hx hz
          dsimp only at hb2
          subst hb2
          refine ⟨_,rfl,pfr hw _ _ _,freeT_of k1, ?_⟩
          by_cases h2 : lv = 2
          · have hd2 : decide ((lv : Int) = 2) = true := by simp; omega
            simp only [c35,c35x1,c35x2,c35x3,c35x4,c35x5,c35x6,c35x7,c35x8,c35x9,c35x10,c35x11,c35x12,c35x13,c35x14,RUA,RUB,RUC,RUD,RUE,RUF,if_true,if_false,Int.reduceEq,Int.reduceLT,Int.reduceLE,qC,qO,qA,qS,qU,Nat.reduceEqDiff,qT,E.at,qR,Nat.reduceAdd,Nat.reduceSub,Nat.reduceLeDiff,Nat.reduceMul,qI,qP,qQ,hone,hxo,hxf,k1,k2,fillC,hd2]
            refine hret _ ?_
            simp only [KP,RUA,RUB,RUC,RUD,RUE,RUF,if_true,if_false,Int.reduceEq,Int.reduceLT,Int.reduceLE,qC,qO,qA,qS,qU,Nat.reduceEqDiff,qT,E.at,qR,Nat.reduceAdd,Nat.reduceSub,Nat.reduceLeDiff,Nat.reduceMul,qI,qP,qQ,hone,hxo,rets,List.take]
            exact ⟨_,_,fin1 (pfr hw _ _ _) (freeT_of hx'.ok.1),⟨_,hx'⟩,he,rfl⟩
          · have hd2 : decide ((lv : Int) = 2) = false := by simp; omega
            simp only [c35,c35x1,c35x2,c35x3,c35x4,c35x5,c35x6,c35x7,c35x8,c35x9,c35x10,c35x11,c35x12,c35x13,c35x14,RUA,RUB,RUC,RUD,RUE,RUF,if_true,if_false,Int.reduceEq,Int.reduceLT,Int.reduceLE,qC,qO,qA,qS,qU,Nat.reduceEqDiff,qT,E.at,qR,Nat.reduceAdd,Nat.reduceSub,Nat.reduceLeDiff,Nat.reduceMul,qI,qP,qQ,hone,hxo,hxf,k1,k2,fillC,hd2]
            refine hgo _ (Lfp.step (gBody_mono (ev_mono call_le lfp_le _ _ _ _ hy)) ?_)
            unfold gBody
            simp only [s_seq,s_skip]
            refine head_e hw he hy _ ?_ _ _ _ _ _ _ _ _ _ _ _ _ _ _ _ _ _ _ _ _ _ _ _ _ _ _ _ _ _ _ _ _ _ _ _ _ _ _ _ _ _ _ _ _
            exact fun f' h => h
end
end Go.Proofs.YtjfnhpnfkknmoaaDoor
end

section
set_option linter.unusedVariables false
set_option linter.unusedSimpArgs false
set_option maxRecDepth 100000
set_option maxHeartbeats 8000000
open Go.Proofs.Pe renaming putCells → qC, bslOf → qO, bsaOf → qA, bslS → qS, isUpto → qU, step → qT, intOf → qI, iop → qP, sop → qQ
open List renaming replicate → qR
open Go.Proofs.Pe.V renaming dead → qD
namespace Go.Proofs.YtjfnhpnfkknmoaaDoor
open Go.Proofs.Pe

theorem bin_c {w : V} {l : List Sg} (hw : IsSl 3 w (l.map Sg.v)) (hl : l.length ≤ lim) {n lv d i : Nat} {r : PR} (h : PS l (n + 1) (.bin lv) d i r) (ih : ∀ m,m ≤ n → ∀ w' d i r,PS l m w' d i r → G w w' d i r) : G w (.bin lv) d i r := by
  have hone : w.one = true := free1_one hw.free
  have hrl : ∀ o,rowOf o (.sl 2 true lvlsV) = some lvlsV := fun o => rfl
  have hll : lvlsV.length = 5 := rfl
  intro yi hy
  refine Call.step hy ?_
  rw [body_eq t35]
  cases h with
  | bin5 h1 =>
    have hB := ih n (Nat.le_refl _) _ _ _ _ h1
    simp only [c35,c35x1,RUA,RUB,RUC,RUD,RUE,RUF,if_true,if_false,Int.reduceEq,Int.reduceLT,Int.reduceLE,qC,qO,qA,qS,qU,Nat.reduceEqDiff,qT,E.at,qR,Nat.reduceAdd,Nat.reduceSub,Nat.reduceLeDiff,Nat.reduceMul,qI,qP,qQ,s_scopeG,hone]
    refine pcall levels_p rfl (by simp) ?_
    have hd : decide (((5 : Nat) : Int) = 5) = true := rfl
    simp only [c35,c35x1,c35x2,c35x3,RUA,RUB,RUC,RUD,RUE,RUF,if_true,if_false,Int.reduceEq,Int.reduceLT,Int.reduceLE,qC,qO,qA,qS,qU,Nat.reduceEqDiff,qT,E.at,qR,Nat.reduceAdd,Nat.reduceSub,Nat.reduceLeDiff,Nat.reduceMul,qI,qP,qQ,s_scopeG,hone,hrl,hll,hd]
    refine SFn.call1 hB rfl (by simp) rfl (pfr hw _ _ _) fun z os' hq => ?_
    rcases r with ⟨x,j⟩ | ⟨e,j⟩
    · obtain ⟨hx,rfl⟩ := hq
      have hx' := hx
      obtain ⟨a,b,c,dd,rfl,ho⟩ := ex_agg hx
      refine ⟨_,rfl,pfr hw _ _ _,freeT_of hx'.ok.1, ?_⟩
      simp only [c35,c35x1,c35x2,c35x3,RUA,RUB,RUC,RUD,RUE,RUF,if_true,if_false,Int.reduceEq,Int.reduceLT,Int.reduceLE,qC,qO,qA,qS,qU,Nat.reduceEqDiff,qT,E.at,qR,Nat.reduceAdd,Nat.reduceSub,Nat.reduceLeDiff,Nat.reduceMul,qI,qP,qQ,hone,ho,rets,List.take]
      exact ⟨_,_,fin1 (pfr hw _ _ _) (freeT_of hx'.ok.1),hx',rfl⟩
    · obtain ⟨⟨x,hx⟩,he,rfl⟩ := hq
      have hx' := hx
      obtain ⟨a,b,c,dd,rfl,ho⟩ := ex_agg hx
      refine ⟨_,rfl,pfr hw _ _ _,freeT_of hx'.ok.1, ?_⟩
      simp only [c35,c35x1,c35x2,c35x3,RUA,RUB,RUC,RUD,RUE,RUF,if_true,if_false,Int.reduceEq,Int.reduceLT,Int.reduceLE,qC,qO,qA,qS,qU,Nat.reduceEqDiff,qT,E.at,qR,Nat.reduceAdd,Nat.reduceSub,Nat.reduceLeDiff,Nat.reduceMul,qI,qP,qQ,hone,ho,rets,List.take]
      exact ⟨_,_,fin1 (pfr hw _ _ _) (freeT_of hx'.ok.1),⟨_,hx'⟩,he,rfl⟩
  | binB hlv h1 =>
    have hB := ih n (Nat.le_refl _) _ _ _ _ h1
    have wl : IntKind.i64.wrap ((lv : Int) + 1) = ((lv + 1 : Nat) : Int) := wrap_succ (by omega)
    have hd : decide ((lv : Int) = ((5 : Nat) : Int)) = false := by simp; omega
    simp only [c35,c35x1,RUA,RUB,RUC,RUD,RUE,RUF,if_true,if_false,Int.reduceEq,Int.reduceLT,Int.reduceLE,qC,qO,qA,qS,qU,Nat.reduceEqDiff,qT,E.at,qR,Nat.reduceAdd,Nat.reduceSub,Nat.reduceLeDiff,Nat.reduceMul,qI,qP,qQ,s_scopeG,hone]
    refine pcall levels_p rfl (by simp) ?_
    simp only [c35,c35x1,c35x2,c35x3,c35x4,RUA,RUB,RUC,RUD,RUE,RUF,if_true,if_false,Int.reduceEq,Int.reduceLT,Int.reduceLE,qC,qO,qA,qS,qU,Nat.reduceEqDiff,qT,E.at,qR,Nat.reduceAdd,Nat.reduceSub,Nat.reduceLeDiff,Nat.reduceMul,qI,qP,qQ,s_scopeG,hone,hrl,hll,hd,wl]
    refine SFn.call1 hB rfl (by simp [V.free,V.free1]) rfl (pfr hw _ _ _) fun z os' hq => ?_
    obtain ⟨⟨x,hx⟩,he,rfl⟩ := hq
    have hx' := hx
    obtain ⟨a,b,c,dd,rfl,ho⟩ := ex_agg hx
    refine ⟨_,rfl,pfr hw _ _ _,freeT_of hx'.ok.1, ?_⟩
    simp only [c35,c35x1,c35x2,c35x3,c35x4,RUA,RUB,RUC,RUD,RUE,RUF,if_true,if_false,Int.reduceEq,Int.reduceLT,Int.reduceLE,qC,qO,qA,qS,qU,Nat.reduceEqDiff,qT,E.at,qR,Nat.reduceAdd,Nat.reduceSub,Nat.reduceLeDiff,Nat.reduceMul,qI,qP,qQ,hone,ho]
    refine head_e hw he hy _ ?_ _ _ _ _ _ _ _ _ _ _ _ _ _ _ _ _ _ _ _ _ _ _ _ _ _ _ _ _ _ _ _ _ _ _ _ _ _ _ _ _ _ _ _ _
    exact fun f' h => h
  | bin hlv h1 h2 =>
    have hB := ih n (Nat.le_refl _) _ _ _ _ h1
    have wl : IntKind.i64.wrap ((lv : Int) + 1) = ((lv + 1 : Nat) : Int) := wrap_succ (by omega)
    have hd : decide ((lv : Int) = ((5 : Nat) : Int)) = false := by simp; omega
    simp only [c35,c35x1,RUA,RUB,RUC,RUD,RUE,RUF,if_true,if_false,Int.reduceEq,Int.reduceLT,Int.reduceLE,qC,qO,qA,qS,qU,Nat.reduceEqDiff,qT,E.at,qR,Nat.reduceAdd,Nat.reduceSub,Nat.reduceLeDiff,Nat.reduceMul,qI,qP,qQ,s_scopeG,hone]
    refine pcall levels_p rfl (by simp) ?_
    simp only [c35,c35x1,c35x2,c35x3,c35x4,RUA,RUB,RUC,RUD,RUE,RUF,if_true,if_false,Int.reduceEq,Int.reduceLT,Int.reduceLE,qC,qO,qA,qS,qU,Nat.reduceEqDiff,qT,E.at,qR,Nat.reduceAdd,Nat.reduceSub,Nat.reduceLeDiff,Nat.reduceMul,qI,qP,qQ,s_scopeG,hone,hrl,hll,hd,wl]
    refine SFn.call1 hB rfl (by simp [V.free,V.free1]) rfl (pfr hw _ _ _) fun z os' hq => ?_
    obtain ⟨hx,rfl⟩ := hq
    have hx' := hx
    obtain ⟨a,b,c,dd,rfl,ho⟩ := ex_agg hx
    refine ⟨_,rfl,pfr hw _ _ _,freeT_of hx'.ok.1, ?_⟩
    simp only [c35,c35x1,c35x2,c35x3,c35x4,RUA,RUB,RUC,RUD,RUE,RUF,if_true,if_false,Int.reduceEq,Int.reduceLT,Int.reduceLE,qC,qO,qA,qS,qU,Nat.reduceEqDiff,qT,E.at,qR,Nat.reduceAdd,Nat.reduceSub,Nat.reduceLeDiff,Nat.reduceMul,qI,qP,qQ,hone,ho]
    refine head_c hw hl hlv (N := n) (fun m hm d i r h => ih m (by omega) _ _ _ _ h) n (Nat.le_refl _) _ _ _ _ h2 _ _ _ _ _ hx' hy _ ?_ ?_ _ _ _ _ _ _ _ _ _ _ _ _ _ _ _ _ _ _ _ _ _ _ _ _ _ _ _ _ _ _ _ _ _ _ _ _ _ _ _ _ _ _ _ _
    · exact fun f' h => h
    · exact fun f' h => h
theorem reads {w : V} {l : List Sg} (hw : IsSl 3 w (l.map Sg.v)) (hl : l.length ≤ lim) (hok : ∀ s ∈ l,SgOk s) : ∀ (n : Nat),∀ m,m ≤ n → ∀ w' d i r,PS l m w' d i r → G w w' d i r := by
  intro n
  induction n with
  | zero =>
    intro m hm w' d i r h
    have : m = 0 := by omega
    subst this
    cases h
  | succ n ih =>
    intro m hm w' d i r h
    by_cases hmn : m ≤ n
    · exact ih m hmn w' d i r h
    have : m = n + 1 := by omega
    subst this
    cases w' with
    | un => exact un_c hw hl hok h (ih n (Nat.le_refl _))
    | bin lv => exact bin_c hw hl h ih
    | lp lv x => exact trivial
def PV : PR → V → Prop
  | .ok x j,z => ∃ zx,z = .tup [zx,iV j,iV 0] ∧ IsEx x zx
  | .bad e j,z => ∃ zx,z = .tup [zx,iV j,iV e] ∧ IsEx (.mk 0 0 emp []) zx
theorem parse_p {w : V} {l : List Sg} (hw : IsSl 3 w (l.map Sg.v)) (hl : l.length ≤ lim) (hok : ∀ s ∈ l,SgOk s) {n : Nat} {r : PR} (h : PS l n (.bin 0) 0 0 r) : PFn Tryd.prog T 16 [w] (PV r) := by
  have hone : w.one = true := free1_one hw.free
  have hws : w.solid = true := hw.solid
  have hwc : w.cells = [w] := hw.cells
  have hB : SFn Tryd.prog T 35 [.pt 0 0,iV 0] [.cells [w,iV 0,iV 0,iV 0]] (Post w 0 r) := reads hw hl hok n n (Nat.le_refl _) _ _ _ _ h
  intro yi hy
  refine Call.step hy ?_
  rw [body_eq t16]
  simp only [c16,c16x1,c16x2,RUA,RUB,RUC,RUD,RUE,RUF,if_true,if_false,Int.reduceEq,Int.reduceLT,Int.reduceLE,qC,qO,qA,qS,qU,Nat.reduceEqDiff,qT,E.at,qR,Nat.reduceAdd,Nat.reduceSub,Nat.reduceLeDiff,Nat.reduceMul,qI,qP,qQ,hone,hws,hwc,fillC]
  refine SFn.callP (l := 1) (zs := [.pt 0 0,iV 0]) hB rfl (cm_pt (cm_free rfl cm_nil)) rfl rfl (pfr hw 0 0 0) fun z os' hq => ?_
  rcases r with ⟨x,j⟩ | ⟨e,j⟩
  · obtain ⟨hx,rfl⟩ := hq
    have hx' := hx
    obtain ⟨a,b,c,dd,rfl,ho⟩ := ex_agg hx
    refine ⟨_,rfl,pfr hw _ _ _,freeT_of hx'.ok.1, ?_⟩
    simp only [c16,c16x1,c16x2,c16x3,c16x4,c16x5,RUA,RUB,RUC,RUD,RUE,RUF,if_true,if_false,Int.reduceEq,Int.reduceLT,Int.reduceLE,qC,qO,qA,qS,qU,Nat.reduceEqDiff,qT,E.at,qR,Nat.reduceAdd,Nat.reduceSub,Nat.reduceLeDiff,Nat.reduceMul,qI,qP,qQ,hone,ho,rets,List.take]
    repeat' apply And.intro
    all_goals exact ⟨_,_,frzT_3 (frzD_free hx'.ok.1) rfl rfl,_,rfl,hx'⟩
  · obtain ⟨⟨x,hx⟩,he,rfl⟩ := hq
    have hx' := hx
    obtain ⟨a,b,c,dd,rfl,ho⟩ := ex_agg hx
    have hd : decide ((e : Int) = 0) = false := by simp; omega
    refine ⟨_,rfl,pfr hw _ _ _,freeT_of hx'.ok.1, ?_⟩
    simp only [c16,c16x1,c16x2,c16x3,c16x4,c16x5,RUA,RUB,RUC,RUD,RUE,RUF,if_true,if_false,Int.reduceEq,Int.reduceLT,Int.reduceLE,qC,qO,qA,qS,qU,Nat.reduceEqDiff,qT,E.at,qR,Nat.reduceAdd,Nat.reduceSub,Nat.reduceLeDiff,Nat.reduceMul,qI,qP,qQ,hone,ho,hd,fillC,rets,List.take]
    repeat' apply And.intro
    all_goals exact ⟨_,_,frzT_3 (frzD_free zIs.ok.1) rfl rfl,_,rfl,zIs⟩
end Go.Proofs.YtjfnhpnfkknmoaaDoor
end

/- Parts of the texts that the claim's proof needs: functions of the program as the evaluator reads them, and what they come to. Conditions: those that its theorems state. -/
import Derived.Test.YtfncfdiomolieaaTF

section
set_option linter.unusedVariables false
set_option linter.unusedSimpArgs false
set_option maxRecDepth 100000
set_option maxHeartbeats 8000000
open Go.Proofs.Pe renaming putCells → qC, bslOf → qO, bsaOf → qA, bslS → qS, isUpto → qU, step → qT, intOf → qI, iop → qP, sop → qQ
open List renaming replicate → qR
open Go.Proofs.Pe.V renaming dead → qD
namespace Go.Proofs.Ytfncfdiomolieaa
open Go.Proofs.Pe
def bnd (i : Nat) : Nat := 6 * 2 ^ i
theorem bnd_succ (i : Nat) : bnd (i + 1) = 2 * bnd i := by unfold bnd; rw [Nat.pow_succ]; omega
theorem bnd_pos (i : Nat) : 6 ≤ bnd i := by unfold bnd; have := Nat.one_le_two_pow (n := i); omega
theorem bnd_le {i : Nat} (h : i ≤ 15) : bnd i ≤ 196608 := by unfold bnd; have := Nat.pow_le_pow_right (n := 2) (by decide) h; omega
theorem gl_app (o : List O) (c : O) : (o ++ [c])[o.length]? = some c := by simp
theorem sl_app (o : List O) (c d : O) : (o ++ [c]).set o.length d = o ++ [d] := by simp
theorem gl_app2 (o : List O) (c d : O) : (o ++ [c] ++ [d])[o.length]? = some c := by simp
theorem stacksAll_call (x : V) (w : ∃ n,VT Try.prog n 35 [x]) (n : Int) (w1 : (Lit.int .i64 n).wf = true) (y : V) (w2 : ∃ n,VT Try.prog n 48 [y]) : Pe.Call Try.prog T noY 6 [x,.sc (.int .i64 n),y] [] (fun y _ => y = .sc (.bool true)) := by
  obtain ⟨m,hm⟩ := w
  obtain ⟨l,vs,h1,h3,h2⟩ := (r3_of rT m).2 x hm
  refine Call.step noY_le ?_
  rw [body_eq t6]
  simp only [c6,c6x1,c6x2,RUA,RUB,RUC,RUD,RUE,RUF,if_true,if_false,Int.reduceEq,Int.reduceLT,Int.reduceLE,qC,qO,qA,qS,qU,Nat.reduceEqDiff,qT,E.at,qR,Nat.reduceAdd,Nat.reduceSub,Nat.reduceLeDiff,Nat.reduceMul,qI,qP,qQ]
  refine known6_p.callE rfl rfl rfl ?_
  simp only [c6,c6x1,c6x2,c6x3,RUA,RUB,RUC,RUD,RUE,RUF,if_true,if_false,Int.reduceEq,Int.reduceLT,Int.reduceLE,qC,qO,qA,qS,qU,Nat.reduceEqDiff,qT,E.at,qR,Nat.reduceAdd,Nat.reduceSub,Nat.reduceLeDiff,Nat.reduceMul,qI,qP,qQ]
  refine (few_p h1 h3 h2).callB rfl (cf1 h1.freeV _) (fun z hz => by obtain ⟨b,rfl,_⟩ := hz; rfl) fun z hz => ?_
  obtain ⟨b,rfl,hb⟩ := hz
  cases b with
  | false => simp only [c6,c6x1,c6x2,c6x3,c6x4,RUA,RUB,RUC,RUD,RUE,RUF,if_true,if_false,Int.reduceEq,Int.reduceLT,Int.reduceLE,qC,qO,qA,qS,qU,Nat.reduceEqDiff,qT,E.at,qR,Nat.reduceAdd,Nat.reduceSub,Nat.reduceLeDiff,Nat.reduceMul,qI,qP,qQ]
  | true =>
  simp only [c6,c6x1,c6x2,c6x3,c6x4,c6x5,RUA,RUB,RUC,RUD,RUE,RUF,if_true,if_false,Int.reduceEq,Int.reduceLT,Int.reduceLE,qC,qO,qA,qS,qU,Nat.reduceEqDiff,qT,E.at,qR,Nat.reduceAdd,Nat.reduceSub,Nat.reduceLeDiff,Nat.reduceMul,qI,qP,qQ]
  refine (make6_p h1 h3 (hb rfl) n).callF rfl (fun x hx => by simp only [List.mem_cons,List.not_mem_nil,or_false] at hx; rcases hx with rfl | rfl <;> first | exact h1.freeV | rfl) fun s hs => ?_
  obtain ⟨S,hS,hS1,hS3,hS5⟩ := hs
  have G : Stk3 S s := ⟨hS,hS1,hS3,hS5⟩
  obtain ⟨rows,hr,hrl⟩ := hS.len
  have hrl' : (rows.length : Int) = (S.length : Int) := by omega
  have c5 := G.get
  obtain ⟨m2,hm2⟩ := w2
  obtain ⟨zs,z1,z2,z3⟩ := ints_of Try.underlying3 Try.underlying48 (by kernel_rfl) hm2
  have hzr := fun o => z1.row o
  have hvr := fun o => h1.row o
  have hvl := hb rfl
  have hvl2 := h3.len
  clear hb
  try simp only [c6,c6x1,c6x2,c6x3,c6x4,c6x5,c6x6,c6x7,c6x8,RUA,RUB,RUC,RUD,RUE,RUF,if_true,if_false,Int.reduceEq,Int.reduceLT,Int.reduceLE,qC,qO,qA,qS,qU,Nat.reduceEqDiff,qT,E.at,qR,Nat.reduceAdd,Nat.reduceSub,Nat.reduceLeDiff,Nat.reduceMul,qI,qP,qQ]
  refine Lfp.inv call_le noY_le (fun a : Nat × List (List Pe.Tm) × V × V × List O => ⟨⟨(x :: qD::y :: qD::qD::qD::qD::a.2.2.1 :: a.2.2.2.1 :: iV a.1 :: qD::qD::qD::qD::qD::qD::qD::qD::qD::qD::qD::qD::qD::qD::qD::qD::qD::qD::qD::qD::qD::qD::qD::qD::qD::qD::qD::qD::qD::qD::qD::qD::qD::qD::qD::qD::qD::qD::qD::qD::qD::qD::qD::qD::qD::qD::qD::qD::qD::qD::qD::qD::qD::qD::qD::qD::qD::qD::qD::qD::qD::qD::qD::qD::qD::qD::qD::qD::qD::qD::qD::qD::qD::qD::qD::qD::qD::qD::qD::qD::qD::qD::qD::qD::qD::qD::qD::qD::qD::qD::qD::qD::qD::qD::qD::qD::qD::qD::qD::qD::qD::qD::qD::qD::qD::qD::qD::qD::qD::qD::qD::qD::qD::qD::qD::qD::qD::qD::qD::qD::qD::[]),a.2.2.2.2⟩,[]⟩) (fun a => 15 - a.1) (fun a => a.1 ≤ 15 ∧ IsStk a.2.1 a.2.2.1 ∧ IsStk a.2.1 a.2.2.2.1 ∧ a.2.1.length = S.length ∧ ∀ j,(a.2.1.getD j []).length + 1 ≤ bnd a.1) (0,S,s,s,[]) ⟨Nat.zero_le _,hS,hS,rfl,fun j => by have := c5 j; have := bnd_pos 0; simp only; omega⟩ (by simp only [kill_L,killTs_nil,RUF] <;> rfl) ?_
  rintro ⟨i,S',s',x',o'⟩ ⟨hi,hs,hx',hlen,hb⟩
  dsimp only at hi hs hx' hlen hb
  have hw1 : IntKind.i64.wrap ((i : Int) + 1) = ((i + 1 : Nat) : Int) := wrap_succ (by omega)
  obtain ⟨sr,hsr,hsl⟩ := hs.len
  have hsl' : (sr.length : Int) = (S'.length : Int) := by omega
  have hpos := bnd_pos i
  have hble := bnd_le hi
  have capR : ∀ r ∈ S',r.length < cap := fun r hr => by
    obtain ⟨j,hj⟩ := List.mem_iff_getElem?.1 hr
    have := hb j
    rw [List.getD_eq_getElem?_getD,hj] at this
    simp only [Option.getD_some] at this
    unfold cap; omega
  by_cases hc : i < zs.length
  case neg =>
    have d1 : decide ((i : Int) < ((zs.map iV).length : Int)) = false := by simp; omega
    simp only [c6,c6x1,c6x2,c6x3,c6x4,c6x5,c6x6,c6x7,c6x8,c6x9,c6x10,c6x11,c6x12,c6x13,c6x14,c6x15,c6x16,c6x17,c6x18,c6x19,c6x20,c6x21,c6x22,c6x23,c6x24,c6x25,c6x26,c6x27,c6x28,RUA,RUB,RUC,RUD,RUE,RUF,if_true,if_false,Int.reduceEq,Int.reduceLT,Int.reduceLE,qC,qO,qA,qS,qU,Nat.reduceEqDiff,qT,E.at,qR,Nat.reduceAdd,Nat.reduceSub,Nat.reduceLeDiff,Nat.reduceMul,qI,qP,qQ,hzr,d1]
  have d1 : decide ((i : Int) < ((zs.map iV).length : Int)) = true := by simp; omega
  by_cases hc2 : i < 15
  case neg =>
    have d2 : decide ((i : Int) < 15) = false := by simp; omega
    simp only [c6,c6x1,c6x2,c6x3,c6x4,c6x5,c6x6,c6x7,c6x8,c6x9,c6x10,c6x11,c6x12,c6x13,c6x14,c6x15,c6x16,c6x17,c6x18,c6x19,c6x20,c6x21,c6x22,c6x23,c6x24,c6x25,c6x26,c6x27,c6x28,RUA,RUB,RUC,RUD,RUE,RUF,if_true,if_false,Int.reduceEq,Int.reduceLT,Int.reduceLE,qC,qO,qA,qS,qU,Nat.reduceEqDiff,qT,E.at,qR,Nat.reduceAdd,Nat.reduceSub,Nat.reduceLeDiff,Nat.reduceMul,qI,qP,qQ,hzr,d1,d2]
  have d2 : decide ((i : Int) < 15) = true := by simp; omega
  obtain ⟨c,hcz⟩ : ∃ c,zs[i]? = some c := ⟨_,List.getElem?_eq_getElem hc⟩
  have hzx : (zs.map iV)[i]? = some (iV c) := by simp [hcz]
  have hzI := fun o => z1.ix o hzx
  simp only [c6,c6x1,c6x2,c6x3,c6x4,c6x5,c6x6,c6x7,c6x8,c6x9,c6x10,c6x11,RUA,RUB,RUC,RUD,RUE,RUF,if_true,if_false,Int.reduceEq,Int.reduceLT,Int.reduceLE,qC,qO,qA,qS,qU,Nat.reduceEqDiff,qT,E.at,qR,Nat.reduceAdd,Nat.reduceSub,Nat.reduceLeDiff,Nat.reduceMul,qI,qP,qQ,hzr,d1,d2,hzI,hsr,hsl']
  refine (within6_p (IntKind.i64.wrap (c.tdiv 4)) (S'.length : Int) (by omega) (by omega)).callE rfl rfl rfl ?_
  obtain ⟨a,ha,la⟩ := natI (a := IntKind.i64.wrap (c.tdiv 4)) (n := (S'.length : Int)) (by omega)
  rw [ha]
  have la' : a < S'.length := by omega
  try simp only [c6,c6x1,c6x2,c6x3,c6x4,c6x5,c6x6,c6x7,c6x8,c6x9,c6x10,c6x11,RUA,RUB,RUC,RUD,RUE,RUF,if_true,if_false,Int.reduceEq,Int.reduceLT,Int.reduceLE,qC,qO,qA,qS,qU,Nat.reduceEqDiff,qT,E.at,qR,Nat.reduceAdd,Nat.reduceSub,Nat.reduceLeDiff,Nat.reduceMul,qI,qP,qQ,hzr,hzI,hsr,hsl']
  refine (within6_p (IntKind.i64.wrap (c.tdiv 13)) (S'.length : Int) (by omega) (by omega)).callE rfl rfl rfl ?_
  obtain ⟨b,hb',lb⟩ := natI (a := IntKind.i64.wrap (c.tdiv 13)) (n := (S'.length : Int)) (by omega)
  rw [hb']
  have lb' : b < S'.length := by omega
  by_cases hv0 : vs.length = 0
  · have d3 : decide ((0 : Int) < (vs.length : Int)) = false := by rw [hv0]; rfl
    try simp only [c6,c6x1,c6x2,c6x3,c6x4,c6x5,c6x6,c6x7,c6x8,c6x9,c6x10,c6x11,c6x12,c6x13,c6x14,c6x15,RUA,RUB,RUC,RUD,RUE,RUF,if_true,if_false,Int.reduceEq,Int.reduceLT,Int.reduceLE,qC,qO,qA,qS,qU,Nat.reduceEqDiff,qT,E.at,qR,Nat.reduceAdd,Nat.reduceSub,Nat.reduceLeDiff,Nat.reduceMul,qI,qP,qQ,hzr,hzI,hvr,d3,fillC]
    refine (within6_p c 4 (by decide) (by decide)).callE rfl rfl rfl ?_
    obtain ⟨k,hk,lk⟩ := natI (a := c) (n := 4) (by decide)
    rw [hk]
    have hk4 : k = 0 ∨ k = 1 ∨ k = 2 ∨ k = 3 := by omega
    rcases hk4 with rfl | rfl | rfl | rfl
    · try simp only [c6,c6x1,c6x2,c6x3,c6x4,c6x5,c6x6,c6x7,c6x8,c6x9,c6x10,c6x11,c6x12,c6x13,c6x14,c6x15,c6x16,c6x17,RUA,RUB,RUC,RUD,RUE,RUF,if_true,if_false,Int.reduceEq,Int.reduceLT,Int.reduceLE,qC,qO,qA,qS,qU,Nat.reduceEqDiff,qT,E.at,qR,Nat.reduceAdd,Nat.reduceSub,Nat.reduceLeDiff,Nat.reduceMul,qI,qP,qQ,gl_app,sl_app,fillC]
      refine (push_ok (at' := a) hs zeroTm la' (fun r hr => capR r hr)).callF rfl (vfrt hs _ zeroTm.ok.1) fun u hu => ?_
      try simp only [c6,c6x1,c6x2,c6x3,c6x4,c6x5,c6x6,c6x7,c6x8,c6x9,c6x10,c6x11,c6x12,c6x13,c6x14,c6x15,c6x16,c6x17,RUA,RUB,RUC,RUD,RUE,RUF,if_true,if_false,Int.reduceEq,Int.reduceLT,Int.reduceLE,qC,qO,qA,qS,qU,Nat.reduceEqDiff,qT,E.at,qR,Nat.reduceAdd,Nat.reduceSub,Nat.reduceLeDiff,Nat.reduceMul,qI,qP,qQ,gl_app,sl_app,fillC]
      refine (rpush_p (a := a) hx' zeroTm la' (by have := hb a; unfold cap; omega)).callF rfl (vfrt hx' _ zeroTm.ok.1) fun v hv => ?_
      try simp only [c6,c6x1,c6x2,c6x3,c6x4,c6x5,c6x6,c6x7,c6x8,c6x9,c6x10,c6x11,c6x12,c6x13,c6x14,c6x15,c6x16,c6x17,c6x18,c6x19,c6x20,c6x21,c6x22,c6x23,c6x24,c6x25,c6x26,c6x27,c6x28,RUA,RUB,RUC,RUD,RUE,RUF,if_true,if_false,Int.reduceEq,Int.reduceLT,Int.reduceLE,qC,qO,qA,qS,qU,Nat.reduceEqDiff,qT,E.at,qR,Nat.reduceAdd,Nat.reduceSub,Nat.reduceLeDiff,Nat.reduceMul,qI,qP,qQ]
      refine (sames_p hu hv).callE rfl (cf2 hu.freeV hv.freeV _) rfl ?_
      try simp only [c6x25,c6x26,RUA,RUB,RUC,RUD,RUE,RUF,if_true,if_false,Int.reduceEq,Int.reduceLT,Int.reduceLE,qC,qO,qA,qS,qU,Nat.reduceEqDiff,qT,E.at,qR,Nat.reduceAdd,Nat.reduceSub,Nat.reduceLeDiff,Nat.reduceMul,qI,qP,qQ]
      refine (psizes_p hu).callE rfl (cf1 hu.freeV _) rfl ?_
      try simp only [c6x25,c6x26,RUA,RUB,RUC,RUD,RUE,RUF,if_true,if_false,Int.reduceEq,Int.reduceLT,Int.reduceLE,qC,qO,qA,qS,qU,Nat.reduceEqDiff,qT,E.at,qR,Nat.reduceAdd,Nat.reduceSub,Nat.reduceLeDiff,Nat.reduceMul,qI,qP,qQ]
      refine (rsizes_p hv).callE rfl (cf1 hv.freeV _) rfl ?_
      try simp only [c6x25,c6x26,c6x27,RUA,RUB,RUC,RUD,RUE,RUF,if_true,if_false,Int.reduceEq,Int.reduceLT,Int.reduceLE,qC,qO,qA,qS,qU,Nat.reduceEqDiff,qT,E.at,qR,Nat.reduceAdd,Nat.reduceSub,Nat.reduceLeDiff,Nat.reduceMul,qI,qP,qQ,dn,hw1]
      refine ⟨(i + 1,_,u,v,_),⟨?_,hu,hv, ?_,fun j => ?_⟩, ?_,rfl⟩
      · simp only; omega
      · simp only [List.length_set]; omega
      · have q1 := hb j
        have q2 := hb a
        have q3 := hb b
        show _ ≤ bnd (i + 1)
        rw [bnd_succ]
        (try dsimp only); rw [gD_set la']; split
        · simp only [List.length_append,List.length_cons,List.length_nil]; omega
        · omega
      · simp only; omega
    · try simp only [c6,c6x1,c6x2,c6x3,c6x4,c6x5,c6x6,c6x7,c6x8,c6x9,c6x10,c6x11,c6x12,c6x13,c6x14,c6x15,c6x16,c6x17,c6x18,RUA,RUB,RUC,RUD,RUE,RUF,if_true,if_false,Int.reduceEq,Int.reduceLT,Int.reduceLE,qC,qO,qA,qS,qU,Nat.reduceEqDiff,qT,E.at,qR,Nat.reduceAdd,Nat.reduceSub,Nat.reduceLeDiff,Nat.reduceMul,qI,qP,qQ]
      refine (reverse_ok (at' := a) hs la').callF rfl (vfr hs _) fun z hz => ?_
      obtain ⟨t1,u,rfl,ht1,hu⟩ := hz
      have ht1' := ht1
      obtain ⟨k1,a1,b1,nm1,ek1,en1,em1,ev1,lv1,rfl,o1,o2,_,_⟩ := tmA ht1
      try simp only [c6,c6x1,c6x2,c6x3,c6x4,c6x5,c6x6,c6x7,c6x8,c6x9,c6x10,c6x11,c6x12,c6x13,c6x14,c6x15,c6x16,c6x17,c6x18,c6x19,RUA,RUB,RUC,RUD,RUE,RUF,if_true,if_false,Int.reduceEq,Int.reduceLT,Int.reduceLE,qC,qO,qA,qS,qU,Nat.reduceEqDiff,qT,E.at,qR,Nat.reduceAdd,Nat.reduceSub,Nat.reduceLeDiff,Nat.reduceMul,qI,qP,qQ,o1,o2,gl_app,sl_app]
      refine (rreverse_p (a := a) hx' la').callF rfl (vfr hx' _) fun z hz => ?_
      obtain ⟨t2,v,rfl,ht2,hv⟩ := hz
      have ht2' := ht2
      obtain ⟨k2,a2,b2,nm2,ek2,en2,em2,ev2,lv2,rfl,o3,o4,_,_⟩ := tmA ht2
      try simp only [c6,c6x1,c6x2,c6x3,c6x4,c6x5,c6x6,c6x7,c6x8,c6x9,c6x10,c6x11,c6x12,c6x13,c6x14,c6x15,c6x16,c6x17,c6x18,c6x19,c6x20,c6x21,RUA,RUB,RUC,RUD,RUE,RUF,if_true,if_false,Int.reduceEq,Int.reduceLT,Int.reduceLE,qC,qO,qA,qS,qU,Nat.reduceEqDiff,qT,E.at,qR,Nat.reduceAdd,Nat.reduceSub,Nat.reduceLeDiff,Nat.reduceMul,qI,qP,qQ,o1,o2,o3,o4,gl_app,sl_app,gl_app2]
      refine (sameT_p _ _ _ ht1' ht2').callE rfl (cf2 ht1'.ok.1 ht2'.ok.1 _) rfl ?_
      try simp only [c6,c6x1,c6x2,c6x3,c6x4,c6x5,c6x6,c6x7,c6x8,c6x9,c6x10,c6x11,c6x12,c6x13,c6x14,c6x15,c6x16,c6x17,c6x18,c6x19,c6x20,c6x21,c6x22,c6x23,c6x24,c6x25,c6x26,c6x27,c6x28,RUA,RUB,RUC,RUD,RUE,RUF,if_true,if_false,Int.reduceEq,Int.reduceLT,Int.reduceLE,qC,qO,qA,qS,qU,Nat.reduceEqDiff,qT,E.at,qR,Nat.reduceAdd,Nat.reduceSub,Nat.reduceLeDiff,Nat.reduceMul,qI,qP,qQ]
      refine (sames_p hu hv).callE rfl (cf2 hu.freeV hv.freeV _) rfl ?_
      try simp only [c6x25,c6x26,RUA,RUB,RUC,RUD,RUE,RUF,if_true,if_false,Int.reduceEq,Int.reduceLT,Int.reduceLE,qC,qO,qA,qS,qU,Nat.reduceEqDiff,qT,E.at,qR,Nat.reduceAdd,Nat.reduceSub,Nat.reduceLeDiff,Nat.reduceMul,qI,qP,qQ]
      refine (psizes_p hu).callE rfl (cf1 hu.freeV _) rfl ?_
      try simp only [c6x25,c6x26,RUA,RUB,RUC,RUD,RUE,RUF,if_true,if_false,Int.reduceEq,Int.reduceLT,Int.reduceLE,qC,qO,qA,qS,qU,Nat.reduceEqDiff,qT,E.at,qR,Nat.reduceAdd,Nat.reduceSub,Nat.reduceLeDiff,Nat.reduceMul,qI,qP,qQ]
      refine (rsizes_p hv).callE rfl (cf1 hv.freeV _) rfl ?_
      try simp only [c6x25,c6x26,c6x27,RUA,RUB,RUC,RUD,RUE,RUF,if_true,if_false,Int.reduceEq,Int.reduceLT,Int.reduceLE,qC,qO,qA,qS,qU,Nat.reduceEqDiff,qT,E.at,qR,Nat.reduceAdd,Nat.reduceSub,Nat.reduceLeDiff,Nat.reduceMul,qI,qP,qQ,dn,hw1]
      refine ⟨(i + 1,_,u,v,_),⟨?_,hu,hv, ?_,fun j => ?_⟩, ?_,rfl⟩
      · simp only; omega
      · simp only [List.length_set]; omega
      · have q1 := hb j
        have q2 := hb a
        have q3 := hb b
        show _ ≤ bnd (i + 1)
        rw [bnd_succ]
        (try dsimp only); rw [gD_set la']; split
        · simp only [List.length_nil]; omega
        · omega
      · simp only; omega
    · try simp only [c6,c6x1,c6x2,c6x3,c6x4,c6x5,c6x6,c6x7,c6x8,c6x9,c6x10,c6x11,c6x12,c6x13,c6x14,c6x15,c6x16,c6x17,c6x18,c6x19,c6x20,c6x21,c6x22,c6x23,RUA,RUB,RUC,RUD,RUE,RUF,if_true,if_false,Int.reduceEq,Int.reduceLT,Int.reduceLE,qC,qO,qA,qS,qU,Nat.reduceEqDiff,qT,E.at,qR,Nat.reduceAdd,Nat.reduceSub,Nat.reduceLeDiff,Nat.reduceMul,qI,qP,qQ]
      refine (accept_ok (at' := a) hs la').callF rfl (vfr hs _) fun u hu => ?_
      try simp only [c6,c6x1,c6x2,c6x3,c6x4,c6x5,c6x6,c6x7,c6x8,c6x9,c6x10,c6x11,c6x12,c6x13,c6x14,c6x15,c6x16,c6x17,c6x18,c6x19,c6x20,c6x21,c6x22,c6x23,RUA,RUB,RUC,RUD,RUE,RUF,if_true,if_false,Int.reduceEq,Int.reduceLT,Int.reduceLE,qC,qO,qA,qS,qU,Nat.reduceEqDiff,qT,E.at,qR,Nat.reduceAdd,Nat.reduceSub,Nat.reduceLeDiff,Nat.reduceMul,qI,qP,qQ]
      refine (raccept_p (a := a) hx').callF rfl (vfr hx' _) fun v hv => ?_
      try simp only [c6,c6x1,c6x2,c6x3,c6x4,c6x5,c6x6,c6x7,c6x8,c6x9,c6x10,c6x11,c6x12,c6x13,c6x14,c6x15,c6x16,c6x17,c6x18,c6x19,c6x20,c6x21,c6x22,c6x23,c6x24,c6x25,c6x26,c6x27,c6x28,RUA,RUB,RUC,RUD,RUE,RUF,if_true,if_false,Int.reduceEq,Int.reduceLT,Int.reduceLE,qC,qO,qA,qS,qU,Nat.reduceEqDiff,qT,E.at,qR,Nat.reduceAdd,Nat.reduceSub,Nat.reduceLeDiff,Nat.reduceMul,qI,qP,qQ]
      refine (sames_p hu hv).callE rfl (cf2 hu.freeV hv.freeV _) rfl ?_
      try simp only [c6x25,c6x26,RUA,RUB,RUC,RUD,RUE,RUF,if_true,if_false,Int.reduceEq,Int.reduceLT,Int.reduceLE,qC,qO,qA,qS,qU,Nat.reduceEqDiff,qT,E.at,qR,Nat.reduceAdd,Nat.reduceSub,Nat.reduceLeDiff,Nat.reduceMul,qI,qP,qQ]
      refine (psizes_p hu).callE rfl (cf1 hu.freeV _) rfl ?_
      try simp only [c6x25,c6x26,RUA,RUB,RUC,RUD,RUE,RUF,if_true,if_false,Int.reduceEq,Int.reduceLT,Int.reduceLE,qC,qO,qA,qS,qU,Nat.reduceEqDiff,qT,E.at,qR,Nat.reduceAdd,Nat.reduceSub,Nat.reduceLeDiff,Nat.reduceMul,qI,qP,qQ]
      refine (rsizes_p hv).callE rfl (cf1 hv.freeV _) rfl ?_
      try simp only [c6x25,c6x26,c6x27,RUA,RUB,RUC,RUD,RUE,RUF,if_true,if_false,Int.reduceEq,Int.reduceLT,Int.reduceLE,qC,qO,qA,qS,qU,Nat.reduceEqDiff,qT,E.at,qR,Nat.reduceAdd,Nat.reduceSub,Nat.reduceLeDiff,Nat.reduceMul,qI,qP,qQ,dn,hw1]
      refine ⟨(i + 1,_,u,v,_),⟨?_,hu,hv, ?_,fun j => ?_⟩, ?_,rfl⟩
      · simp only; omega
      · simp only [List.length_set]; omega
      · have q1 := hb j
        have q2 := hb a
        have q3 := hb b
        show _ ≤ bnd (i + 1)
        rw [bnd_succ]
        (try dsimp only); rw [gD_set la']; split
        · simp only [List.length_nil]; omega
        · omega
      · simp only; omega
    · try simp only [c6,c6x1,c6x2,c6x3,c6x4,c6x5,c6x6,c6x7,c6x8,c6x9,c6x10,c6x11,c6x12,c6x13,c6x14,c6x15,c6x16,c6x17,c6x18,c6x19,c6x20,c6x21,c6x22,c6x23,c6x24,RUA,RUB,RUC,RUD,RUE,RUF,if_true,if_false,Int.reduceEq,Int.reduceLT,Int.reduceLE,qC,qO,qA,qS,qU,Nat.reduceEqDiff,qT,E.at,qR,Nat.reduceAdd,Nat.reduceSub,Nat.reduceLeDiff,Nat.reduceMul,qI,qP,qQ]
      refine (merge2_ok hs la' lb' (by have := hb a; have := hb b; unfold cap; omega)).callF rfl (vfr3 hs _ _) fun u hu => ?_
      try simp only [c6,c6x1,c6x2,c6x3,c6x4,c6x5,c6x6,c6x7,c6x8,c6x9,c6x10,c6x11,c6x12,c6x13,c6x14,c6x15,c6x16,c6x17,c6x18,c6x19,c6x20,c6x21,c6x22,c6x23,c6x24,RUA,RUB,RUC,RUD,RUE,RUF,if_true,if_false,Int.reduceEq,Int.reduceLT,Int.reduceLE,qC,qO,qA,qS,qU,Nat.reduceEqDiff,qT,E.at,qR,Nat.reduceAdd,Nat.reduceSub,Nat.reduceLeDiff,Nat.reduceMul,qI,qP,qQ]
      refine (rmerge2_p hx' la' lb' (by have := hb a; have := hb b; unfold cap; omega)).callF rfl (vfr3 hx' _ _) fun v hv => ?_
      try simp only [c6,c6x1,c6x2,c6x3,c6x4,c6x5,c6x6,c6x7,c6x8,c6x9,c6x10,c6x11,c6x12,c6x13,c6x14,c6x15,c6x16,c6x17,c6x18,c6x19,c6x20,c6x21,c6x22,c6x23,c6x24,c6x25,c6x26,c6x27,c6x28,RUA,RUB,RUC,RUD,RUE,RUF,if_true,if_false,Int.reduceEq,Int.reduceLT,Int.reduceLE,qC,qO,qA,qS,qU,Nat.reduceEqDiff,qT,E.at,qR,Nat.reduceAdd,Nat.reduceSub,Nat.reduceLeDiff,Nat.reduceMul,qI,qP,qQ]
      refine (sames_p hu hv).callE rfl (cf2 hu.freeV hv.freeV _) rfl ?_
      try simp only [c6x25,c6x26,RUA,RUB,RUC,RUD,RUE,RUF,if_true,if_false,Int.reduceEq,Int.reduceLT,Int.reduceLE,qC,qO,qA,qS,qU,Nat.reduceEqDiff,qT,E.at,qR,Nat.reduceAdd,Nat.reduceSub,Nat.reduceLeDiff,Nat.reduceMul,qI,qP,qQ]
      refine (psizes_p hu).callE rfl (cf1 hu.freeV _) rfl ?_
      try simp only [c6x25,c6x26,RUA,RUB,RUC,RUD,RUE,RUF,if_true,if_false,Int.reduceEq,Int.reduceLT,Int.reduceLE,qC,qO,qA,qS,qU,Nat.reduceEqDiff,qT,E.at,qR,Nat.reduceAdd,Nat.reduceSub,Nat.reduceLeDiff,Nat.reduceMul,qI,qP,qQ]
      refine (rsizes_p hv).callE rfl (cf1 hv.freeV _) rfl ?_
      try simp only [c6x25,c6x26,c6x27,RUA,RUB,RUC,RUD,RUE,RUF,if_true,if_false,Int.reduceEq,Int.reduceLT,Int.reduceLE,qC,qO,qA,qS,qU,Nat.reduceEqDiff,qT,E.at,qR,Nat.reduceAdd,Nat.reduceSub,Nat.reduceLeDiff,Nat.reduceMul,qI,qP,qQ,dn,hw1]
      refine ⟨(i + 1,_,u,v,_),⟨?_,hu,hv, ?_,fun j => ?_⟩, ?_,rfl⟩
      · simp only; omega
      · show (mrg S' a b).length = _; rw [mrg_len]; omega
      · have q1 := hb j
        have q2 := hb a
        have q3 := hb b
        show _ ≤ bnd (i + 1)
        rw [bnd_succ]
        show ((mrg S' a b).getD j []).length + 1 ≤ _
        rw [mrg_gD la' lb']
        repeat' split
        all_goals (try simp only [List.length_append,List.length_nil]) <;> omega
      · simp only; omega
  · have d3 : decide ((0 : Int) < (vs.length : Int)) = true := by rw [decide_eq_true_eq]; omega
    try simp only [c6,c6x1,c6x2,c6x3,c6x4,c6x5,c6x6,c6x7,c6x8,c6x9,c6x10,c6x11,c6x12,c6x13,c6x14,RUA,RUB,RUC,RUD,RUE,RUF,if_true,if_false,Int.reduceEq,Int.reduceLT,Int.reduceLE,qC,qO,qA,qS,qU,Nat.reduceEqDiff,qT,E.at,qR,Nat.reduceAdd,Nat.reduceSub,Nat.reduceLeDiff,Nat.reduceMul,qI,qP,qQ,hzr,hzI,hvr,d3,fillC]
    refine (within6_p (IntKind.i64.wrap (c.tdiv 50)) (vs.length : Int) (by omega) (by omega)).callE rfl rfl rfl ?_
    obtain ⟨e,he,le⟩ := natI (a := IntKind.i64.wrap (c.tdiv 50)) (n := (vs.length : Int)) (by omega)
    rw [he]
    have le' : e < vs.length := by omega
    obtain ⟨rv,hrv⟩ : ∃ rv,vs[e]? = some rv := ⟨_,List.getElem?_eq_getElem le'⟩
    obtain ⟨re,hre⟩ : ∃ re,l[e]? = some re := ⟨_,List.getElem?_eq_getElem (by omega)⟩
    have hR := h3.get hrv hre
    have hR' := hR
    have hRok := hR.ok
    have hIe := fun o => h1.ix o hrv
    rcases re with ⟨k9,a9,b9,e9,l9⟩
    obtain ⟨ev9,evs9,lv9,vs9,rfl,f1,f2,f3,f4,f5,f6⟩ := hR
    have hn1 : ev9.one = true := free1_one f1.free
    have hn2 : lv9.one = true := free1_one f4.free
    try simp only [c6,c6x1,c6x2,c6x3,c6x4,c6x5,c6x6,c6x7,c6x8,c6x9,c6x10,c6x11,c6x12,c6x13,c6x14,RUA,RUB,RUC,RUD,RUE,RUF,if_true,if_false,Int.reduceEq,Int.reduceLT,Int.reduceLE,qC,qO,qA,qS,qU,Nat.reduceEqDiff,qT,E.at,qR,Nat.reduceAdd,Nat.reduceSub,Nat.reduceLeDiff,Nat.reduceMul,qI,qP,qQ,hIe,hn1,hn2]
    refine (make5_p hR').callF rfl (fun q hq => by simp only [List.mem_cons,List.not_mem_nil,or_false] at hq; rcases hq with rfl | rfl <;> first | exact hRok.1 | rfl) fun tz htz => ?_
    obtain ⟨tx,htx⟩ := htz
    have htx' := htx
    obtain ⟨k8,a8,b8,nm8,ek8,en8,em8,ev8,lv8,rfl,o8,o9,o8f,o9f⟩ := tmA htx
    try simp only [c6,c6x1,c6x2,c6x3,c6x4,c6x5,c6x6,c6x7,c6x8,c6x9,c6x10,c6x11,c6x12,c6x13,c6x14,c6x15,RUA,RUB,RUC,RUD,RUE,RUF,if_true,if_false,Int.reduceEq,Int.reduceLT,Int.reduceLE,qC,qO,qA,qS,qU,Nat.reduceEqDiff,qT,E.at,qR,Nat.reduceAdd,Nat.reduceSub,Nat.reduceLeDiff,Nat.reduceMul,qI,qP,qQ,hzr,hzI,o8,o9,gl_app,sl_app]
    refine (within6_p c 4 (by decide) (by decide)).callE rfl rfl rfl ?_
    obtain ⟨k,hk,lk⟩ := natI (a := c) (n := 4) (by decide)
    rw [hk]
    have hk4 : k = 0 ∨ k = 1 ∨ k = 2 ∨ k = 3 := by omega
    rcases hk4 with rfl | rfl | rfl | rfl
    · try simp only [c6,c6x1,c6x2,c6x3,c6x4,c6x5,c6x6,c6x7,c6x8,c6x9,c6x10,c6x11,c6x12,c6x13,c6x14,c6x15,c6x16,c6x17,RUA,RUB,RUC,RUD,RUE,RUF,if_true,if_false,Int.reduceEq,Int.reduceLT,Int.reduceLE,qC,qO,qA,qS,qU,Nat.reduceEqDiff,qT,E.at,qR,Nat.reduceAdd,Nat.reduceSub,Nat.reduceLeDiff,Nat.reduceMul,qI,qP,qQ,gl_app,sl_app,o8,o9]
      refine (push_ok (at' := a) hs htx' la' (fun r hr => capR r hr)).callF rfl (vfrt hs _ htx'.ok.1) fun u hu => ?_
      try simp only [c6,c6x1,c6x2,c6x3,c6x4,c6x5,c6x6,c6x7,c6x8,c6x9,c6x10,c6x11,c6x12,c6x13,c6x14,c6x15,c6x16,c6x17,RUA,RUB,RUC,RUD,RUE,RUF,if_true,if_false,Int.reduceEq,Int.reduceLT,Int.reduceLE,qC,qO,qA,qS,qU,Nat.reduceEqDiff,qT,E.at,qR,Nat.reduceAdd,Nat.reduceSub,Nat.reduceLeDiff,Nat.reduceMul,qI,qP,qQ,gl_app,sl_app,o8,o9]
      refine (rpush_p (a := a) hx' htx' la' (by have := hb a; unfold cap; omega)).callF rfl (vfrt hx' _ htx'.ok.1) fun v hv => ?_
      try simp only [c6,c6x1,c6x2,c6x3,c6x4,c6x5,c6x6,c6x7,c6x8,c6x9,c6x10,c6x11,c6x12,c6x13,c6x14,c6x15,c6x16,c6x17,c6x18,c6x19,c6x20,c6x21,c6x22,c6x23,c6x24,c6x25,c6x26,c6x27,c6x28,RUA,RUB,RUC,RUD,RUE,RUF,if_true,if_false,Int.reduceEq,Int.reduceLT,Int.reduceLE,qC,qO,qA,qS,qU,Nat.reduceEqDiff,qT,E.at,qR,Nat.reduceAdd,Nat.reduceSub,Nat.reduceLeDiff,Nat.reduceMul,qI,qP,qQ]
      refine (sames_p hu hv).callE rfl (cf2 hu.freeV hv.freeV _) rfl ?_
      try simp only [c6x25,c6x26,RUA,RUB,RUC,RUD,RUE,RUF,if_true,if_false,Int.reduceEq,Int.reduceLT,Int.reduceLE,qC,qO,qA,qS,qU,Nat.reduceEqDiff,qT,E.at,qR,Nat.reduceAdd,Nat.reduceSub,Nat.reduceLeDiff,Nat.reduceMul,qI,qP,qQ]
      refine (psizes_p hu).callE rfl (cf1 hu.freeV _) rfl ?_
      try simp only [c6x25,c6x26,RUA,RUB,RUC,RUD,RUE,RUF,if_true,if_false,Int.reduceEq,Int.reduceLT,Int.reduceLE,qC,qO,qA,qS,qU,Nat.reduceEqDiff,qT,E.at,qR,Nat.reduceAdd,Nat.reduceSub,Nat.reduceLeDiff,Nat.reduceMul,qI,qP,qQ]
      refine (rsizes_p hv).callE rfl (cf1 hv.freeV _) rfl ?_
      try simp only [c6x25,c6x26,c6x27,RUA,RUB,RUC,RUD,RUE,RUF,if_true,if_false,Int.reduceEq,Int.reduceLT,Int.reduceLE,qC,qO,qA,qS,qU,Nat.reduceEqDiff,qT,E.at,qR,Nat.reduceAdd,Nat.reduceSub,Nat.reduceLeDiff,Nat.reduceMul,qI,qP,qQ,dn,hw1]
      refine ⟨(i + 1,_,u,v,_),⟨?_,hu,hv, ?_,fun j => ?_⟩, ?_,rfl⟩
      · simp only; omega
      · simp only [List.length_set]; omega
      · have q1 := hb j
        have q2 := hb a
        have q3 := hb b
        show _ ≤ bnd (i + 1)
        rw [bnd_succ]
        (try dsimp only); rw [gD_set la']; split
        · simp only [List.length_append,List.length_cons,List.length_nil]; omega
        · omega
      · simp only; omega
    · try simp only [c6,c6x1,c6x2,c6x3,c6x4,c6x5,c6x6,c6x7,c6x8,c6x9,c6x10,c6x11,c6x12,c6x13,c6x14,c6x15,c6x16,c6x17,c6x18,RUA,RUB,RUC,RUD,RUE,RUF,if_true,if_false,Int.reduceEq,Int.reduceLT,Int.reduceLE,qC,qO,qA,qS,qU,Nat.reduceEqDiff,qT,E.at,qR,Nat.reduceAdd,Nat.reduceSub,Nat.reduceLeDiff,Nat.reduceMul,qI,qP,qQ]
      refine (reverse_ok (at' := a) hs la').callF rfl (vfr hs _) fun z hz => ?_
      obtain ⟨t1,u,rfl,ht1,hu⟩ := hz
      have ht1' := ht1
      obtain ⟨k1,a1,b1,nm1,ek1,en1,em1,ev1,lv1,rfl,o1,o2,_,_⟩ := tmA ht1
      try simp only [c6,c6x1,c6x2,c6x3,c6x4,c6x5,c6x6,c6x7,c6x8,c6x9,c6x10,c6x11,c6x12,c6x13,c6x14,c6x15,c6x16,c6x17,c6x18,c6x19,RUA,RUB,RUC,RUD,RUE,RUF,if_true,if_false,Int.reduceEq,Int.reduceLT,Int.reduceLE,qC,qO,qA,qS,qU,Nat.reduceEqDiff,qT,E.at,qR,Nat.reduceAdd,Nat.reduceSub,Nat.reduceLeDiff,Nat.reduceMul,qI,qP,qQ,o1,o2,gl_app,sl_app]
      refine (rreverse_p (a := a) hx' la').callF rfl (vfr hx' _) fun z hz => ?_
      obtain ⟨t2,v,rfl,ht2,hv⟩ := hz
      have ht2' := ht2
      obtain ⟨k2,a2,b2,nm2,ek2,en2,em2,ev2,lv2,rfl,o3,o4,_,_⟩ := tmA ht2
      try simp only [c6,c6x1,c6x2,c6x3,c6x4,c6x5,c6x6,c6x7,c6x8,c6x9,c6x10,c6x11,c6x12,c6x13,c6x14,c6x15,c6x16,c6x17,c6x18,c6x19,c6x20,c6x21,RUA,RUB,RUC,RUD,RUE,RUF,if_true,if_false,Int.reduceEq,Int.reduceLT,Int.reduceLE,qC,qO,qA,qS,qU,Nat.reduceEqDiff,qT,E.at,qR,Nat.reduceAdd,Nat.reduceSub,Nat.reduceLeDiff,Nat.reduceMul,qI,qP,qQ,o1,o2,o3,o4,gl_app,sl_app,gl_app2]
      refine (sameT_p _ _ _ ht1' ht2').callE rfl (cf2 ht1'.ok.1 ht2'.ok.1 _) rfl ?_
      try simp only [c6,c6x1,c6x2,c6x3,c6x4,c6x5,c6x6,c6x7,c6x8,c6x9,c6x10,c6x11,c6x12,c6x13,c6x14,c6x15,c6x16,c6x17,c6x18,c6x19,c6x20,c6x21,c6x22,c6x23,c6x24,c6x25,c6x26,c6x27,c6x28,RUA,RUB,RUC,RUD,RUE,RUF,if_true,if_false,Int.reduceEq,Int.reduceLT,Int.reduceLE,qC,qO,qA,qS,qU,Nat.reduceEqDiff,qT,E.at,qR,Nat.reduceAdd,Nat.reduceSub,Nat.reduceLeDiff,Nat.reduceMul,qI,qP,qQ]
      refine (sames_p hu hv).callE rfl (cf2 hu.freeV hv.freeV _) rfl ?_
      try simp only [c6x25,c6x26,RUA,RUB,RUC,RUD,RUE,RUF,if_true,if_false,Int.reduceEq,Int.reduceLT,Int.reduceLE,qC,qO,qA,qS,qU,Nat.reduceEqDiff,qT,E.at,qR,Nat.reduceAdd,Nat.reduceSub,Nat.reduceLeDiff,Nat.reduceMul,qI,qP,qQ]
      refine (psizes_p hu).callE rfl (cf1 hu.freeV _) rfl ?_
      try simp only [c6x25,c6x26,RUA,RUB,RUC,RUD,RUE,RUF,if_true,if_false,Int.reduceEq,Int.reduceLT,Int.reduceLE,qC,qO,qA,qS,qU,Nat.reduceEqDiff,qT,E.at,qR,Nat.reduceAdd,Nat.reduceSub,Nat.reduceLeDiff,Nat.reduceMul,qI,qP,qQ]
      refine (rsizes_p hv).callE rfl (cf1 hv.freeV _) rfl ?_
      try simp only [c6x25,c6x26,c6x27,RUA,RUB,RUC,RUD,RUE,RUF,if_true,if_false,Int.reduceEq,Int.reduceLT,Int.reduceLE,qC,qO,qA,qS,qU,Nat.reduceEqDiff,qT,E.at,qR,Nat.reduceAdd,Nat.reduceSub,Nat.reduceLeDiff,Nat.reduceMul,qI,qP,qQ,dn,hw1]
      refine ⟨(i + 1,_,u,v,_),⟨?_,hu,hv, ?_,fun j => ?_⟩, ?_,rfl⟩
      · simp only; omega
      · simp only [List.length_set]; omega
      · have q1 := hb j
        have q2 := hb a
        have q3 := hb b
        show _ ≤ bnd (i + 1)
        rw [bnd_succ]
        (try dsimp only); rw [gD_set la']; split
        · simp only [List.length_nil]; omega
        · omega
      · simp only; omega
    · try simp only [c6,c6x1,c6x2,c6x3,c6x4,c6x5,c6x6,c6x7,c6x8,c6x9,c6x10,c6x11,c6x12,c6x13,c6x14,c6x15,c6x16,c6x17,c6x18,c6x19,c6x20,c6x21,c6x22,c6x23,RUA,RUB,RUC,RUD,RUE,RUF,if_true,if_false,Int.reduceEq,Int.reduceLT,Int.reduceLE,qC,qO,qA,qS,qU,Nat.reduceEqDiff,qT,E.at,qR,Nat.reduceAdd,Nat.reduceSub,Nat.reduceLeDiff,Nat.reduceMul,qI,qP,qQ]
      refine (accept_ok (at' := a) hs la').callF rfl (vfr hs _) fun u hu => ?_
      try simp only [c6,c6x1,c6x2,c6x3,c6x4,c6x5,c6x6,c6x7,c6x8,c6x9,c6x10,c6x11,c6x12,c6x13,c6x14,c6x15,c6x16,c6x17,c6x18,c6x19,c6x20,c6x21,c6x22,c6x23,RUA,RUB,RUC,RUD,RUE,RUF,if_true,if_false,Int.reduceEq,Int.reduceLT,Int.reduceLE,qC,qO,qA,qS,qU,Nat.reduceEqDiff,qT,E.at,qR,Nat.reduceAdd,Nat.reduceSub,Nat.reduceLeDiff,Nat.reduceMul,qI,qP,qQ]
      refine (raccept_p (a := a) hx').callF rfl (vfr hx' _) fun v hv => ?_
      try simp only [c6,c6x1,c6x2,c6x3,c6x4,c6x5,c6x6,c6x7,c6x8,c6x9,c6x10,c6x11,c6x12,c6x13,c6x14,c6x15,c6x16,c6x17,c6x18,c6x19,c6x20,c6x21,c6x22,c6x23,c6x24,c6x25,c6x26,c6x27,c6x28,RUA,RUB,RUC,RUD,RUE,RUF,if_true,if_false,Int.reduceEq,Int.reduceLT,Int.reduceLE,qC,qO,qA,qS,qU,Nat.reduceEqDiff,qT,E.at,qR,Nat.reduceAdd,Nat.reduceSub,Nat.reduceLeDiff,Nat.reduceMul,qI,qP,qQ]
      refine (sames_p hu hv).callE rfl (cf2 hu.freeV hv.freeV _) rfl ?_
      try simp only [c6x25,c6x26,RUA,RUB,RUC,RUD,RUE,RUF,if_true,if_false,Int.reduceEq,Int.reduceLT,Int.reduceLE,qC,qO,qA,qS,qU,Nat.reduceEqDiff,qT,E.at,qR,Nat.reduceAdd,Nat.reduceSub,Nat.reduceLeDiff,Nat.reduceMul,qI,qP,qQ]
      refine (psizes_p hu).callE rfl (cf1 hu.freeV _) rfl ?_
      try simp only [c6x25,c6x26,RUA,RUB,RUC,RUD,RUE,RUF,if_true,if_false,Int.reduceEq,Int.reduceLT,Int.reduceLE,qC,qO,qA,qS,qU,Nat.reduceEqDiff,qT,E.at,qR,Nat.reduceAdd,Nat.reduceSub,Nat.reduceLeDiff,Nat.reduceMul,qI,qP,qQ]
      refine (rsizes_p hv).callE rfl (cf1 hv.freeV _) rfl ?_
      try simp only [c6x25,c6x26,c6x27,RUA,RUB,RUC,RUD,RUE,RUF,if_true,if_false,Int.reduceEq,Int.reduceLT,Int.reduceLE,qC,qO,qA,qS,qU,Nat.reduceEqDiff,qT,E.at,qR,Nat.reduceAdd,Nat.reduceSub,Nat.reduceLeDiff,Nat.reduceMul,qI,qP,qQ,dn,hw1]
      refine ⟨(i + 1,_,u,v,_),⟨?_,hu,hv, ?_,fun j => ?_⟩, ?_,rfl⟩
      · simp only; omega
      · simp only [List.length_set]; omega
      · have q1 := hb j
        have q2 := hb a
        have q3 := hb b
        show _ ≤ bnd (i + 1)
        rw [bnd_succ]
        (try dsimp only); rw [gD_set la']; split
        · simp only [List.length_nil]; omega
        · omega
      · simp only; omega
    · try simp only [c6,c6x1,c6x2,c6x3,c6x4,c6x5,c6x6,c6x7,c6x8,c6x9,c6x10,c6x11,c6x12,c6x13,c6x14,c6x15,c6x16,c6x17,c6x18,c6x19,c6x20,c6x21,c6x22,c6x23,c6x24,RUA,RUB,RUC,RUD,RUE,RUF,if_true,if_false,Int.reduceEq,Int.reduceLT,Int.reduceLE,qC,qO,qA,qS,qU,Nat.reduceEqDiff,qT,E.at,qR,Nat.reduceAdd,Nat.reduceSub,Nat.reduceLeDiff,Nat.reduceMul,qI,qP,qQ]
      refine (merge2_ok hs la' lb' (by have := hb a; have := hb b; unfold cap; omega)).callF rfl (vfr3 hs _ _) fun u hu => ?_
      try simp only [c6,c6x1,c6x2,c6x3,c6x4,c6x5,c6x6,c6x7,c6x8,c6x9,c6x10,c6x11,c6x12,c6x13,c6x14,c6x15,c6x16,c6x17,c6x18,c6x19,c6x20,c6x21,c6x22,c6x23,c6x24,RUA,RUB,RUC,RUD,RUE,RUF,if_true,if_false,Int.reduceEq,Int.reduceLT,Int.reduceLE,qC,qO,qA,qS,qU,Nat.reduceEqDiff,qT,E.at,qR,Nat.reduceAdd,Nat.reduceSub,Nat.reduceLeDiff,Nat.reduceMul,qI,qP,qQ]
      refine (rmerge2_p hx' la' lb' (by have := hb a; have := hb b; unfold cap; omega)).callF rfl (vfr3 hx' _ _) fun v hv => ?_
      try simp only [c6,c6x1,c6x2,c6x3,c6x4,c6x5,c6x6,c6x7,c6x8,c6x9,c6x10,c6x11,c6x12,c6x13,c6x14,c6x15,c6x16,c6x17,c6x18,c6x19,c6x20,c6x21,c6x22,c6x23,c6x24,c6x25,c6x26,c6x27,c6x28,RUA,RUB,RUC,RUD,RUE,RUF,if_true,if_false,Int.reduceEq,Int.reduceLT,Int.reduceLE,qC,qO,qA,qS,qU,Nat.reduceEqDiff,qT,E.at,qR,Nat.reduceAdd,Nat.reduceSub,Nat.reduceLeDiff,Nat.reduceMul,qI,qP,qQ]
      refine (sames_p hu hv).callE rfl (cf2 hu.freeV hv.freeV _) rfl ?_
      try simp only [c6x25,c6x26,RUA,RUB,RUC,RUD,RUE,RUF,if_true,if_false,Int.reduceEq,Int.reduceLT,Int.reduceLE,qC,qO,qA,qS,qU,Nat.reduceEqDiff,qT,E.at,qR,Nat.reduceAdd,Nat.reduceSub,Nat.reduceLeDiff,Nat.reduceMul,qI,qP,qQ]
      refine (psizes_p hu).callE rfl (cf1 hu.freeV _) rfl ?_
      try simp only [c6x25,c6x26,RUA,RUB,RUC,RUD,RUE,RUF,if_true,if_false,Int.reduceEq,Int.reduceLT,Int.reduceLE,qC,qO,qA,qS,qU,Nat.reduceEqDiff,qT,E.at,qR,Nat.reduceAdd,Nat.reduceSub,Nat.reduceLeDiff,Nat.reduceMul,qI,qP,qQ]
      refine (rsizes_p hv).callE rfl (cf1 hv.freeV _) rfl ?_
      try simp only [c6x25,c6x26,c6x27,RUA,RUB,RUC,RUD,RUE,RUF,if_true,if_false,Int.reduceEq,Int.reduceLT,Int.reduceLE,qC,qO,qA,qS,qU,Nat.reduceEqDiff,qT,E.at,qR,Nat.reduceAdd,Nat.reduceSub,Nat.reduceLeDiff,Nat.reduceMul,qI,qP,qQ,dn,hw1]
      refine ⟨(i + 1,_,u,v,_),⟨?_,hu,hv, ?_,fun j => ?_⟩, ?_,rfl⟩
      · simp only; omega
      · show (mrg S' a b).length = _; rw [mrg_len]; omega
      · have q1 := hb j
        have q2 := hb a
        have q3 := hb b
        show _ ≤ bnd (i + 1)
        rw [bnd_succ]
        show ((mrg S' a b).getD j []).length + 1 ≤ _
        rw [mrg_gD la' lb']
        repeat' split
        all_goals (try simp only [List.length_append,List.length_nil]) <;> omega
      · simp only; omega
end Go.Proofs.Ytfncfdiomolieaa
end

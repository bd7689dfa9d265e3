/- Parts of the texts that the claim's proof needs: functions of the program as the evaluator reads them, and what they come to. Conditions: those that its theorems state. -/
import Derived.Test.YtfncfdiomolieaaTF

section
set_option linter.unusedVariables false
set_option linter.unusedSimpArgs false
set_option maxRecDepth 100000
set_option maxHeartbeats 8000000
open Go.Proofs.Pe renaming putCells → qC, bslOf → qO, bsaOf → qA, bslS → qS, isUpto → qU, step → qT, intOf → qI, iop → qP, sop → qQ
open List renaming replicate → qR
open Go.Proofs.Pe.V renaming dead → qD
namespace Go.Proofs.Ytfncfdiomolieaa
open Go.Proofs.Pe
theorem glB_app (o : List O) (c : O) : (o ++ [c])[o.length]? = some c := by simp
theorem slB_app (o : List O) (c d : O) : (o ++ [c]).set o.length d = o ++ [d] := by simp
theorem glB2 (o : List O) (c d : O) : (o ++ [c] ++ [d])[o.length]? = some c := by simp
theorem glB3 (o : List O) (c d e : O) : (o ++ [c] ++ [d] ++ [e])[o.length]? = some c := by simp
theorem glB3b (o : List O) (c d e : O) : (o ++ [c] ++ [d] ++ [e])[(o ++ [c]).length]? = some d := by simp
theorem set_nil_self {S : List (List Pe.Tm)} {a : Nat} (ha : a < S.length) (h : S.getD a [] = []) : S.set a [] = S := by
  refine ext_gD (by simp) fun i hi => ?_
  rw [gD_set ha]; split
  · rename_i e; subst e; exact h.symm
  · rfl
theorem app_r3 {o : List O} {x r : V} {xs : List V} {l : List R3} {re : R3} (k1 : IsSl 5 x xs) (k3 : All2 IsR3 l xs) (hr : IsR3 re r) (hb : (xs.length + 1) * 72 ≤ 140737488355328) :
    ∃ x1 o1 x2 o2 w o3,appOf 5 72 o (.sl 5 true []) x = some (x1,o1) ∧ appOf 5 72 o1 x1 (.sl 5 true [r]) = some (x2,o2) ∧ Pe.freeze o2 x2 = some (w,o3) ∧ IsSl 5 w (xs ++ [r]) ∧ All2 IsR3 (l ++ [re]) (xs ++ [r]) ∧ ∀ i,i < o.length → o2[i]? = o[i]? := by
  obtain ⟨x1,o1,e1,e2,e3,e4,e5⟩ := (show Fresh (.sl 5 true []) o 5 [] from .inr (.inl ⟨rfl,rfl⟩)).cat (b := 72) (y := x) (us := xs) (k1.row o) (k3.okRow fun _ _ h => h.ok).s (by simp; unfold room; omega)
  have e4' : ∀ i,i < o.length → o1[i]? = o[i]? := fun i hi => e4 i (fun v h => by cases h) hi
  have hone : All2 IsR3 [re] [r] := ⟨r,[],rfl,hr,rfl⟩
  obtain ⟨x2,o2,f1,f2,f3,f4,f5⟩ := e2.cat (b := 72) (y := .sl 5 true [r]) (us := [r]) rfl (hone.okRow fun _ _ h => h.ok).s (by simp; unfold room; omega)
  have hall : All2 IsR3 (l ++ [re]) ([] ++ xs ++ [r]) := by simpa using k3.append hone
  obtain ⟨w,o3,h1,h2,_⟩ := f2.fz (hall.free fun _ _ h => h.ok.1)
  exact ⟨x1,o1,x2,o2,w,o3,e1,f1,h1,by simpa using h2,by simpa using hall,fun i hi => (f4 i (fun v0 e => by rcases e5 i v0 e with ⟨_,h⟩ | h; cases h; omega) (by omega)).trans (e4' i hi)⟩
theorem stacksBack_call (x : V) (w : ∃ n,VT Try.prog n 35 [x]) (h72 : ∀ k f xs,x = .sl k f xs → (xs.length + 1) * 72 ≤ 140737488355328) (n : Int) (w1 : (Lit.int .i64 n).wf = true) (p : Int) (w2 : (Lit.int .i64 p).wf = true) (rs : List V) (w3 : ∃ n,VT Try.prog n 43 rs) : Pe.Call Try.prog T noY 5 [x,.sc (.int .i64 n),.sc (.int .i64 p),.agg rs] [] (fun y _ => y = .sc (.bool true)) := by
  obtain ⟨m,hm⟩ := w
  obtain ⟨l,vs,h1,h3,h2⟩ := (r3_of rT m).2 x hm
  obtain ⟨m3,hm3⟩ := w3
  obtain ⟨re,hR,hrl5⟩ := (r3_of rT m3).1 rs hm3
  have hR' := hR
  have hRok := hR.ok
  have hvb : (vs.length + 1) * 72 ≤ 140737488355328 := by
    rcases h1 with ⟨rfl,rfl⟩ | ⟨f,rfl⟩
    · simp
    · exact h72 _ _ _ rfl
  rcases re with ⟨k9,a9,b9,e9,l9⟩
  obtain ⟨ev9,evs9,lv9,vs9,hag,f1,f2,f3,f4,f5,f6⟩ := hR
  cases hag
  have hn1 : ev9.one = true := free1_one f1.free
  have hn2 : lv9.one = true := free1_one f4.free
  have hn3 : ev9.free1 = true := f1.free
  have hn4 : lv9.free1 = true := f4.free
  obtain ⟨x1,o1,x2,o2,wl,o3,q1,q2,q3,q4,q5,q6⟩ := app_r3 (o := [.cells [iV k9,iV a9,iV b9,ev9,lv9]]) h1 h3 hR' hvb
  have hcm : commits o2 [x2] = some ([wl],o3) := by
    simp only [commits,step.freezes',q3,Option.bind_eq_bind,Option.bind_some,Option.pure_def]
  have hg0 : o2[0]? = some (.cells [iV k9,iV a9,iV b9,ev9,lv9]) := q6 0 (by simp)
  refine Call.step noY_le ?_
  rw [body_eq t5]
  simp only [c5,c5x1,c5x2,RUA,RUB,RUC,RUD,RUE,RUF,if_true,if_false,Int.reduceEq,Int.reduceLT,Int.reduceLE,qC,qO,qA,qS,qU,Nat.reduceEqDiff,qT,E.at,qR,Nat.reduceAdd,Nat.reduceSub,Nat.reduceLeDiff,Nat.reduceMul,qI,qP,qQ,hn1,hn2,hn3,hn4]
  refine known6_p.callE rfl rfl rfl ?_
  try simp only [c5,c5x1,c5x2,c5x3,RUA,RUB,RUC,RUD,RUE,RUF,if_true,if_false,Int.reduceEq,Int.reduceLT,Int.reduceLE,qC,qO,qA,qS,qU,Nat.reduceEqDiff,qT,E.at,qR,Nat.reduceAdd,Nat.reduceSub,Nat.reduceLeDiff,Nat.reduceMul,qI,qP,qQ,hn1,hn2,hn3,hn4,q1,q2]
  repeat' (first
      | (refine And.intro ?_ ?_)
      | exact trivial)
  all_goals (
  refine (few_p q4 q5 (by simp; unfold maxLen; omega)).callB rfl hcm (fun z hz => by obtain ⟨b,rfl,_⟩ := hz; rfl) fun z hz => ?_
  obtain ⟨b,rfl,hb⟩ := hz
  cases b with
  | false => simp only [c5,c5x1,c5x2,c5x3,c5x4,RUA,RUB,RUC,RUD,RUE,RUF,if_true,if_false,Int.reduceEq,Int.reduceLT,Int.reduceLE,qC,qO,qA,qS,qU,Nat.reduceEqDiff,qT,E.at,qR,Nat.reduceAdd,Nat.reduceSub,Nat.reduceLeDiff,Nat.reduceMul,qI,qP,qQ]
  | true =>
  have hb5 : vs.length ≤ 5 := by have := hb rfl; simp at this; omega
  try simp only [c5,c5x1,c5x2,c5x3,c5x4,c5x5,RUA,RUB,RUC,RUD,RUE,RUF,if_true,if_false,Int.reduceEq,Int.reduceLT,Int.reduceLE,qC,qO,qA,qS,qU,Nat.reduceEqDiff,qT,E.at,qR,Nat.reduceAdd,Nat.reduceSub,Nat.reduceLeDiff,Nat.reduceMul,qI,qP,qQ]
  refine (make6_p h1 h3 hb5 n).callF rfl (fun x hx => by simp only [List.mem_cons,List.not_mem_nil,or_false] at hx; rcases hx with rfl | rfl <;> first | exact h1.freeV | rfl) fun s hs => ?_
  obtain ⟨S,hS,hS1,hS3,hS5⟩ := hs
  have G : Stk3 S s := ⟨hS,hS1,hS3,hS5⟩
  obtain ⟨rows,hr,hrl⟩ := hS.len
  have hrl' : (rows.length : Int) = (S.length : Int) := by omega
  have c5 := G.get
  try simp only [c5,c5x1,c5x2,c5x3,c5x4,c5x5,c5x6,RUA,RUB,RUC,RUD,RUE,RUF,if_true,if_false,Int.reduceEq,Int.reduceLT,Int.reduceLE,qC,qO,qA,qS,qU,Nat.reduceEqDiff,qT,E.at,qR,Nat.reduceAdd,Nat.reduceSub,Nat.reduceLeDiff,Nat.reduceMul,qI,qP,qQ,hr,hrl']
  refine (within6_p p (S.length : Int) (by omega) (by omega)).callE rfl rfl rfl ?_
  obtain ⟨a,ha,la⟩ := natI (a := p) (n := (S.length : Int)) (by omega)
  rw [ha]
  have la' : a < S.length := by omega
  try simp only [c5,c5x1,c5x2,c5x3,c5x4,c5x5,c5x6,c5x7,RUA,RUB,RUC,RUD,RUE,RUF,if_true,if_false,Int.reduceEq,Int.reduceLT,Int.reduceLE,qC,qO,qA,qS,qU,Nat.reduceEqDiff,qT,E.at,qR,Nat.reduceAdd,Nat.reduceSub,Nat.reduceLeDiff,Nat.reduceMul,qI,qP,qQ,hg0,hn1,hn2]
  refine (make5_p hR').callF rfl (fun q hq => by simp only [List.mem_cons,List.not_mem_nil,or_false] at hq; rcases hq with rfl | rfl <;> first | exact hRok.1 | rfl) fun tz htz => ?_
  obtain ⟨tx,htx⟩ := htz
  have htx' := htx
  obtain ⟨k8,a8,b8,nm8,ek8,en8,em8,ev8,lv8,rfl,u1,u2,u1f,u2f⟩ := tmA htx
  try simp only [c5,c5x1,c5x2,c5x3,c5x4,c5x5,c5x6,c5x7,c5x8,RUA,RUB,RUC,RUD,RUE,RUF,if_true,if_false,Int.reduceEq,Int.reduceLT,Int.reduceLE,qC,qO,qA,qS,qU,Nat.reduceEqDiff,qT,E.at,qR,Nat.reduceAdd,Nat.reduceSub,Nat.reduceLeDiff,Nat.reduceMul,qI,qP,qQ,u1,u2,glB_app,slB_app]
  refine (reverse_ok hS la').callF rfl (vfr hS _) fun z hz => ?_
  obtain ⟨ta,s2,rfl,hta,hs2⟩ := hz
  have hta' := hta
  obtain ⟨k7,a7,b7,nm7,ek7,en7,em7,ev7,lv7,rfl,v1,v2,v1f,v2f⟩ := tmA hta
  try simp only [c5,c5x1,c5x2,c5x3,c5x4,c5x5,c5x6,c5x7,c5x8,c5x9,RUA,RUB,RUC,RUD,RUE,RUF,if_true,if_false,Int.reduceEq,Int.reduceLT,Int.reduceLE,qC,qO,qA,qS,qU,Nat.reduceEqDiff,qT,E.at,qR,Nat.reduceAdd,Nat.reduceSub,Nat.reduceLeDiff,Nat.reduceMul,qI,qP,qQ,u1,u2,v1,v2,glB_app,slB_app,glB2]
  refine (push_ok (at' := a) hS htx' la' (fun r hr => by have := hS5 r hr; unfold cap; omega)).callF rfl (vfrt hS _ htx'.ok.1) fun s3 hs3 => ?_
  try simp only [c5,c5x1,c5x2,c5x3,c5x4,c5x5,c5x6,c5x7,c5x8,c5x9,RUA,RUB,RUC,RUD,RUE,RUF,if_true,if_false,Int.reduceEq,Int.reduceLT,Int.reduceLE,qC,qO,qA,qS,qU,Nat.reduceEqDiff,qT,E.at,qR,Nat.reduceAdd,Nat.reduceSub,Nat.reduceLeDiff,Nat.reduceMul,qI,qP,qQ,u1,u2,v1,v2,glB_app,slB_app,glB2]
  refine (reverse_ok hs3 (by simpa using la')).callF rfl (vfr hs3 _) fun z hz => ?_
  obtain ⟨tb,s4,rfl,htb,hs4⟩ := hz
  rw [gD_set la',if_pos rfl,revT_snoc] at htb
  rw [List.set_set] at hs4
  obtain ⟨r1,wv,ws,y0,hx,hwc,y1,y2,y3⟩ := hS.row la'
  have hI := fun o => y0.ix o hx
  have hyr := fun o => y1.row o
  have hyl := y3.len
  by_cases hz : S.getD a [] = []
  · rw [if_pos hz] at htb
    have htb' := htb
    obtain ⟨k6,a6,b6,nm6,ek6,en6,em6,ev6,lv6,rfl,w1',w2',w1f,w2f⟩ := tmA htb
    rw [set_nil_self la' hz] at hs4
    have d0 : decide ((ws.length : Int) = 0) = true := by rw [hyl,hz]; rfl
    try simp only [c5,c5x1,c5x2,c5x3,c5x4,c5x5,c5x6,c5x7,c5x8,c5x9,c5x10,c5x11,RUA,RUB,RUC,RUD,RUE,RUF,if_true,if_false,Int.reduceEq,Int.reduceLT,Int.reduceLE,qC,qO,qA,qS,qU,Nat.reduceEqDiff,qT,E.at,qR,Nat.reduceAdd,Nat.reduceSub,Nat.reduceLeDiff,Nat.reduceMul,qI,qP,qQ,u1,u2,v1,v2,w1',w2',glB_app,slB_app,glB2,glB3,glB3b,hI,hwc,hyr,d0]
    refine (sameT_p _ _ _ htb' htx').callE rfl (cf2 htb'.ok.1 htx'.ok.1 _) rfl ?_
    try simp only [c5,c5x1,c5x2,c5x3,c5x4,c5x5,c5x6,c5x7,c5x8,c5x9,c5x10,c5x11,RUA,RUB,RUC,RUD,RUE,RUF,if_true,if_false,Int.reduceEq,Int.reduceLT,Int.reduceLE,qC,qO,qA,qS,qU,Nat.reduceEqDiff,qT,E.at,qR,Nat.reduceAdd,Nat.reduceSub,Nat.reduceLeDiff,Nat.reduceMul,qI,qP,qQ]
    refine (sames_p hs4 hS).callE rfl (cf2 hs4.freeV hS.freeV _) rfl ?_
    try simp only [c5,c5x1,c5x2,c5x3,c5x4,c5x5,c5x6,c5x7,c5x8,c5x9,c5x10,c5x11,RUA,RUB,RUC,RUD,RUE,RUF,if_true,if_false,Int.reduceEq,Int.reduceLT,Int.reduceLE,qC,qO,qA,qS,qU,Nat.reduceEqDiff,qT,E.at,qR,Nat.reduceAdd,Nat.reduceSub,Nat.reduceLeDiff,Nat.reduceMul,qI,qP,qQ]
  · rw [if_neg hz] at htb
    obtain ⟨ev6,evs6,lv6,vs6,rfl,g1,g2,g3,g4,g5,g6⟩ := htb
    obtain ⟨t1,r1',rfl,ht1,t2,r2',rfl,ht2,rfl⟩ := g6
    have w1' : ev6.one = true := free1_one g1.free
    have w2' : lv6.one = true := free1_one g4.free
    have d0 : decide ((ws.length : Int) = 0) = false := by
      rw [hyl]; have : (S.getD a []).length ≠ 0 := fun h => hz (List.length_eq_zero_iff.1 h)
      simpa using hz
    have hJ0 := fun o => ix0 g4 (y := t1) rfl o
    have hJ1 := fun o => ix1 g4 (y := t2) rfl o
    have hJr := fun o => g4.row o
    have ht1' := ht1
    have ht2' := ht2
    obtain ⟨k4,a4,b4,nm4,ek4,en4,em4,ev4,lv4,rfl,m1,m2,_,_⟩ := tmA ht1
    obtain ⟨k3,a3,b3,nm3,ek3,en3,em3,ev3,lv3,rfl,m3',m4,_,_⟩ := tmA ht2
    try simp only [c5,c5x1,c5x2,c5x3,c5x4,c5x5,c5x6,c5x7,c5x8,c5x9,c5x10,c5x11,c5x12,RUA,RUB,RUC,RUD,RUE,RUF,if_true,if_false,Int.reduceEq,Int.reduceLT,Int.reduceLE,qC,qO,qA,qS,qU,Nat.reduceEqDiff,qT,E.at,qR,Nat.reduceAdd,Nat.reduceSub,Nat.reduceLeDiff,Nat.reduceMul,qI,qP,qQ,u1,u2,v1,v2,w1',w2',m1,m2,m3',m4,glB_app,slB_app,glB2,glB3,glB3b,hI,hwc,hyr,d0,hJ0,hJ1,hJr]
    repeat' (first
      | (refine And.intro ?_ ?_)
      | exact trivial)
    all_goals (
    refine (sameT_p _ _ _ ht1' htx').callE rfl (cf2 ht1'.ok.1 htx'.ok.1 _) rfl ?_
    try simp only [c5,c5x1,c5x2,c5x3,c5x4,c5x5,c5x6,c5x7,c5x8,c5x9,c5x10,c5x11,c5x12,RUA,RUB,RUC,RUD,RUE,RUF,if_true,if_false,Int.reduceEq,Int.reduceLT,Int.reduceLE,qC,qO,qA,qS,qU,Nat.reduceEqDiff,qT,E.at,qR,Nat.reduceAdd,Nat.reduceSub,Nat.reduceLeDiff,Nat.reduceMul,qI,qP,qQ,u1,u2,v1,v2,w1',w2',m1,m2,m3',m4,glB_app,slB_app,glB2,glB3,glB3b,hI,hwc,hyr,d0,hJ0,hJ1,hJr]
    repeat' (first
      | (refine And.intro ?_ ?_)
      | exact trivial)
    all_goals (
    refine (sameT_p _ _ _ ht2' hta').callE rfl (cf2 ht2'.ok.1 hta'.ok.1 _) rfl ?_
    try simp only [c5,c5x1,c5x2,c5x3,c5x4,c5x5,c5x6,c5x7,c5x8,c5x9,c5x10,c5x11,c5x12,RUA,RUB,RUC,RUD,RUE,RUF,if_true,if_false,Int.reduceEq,Int.reduceLT,Int.reduceLE,qC,qO,qA,qS,qU,Nat.reduceEqDiff,qT,E.at,qR,Nat.reduceAdd,Nat.reduceSub,Nat.reduceLeDiff,Nat.reduceMul,qI,qP,qQ])))
end Go.Proofs.Ytfncfdiomolieaa
end

/- StacksBack: the law over raw processes: whatever the law's arguments, it answers true; for every input. Conditions: none. -/
import Derived.Test.YtfncfdiomolieaaTG
import Derived.Test.YtfncfdiomolieaaRows
import Derived.WalkKit
import Derived.ProofKit
import Derived.OpenShut
import Derived.ShutString
import Derived.ChangeOld
import Derived.Below
import Derived.LaidMore
import Derived.Stop.Joined
namespace Go.Proofs.Ytfncfdiomolieaa.stacksBack
open Go.Proofs.Pe Go.Proofs.Ytfncfdiomolieaa
open Go.ChangeShapes Go.WideShapes Go.ChangeAt Go.RowKit
open Go.ChangeMaps (open_string shut_string)
set_option linter.unusedVariables false
set_option maxRecDepth 100000

theorem own : ownKnob Try.prog.godebug = none := by kernel_rfl
theorem laidOut : laidOutB Try.prog = true := by kernel_rfl
def types : List TypeId := [3, 4, 35, 41, 43, 107]
theorem oks : okTys Try.prog types = true := by kernel_rfl

theorem walk (w : World) (a0 : Option Addr) (len0 cap0 : Nat) (x0 : V) (w0 : ∃ n, VT Try.prog n 35 [x0]) (r0 : Rep w.heap (gW w) [] (x0) (.slice a0 len0 cap0)) (hl0 : len0 * Try.prog.bytesOf 43 ≤ reachBytes) (a1 : Int) (w1 : (Lit.int .i64 a1).wf = true) (a2 : Int) (w2 : (Lit.int .i64 a2).wf = true) (a3 : Array Value) (x3 : List V) (w3 : ∃ n, VT Try.prog n 43 x3) (r3 : Rep w.heap (gW w) [] (.agg x3) (.agg a3)) :
    Calls Try.prog 5 #[.slice a0 len0 cap0, .int .i64 a1, .int .i64 a2, .agg a3] w fun e w' => e = .returned (.bool true) ∧ Below w.heap.size w w' := by
  exact calls_of mixed tOk (xs := [x0, .sc (.int .i64 a1), .sc (.int .i64 a2), .agg x3]) (Reps.cons (r0) (Reps.cons (.sc rfl) (Reps.cons (.sc rfl) (Reps.cons (r3) (Reps.nil _ _ _))))) (stacksBack_call _ w0 (fun k f xs e => by
    subst e
    have hlen := rep_len r0
    have hb : Try.prog.bytesOf 43 = 72 := by kernel_rfl
    rw [hb] at hl0; unfold reachBytes at hl0; omega) _ w1 _ w2 _ w3)

set_option maxRecDepth 100000 in
theorem lifted (os : Os) (started : os.Started) (H : Type) (enc : TypeId × Value → H) :
    ReturnsInHanded {} Try.checked os 5 .any (Rows.stacksBackSpec.pre6 enc Try.prog Try.f5 Rows.stacksBackRow.domain false) (Rows.stacksBackSpec.post enc Try.prog Try.f5 false true false false) := by
  refine returnsInHanded_sized (C := Try.checked) own started (by kernel_rfl) Try.func5
    (ChangeSpec.witness6 (enc := enc) (C := Try.checked) false ⟨#[], #[.slice none 0 0, .int .i64 0, .int .i64 0, .agg #[.int .i64 0, .int .i64 0, .int .i64 0, .slice none 0 0, .slice none 0 0]], []⟩ 8 (by kernel_rfl) (by kernel_rfl) (by kernel_rfl) (by kernel_rfl)) ?_
  intro W base args ds gs before hval0 hW hcnd _
  have hval : ∀ (j : Nat) t v, Try.f5.params[j]? = some t → args[j]? = some v → Value.okWide Try.prog W .any base t v := hval0
  have hW' := hW
  obtain ⟨p, q, hA0, hV, rfl, hfz, hnd⟩ := hW
  have hA : DataW.TrodAll enc Try.prog W 0 (fun _ => true) true Try.f5.params.toList args.toList ds p := hA0
  rw [Try.params5] at hA hval hcnd
  obtain ⟨v0, vs0, d0, ds0, p0, q0, hargs, rfl, rfl, h0, r0⟩ := trodAll_cons hA
  obtain ⟨v1, vs1, d1, ds1, p1, q1, rfl, rfl, rfl, h1, r1⟩ := trodAll_cons r0
  obtain ⟨v2, vs2, d2, ds2, p2, q2, rfl, rfl, rfl, h2, r2⟩ := trodAll_cons r1
  obtain ⟨v3, vs3, d3, ds3, p3, q3, rfl, rfl, rfl, h3, r3⟩ := trodAll_cons r2
  obtain ⟨rfl, rfl, rfl⟩ := trodAll_nil r3
  obtain rfl : args = #[v0, v1, v2, v3] := by cases args; simp_all
  obtain ⟨rfl, rfl⟩ := trodVars_none hV
  obtain ⟨a0, len0, cap0, rfl⟩ := okWide_slice Try.underlying35 (hval 0 35 v0 rfl rfl)
  have k0 := h0
  have lt0 : ∀ x ∈ p0, x.block < W.heap.size := by obtain ⟨m, hm⟩ := k0; exact DataW.trod_lt m _ _ _ hm
  have z0 := slice_weight (e := 43) Try.underlying35 h0 (by simp only [DataW.weightsEach, List.cons_append, List.all_append, Bool.and_eq_true] at hcnd; exact hcnd.1)
  obtain ⟨x0, w0, rr0⟩ := came oks (by decide) h0
  obtain ⟨a1, rfl, rfl, rfl, w1⟩ := open_int Try.underlying3 (hval 1 3 v1 rfl rfl) h1
  obtain ⟨a2, rfl, rfl, rfl, w2⟩ := open_int Try.underlying3 (hval 2 3 v2 rfl rfl) h2
  obtain ⟨a3, rfl, _⟩ := okWide_struct Try.underlying43 (hval 3 43 v3 rfl rfl)
  have k3 := h3
  have lt3 : ∀ x ∈ p3, x.block < W.heap.size := by obtain ⟨m, hm⟩ := k3; exact DataW.trod_lt m _ _ _ hm
  obtain ⟨x3, w3, rr3⟩ := cameS oks (by decide) h3
  clear hA0 hval0
  refine (walk W a0 len0 cap0 x0 w0 rr0 z0 a1 w1 a2 w2 a3 x3 w3 rr3).mono fun e W' ⟨he, bel⟩ => ?_
  subst he
  exact ⟨_, rfl, _, _, _, [], _, [], hW', trodAll_mk1 (shut_bool Try.underlying4 _), (trodAll_cons_mk (Below.trod laidOut (by kernel_rfl) (of_decide_eq_true (by kernel_rfl)) k0 bel lt0) (trodAll_cons_mk (shut_int Try.underlying3 w1) (trodAll_cons_mk (shut_int Try.underlying3 w2) (trodAll_cons_mk (Below.trod laidOut (by kernel_rfl) (of_decide_eq_true (by kernel_rfl)) k3 bel lt3) trodAll_mk0)))), rfl, bel.frame _, fun h => by cases h⟩

theorem over : Rows.stacksBackRow.holds Try.pinned (OpenSpec.ofChange Rows.stacksBackSpec) :=
  OpenClaim.holds_of_wide 5 Try.f5 rfl rfl rfl rfl rfl rfl rfl ⟨rfl, rfl, rfl, rfl, rfl⟩ rfl rfl rfl rfl rfl (by kernel_rfl) Try.func5 (by kernel_rfl)
    (of_decide_eq_true (by kernel_rfl)) (by unfold Func.isWrapper; first | (rw [if_pos (by decide +kernel)]; kernel_rfl) | (rw [if_neg (by decide +kernel)]; exact ⟨rfl, rfl⟩))
    (fun os started H enc _ => lifted os started H enc)
theorem proved : Rows.StacksBackSaid := over
#print axioms proved
end Go.Proofs.Ytfncfdiomolieaa.stacksBack

/- The law FnExactStateNumber holds of the given program: for every input it answers true, and its arguments read behind the call as they read before. No condition. -/
import Derived.Test.YtcchhgpdallpmaaRows
import Derived.Test.YtcchhgpdallpmaaP6
import Derived.Test.YtcchhgpdallpmaaOpen
import Derived.Test.YtcchhgpdallpmaaQFnExactStateNumber
import Derived.WalkKit
import Derived.ProofKit
import Derived.OpenShut
import Derived.ChangeOld
import Derived.Below
import Derived.SizedLaws
namespace Go.Proofs.Ytcchhgpdallpmaa.fnExactStateNumber
open Go.ChangeShapes Go.WideShapes Go.ChangeAt Go.RowKit
open Go.Proofs.YtcchhgpdallpmaaO Go.Proofs.YtcchhgpdallpmaaW.PrintWords Go.Proofs.Ytcchhgpdallpmaa.P
set_option linter.unusedVariables false
theorem own : ownKnob Try.prog.godebug = none := by kernel_rfl
theorem laidOut : laidOutB Try.prog = true := by kernel_rfl
set_option maxRecDepth 100000 in
theorem lifted (os : Os) (started : os.Started) (H : Type) (enc : TypeId × Value → H) :
    ReturnsInHanded {} Try.checked os 4 .any (Rows.fnExactStateNumberSpec.pre6 enc Try.prog Try.f4 Rows.fnExactStateNumberRow.domain false) (Rows.fnExactStateNumberSpec.post enc Try.prog Try.f4 false true false false) := by
  refine returnsInHanded_of_change_sized (C := Try.checked) own started (by kernel_rfl) Try.func4
    (ChangeSpec.witness6 (enc := enc) (C := Try.checked) false ⟨#[], #[.slice none 0 0], []⟩ 8 (by kernel_rfl) (by kernel_rfl) (by kernel_rfl) (by kernel_rfl)) ?_
  intro W base args ds gs before hval0 hW hcnd hsz0 _
  have hval : ∀ (j : Nat) t v, Try.f4.params[j]? = some t → args[j]? = some v → Value.okWide Try.prog W .any base t v := hval0
  have hW' := hW
  obtain ⟨p, q, hA0, hV, rfl, hfz, hnd⟩ := hW
  have hA : DataW.TrodAll enc Try.prog W 0 (fun _ => true) true Try.f4.params.toList args.toList ds p := hA0
  rw [Try.params4] at hA hval
  obtain ⟨v0, vs0, d0, ds0, p0, q0, hargs, rfl, rfl, h0, r0⟩ := trodAll_cons hA
  obtain ⟨rfl, rfl, rfl⟩ := trodAll_nil r0
  obtain rfl : args = #[v0] := by cases args; simp_all
  obtain ⟨rfl, rfl⟩ := trodVars_none hV
  have k0 := h0
  have lt0 : ∀ x ∈ p0, x.block < W.heap.size := by obtain ⟨m, hm⟩ := k0; exact DataW.trod_lt m _ _ _ hm
  obtain ⟨a0, len0, cap0, rfl⟩ := okWide_slice Try.underlying23 (hval 0 23 v0 rfl rfl)
  obtain ⟨fuel0, hf0⟩ := h0
  obtain ⟨A0, c0, l0, e0, hr0, hc0, hm0⟩ := opens_slice Try.underlying23 (d := Kd.bool) (by kernel_rfl) (opens_bool Try.underlying4) (c := .slice a0 len0 cap0) (by simpa [Value.cells] using hf0)
  cases e0
  clear hA0 hval0 hsz0
  have hn0 : l0.length ≤ 9223372036854775807 := hm0
  obtain ⟨k, hk⟩ := Ev.rounds (x_StateNumber l0)
  refine (laws_FnExactStateNumber.calls k _ _ l0 true W hr0 hc0 hk).mono fun e W' hE => ?_
  obtain ⟨he, bel⟩ : e = .returned (.bool true) ∧ Below W.heap.size W W' := hE
  subst he
  exact ⟨_, rfl, _, _, _, [], _, [], hW', trodAll_mk1 (shut_bool Try.underlying4 _), (trodAll_cons_mk (Below.trod laidOut (by kernel_rfl) (of_decide_eq_true (by kernel_rfl)) k0 bel lt0) trodAll_mk0), rfl, bel.frame _, fun h => by cases h⟩
theorem over : Rows.fnExactStateNumberRow.holds Try.pinned (OpenSpec.ofChange Rows.fnExactStateNumberSpec) :=
  OpenClaim.holds_of_wide 4 Try.f4 rfl rfl rfl rfl rfl rfl rfl ⟨rfl, rfl, rfl, rfl, rfl⟩ rfl rfl rfl rfl rfl (by kernel_rfl) Try.func4 (by kernel_rfl)
    (of_decide_eq_true (by kernel_rfl)) (by unfold Func.isWrapper; first | (rw [if_pos (by decide +kernel)]; kernel_rfl) | (rw [if_neg (by decide +kernel)]; exact ⟨rfl, rfl⟩))
    (fun os started H enc _ => lifted os started H enc)
end Go.Proofs.Ytcchhgpdallpmaa.fnExactStateNumber
namespace Go.Proofs.Ytcchhgpdallpmaa
/-- The law FnExactStateNumber, proved. -/
theorem fnExactStateNumber_holds : Rows.FnExactStateNumberSaid := fnExactStateNumber.over
#print axioms fnExactStateNumber_holds
end Go.Proofs.Ytcchhgpdallpmaa

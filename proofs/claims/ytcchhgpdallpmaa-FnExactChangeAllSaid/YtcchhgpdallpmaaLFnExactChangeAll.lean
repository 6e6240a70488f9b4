/- The law FnExactChangeAll holds of the given program: for every input it answers true, and its arguments read behind the call as they read before. No condition. -/
import Derived.Test.YtcchhgpdallpmaaRows
import Derived.Test.YtcchhgpdallpmaaP25
import Derived.Test.YtcchhgpdallpmaaOpen
import Derived.Test.YtcchhgpdallpmaaQFnExactChangeAll
import Derived.WalkKit
import Derived.ProofKit
import Derived.OpenShut
import Derived.ChangeOld
import Derived.Below
import Derived.SizedLaws
namespace Go.Proofs.Ytcchhgpdallpmaa.fnExactChangeAll
open Go.ChangeShapes Go.WideShapes Go.ChangeAt Go.RowKit
open Go.Proofs.YtcchhgpdallpmaaO Go.Proofs.YtcchhgpdallpmaaW.PrintWords Go.Proofs.Ytcchhgpdallpmaa.P
set_option linter.unusedVariables false
theorem own : ownKnob Try.prog.godebug = none := by kernel_rfl
theorem laidOut : laidOutB Try.prog = true := by kernel_rfl
set_option maxRecDepth 100000 in
theorem lifted (os : Os) (started : os.Started) (H : Type) (enc : TypeId × Value → H) :
    ReturnsInHanded {} Try.checked os 7 .any (Rows.fnExactChangeAllSpec.pre6 enc Try.prog Try.f7 Rows.fnExactChangeAllRow.domain false) (Rows.fnExactChangeAllSpec.post enc Try.prog Try.f7 false true false false) := by
  refine returnsInHanded_of_change_sized (C := Try.checked) own started (by kernel_rfl) Try.func7
    (ChangeSpec.witness6 (enc := enc) (C := Try.checked) false ⟨#[], #[.slice none 0 0, .slice none 0 0], []⟩ 8 (by kernel_rfl) (by kernel_rfl) (by kernel_rfl) (by kernel_rfl)) ?_
  intro W base args ds gs before hval0 hW hcnd hsz0 _
  have hval : ∀ (j : Nat) t v, Try.f7.params[j]? = some t → args[j]? = some v → Value.okWide Try.prog W .any base t v := hval0
  have hW' := hW
  obtain ⟨p, q, hA0, hV, rfl, hfz, hnd⟩ := hW
  have hA : DataW.TrodAll enc Try.prog W 0 (fun _ => true) true Try.f7.params.toList args.toList ds p := hA0
  rw [Try.params7] at hA hval
  obtain ⟨v0, vs0, d0, ds0, p0, q0, hargs, rfl, rfl, h0, r0⟩ := trodAll_cons hA
  obtain ⟨v1, vs1, d1, ds1, p1, q1, rfl, rfl, rfl, h1, r1⟩ := trodAll_cons r0
  obtain ⟨rfl, rfl, rfl⟩ := trodAll_nil r1
  obtain rfl : args = #[v0, v1] := by cases args; simp_all
  obtain ⟨rfl, rfl⟩ := trodVars_none hV
  have k0 := h0
  have lt0 : ∀ x ∈ p0, x.block < W.heap.size := by obtain ⟨m, hm⟩ := k0; exact DataW.trod_lt m _ _ _ hm
  obtain ⟨a0, len0, cap0, rfl⟩ := okWide_slice Try.underlying23 (hval 0 23 v0 rfl rfl)
  obtain ⟨fuel0, hf0⟩ := h0
  obtain ⟨A0, c0, l0, e0, hr0, hc0, hm0⟩ := opens_slice (enc := enc) (w := W) Try.underlying23 (d := Kd.bool) (by kernel_rfl) (opens_bool Try.underlying4) (c := .slice a0 len0 cap0) (by simpa [Value.cells] using hf0)
  cases e0
  have k1 := h1
  have lt1 : ∀ x ∈ p1, x.block < W.heap.size := by obtain ⟨m, hm⟩ := k1; exact DataW.trod_lt m _ _ _ hm
  obtain ⟨a1, len1, cap1, rfl⟩ := okWide_slice Try.underlying32 (hval 1 32 v1 rfl rfl)
  obtain ⟨fuel1, hf1⟩ := h1
  obtain ⟨A1, c1, l1, e1, hr1, hc1, hm1⟩ := opens_slice (enc := enc) (w := W) Try.underlying32 (d := (Kd.int .i64)) (by kernel_rfl) (opens_int Try.underlying3) (c := .slice a1 len1 cap1) (by simpa [Value.cells] using hf1)
  cases e1
  clear hA0 hval0 hsz0
  have hn0 : l0.length ≤ 9223372036854775807 := hm0
  have hn1 : l1.length ≤ 9223372036854775807 := hm1
  obtain ⟨k, hk⟩ := Ev.rounds (x_ChangeAll l0 l1)
  refine (laws_FnExactChangeAll.calls k _ _ l0 _ _ l1 true W hr0 hc0 hr1 hc1 hk).mono fun e W' hE => ?_
  obtain ⟨he, bel⟩ : e = .returned (.bool true) ∧ Below W.heap.size W W' := hE
  subst he
  exact ⟨_, rfl, _, _, _, [], _, [], hW', trodAll_mk1 (shut_bool Try.underlying4 _), (trodAll_cons_mk (Below.trod laidOut (by kernel_rfl) (of_decide_eq_true (by kernel_rfl)) k0 bel lt0) (trodAll_cons_mk (Below.trod laidOut (by kernel_rfl) (of_decide_eq_true (by kernel_rfl)) k1 bel lt1) trodAll_mk0)), rfl, bel.frame _, fun h => by cases h⟩
theorem over : Rows.fnExactChangeAllRow.holds Try.pinned (OpenSpec.ofChange Rows.fnExactChangeAllSpec) :=
  OpenClaim.holds_of_wide 7 Try.f7 rfl rfl rfl rfl rfl rfl rfl ⟨rfl, rfl, rfl, rfl, rfl⟩ rfl rfl rfl rfl rfl (by kernel_rfl) Try.func7 (by kernel_rfl)
    (of_decide_eq_true (by kernel_rfl)) (by unfold Func.isWrapper; first | (rw [if_pos (by decide +kernel)]; kernel_rfl) | (rw [if_neg (by decide +kernel)]; exact ⟨rfl, rfl⟩))
    (fun os started H enc _ => lifted os started H enc)
end Go.Proofs.Ytcchhgpdallpmaa.fnExactChangeAll
namespace Go.Proofs.Ytcchhgpdallpmaa
/-- The law FnExactChangeAll, proved. -/
theorem fnExactChangeAll_holds : Rows.FnExactChangeAllSaid := fnExactChangeAll.over
#print axioms fnExactChangeAll_holds
end Go.Proofs.Ytcchhgpdallpmaa

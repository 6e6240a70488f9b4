/- The law FnExactAliveBuses holds of the given program: for every input it answers true, and its arguments read behind the call as they read before. No condition. -/
import Derived.Test.YtlahlfjhfmldaaaRows
import Derived.Test.YtlahlfjhfmldaaaP44
import Derived.Test.YtlahlfjhfmldaaaOpen
import Derived.Test.YtlahlfjhfmldaaaQFnExactAliveBuses
import Derived.WalkKit
import Derived.ProofKit
import Derived.OpenShut
import Derived.ChangeOld
import Derived.Below
import Derived.SizedLaws
namespace Go.Proofs.Ytlahlfjhfmldaaa.fnExactAliveBuses
open Go.ChangeShapes Go.WideShapes Go.ChangeAt Go.RowKit
open Go.Proofs.YtlahlfjhfmldaaaO Go.Proofs.YtlahlfjhfmldaaaW.PrintWords Go.Proofs.Ytlahlfjhfmldaaa.P
set_option linter.unusedVariables false
theorem own : ownKnob Try.prog.godebug = none := by kernel_rfl
theorem laidOut : laidOutB Try.prog = true := by kernel_rfl
set_option maxRecDepth 100000 in
theorem lifted (os : Os) (started : os.Started) (H : Type) (enc : TypeId × Value → H) :
    ReturnsInHanded {} Try.checked os 3 .any (Rows.fnExactAliveBusesSpec.pre6 enc Try.prog Try.f3 Rows.fnExactAliveBusesRow.domain false) (Rows.fnExactAliveBusesSpec.post enc Try.prog Try.f3 false true false false) := by
  refine returnsInHanded_of_change_sized (C := Try.checked) own started (by kernel_rfl) Try.func3
    (ChangeSpec.witness6 (enc := enc) (C := Try.checked) false ⟨#[], #[.agg #[.int .i64 0, .slice none 0 0], .slice none 0 0, .slice none 0 0], []⟩ 8 (by kernel_rfl) (by kernel_rfl) (by kernel_rfl) (by kernel_rfl)) ?_
  intro W base args ds gs before hval0 hW hcnd hsz0 _
  have hval : ∀ (j : Nat) t v, Try.f3.params[j]? = some t → args[j]? = some v → Value.okWide Try.prog W .any base t v := hval0
  have hW' := hW
  obtain ⟨p, q, hA0, hV, rfl, hfz, hnd⟩ := hW
  have hA : DataW.TrodAll enc Try.prog W 0 (fun _ => true) true Try.f3.params.toList args.toList ds p := hA0
  rw [Try.params3] at hA hval
  obtain ⟨v0, vs0, d0, ds0, p0, q0, hargs, rfl, rfl, h0, r0⟩ := trodAll_cons hA
  obtain ⟨v1, vs1, d1, ds1, p1, q1, rfl, rfl, rfl, h1, r1⟩ := trodAll_cons r0
  obtain ⟨v2, vs2, d2, ds2, p2, q2, rfl, rfl, rfl, h2, r2⟩ := trodAll_cons r1
  obtain ⟨rfl, rfl, rfl⟩ := trodAll_nil r2
  obtain rfl : args = #[v0, v1, v2] := by cases args; simp_all
  obtain ⟨rfl, rfl⟩ := trodVars_none hV
  have k0 := h0
  have lt0 : ∀ x ∈ p0, x.block < W.heap.size := by obtain ⟨m, hm⟩ := k0; exact DataW.trod_lt m _ _ _ hm
  obtain ⟨v0_0, v0_1, y0_0, y0_1, n0, rfl, _, _, g0_0, g0_1⟩ := Go.Joins.open_agg2 Try.underlying24 (by kernel_rfl) (by kernel_rfl) (hval 0 24 v0 rfl rfl) h0
  obtain ⟨a0_0, e0_0, _, w0_0⟩ := DataW.trod_int Try.underlying3 g0_0
  simp at e0_0
  subst e0_0
  obtain ⟨A0_1, c0_1, l0_1, e0_1, hr0_1, hc0_1, hm0_1⟩ := opens_slice (enc := enc) (w := W) Try.underlying22 (d := k79) (by kernel_rfl) (fun n_ cs_ x_ h_ => by
      obtain ⟨x0, x1, x2, rfl⟩ := cells_three Try.underlying79 (by kernel_rfl) (by kernel_rfl) Try.underlying3 Try.underlying3 Try.underlying3 h_
      exact ⟨⟨x0, x1, x2⟩, k79_mk W _⟩) g0_1
  subst e0_1
  have k1 := h1
  have lt1 : ∀ x ∈ p1, x.block < W.heap.size := by obtain ⟨m, hm⟩ := k1; exact DataW.trod_lt m _ _ _ hm
  obtain ⟨a1, len1, cap1, rfl⟩ := okWide_slice Try.underlying25 (hval 1 25 v1 rfl rfl)
  obtain ⟨fuel1, hf1⟩ := h1
  obtain ⟨A1, c1, l1, e1, hr1, hc1, hm1⟩ := opens_slice (enc := enc) (w := W) Try.underlying25 (d := Kd.bool) (by kernel_rfl) (opens_bool Try.underlying4) (c := .slice a1 len1 cap1) (by simpa [Value.cells] using hf1)
  cases e1
  have k2 := h2
  have lt2 : ∀ x ∈ p2, x.block < W.heap.size := by obtain ⟨m, hm⟩ := k2; exact DataW.trod_lt m _ _ _ hm
  obtain ⟨a2, len2, cap2, rfl⟩ := okWide_slice Try.underlying26 (hval 2 26 v2 rfl rfl)
  obtain ⟨fuel2, hf2⟩ := h2
  obtain ⟨A2, c2, l2, e2, hr2, hc2, hm2⟩ := opens_slice (enc := enc) (w := W) Try.underlying26 (d := k55) (by kernel_rfl) (fun n_ cs_ x_ h_ => by
      obtain ⟨x0, x1, rfl⟩ := cells_two Try.underlying55 (by kernel_rfl) (by kernel_rfl) Try.underlying3 Try.underlying3 h_
      exact ⟨⟨x0, x1⟩, k55_mk W _⟩) (c := .slice a2 len2 cap2) (by simpa [Value.cells] using hf2)
  cases e2
  clear hA0 hval0 hsz0
  have hn0_1 : l0_1.length ≤ 9223372036854775807 := hm0_1
  have hn1 : l1.length ≤ 9223372036854775807 := hm1
  have hn2 : l2.length ≤ 9223372036854775807 := hm2
  obtain ⟨k, hk⟩ := Ev.rounds (x_AliveBuses a0_0 l0_1 l1 l2 hn0_1 hn2)
  refine (laws_FnExactAliveBuses.calls k a0_0 _ _ l0_1 _ _ l1 _ _ l2 true W hr0_1 hc0_1 hr1 hc1 hr2 hc2 hk).mono fun e W' hE => ?_
  obtain ⟨he, bel⟩ : e = .returned (.bool true) ∧ Below W.heap.size W W' := hE
  subst he
  exact ⟨_, rfl, _, _, _, [], _, [], hW', trodAll_mk1 (shut_bool Try.underlying4 _), (trodAll_cons_mk (Below.trod laidOut (by kernel_rfl) (of_decide_eq_true (by kernel_rfl)) k0 bel lt0) (trodAll_cons_mk (Below.trod laidOut (by kernel_rfl) (of_decide_eq_true (by kernel_rfl)) k1 bel lt1) (trodAll_cons_mk (Below.trod laidOut (by kernel_rfl) (of_decide_eq_true (by kernel_rfl)) k2 bel lt2) trodAll_mk0))), rfl, bel.frame _, fun h => by cases h⟩
theorem over : Rows.fnExactAliveBusesRow.holds Try.pinned (OpenSpec.ofChange Rows.fnExactAliveBusesSpec) :=
  OpenClaim.holds_of_wide 3 Try.f3 rfl rfl rfl rfl rfl rfl rfl ⟨rfl, rfl, rfl, rfl, rfl⟩ rfl rfl rfl rfl rfl (by kernel_rfl) Try.func3 (by kernel_rfl)
    (of_decide_eq_true (by kernel_rfl)) (by unfold Func.isWrapper; first | (rw [if_pos (by decide +kernel)]; kernel_rfl) | (rw [if_neg (by decide +kernel)]; exact ⟨rfl, rfl⟩))
    (fun os started H enc _ => lifted os started H enc)
end Go.Proofs.Ytlahlfjhfmldaaa.fnExactAliveBuses
namespace Go.Proofs.Ytlahlfjhfmldaaa
/-- The law FnExactAliveBuses, proved. -/
theorem fnExactAliveBuses_holds : Rows.FnExactAliveBusesSaid := fnExactAliveBuses.over
#print axioms fnExactAliveBuses_holds
end Go.Proofs.Ytlahlfjhfmldaaa

/- The law FnSpanningLines holds of the given program: for every input it answers true, and its arguments read behind the call as they read before. No condition. -/
import Derived.Test.YtpgjgbjkfgbpaaaDoorRows
import Derived.Test.YtpgjgbjkfgbpaaaDoorP69
import Derived.Test.YtpgjgbjkfgbpaaaDoorOpen
import Derived.Test.YtpgjgbjkfgbpaaaDoorQFnSpanningLines
import Derived.WalkKit
import Derived.ProofKit
import Derived.OpenShut
import Derived.ChangeOld
import Derived.Below
import Derived.SizedLaws
import Derived.LaidMore
import Derived.SevenTiedAt
import Derived.Test.YtpgjgbjkfgbpaaaDoorTie
import Derived.Test.YtpgjgbjkfgbpaaaDoorCards
namespace Go.Proofs.YtpgjgbjkfgbpaaaDoor.fnSpanningLines
open Go.ChangeShapes Go.WideShapes Go.ChangeAt Go.RowKit
open Go.Proofs.YtpgjgbjkfgbpaaaDoorO Go.Proofs.YtpgjgbjkfgbpaaaDoorW.PrintWords Go.Proofs.YtpgjgbjkfgbpaaaDoor.P
set_option linter.unusedVariables false
theorem own : ownKnob Tryd.prog.godebug = none := by kernel_rfl
theorem laidOut : laidOutB Tryd.prog = true := by kernel_rfl
theorem door_met (os : Os) (args : Array Value) : laidMetH Tryd.prog Rows.fnSpanningLinesRow.laid ((World.doorLaid Tryd.prog 400 os).forCall (fun _ _ => 0) ⟨#[], args, []⟩).memory :=
  laidMetH_of_parts3 (fuel := 8) (laidMet_of_run' 8 (by kernel_rfl) (by kernel_rfl)) (by kernel_rfl) (by kernel_rfl)
set_option maxRecDepth 100000 in
theorem lifted (os : Os) (started : os.Started) (H : Type) (enc : TypeId × Value → H) :
    ReturnsInHanded {} Tryd.checked os 6 .any (fun w args => (Rows.fnSpanningLinesSpec.pre enc Tryd.prog Tryd.f6 [] false w args ∧ laidMetH Tryd.prog Rows.fnSpanningLinesRow.laid w) ∧ sizedMet enc Tryd.prog Tryd.f6 (OpenSpec.ofChange Rows.fnSpanningLinesSpec) false w args) (Rows.fnSpanningLinesSpec.post enc Tryd.prog Tryd.f6 false true false false) := by
  refine returnsInHanded_of_change_and (C := Tryd.checked) (X := fun w _ => laidMetH Tryd.prog Rows.fnSpanningLinesRow.laid w) (fun _ _ _ hh h => h.of_heap hh) own started (by kernel_rfl) Tryd.func6
    (ChangeSpec.witness_shaped (enc := enc) (C := Tryd.checked) (os := os) (X := fun w _ => laidMetH Tryd.prog Rows.fnSpanningLinesRow.laid w) false (World.doorLaid Tryd.prog 400 os) #[.slice none 0 0] 8 rfl (World.shaped_of_RefB (by kernel_rfl) (by kernel_rfl)) (by kernel_rfl) (by kernel_rfl) (by kernel_rfl) (door_met os _)) ?_
  intro W base args ds gs before hval0 hW hcnd hsz0 hlaid_ _
  have hval : ∀ (j : Nat) t v, Tryd.f6.params[j]? = some t → args[j]? = some v → Value.okWide Tryd.prog W .any base t v := hval0
  have hW' := hW
  obtain ⟨p, q, hA0, hV, rfl, hfz, hnd⟩ := hW
  have hA : DataW.TrodAll enc Tryd.prog W 0 (fun _ => true) true Tryd.f6.params.toList args.toList ds p := hA0
  rw [Tryd.params6] at hA hval
  obtain ⟨v0, vs0, d0, ds0, p0, q0, hargs, rfl, rfl, h0, r0⟩ := trodAll_cons hA
  obtain ⟨rfl, rfl, rfl⟩ := trodAll_nil r0
  obtain rfl : args = #[v0] := by cases args; simp_all
  obtain ⟨rfl, rfl⟩ := trodVars_none hV
  have k0 := h0
  have lt0 : ∀ x ∈ p0, x.block < W.heap.size := by obtain ⟨m, hm⟩ := k0; exact DataW.trod_lt m _ _ _ hm
  obtain ⟨a0, len0, cap0, rfl⟩ := okWide_slice Tryd.underlying22 (hval 0 22 v0 rfl rfl)
  obtain ⟨fuel0, hf0⟩ := h0
  obtain ⟨A0, c0, l0, e0, hr0, hc0, hm0, hb0⟩ := opens_slice_p (enc := enc) (w := W) Tryd.underlying22 (d := Kd.int .u8) (p := fun z => 0 ≤ z ∧ z ≤ 255) (by kernel_rfl) (fun n_ cs_ x_ h_ => by
      obtain ⟨z, rfl, _, hw_⟩ := DataW.trod_int Tryd.underlying5 h_
      exact ⟨z, rfl, bounds_u8 hw_⟩) (c := .slice a0 len0 cap0) (by simpa [Value.cells] using hf0)
  cases e0
  clear hA0 hval0 hsz0
  have hn0 : l0.length ≤ 9223372036854775807 := hm0
  obtain ⟨k, hk⟩ := Ev.rounds (d_SpanningLines l0 hb0)
  refine (laws_FnSpanningLines.calls k _ _ l0 true W hr0 hc0 hk).mono fun e W' hE => ?_
  obtain ⟨he, bel⟩ : e = .returned (.bool true) ∧ Below W.heap.size W W' := hE
  subst he
  exact ⟨_, rfl, _, _, _, [], _, [], hW', trodAll_mk1 (shut_bool Tryd.underlying4 _), (trodAll_cons_mk (Below.trod laidOut (by kernel_rfl) (of_decide_eq_true (by kernel_rfl)) k0 bel lt0) trodAll_mk0), rfl, bel.frame _, fun h => by cases h⟩
theorem over : Rows.fnSpanningLinesRow.holds Tryd.pinned (OpenSpec.ofChange Rows.fnSpanningLinesSpec) :=
  OpenClaim.holds_of_wide 6 Tryd.f6 rfl rfl rfl rfl rfl rfl rfl ⟨rfl, rfl, rfl, rfl, rfl⟩ rfl rfl rfl rfl rfl (by kernel_rfl) Tryd.func6 (by kernel_rfl)
    (of_decide_eq_true (by kernel_rfl)) (by unfold Func.isWrapper; first | (rw [if_pos (by decide +kernel)]; kernel_rfl) | (rw [if_neg (by decide +kernel)]; exact ⟨rfl, rfl⟩))
    (fun os started H enc _ => lifted os started H enc)
end Go.Proofs.YtpgjgbjkfgbpaaaDoor.fnSpanningLines
namespace Go.Proofs.YtpgjgbjkfgbpaaaDoor
/-- The law FnSpanningLines, proved. -/
theorem fnSpanningLines_holds : Rows.FnSpanningLinesSaid := fnSpanningLines.over
theorem fnSpanningLines_card : Rows.FnSpanningLinesCardSaid :=
  Claim7.holds_tied_plain_at .later [] [.data, .data, .data] true (true, "9c2bbb5103c74fbc572e0af1c1b91f8ca01e99c9484052babc01f81d43e4fb39") false
    fnSpanningLines_holds (fun _ h => by cases h) (by kernel_rfl) (fun _ h => by cases h) fnSpanningLines_row_tie rfl ⟨rfl, rfl⟩ (by kernel_rfl) rfl
    (fun f fn hf hfn => by
      obtain rfl : f = 6 := Option.some.inj ((show Tryd.prog.funcNamed "loop.example/powercontrol/laws.FnSpanningLines" = some 6 by kernel_rfl).symm.trans hf) |>.symm
      obtain rfl : fn = Tryd.f6 := (Option.some.inj (Tryd.func6.symm.trans hfn)).symm
      exact ⟨by kernel_rfl, fun j t ht => by
        rw [Tryd.params6] at ht
        have ht' : t = 22 := by
          rcases j with _ | j
          · simpa using ht.symm
          · simp at ht
        subst ht'
        exact (show Tryd.prog.wantsStandIn 22 = false by kernel_rfl)⟩)
    (by kernel_rfl)
#print axioms fnSpanningLines_card
end Go.Proofs.YtpgjgbjkfgbpaaaDoor

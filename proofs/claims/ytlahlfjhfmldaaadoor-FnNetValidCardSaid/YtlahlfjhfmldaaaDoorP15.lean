/- Contracts of Go functions of this seat's translation, written by this repo's wip/mk.py: it calls the kit's print.py with contracts typed by hand in place of functions that it does not take. Not trusted: Lean checks it. -/
import Derived.Test.YtlahlfjhfmldaaaDoorP15B
namespace Go.Proofs.YtlahlfjhfmldaaaDoor.P
open Go.RowKit Go.Proofs.YtlahlfjhfmldaaaDoorW.PrintWords Go.Proofs.YtlahlfjhfmldaaaDoorW.PrintLast Go.Proofs.YtlahlfjhfmldaaaDoorW.PrintMore
attribute [local go_sem] max2_int min2_int max_two min_two max_three min_three max_four min_four   -- for this text's walks alone
set_option linter.unusedVariables false
set_option linter.unusedSimpArgs false
theorem laws_FnNetValid.calls (k : Nat) (A0 : Option Addr) (c0 : Nat) (l0 : List Int) (r : Bool) (w : World) (hr0 : Kd.C (Kd.int .u8) w A0 l0.length l0) (hc0 : l0.length ≤ c0) (h : laws_FnNetValid.f k l0 = some r) :
  Calls Tryd.prog 3 #[.slice A0 l0.length c0] w fun e w' => e = .returned (.bool r) ∧ Below w.heap.size w w' := by
  by_cases hq : ∀ bt, spec_DrawNetValid.f k l0 = some bt → (bt.2.length : Int) > 0
  · exact laws_FnNetValid.calls_some k A0 c0 l0 r w hr0 hc0 hq h
  · exact laws_FnNetValid.calls_none k A0 c0 l0 r w hr0 hc0 (fun bt hbt hpos => hq fun bt' hbt' => by rw [hbt] at hbt'; cases hbt'; exact hpos) h
end Go.Proofs.YtlahlfjhfmldaaaDoor.P

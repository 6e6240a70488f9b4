/- Contracts of Go functions of this seat's translation, written by this repo's wip/mk.py: it calls the kit's print.py with contracts typed by hand in place of functions that it does not take. Not trusted: Lean checks it. -/
import Derived.Test.YtlahlfjhfmldaaaDoorP0
import Derived.Test.YtlahlfjhfmldaaaDoorP14
import Derived.Test.YtlahlfjhfmldaaaDoorP18
import Derived.Test.YtlahlfjhfmldaaaDoorP21
import Derived.Test.YtlahlfjhfmldaaaDoorP58
namespace Go.Proofs.YtlahlfjhfmldaaaDoor.P
open Go.RowKit Go.Proofs.YtlahlfjhfmldaaaDoorW.PrintWords Go.Proofs.YtlahlfjhfmldaaaDoorW.PrintLast Go.Proofs.YtlahlfjhfmldaaaDoorW.PrintMore
attribute [local go_sem] max2_int min2_int max_two min_two max_three min_three max_four min_four   -- for this text's walks alone
set_option linter.unusedVariables false
set_option linter.unusedSimpArgs false

/-! ### laws_FnStateNumber: function 11 -/
def laws_FnStateNumber.f (k : Nat) (l0 : List Int) : Option (Bool) := if (l0.length : Int) > 1048576 then (some true) else ((spec_DrawStateNumber.f k l0).bind fun t624 => ((impl_StateNumber.f k t624).bind fun t627 => ((spec_StateNumber.f k t624).bind fun t628 => (if t627 = t628 then (if t627 < 0 then (if t627 = (-1) then (if (t624.length : Int) > 10 then ((laws_alive.f k).bind fun t629 => (some t629)) else (none)) else (none)) else ((impl_StateOf.f k t627 (t624.length : Int)).bind fun bt630 => (if bt630.2 = true then ((laws_sameBools.f k bt630.1 t624).bind fun t634 => (some t634)) else (none)))) else (none)))))
theorem laws_FnStateNumber.mono : ∀ a0 k, LeO (laws_FnStateNumber.f k a0) (laws_FnStateNumber.f (k + 1) a0) := by
  intro a0 k
  unfold laws_FnStateNumber.f
  repeat' first
      | (with_reducible exact impl_StateNumber.mono _ _)
      | (with_reducible exact impl_StateOf.mono _ _ _)
      | (with_reducible exact laws_alive.mono _)
      | (with_reducible exact laws_sameBools.mono _ _ _)
      | (with_reducible exact spec_DrawStateNumber.mono _ _)
      | (with_reducible exact spec_StateNumber.mono _ _)
      | (with_reducible exact LeO.refl _)
      | (with_reducible exact LeO.none _)
      | (with_reducible refine LeO.ite ?_ ?_)
      | (with_reducible refine LeO.bind ?_ (fun _ => ?_))
      | exact impl_StateNumber.mono _ _
      | exact impl_StateOf.mono _ _ _
      | exact laws_alive.mono _
      | exact laws_sameBools.mono _ _ _
      | exact spec_DrawStateNumber.mono _ _
      | exact spec_StateNumber.mono _ _
      | exact LeO.none _
      | refine LeO.ite ?_ ?_
      | refine LeO.bind ?_ (fun _ => ?_)
set_option maxHeartbeats 8000000 in
set_option maxRecDepth 100000 in
theorem laws_FnStateNumber.calls (k : Nat) (A0 : Option Addr) (c0 : Nat) (l0 : List Int) (r : Bool) (w : World) (hr0 : Kd.C (Kd.int .u8) w A0 l0.length l0) (hc0 : l0.length ≤ c0) (h : laws_FnStateNumber.f k l0 = some r) :
    Calls Tryd.prog 11 #[.slice A0 l0.length c0] w fun e w' => e = .returned (.bool r) ∧ Below w.heap.size w w' := by
  have HR0 := Aside0.mk hr0
  have HC0 := Aside0.mk hc0
  clear hr0 hc0
  have HB := Aside0.mk (Below.refl w.heap.size w)
  have H : (if (l0.length : Int) > 1048576 then (some true) else ((spec_DrawStateNumber.f k l0).bind fun t624 => ((impl_StateNumber.f k t624).bind fun t627 => ((spec_StateNumber.f k t624).bind fun t628 => (if t627 = t628 then (if t627 < 0 then (if t627 = (-1) then (if (t624.length : Int) > 10 then ((laws_alive.f k).bind fun t629 => (some t629)) else (none)) else (none)) else ((impl_StateOf.f k t627 (t624.length : Int)).bind fun bt630 => (if bt630.2 = true then ((laws_sameBools.f k bt630.1 t624).bind fun t634 => (some t634)) else (none)))) else (none)))))) = some r := h
  clear h
  by_cases c2 : (l0.length : Int) > 1048576
  · rw [if_pos c2] at H
    have c2b0 : decide (1048576 < (l0.length : Int)) = true := decide_eq_true c2
    have c2b1 : decide (1048576 < l0.length) = true := decide_eq_true (by omega)
    clear c2
    obtain rfl := Option.some.inj H
    go_enter Tryd.func11, Tryd.ntmps11
    go_wp2
    go_ret
    exact ⟨by first | rfl | (simp [errW_none, errW_some] <;> rfl) | (simp [*, errW_none, errW_some] <;> rfl), by repeat (first | (with_reducible first | exact HB.out | apply below_alloc | apply pw_below_drewN | apply below_drew1) | exact HB.out)⟩
  · rw [if_neg c2] at H
    have c2b0 : decide (1048576 < (l0.length : Int)) = false := decide_eq_false c2
    have c2b1 : decide (1048576 < l0.length) = false := decide_eq_false (by omega)
    clear c2
    replace H := Option.bind_eq_some_iff.mp H
    obtain ⟨t624, A30, H⟩ := H
    replace H : ((impl_StateNumber.f k t624).bind fun t627 => ((spec_StateNumber.f k t624).bind fun t628 => (if t627 = t628 then (if t627 < 0 then (if t627 = (-1) then (if (t624.length : Int) > 10 then ((laws_alive.f k).bind fun t629 => (some t629)) else (none)) else (none)) else ((impl_StateOf.f k t627 (t624.length : Int)).bind fun bt630 => (if bt630.2 = true then ((laws_sameBools.f k bt630.1 t624).bind fun t634 => (some t634)) else (none)))) else (none)))) = some r := H
    have A3 := Aside0.mk A30
    clear A30
    replace H := Option.bind_eq_some_iff.mp H
    obtain ⟨t627, A40, H⟩ := H
    replace H : ((spec_StateNumber.f k t624).bind fun t628 => (if t627 = t628 then (if t627 < 0 then (if t627 = (-1) then (if (t624.length : Int) > 10 then ((laws_alive.f k).bind fun t629 => (some t629)) else (none)) else (none)) else ((impl_StateOf.f k t627 (t624.length : Int)).bind fun bt630 => (if bt630.2 = true then ((laws_sameBools.f k bt630.1 t624).bind fun t634 => (some t634)) else (none)))) else (none))) = some r := H
    have A4 := Aside0.mk A40
    clear A40
    replace H := Option.bind_eq_some_iff.mp H
    obtain ⟨t628, A50, H⟩ := H
    replace H : (if t627 = t628 then (if t627 < 0 then (if t627 = (-1) then (if (t624.length : Int) > 10 then ((laws_alive.f k).bind fun t629 => (some t629)) else (none)) else (none)) else ((impl_StateOf.f k t627 (t624.length : Int)).bind fun bt630 => (if bt630.2 = true then ((laws_sameBools.f k bt630.1 t624).bind fun t634 => (some t634)) else (none)))) else (none)) = some r := H
    have A5 := Aside0.mk A50
    clear A50
    by_cases c6 : t627 = t628
    · rw [if_pos c6] at H
      have c6b0 : (t627 == t628) = true := beq_iff_eq.mpr c6
      have c6b1 : (t627 != t628) = false := bne_eq_false_iff_eq.mpr c6
      clear c6
      by_cases c7 : t627 < 0
      · rw [if_pos c7] at H
        have c7b0 : decide (t627 < 0) = true := decide_eq_true c7
        clear c7
        by_cases c8 : t627 = (-1)
        · rw [if_pos c8] at H
          have c8b0 : (t627 == (-1)) = true := beq_iff_eq.mpr c8
          have c8b1 : (t627 != (-1)) = false := bne_eq_false_iff_eq.mpr c8
          clear c8
          by_cases c9 : (t624.length : Int) > 10
          · rw [if_pos c9] at H
            have c9b0 : decide (10 < (t624.length : Int)) = true := decide_eq_true c9
            have c9b1 : decide (10 < t624.length) = true := decide_eq_true (by omega)
            clear c9
            replace H := Option.bind_eq_some_iff.mp H
            obtain ⟨t629, A100, H⟩ := H
            replace H : (some t629) = some r := H
            have A10 := Aside0.mk A100
            clear A100
            obtain rfl := Option.some.inj H
            go_enter Tryd.func11, Tryd.ntmps11
            go_wp2_with (first | ((with_reducible refine gate_callee (f := 44) rfl ?_); refine goesL_ (some 11) rfl rfl Tryd.func44 (by kernel_rfl) rfl #[.slice A0 l0.length c0] rfl (by (try simp only [List.map_toArray, List.map_cons, List.map_nil]); first | done | rfl | (simp only [List.length_drop, List.length_take]; rfl)) ?_; (with_reducible refine (spec_DrawStateNumber.calls k _ _ l0 t624 _ ?side1 ?side2 A3.out).mono ?_); (case side1 => repeat (first | exact HR0.out | (with_reducible refine Kd.C_alloc ?_ _) | (with_reducible refine Kd.C_drewN ?_ _) | (with_reducible refine Kd.C_drew ?_))); (case side2 => exact HC0.out); rintro e w11 ⟨v625, rfl, ho0, hb⟩; refine ⟨_, rfl, ?_⟩; have n0_ := Aside0.mk (Kd.R_lower ho0 (below_size (by repeat (first | (with_reducible first | exact HB.out | apply below_alloc | apply pw_below_drewN | apply below_drew1) | exact HB.out)))); have n1_ := Aside0.mk (below_step (by repeat (first | (with_reducible first | exact HB.out | apply below_alloc | apply pw_below_drewN | apply below_drew1) | exact HB.out)) hb); clear HB; have HO626 := n0_; have HB := n1_; clear n0_ n1_; (try clear hb); (try clear hb2); (try clear hk); (try clear hi); (try clear ho0); obtain ⟨Ao12, co12, eo12⟩ := Kd.R_slice HO626.out; subst eo12) | ((with_reducible refine gate_callee (f := 20) rfl ?_); refine goesL_ (some 13) rfl rfl Tryd.func20 (by kernel_rfl) rfl #[.slice Ao12 t624.length co12] rfl (by (try simp only [List.map_toArray, List.map_cons, List.map_nil]); first | done | rfl | (simp only [List.length_drop, List.length_take]; rfl)) ?_; (with_reducible refine (impl_StateNumber.calls k _ _ t624 t627 _ ?side1 ?side2 A4.out).mono ?_); (case side1 => repeat (first | exact (Kd.R_reads' HO626.out).2.2 | (with_reducible refine Kd.C_alloc ?_ _) | (with_reducible refine Kd.C_drewN ?_ _) | (with_reducible refine Kd.C_drew ?_))); (case side2 => exact (Kd.R_reads' HO626.out).2.1); rintro e w' ⟨rfl, ⟨nd, rfl⟩⟩; refine ⟨_, rfl, ?_⟩) | ((with_reducible refine gate_callee (f := 45) rfl ?_); refine goesL_ (some 16) rfl rfl Tryd.func45 (by kernel_rfl) rfl #[.slice Ao12 t624.length co12] rfl (by (try simp only [List.map_toArray, List.map_cons, List.map_nil]); first | done | rfl | (simp only [List.length_drop, List.length_take]; rfl)) ?_; (with_reducible refine (spec_StateNumber.calls k _ _ t624 t628 _ ?side1 ?side2 A5.out).mono ?_); (case side1 => repeat (first | exact (Kd.R_reads' HO626.out).2.2 | (with_reducible refine Kd.C_alloc ?_ _) | (with_reducible refine Kd.C_drewN ?_ _) | (with_reducible refine Kd.C_drew ?_))); (case side2 => exact (Kd.R_reads' HO626.out).2.1); rintro e w' ⟨rfl, ⟨nd, rfl⟩⟩; refine ⟨_, rfl, ?_⟩) | (go_at_call 15; (with_reducible refine (laws_alive.calls k  t629 _ A10.out).mono ?_); rintro e w13 ⟨rfl, hb⟩; have n0_ := Aside0.mk (Kd.R_below (by (with_reducible repeat (first | apply Kd.R_alloc | apply Kd.R_drewN | apply Kd.R_drew)); exact HO626.out) hb); have n1_ := Aside0.mk (below_step (by repeat (first | (with_reducible first | exact HB.out | apply below_alloc | apply pw_below_drewN | apply below_drew1) | exact HB.out)) hb); clear HO626; clear HB; have HO626 := n0_; have HB := n1_; clear n0_ n1_; (try clear hb); (try clear hb2); (try clear hk); (try clear hi)))
            go_ret
            exact ⟨by first | rfl | (simp [errW_none, errW_some] <;> rfl) | (simp [*, errW_none, errW_some] <;> rfl), by repeat (first | (with_reducible first | exact HB.out | apply below_alloc | apply pw_below_drewN | apply below_drew1) | exact HB.out)⟩
          · rw [if_neg c9] at H
            exact absurd H (by simp)
        · rw [if_neg c8] at H
          exact absurd H (by simp)
      · rw [if_neg c7] at H
        have c7b0 : decide (t627 < 0) = false := decide_eq_false c7
        clear c7
        replace H := Option.bind_eq_some_iff.mp H
        obtain ⟨⟨t630, t631⟩, A140, H⟩ := H
        replace H : (if t631 = true then ((laws_sameBools.f k t630 t624).bind fun t634 => (some t634)) else (none)) = some r := H
        have A14 := Aside0.mk A140
        clear A140
        by_cases c15 : t631 = true
        · subst c15
          have H1 : ((laws_sameBools.f k t630 t624).bind fun t634 => (some t634)) = some r := by rw [if_pos rfl] at H; exact H
          clear H
          have H := H1
          clear H1
          replace H := Option.bind_eq_some_iff.mp H
          obtain ⟨t634, A160, H⟩ := H
          replace H : (some t634) = some r := H
          have A16 := Aside0.mk A160
          clear A160
          obtain rfl := Option.some.inj H
          go_enter Tryd.func11, Tryd.ntmps11
          go_wp2_with (first | ((with_reducible refine gate_callee (f := 44) rfl ?_); refine goesL_ (some 11) rfl rfl Tryd.func44 (by kernel_rfl) rfl #[.slice A0 l0.length c0] rfl (by (try simp only [List.map_toArray, List.map_cons, List.map_nil]); first | done | rfl | (simp only [List.length_drop, List.length_take]; rfl)) ?_; (with_reducible refine (spec_DrawStateNumber.calls k _ _ l0 t624 _ ?side1 ?side2 A3.out).mono ?_); (case side1 => repeat (first | exact HR0.out | (with_reducible refine Kd.C_alloc ?_ _) | (with_reducible refine Kd.C_drewN ?_ _) | (with_reducible refine Kd.C_drew ?_))); (case side2 => exact HC0.out); rintro e w17 ⟨v625, rfl, ho0, hb⟩; refine ⟨_, rfl, ?_⟩; have n0_ := Aside0.mk (Kd.R_lower ho0 (below_size (by repeat (first | (with_reducible first | exact HB.out | apply below_alloc | apply pw_below_drewN | apply below_drew1) | exact HB.out)))); have n1_ := Aside0.mk (below_step (by repeat (first | (with_reducible first | exact HB.out | apply below_alloc | apply pw_below_drewN | apply below_drew1) | exact HB.out)) hb); clear HB; have HO626 := n0_; have HB := n1_; clear n0_ n1_; (try clear hb); (try clear hb2); (try clear hk); (try clear hi); (try clear ho0); obtain ⟨Ao18, co18, eo18⟩ := Kd.R_slice HO626.out; subst eo18) | ((with_reducible refine gate_callee (f := 20) rfl ?_); refine goesL_ (some 13) rfl rfl Tryd.func20 (by kernel_rfl) rfl #[.slice Ao18 t624.length co18] rfl (by (try simp only [List.map_toArray, List.map_cons, List.map_nil]); first | done | rfl | (simp only [List.length_drop, List.length_take]; rfl)) ?_; (with_reducible refine (impl_StateNumber.calls k _ _ t624 t627 _ ?side1 ?side2 A4.out).mono ?_); (case side1 => repeat (first | exact (Kd.R_reads' HO626.out).2.2 | (with_reducible refine Kd.C_alloc ?_ _) | (with_reducible refine Kd.C_drewN ?_ _) | (with_reducible refine Kd.C_drew ?_))); (case side2 => exact (Kd.R_reads' HO626.out).2.1); rintro e w' ⟨rfl, ⟨nd, rfl⟩⟩; refine ⟨_, rfl, ?_⟩) | ((with_reducible refine gate_callee (f := 45) rfl ?_); refine goesL_ (some 16) rfl rfl Tryd.func45 (by kernel_rfl) rfl #[.slice Ao18 t624.length co18] rfl (by (try simp only [List.map_toArray, List.map_cons, List.map_nil]); first | done | rfl | (simp only [List.length_drop, List.length_take]; rfl)) ?_; (with_reducible refine (spec_StateNumber.calls k _ _ t624 t628 _ ?side1 ?side2 A5.out).mono ?_); (case side1 => repeat (first | exact (Kd.R_reads' HO626.out).2.2 | (with_reducible refine Kd.C_alloc ?_ _) | (with_reducible refine Kd.C_drewN ?_ _) | (with_reducible refine Kd.C_drew ?_))); (case side2 => exact (Kd.R_reads' HO626.out).2.1); rintro e w' ⟨rfl, ⟨nd, rfl⟩⟩; refine ⟨_, rfl, ?_⟩) | ((with_reducible refine gate_callee (f := 17) rfl ?_); refine goesL_ (some 34) rfl rfl Tryd.func17 (by kernel_rfl) rfl #[.int .i64 t627, .int .i64 (t624.length : Int)] rfl (by (try simp only [List.map_toArray, List.map_cons, List.map_nil]); first | done | rfl | (simp only [List.length_drop, List.length_take]; rfl)) ?_; (with_reducible refine (impl_StateOf.calls k t627 (t624.length : Int) t630 true _ A14.out).mono ?_); rintro e w19 ⟨v632, rfl, ho0, hb⟩; refine ⟨_, rfl, ?_⟩; have n0_ := Aside0.mk (Kd.R_elder' (by (with_reducible repeat (first | apply Kd.R_alloc | apply Kd.R_drewN | apply Kd.R_drew)); exact HO626.out) (Kd.R_base ho0) hb); have n1_ := Aside0.mk (Kd.R_lower (Kd.R_new' ho0 (Kd.R_lt (by (with_reducible repeat (first | apply Kd.R_alloc | apply Kd.R_drewN | apply Kd.R_drew)); exact HO626.out))) (below_size (by repeat (first | (with_reducible first | exact HB.out | apply below_alloc | apply pw_below_drewN | apply below_drew1) | exact HB.out)))); have n2_ := Aside0.mk (below_step (by repeat (first | (with_reducible first | exact HB.out | apply below_alloc | apply pw_below_drewN | apply below_drew1) | exact HB.out)) hb); clear HO626; clear HB; have HO626 := n0_; have HO633 := n1_; have HB := n2_; clear n0_ n1_ n2_; (try clear hb); (try clear hb2); (try clear hk); (try clear hi); (try clear ho0); obtain ⟨Ao20, co20, eo20⟩ := Kd.R_slice HO633.out; subst eo20) | (go_at_call 19; (with_reducible refine (laws_sameBools.calls k _ _ t630 _ _ t624 t634 _ ?side1 ?side2 ?side3 ?side4 A16.out).mono ?_); (case side1 => repeat (first | exact (Kd.R_reads' HO633.out).2.2 | (with_reducible refine Kd.C_alloc ?_ _) | (with_reducible refine Kd.C_drewN ?_ _) | (with_reducible refine Kd.C_drew ?_))); (case side2 => exact (Kd.R_reads' HO633.out).2.1); (case side3 => repeat (first | exact (Kd.R_reads' HO626.out).2.2 | (with_reducible refine Kd.C_alloc ?_ _) | (with_reducible refine Kd.C_drewN ?_ _) | (with_reducible refine Kd.C_drew ?_))); (case side4 => exact (Kd.R_reads' HO626.out).2.1); rintro e w' ⟨rfl, ⟨nd, rfl⟩⟩))
          go_ret
          exact ⟨by first | rfl | (simp [errW_none, errW_some] <;> rfl) | (simp [*, errW_none, errW_some] <;> rfl), by repeat (first | (with_reducible first | exact HB.out | apply below_alloc | apply pw_below_drewN | apply below_drew1) | exact HB.out)⟩
        · replace c15 := Bool.eq_false_iff.mpr c15
          subst c15
          have H1 : (none) = some r := by rw [if_neg (show ¬ (false = true) by decide)] at H; exact H
          clear H
          have H := H1
          clear H1
          exact absurd H (by simp)
    · rw [if_neg c6] at H
      exact absurd H (by simp)

end Go.Proofs.YtlahlfjhfmldaaaDoor.P

/- Contracts of Go functions of this seat's translation, written by this repo's wip/mk.py: it calls the kit's print.py with contracts typed by hand in place of functions that it does not take. Not trusted: Lean checks it. -/
import Derived.Test.YtknddipjabkfbaaP0
import Derived.Test.YtknddipjabkfbaaP3
import Derived.Test.YtknddipjabkfbaaP8
import Derived.Test.YtknddipjabkfbaaP14
import Derived.Test.YtknddipjabkfbaaP26
import Derived.Test.YtknddipjabkfbaaP37
import Derived.Test.YtknddipjabkfbaaP40
import Derived.Test.YtknddipjabkfbaaP42
import Derived.Test.YtknddipjabkfbaaP45
namespace Go.Proofs.Ytknddipjabkfbaa.P
open Go.RowKit Go.Proofs.YtknddipjabkfbaaW.PrintWords Go.Proofs.YtknddipjabkfbaaW.PrintLast Go.Proofs.YtknddipjabkfbaaW.PrintMore
attribute [local go_sem] max2_int min2_int max_two min_two max_three min_three max_four min_four   -- for this text's walks alone
set_option linter.unusedVariables false
set_option linter.unusedSimpArgs false

/-! ### laws_FnExactReached: function 6 -/
def laws_FnExactReached.j0 : Nat → List Bool → Int → List Int → List Int → Bool → Int → List (S91) → Option (Bool)
  | 0, _, _, _, _, _, _, _ => none
  | k + 1, x1, x2, x8, x11, x65, x428000, x428001 => if x65 = true then (none) else ((laws_markIntS.f k x11 1).bind fun bt465 => ((laws_heldIntS.f k bt465.2 1).bind fun t467 => (if t467 < 0 then (none) else (if t467 = bt465.1 then ((laws_toNet.f k x428000 x428001).bind fun bt468 => ((laws_toBoolS.f k x1).bind fun t472 => ((impl_Reached.f k bt468.1 bt468.2 t472 x2).bind fun t475 => ((laws_eqIntS.f k t475 x8).bind fun t478 => (if t478 = true then ((laws_heldIntS.f k bt465.2 1).bind fun t479 => (if t479 < 0 then (none) else (if t479 = bt465.1 then (some true) else (none)))) else (none)))))) else (none)))))
def laws_FnExactReached.f (k : Nat) (a0_0 : Int) (l0_1 : List (S91)) (l1 : List Bool) (a2 : Int) : Option (Bool) := if (l1.length : Int) > 1048576 then (some true) else ((laws_szNet.f a0_0 l0_1 1048576).bind fun t428 => (if t428 < 0 then (some true) else ((laws_toNet.f k a0_0 l0_1).bind fun bt429 => ((laws_toBoolS.f k l1).bind fun t433 => ((spec_Reached.f k bt429.1 bt429.2 t433 a2).bind fun t436 => ((laws_toNet.f k a0_0 l0_1).bind fun bt439 => ((laws_toBoolS.f k l1).bind fun t444 => ((impl_Reached.f k bt439.1 bt439.2 t444 a2).bind fun t447 => ((laws_eqIntS.f k t447 t436).bind fun t450 => (if t450 = true then ((laws_toNet.f k a0_0 l0_1).bind fun bt451 => ((laws_eqNet.f k bt439.1 bt439.2 bt451.1 bt451.2).bind fun t455 => (if t455 = true then ((laws_toBoolS.f k l1).bind fun t456 => ((laws_eqBoolS.f k t444 t456).bind fun t459 => (if t459 = true then ((laws_markNet.f k bt439.1 bt439.2 1).bind fun bt460 => ((laws_markBoolS.f k t444 bt460.1).bind fun bt462 => (if bt462.1 < 0 then (laws_FnExactReached.j0 k l1 a2 t436 t447 true a0_0 l0_1) else ((laws_eqIntS.f k t447 t436).bind fun t464 => (laws_FnExactReached.j0 k l1 a2 t436 t447 (!t464) a0_0 l0_1))))) else (none)))) else (none)))) else (none)))))))))))
theorem laws_FnExactReached.mono_l : ∀ k, (∀ y0 y1 y2 y3 y4 y5 y6, LeO (laws_FnExactReached.j0 k y0 y1 y2 y3 y4 y5 y6) (laws_FnExactReached.j0 (k + 1) y0 y1 y2 y3 y4 y5 y6))
  | 0 => fun _ _ _ _ _ _ _ r h => by simp [laws_FnExactReached.j0] at h
  | k + 1 => by
    have ih0 := laws_FnExactReached.mono_l k
    · intro y0 y1 y2 y3 y4 y5 y6
      unfold laws_FnExactReached.j0
      repeat' first
      | (with_reducible exact ih0 _ _ _ _ _ _ _)
      | (with_reducible exact impl_Reached.mono _ _ _ _ _)
      | (with_reducible exact laws_eqBoolS.mono _ _ _)
      | (with_reducible exact laws_eqIntS.mono _ _ _)
      | (with_reducible exact laws_eqNet.mono _ _ _ _ _)
      | (with_reducible exact laws_heldIntS.mono _ _ _)
      | (with_reducible exact laws_markBoolS.mono _ _ _)
      | (with_reducible exact laws_markIntS.mono _ _ _)
      | (with_reducible exact laws_markNet.mono _ _ _ _)
      | (with_reducible exact laws_toBoolS.mono _ _)
      | (with_reducible exact laws_toNet.mono _ _ _)
      | (with_reducible exact spec_Reached.mono _ _ _ _ _)
      | (with_reducible exact LeO.refl _)
      | (with_reducible exact LeO.none _)
      | (with_reducible refine LeO.ite ?_ ?_)
      | (with_reducible refine LeO.bind ?_ (fun _ => ?_))
      | exact ih0 _ _ _ _ _ _ _
      | exact impl_Reached.mono _ _ _ _ _
      | exact laws_eqBoolS.mono _ _ _
      | exact laws_eqIntS.mono _ _ _
      | exact laws_eqNet.mono _ _ _ _ _
      | exact laws_heldIntS.mono _ _ _
      | exact laws_markBoolS.mono _ _ _
      | exact laws_markIntS.mono _ _ _
      | exact laws_markNet.mono _ _ _ _
      | exact laws_toBoolS.mono _ _
      | exact laws_toNet.mono _ _ _
      | exact spec_Reached.mono _ _ _ _ _
      | exact LeO.none _
      | refine LeO.ite ?_ ?_
      | refine LeO.bind ?_ (fun _ => ?_)
theorem laws_FnExactReached.mono : ∀ a0 a1 a2 a3 k, LeO (laws_FnExactReached.f k a0 a1 a2 a3) (laws_FnExactReached.f (k + 1) a0 a1 a2 a3) := by
  intro a0 a1 a2 a3 k
  have ih0 := laws_FnExactReached.mono_l k
  unfold laws_FnExactReached.f
  repeat' first
      | (with_reducible exact ih0 _ _ _ _ _ _ _)
      | (with_reducible exact impl_Reached.mono _ _ _ _ _)
      | (with_reducible exact laws_eqBoolS.mono _ _ _)
      | (with_reducible exact laws_eqIntS.mono _ _ _)
      | (with_reducible exact laws_eqNet.mono _ _ _ _ _)
      | (with_reducible exact laws_heldIntS.mono _ _ _)
      | (with_reducible exact laws_markBoolS.mono _ _ _)
      | (with_reducible exact laws_markIntS.mono _ _ _)
      | (with_reducible exact laws_markNet.mono _ _ _ _)
      | (with_reducible exact laws_toBoolS.mono _ _)
      | (with_reducible exact laws_toNet.mono _ _ _)
      | (with_reducible exact spec_Reached.mono _ _ _ _ _)
      | (with_reducible exact LeO.refl _)
      | (with_reducible exact LeO.none _)
      | (with_reducible refine LeO.ite ?_ ?_)
      | (with_reducible refine LeO.bind ?_ (fun _ => ?_))
      | exact ih0 _ _ _ _ _ _ _
      | exact impl_Reached.mono _ _ _ _ _
      | exact laws_eqBoolS.mono _ _ _
      | exact laws_eqIntS.mono _ _ _
      | exact laws_eqNet.mono _ _ _ _ _
      | exact laws_heldIntS.mono _ _ _
      | exact laws_markBoolS.mono _ _ _
      | exact laws_markIntS.mono _ _ _
      | exact laws_markNet.mono _ _ _ _
      | exact laws_toBoolS.mono _ _
      | exact laws_toNet.mono _ _ _
      | exact spec_Reached.mono _ _ _ _ _
      | exact LeO.none _
      | refine LeO.ite ?_ ?_
      | refine LeO.bind ?_ (fun _ => ?_)
set_option maxHeartbeats 8000000 in
set_option maxRecDepth 100000 in
theorem laws_FnExactReached.calls (k : Nat) (a0_0 : Int) (A0_1 : Option Addr) (c0_1 : Nat) (l0_1 : List (S91)) (A1 : Option Addr) (c1 : Nat) (l1 : List Bool) (a2 : Int) (r : Bool) (w : World) (hr0_1 : Kd.C k91 w A0_1 l0_1.length l0_1) (hc0_1 : l0_1.length ≤ c0_1) (hr1 : Kd.C Kd.bool w A1 l1.length l1) (hc1 : l1.length ≤ c1) (h : laws_FnExactReached.f k a0_0 l0_1 l1 a2 = some r) :
    Calls Try.prog 6 #[.agg #[.int .i64 a0_0, .slice A0_1 l0_1.length c0_1], .slice A1 l1.length c1, .int .i64 a2] w fun e w' => e = .returned (.bool r) ∧ Below w.heap.size w w' := by
  have hu24 := Try.underlying24
  have hu30 := Try.underlying30
  have HR0_1 := Aside0.mk hr0_1
  have HC0_1 := Aside0.mk hc0_1
  clear hr0_1 hc0_1
  have HR1 := Aside0.mk hr1
  have HC1 := Aside0.mk hc1
  clear hr1 hc1
  have HB := Aside0.mk (Below.refl w.heap.size w)
  have H : (if (l1.length : Int) > 1048576 then (some true) else ((laws_szNet.f a0_0 l0_1 1048576).bind fun t428 => (if t428 < 0 then (some true) else ((laws_toNet.f k a0_0 l0_1).bind fun bt429 => ((laws_toBoolS.f k l1).bind fun t433 => ((spec_Reached.f k bt429.1 bt429.2 t433 a2).bind fun t436 => ((laws_toNet.f k a0_0 l0_1).bind fun bt439 => ((laws_toBoolS.f k l1).bind fun t444 => ((impl_Reached.f k bt439.1 bt439.2 t444 a2).bind fun t447 => ((laws_eqIntS.f k t447 t436).bind fun t450 => (if t450 = true then ((laws_toNet.f k a0_0 l0_1).bind fun bt451 => ((laws_eqNet.f k bt439.1 bt439.2 bt451.1 bt451.2).bind fun t455 => (if t455 = true then ((laws_toBoolS.f k l1).bind fun t456 => ((laws_eqBoolS.f k t444 t456).bind fun t459 => (if t459 = true then ((laws_markNet.f k bt439.1 bt439.2 1).bind fun bt460 => ((laws_markBoolS.f k t444 bt460.1).bind fun bt462 => (if bt462.1 < 0 then (laws_FnExactReached.j0 k l1 a2 t436 t447 true a0_0 l0_1) else ((laws_eqIntS.f k t447 t436).bind fun t464 => (laws_FnExactReached.j0 k l1 a2 t436 t447 (!t464) a0_0 l0_1))))) else (none)))) else (none)))) else (none)))))))))))) = some r := h
  clear h
  by_cases c4 : (l1.length : Int) > 1048576
  · rw [if_pos c4] at H
    have c4b0 : decide (1048576 < (l1.length : Int)) = true := decide_eq_true c4
    have c4b1 : decide (1048576 < l1.length) = true := decide_eq_true (by omega)
    clear c4
    obtain rfl := Option.some.inj H
    go_enter Try.func6, Try.ntmps6
    go_wp2_with (first | ((with_reducible refine gate_dst (N := 3) rfl ?_); refine box_event ?hg (N := 3) ?hd (cs := #[.int .i64 a0_0, .slice A0_1 l0_1.length c0_1]) (t := 24) ?hr ?_; (case hd => rfl); (case hg => rfl); (case hr => first | (go_simp; done) | (go_simp; rfl)); intro gb427 hg w5 hbox hb; have n0_ := Aside0.mk (below_step (by repeat (first | (with_reducible first | exact HB.out | apply below_alloc | apply pw_below_drewN | apply below_drew1) | exact HB.out)) hb); have n1_ := Aside0.mk (hbox); have n2_ := Aside0.mk ((by rw [hg]; exact (below_size (by repeat (first | (with_reducible first | exact HB.out | apply below_alloc | apply pw_below_drewN | apply below_drew1) | exact HB.out))) : w.heap.size ≤ gb427)); have n3_ := Aside0.mk ((by rw [hg]; exact (below_size (by repeat (first | (with_reducible first | exact HB.out | apply below_alloc | apply pw_below_drewN | apply below_drew1) | exact HB.out))) : w.heap.size ≤ gb427)); clear HB; have HB := n0_; have BK427 := n1_; have GW427 := n2_; have GE427 := n3_; clear n0_ n1_ n2_ n3_; clear hb hbox hg))
    go_ret
    exact ⟨by first | rfl | (simp [errW_none, errW_some] <;> rfl) | (simp [*, errW_none, errW_some] <;> rfl), by repeat (first | (with_reducible first | exact HB.out | apply below_alloc | apply pw_below_drewN | apply below_drew1 | refine below_set ?_ GE427.out) | exact HB.out)⟩
  · rw [if_neg c4] at H
    have c4b0 : decide (1048576 < (l1.length : Int)) = false := decide_eq_false c4
    have c4b1 : decide (1048576 < l1.length) = false := decide_eq_false (by omega)
    clear c4
    replace H := Option.bind_eq_some_iff.mp H
    obtain ⟨t428, A60, H⟩ := H
    replace H : (if t428 < 0 then (some true) else ((laws_toNet.f k a0_0 l0_1).bind fun bt429 => ((laws_toBoolS.f k l1).bind fun t433 => ((spec_Reached.f k bt429.1 bt429.2 t433 a2).bind fun t436 => ((laws_toNet.f k a0_0 l0_1).bind fun bt439 => ((laws_toBoolS.f k l1).bind fun t444 => ((impl_Reached.f k bt439.1 bt439.2 t444 a2).bind fun t447 => ((laws_eqIntS.f k t447 t436).bind fun t450 => (if t450 = true then ((laws_toNet.f k a0_0 l0_1).bind fun bt451 => ((laws_eqNet.f k bt439.1 bt439.2 bt451.1 bt451.2).bind fun t455 => (if t455 = true then ((laws_toBoolS.f k l1).bind fun t456 => ((laws_eqBoolS.f k t444 t456).bind fun t459 => (if t459 = true then ((laws_markNet.f k bt439.1 bt439.2 1).bind fun bt460 => ((laws_markBoolS.f k t444 bt460.1).bind fun bt462 => (if bt462.1 < 0 then (laws_FnExactReached.j0 k l1 a2 t436 t447 true a0_0 l0_1) else ((laws_eqIntS.f k t447 t436).bind fun t464 => (laws_FnExactReached.j0 k l1 a2 t436 t447 (!t464) a0_0 l0_1))))) else (none)))) else (none)))) else (none)))))))))) = some r := H
    have A6 := Aside0.mk A60
    clear A60
    by_cases c7 : t428 < 0
    · rw [if_pos c7] at H
      have c7b0 : decide (t428 < 0) = true := decide_eq_true c7
      clear c7
      obtain rfl := Option.some.inj H
      go_enter Try.func6, Try.ntmps6
      go_wp2_with (first | ((with_reducible refine gate_dst (N := 3) rfl ?_); refine box_event ?hg (N := 3) ?hd (cs := #[.int .i64 a0_0, .slice A0_1 l0_1.length c0_1]) (t := 24) ?hr ?_; (case hd => rfl); (case hg => rfl); (case hr => first | (go_simp; done) | (go_simp; rfl)); intro gb427 hg w8 hbox hb; have n0_ := Aside0.mk (below_step (by repeat (first | (with_reducible first | exact HB.out | apply below_alloc | apply pw_below_drewN | apply below_drew1) | exact HB.out)) hb); have n1_ := Aside0.mk (hbox); have n2_ := Aside0.mk ((by rw [hg]; exact (below_size (by repeat (first | (with_reducible first | exact HB.out | apply below_alloc | apply pw_below_drewN | apply below_drew1) | exact HB.out))) : w.heap.size ≤ gb427)); have n3_ := Aside0.mk ((by rw [hg]; exact (below_size (by repeat (first | (with_reducible first | exact HB.out | apply below_alloc | apply pw_below_drewN | apply below_drew1) | exact HB.out))) : w.heap.size ≤ gb427)); clear HB; have HB := n0_; have BK427 := n1_; have GW427 := n2_; have GE427 := n3_; clear n0_ n1_ n2_ n3_; clear hb hbox hg; have hcz9_0 : w8.cell? ⟨gb427, 0, none⟩ = some (.int .i64 a0_0) := (blk_cell BK427.out 0).trans rfl; have hcz9_1 : w8.cell? ⟨gb427, 1, none⟩ = some (.slice A0_1 l0_1.length c0_1) := (blk_cell BK427.out 1).trans rfl; have hfz9_0 := blk_frozen BK427.out 0; have hfz9_1 := blk_frozen BK427.out 1) | ((with_reducible refine gate_callee (f := 14) rfl ?_); refine goesL_ (some 21) rfl rfl Try.func14 (by kernel_rfl) rfl #[.agg #[.int .i64 a0_0, .slice A0_1 l0_1.length c0_1], .int .i64 1048576] rfl (by (try simp only [List.map_toArray, List.map_cons, List.map_nil]); first | done | rfl | (simp only [List.length_drop, List.length_take]; rfl)) ?_; (with_reducible refine (laws_szNet.calls a0_0 _ _ l0_1 1048576 t428 _ ?side1 ?side2 A6.out).mono ?_); (case side1 => repeat (first | exact (Kd.C_below HR0_1.out HB.out) | (with_reducible refine Kd.C_alloc ?_ _) | (with_reducible refine Kd.C_drewN ?_ _) | (with_reducible refine Kd.C_drew ?_))); (case side2 => exact HC0_1.out); rintro e w10 ⟨rfl, hb⟩; refine ⟨_, rfl, ?_⟩; have n0_ := Aside0.mk (blk_below (g := gb427) (o := .cells #[.int .i64 a0_0, .slice A0_1 l0_1.length c0_1] 24 (0, 0)) (by (with_reducible repeat (first | refine blk_drewN ?_ _ | refine blk_drew ?_ | refine blk_alloc ?_ _)); exact BK427.out) hb); have n1_ := Aside0.mk (below_step (by repeat (first | (with_reducible first | exact HB.out | apply below_alloc | apply pw_below_drewN | apply below_drew1 | refine below_set ?_ GE427.out) | exact HB.out)) hb); clear BK427; clear HB; have BK427 := n0_; have HB := n1_; clear n0_ n1_; (try clear hb); (try clear hb2); (try clear hk); (try clear hi)))
      go_ret
      exact ⟨by first | rfl | (simp [errW_none, errW_some] <;> rfl) | (simp [*, errW_none, errW_some] <;> rfl), by repeat (first | (with_reducible first | exact HB.out | apply below_alloc | apply pw_below_drewN | apply below_drew1 | refine below_set ?_ GE427.out) | exact HB.out)⟩
    · rw [if_neg c7] at H
      have c7b0 : decide (t428 < 0) = false := decide_eq_false c7
      clear c7
      replace H := Option.bind_eq_some_iff.mp H
      obtain ⟨⟨t429, t430⟩, A110, H⟩ := H
      replace H : ((laws_toBoolS.f k l1).bind fun t433 => ((spec_Reached.f k t429 t430 t433 a2).bind fun t436 => ((laws_toNet.f k a0_0 l0_1).bind fun bt439 => ((laws_toBoolS.f k l1).bind fun t444 => ((impl_Reached.f k bt439.1 bt439.2 t444 a2).bind fun t447 => ((laws_eqIntS.f k t447 t436).bind fun t450 => (if t450 = true then ((laws_toNet.f k a0_0 l0_1).bind fun bt451 => ((laws_eqNet.f k bt439.1 bt439.2 bt451.1 bt451.2).bind fun t455 => (if t455 = true then ((laws_toBoolS.f k l1).bind fun t456 => ((laws_eqBoolS.f k t444 t456).bind fun t459 => (if t459 = true then ((laws_markNet.f k bt439.1 bt439.2 1).bind fun bt460 => ((laws_markBoolS.f k t444 bt460.1).bind fun bt462 => (if bt462.1 < 0 then (laws_FnExactReached.j0 k l1 a2 t436 t447 true a0_0 l0_1) else ((laws_eqIntS.f k t447 t436).bind fun t464 => (laws_FnExactReached.j0 k l1 a2 t436 t447 (!t464) a0_0 l0_1))))) else (none)))) else (none)))) else (none)))))))) = some r := H
      have A11 := Aside0.mk A110
      clear A110
      replace H := Option.bind_eq_some_iff.mp H
      obtain ⟨t433, A120, H⟩ := H
      replace H : ((spec_Reached.f k t429 t430 t433 a2).bind fun t436 => ((laws_toNet.f k a0_0 l0_1).bind fun bt439 => ((laws_toBoolS.f k l1).bind fun t444 => ((impl_Reached.f k bt439.1 bt439.2 t444 a2).bind fun t447 => ((laws_eqIntS.f k t447 t436).bind fun t450 => (if t450 = true then ((laws_toNet.f k a0_0 l0_1).bind fun bt451 => ((laws_eqNet.f k bt439.1 bt439.2 bt451.1 bt451.2).bind fun t455 => (if t455 = true then ((laws_toBoolS.f k l1).bind fun t456 => ((laws_eqBoolS.f k t444 t456).bind fun t459 => (if t459 = true then ((laws_markNet.f k bt439.1 bt439.2 1).bind fun bt460 => ((laws_markBoolS.f k t444 bt460.1).bind fun bt462 => (if bt462.1 < 0 then (laws_FnExactReached.j0 k l1 a2 t436 t447 true a0_0 l0_1) else ((laws_eqIntS.f k t447 t436).bind fun t464 => (laws_FnExactReached.j0 k l1 a2 t436 t447 (!t464) a0_0 l0_1))))) else (none)))) else (none)))) else (none))))))) = some r := H
      have A12 := Aside0.mk A120
      clear A120
      replace H := Option.bind_eq_some_iff.mp H
      obtain ⟨t436, A130, H⟩ := H
      replace H : ((laws_toNet.f k a0_0 l0_1).bind fun bt439 => ((laws_toBoolS.f k l1).bind fun t444 => ((impl_Reached.f k bt439.1 bt439.2 t444 a2).bind fun t447 => ((laws_eqIntS.f k t447 t436).bind fun t450 => (if t450 = true then ((laws_toNet.f k a0_0 l0_1).bind fun bt451 => ((laws_eqNet.f k bt439.1 bt439.2 bt451.1 bt451.2).bind fun t455 => (if t455 = true then ((laws_toBoolS.f k l1).bind fun t456 => ((laws_eqBoolS.f k t444 t456).bind fun t459 => (if t459 = true then ((laws_markNet.f k bt439.1 bt439.2 1).bind fun bt460 => ((laws_markBoolS.f k t444 bt460.1).bind fun bt462 => (if bt462.1 < 0 then (laws_FnExactReached.j0 k l1 a2 t436 t447 true a0_0 l0_1) else ((laws_eqIntS.f k t447 t436).bind fun t464 => (laws_FnExactReached.j0 k l1 a2 t436 t447 (!t464) a0_0 l0_1))))) else (none)))) else (none)))) else (none)))))) = some r := H
      have A13 := Aside0.mk A130
      clear A130
      replace H := Option.bind_eq_some_iff.mp H
      obtain ⟨⟨t439, t440⟩, A140, H⟩ := H
      replace H : ((laws_toBoolS.f k l1).bind fun t444 => ((impl_Reached.f k t439 t440 t444 a2).bind fun t447 => ((laws_eqIntS.f k t447 t436).bind fun t450 => (if t450 = true then ((laws_toNet.f k a0_0 l0_1).bind fun bt451 => ((laws_eqNet.f k t439 t440 bt451.1 bt451.2).bind fun t455 => (if t455 = true then ((laws_toBoolS.f k l1).bind fun t456 => ((laws_eqBoolS.f k t444 t456).bind fun t459 => (if t459 = true then ((laws_markNet.f k t439 t440 1).bind fun bt460 => ((laws_markBoolS.f k t444 bt460.1).bind fun bt462 => (if bt462.1 < 0 then (laws_FnExactReached.j0 k l1 a2 t436 t447 true a0_0 l0_1) else ((laws_eqIntS.f k t447 t436).bind fun t464 => (laws_FnExactReached.j0 k l1 a2 t436 t447 (!t464) a0_0 l0_1))))) else (none)))) else (none)))) else (none))))) = some r := H
      have A14 := Aside0.mk A140
      clear A140
      replace H := Option.bind_eq_some_iff.mp H
      obtain ⟨t444, A150, H⟩ := H
      replace H : ((impl_Reached.f k t439 t440 t444 a2).bind fun t447 => ((laws_eqIntS.f k t447 t436).bind fun t450 => (if t450 = true then ((laws_toNet.f k a0_0 l0_1).bind fun bt451 => ((laws_eqNet.f k t439 t440 bt451.1 bt451.2).bind fun t455 => (if t455 = true then ((laws_toBoolS.f k l1).bind fun t456 => ((laws_eqBoolS.f k t444 t456).bind fun t459 => (if t459 = true then ((laws_markNet.f k t439 t440 1).bind fun bt460 => ((laws_markBoolS.f k t444 bt460.1).bind fun bt462 => (if bt462.1 < 0 then (laws_FnExactReached.j0 k l1 a2 t436 t447 true a0_0 l0_1) else ((laws_eqIntS.f k t447 t436).bind fun t464 => (laws_FnExactReached.j0 k l1 a2 t436 t447 (!t464) a0_0 l0_1))))) else (none)))) else (none)))) else (none)))) = some r := H
      have A15 := Aside0.mk A150
      clear A150
      replace H := Option.bind_eq_some_iff.mp H
      obtain ⟨t447, A160, H⟩ := H
      replace H : ((laws_eqIntS.f k t447 t436).bind fun t450 => (if t450 = true then ((laws_toNet.f k a0_0 l0_1).bind fun bt451 => ((laws_eqNet.f k t439 t440 bt451.1 bt451.2).bind fun t455 => (if t455 = true then ((laws_toBoolS.f k l1).bind fun t456 => ((laws_eqBoolS.f k t444 t456).bind fun t459 => (if t459 = true then ((laws_markNet.f k t439 t440 1).bind fun bt460 => ((laws_markBoolS.f k t444 bt460.1).bind fun bt462 => (if bt462.1 < 0 then (laws_FnExactReached.j0 k l1 a2 t436 t447 true a0_0 l0_1) else ((laws_eqIntS.f k t447 t436).bind fun t464 => (laws_FnExactReached.j0 k l1 a2 t436 t447 (!t464) a0_0 l0_1))))) else (none)))) else (none)))) else (none))) = some r := H
      have A16 := Aside0.mk A160
      clear A160
      replace H := Option.bind_eq_some_iff.mp H
      obtain ⟨t450, A170, H⟩ := H
      replace H : (if t450 = true then ((laws_toNet.f k a0_0 l0_1).bind fun bt451 => ((laws_eqNet.f k t439 t440 bt451.1 bt451.2).bind fun t455 => (if t455 = true then ((laws_toBoolS.f k l1).bind fun t456 => ((laws_eqBoolS.f k t444 t456).bind fun t459 => (if t459 = true then ((laws_markNet.f k t439 t440 1).bind fun bt460 => ((laws_markBoolS.f k t444 bt460.1).bind fun bt462 => (if bt462.1 < 0 then (laws_FnExactReached.j0 k l1 a2 t436 t447 true a0_0 l0_1) else ((laws_eqIntS.f k t447 t436).bind fun t464 => (laws_FnExactReached.j0 k l1 a2 t436 t447 (!t464) a0_0 l0_1))))) else (none)))) else (none)))) else (none)) = some r := H
      have A17 := Aside0.mk A170
      clear A170
      by_cases c18 : t450 = true
      · subst c18
        have H1 : ((laws_toNet.f k a0_0 l0_1).bind fun bt451 => ((laws_eqNet.f k t439 t440 bt451.1 bt451.2).bind fun t455 => (if t455 = true then ((laws_toBoolS.f k l1).bind fun t456 => ((laws_eqBoolS.f k t444 t456).bind fun t459 => (if t459 = true then ((laws_markNet.f k t439 t440 1).bind fun bt460 => ((laws_markBoolS.f k t444 bt460.1).bind fun bt462 => (if bt462.1 < 0 then (laws_FnExactReached.j0 k l1 a2 t436 t447 true a0_0 l0_1) else ((laws_eqIntS.f k t447 t436).bind fun t464 => (laws_FnExactReached.j0 k l1 a2 t436 t447 (!t464) a0_0 l0_1))))) else (none)))) else (none)))) = some r := by rw [if_pos rfl] at H; exact H
        clear H
        have H := H1
        clear H1
        replace H := Option.bind_eq_some_iff.mp H
        obtain ⟨⟨t451, t452⟩, A190, H⟩ := H
        replace H : ((laws_eqNet.f k t439 t440 t451 t452).bind fun t455 => (if t455 = true then ((laws_toBoolS.f k l1).bind fun t456 => ((laws_eqBoolS.f k t444 t456).bind fun t459 => (if t459 = true then ((laws_markNet.f k t439 t440 1).bind fun bt460 => ((laws_markBoolS.f k t444 bt460.1).bind fun bt462 => (if bt462.1 < 0 then (laws_FnExactReached.j0 k l1 a2 t436 t447 true a0_0 l0_1) else ((laws_eqIntS.f k t447 t436).bind fun t464 => (laws_FnExactReached.j0 k l1 a2 t436 t447 (!t464) a0_0 l0_1))))) else (none)))) else (none))) = some r := H
        have A19 := Aside0.mk A190
        clear A190
        replace H := Option.bind_eq_some_iff.mp H
        obtain ⟨t455, A200, H⟩ := H
        replace H : (if t455 = true then ((laws_toBoolS.f k l1).bind fun t456 => ((laws_eqBoolS.f k t444 t456).bind fun t459 => (if t459 = true then ((laws_markNet.f k t439 t440 1).bind fun bt460 => ((laws_markBoolS.f k t444 bt460.1).bind fun bt462 => (if bt462.1 < 0 then (laws_FnExactReached.j0 k l1 a2 t436 t447 true a0_0 l0_1) else ((laws_eqIntS.f k t447 t436).bind fun t464 => (laws_FnExactReached.j0 k l1 a2 t436 t447 (!t464) a0_0 l0_1))))) else (none)))) else (none)) = some r := H
        have A20 := Aside0.mk A200
        clear A200
        by_cases c21 : t455 = true
        · subst c21
          have H1 : ((laws_toBoolS.f k l1).bind fun t456 => ((laws_eqBoolS.f k t444 t456).bind fun t459 => (if t459 = true then ((laws_markNet.f k t439 t440 1).bind fun bt460 => ((laws_markBoolS.f k t444 bt460.1).bind fun bt462 => (if bt462.1 < 0 then (laws_FnExactReached.j0 k l1 a2 t436 t447 true a0_0 l0_1) else ((laws_eqIntS.f k t447 t436).bind fun t464 => (laws_FnExactReached.j0 k l1 a2 t436 t447 (!t464) a0_0 l0_1))))) else (none)))) = some r := by rw [if_pos rfl] at H; exact H
          clear H
          have H := H1
          clear H1
          replace H := Option.bind_eq_some_iff.mp H
          obtain ⟨t456, A220, H⟩ := H
          replace H : ((laws_eqBoolS.f k t444 t456).bind fun t459 => (if t459 = true then ((laws_markNet.f k t439 t440 1).bind fun bt460 => ((laws_markBoolS.f k t444 bt460.1).bind fun bt462 => (if bt462.1 < 0 then (laws_FnExactReached.j0 k l1 a2 t436 t447 true a0_0 l0_1) else ((laws_eqIntS.f k t447 t436).bind fun t464 => (laws_FnExactReached.j0 k l1 a2 t436 t447 (!t464) a0_0 l0_1))))) else (none))) = some r := H
          have A22 := Aside0.mk A220
          clear A220
          replace H := Option.bind_eq_some_iff.mp H
          obtain ⟨t459, A230, H⟩ := H
          replace H : (if t459 = true then ((laws_markNet.f k t439 t440 1).bind fun bt460 => ((laws_markBoolS.f k t444 bt460.1).bind fun bt462 => (if bt462.1 < 0 then (laws_FnExactReached.j0 k l1 a2 t436 t447 true a0_0 l0_1) else ((laws_eqIntS.f k t447 t436).bind fun t464 => (laws_FnExactReached.j0 k l1 a2 t436 t447 (!t464) a0_0 l0_1))))) else (none)) = some r := H
          have A23 := Aside0.mk A230
          clear A230
          by_cases c24 : t459 = true
          · subst c24
            have H1 : ((laws_markNet.f k t439 t440 1).bind fun bt460 => ((laws_markBoolS.f k t444 bt460.1).bind fun bt462 => (if bt462.1 < 0 then (laws_FnExactReached.j0 k l1 a2 t436 t447 true a0_0 l0_1) else ((laws_eqIntS.f k t447 t436).bind fun t464 => (laws_FnExactReached.j0 k l1 a2 t436 t447 (!t464) a0_0 l0_1))))) = some r := by rw [if_pos rfl] at H; exact H
            clear H
            have H := H1
            clear H1
            replace H := Option.bind_eq_some_iff.mp H
            obtain ⟨⟨t460, t461⟩, A250, H⟩ := H
            replace H : ((laws_markBoolS.f k t444 t460).bind fun bt462 => (if bt462.1 < 0 then (laws_FnExactReached.j0 k l1 a2 t436 t447 true a0_0 l0_1) else ((laws_eqIntS.f k t447 t436).bind fun t464 => (laws_FnExactReached.j0 k l1 a2 t436 t447 (!t464) a0_0 l0_1)))) = some r := H
            have A25 := Aside0.mk A250
            clear A250
            replace H := Option.bind_eq_some_iff.mp H
            obtain ⟨⟨t462, t463⟩, A260, H⟩ := H
            replace H : (if t462 < 0 then (laws_FnExactReached.j0 k l1 a2 t436 t447 true a0_0 l0_1) else ((laws_eqIntS.f k t447 t436).bind fun t464 => (laws_FnExactReached.j0 k l1 a2 t436 t447 (!t464) a0_0 l0_1))) = some r := H
            have A26 := Aside0.mk A260
            clear A260
            have HC27 := Aside0.mk H
            clear H
            go_enter Try.func6, Try.ntmps6
            try go_wp2_with (first | ((with_reducible refine gate_dst (N := 3) rfl ?_); refine box_event ?hg (N := 3) ?hd (cs := #[.int .i64 a0_0, .slice A0_1 l0_1.length c0_1]) (t := 24) ?hr ?_; (case hd => rfl); (case hg => rfl); (case hr => first | (go_simp; done) | (go_simp; rfl)); intro gb427 hg w28 hbox hb; have n0_ := Aside0.mk (below_step (by repeat (first | (with_reducible first | exact HB.out | apply below_alloc | apply pw_below_drewN | apply below_drew1) | exact HB.out)) hb); have n1_ := Aside0.mk (hbox); have n2_ := Aside0.mk ((by rw [hg]; exact (below_size (by repeat (first | (with_reducible first | exact HB.out | apply below_alloc | apply pw_below_drewN | apply below_drew1) | exact HB.out))) : w.heap.size ≤ gb427)); have n3_ := Aside0.mk ((by rw [hg]; exact (below_size (by repeat (first | (with_reducible first | exact HB.out | apply below_alloc | apply pw_below_drewN | apply below_drew1) | exact HB.out))) : w.heap.size ≤ gb427)); clear HB; have HB := n0_; have BK427 := n1_; have GW427 := n2_; have GE427 := n3_; clear n0_ n1_ n2_ n3_; clear hb hbox hg; have hcz29_0 : w28.cell? ⟨gb427, 0, none⟩ = some (.int .i64 a0_0) := (blk_cell BK427.out 0).trans rfl; have hcz29_1 : w28.cell? ⟨gb427, 1, none⟩ = some (.slice A0_1 l0_1.length c0_1) := (blk_cell BK427.out 1).trans rfl; have hfz29_0 := blk_frozen BK427.out 0; have hfz29_1 := blk_frozen BK427.out 1) | ((with_reducible refine gate_callee (f := 14) rfl ?_); refine goesL_ (some 21) rfl rfl Try.func14 (by kernel_rfl) rfl #[.agg #[.int .i64 a0_0, .slice A0_1 l0_1.length c0_1], .int .i64 1048576] rfl (by (try simp only [List.map_toArray, List.map_cons, List.map_nil]); first | done | rfl | (simp only [List.length_drop, List.length_take]; rfl)) ?_; (with_reducible refine (laws_szNet.calls a0_0 _ _ l0_1 1048576 t428 _ ?side1 ?side2 A6.out).mono ?_); (case side1 => repeat (first | exact (Kd.C_below HR0_1.out HB.out) | (with_reducible refine Kd.C_alloc ?_ _) | (with_reducible refine Kd.C_drewN ?_ _) | (with_reducible refine Kd.C_drew ?_))); (case side2 => exact HC0_1.out); rintro e w30 ⟨rfl, hb⟩; refine ⟨_, rfl, ?_⟩; have n0_ := Aside0.mk (blk_below (g := gb427) (o := .cells #[.int .i64 a0_0, .slice A0_1 l0_1.length c0_1] 24 (0, 0)) (by (with_reducible repeat (first | refine blk_drewN ?_ _ | refine blk_drew ?_ | refine blk_alloc ?_ _)); exact BK427.out) hb); have n1_ := Aside0.mk (below_step (by repeat (first | (with_reducible first | exact HB.out | apply below_alloc | apply pw_below_drewN | apply below_drew1 | refine below_set ?_ GE427.out) | exact HB.out)) hb); clear BK427; clear HB; have BK427 := n0_; have HB := n1_; clear n0_ n1_; (try clear hb); (try clear hb2); (try clear hk); (try clear hi); have hcz31_0 : w30.cell? ⟨gb427, 0, none⟩ = some (.int .i64 a0_0) := (blk_cell BK427.out 0).trans rfl; have hcz31_1 : w30.cell? ⟨gb427, 1, none⟩ = some (.slice A0_1 l0_1.length c0_1) := (blk_cell BK427.out 1).trans rfl; have hfz31_0 := blk_frozen BK427.out 0; have hfz31_1 := blk_frozen BK427.out 1) | ((with_reducible refine gate_callee (f := 16) rfl ?_); refine goesL_ (some 25) rfl rfl Try.func16 (by kernel_rfl) rfl #[.agg #[.int .i64 a0_0, .slice A0_1 l0_1.length c0_1]] rfl (by (try simp only [List.map_toArray, List.map_cons, List.map_nil]); first | done | rfl | (simp only [List.length_drop, List.length_take]; rfl)) ?_; (with_reducible refine (laws_toNet.calls k a0_0 _ _ l0_1 t429 t430 _ ?side1 ?side2 A11.out).mono ?_); (case side1 => repeat (first | exact (Kd.C_below HR0_1.out HB.out) | (with_reducible refine Kd.C_alloc ?_ _) | (with_reducible refine Kd.C_drewN ?_ _) | (with_reducible refine Kd.C_drew ?_))); (case side2 => exact HC0_1.out); rintro e w32 ⟨v431, rfl, ho0, hb⟩; refine ⟨_, rfl, ?_⟩; have n0_ := Aside0.mk (Kd.R_lower ho0 (below_size (by repeat (first | (with_reducible first | exact HB.out | apply below_alloc | apply pw_below_drewN | apply below_drew1 | refine below_set ?_ GE427.out) | exact HB.out)))); have n1_ := Aside0.mk (blk_below (g := gb427) (o := .cells #[.int .i64 a0_0, .slice A0_1 l0_1.length c0_1] 24 (0, 0)) (by (with_reducible repeat (first | refine blk_drewN ?_ _ | refine blk_drew ?_ | refine blk_alloc ?_ _)); exact BK427.out) hb); have n2_ := Aside0.mk (below_step (by repeat (first | (with_reducible first | exact HB.out | apply below_alloc | apply pw_below_drewN | apply below_drew1 | refine below_set ?_ GE427.out) | exact HB.out)) hb); clear BK427; clear HB; have HO432 := n0_; have BK427 := n1_; have HB := n2_; clear n0_ n1_ n2_; (try clear hb); (try clear hb2); (try clear hk); (try clear hi); (try clear ho0)) | ((with_reducible refine gate_callee (f := 17) rfl ?_); refine goesL_ (some 27) rfl rfl Try.func17 (by kernel_rfl) rfl #[.slice A1 l1.length c1] rfl (by (try simp only [List.map_toArray, List.map_cons, List.map_nil]); first | done | rfl | (simp only [List.length_drop, List.length_take]; rfl)) ?_; (with_reducible refine (laws_toBoolS.calls k _ _ l1 t433 _ ?side1 ?side2 A12.out).mono ?_); (case side1 => repeat (first | exact (Kd.C_below HR1.out HB.out) | (with_reducible refine Kd.C_alloc ?_ _) | (with_reducible refine Kd.C_drewN ?_ _) | (with_reducible refine Kd.C_drew ?_))); (case side2 => exact HC1.out); rintro e w33 ⟨v434, rfl, ho0, hb⟩; refine ⟨_, rfl, ?_⟩; have n0_ := Aside0.mk (Kd.R_below (by (with_reducible repeat (first | apply Kd.R_alloc | apply Kd.R_drewN | apply Kd.R_drew)); exact HO432.out) hb); have n1_ := Aside0.mk (Kd.R_lower ho0 (below_size (by repeat (first | (with_reducible first | exact HB.out | apply below_alloc | apply pw_below_drewN | apply below_drew1 | refine below_set ?_ GE427.out) | exact HB.out)))); have n2_ := Aside0.mk (blk_below (g := gb427) (o := .cells #[.int .i64 a0_0, .slice A0_1 l0_1.length c0_1] 24 (0, 0)) (by (with_reducible repeat (first | refine blk_drewN ?_ _ | refine blk_drew ?_ | refine blk_alloc ?_ _)); exact BK427.out) hb); have n3_ := Aside0.mk (below_step (by repeat (first | (with_reducible first | exact HB.out | apply below_alloc | apply pw_below_drewN | apply below_drew1 | refine below_set ?_ GE427.out) | exact HB.out)) hb); clear HO432; clear BK427; clear HB; have HO432 := n0_; have HO435 := n1_; have BK427 := n2_; have HB := n3_; clear n0_ n1_ n2_ n3_; (try clear hb); (try clear hb2); (try clear hk); (try clear hi); (try clear ho0); obtain ⟨Ao34, co34, eo34⟩ := Kd.R_slice HO432.out; subst eo34; obtain ⟨Ao35, co35, eo35⟩ := Kd.R_slice HO435.out; subst eo35) | ((with_reducible refine gate_callee (f := 30) rfl ?_); refine goesL_ (some 29) rfl rfl Try.func30 (by kernel_rfl) rfl #[.agg #[.int .i64 t429, .slice Ao34 t430.length co34], .slice Ao35 t433.length co35, .int .i64 a2] rfl (by (try simp only [List.map_toArray, List.map_cons, List.map_nil]); first | done | rfl | (simp only [List.length_drop, List.length_take]; rfl)) ?_; (with_reducible refine (spec_Reached.calls k t429 _ _ t430 _ _ t433 a2 t436 _ ?side1 ?side2 ?side3 ?side4 A13.out).mono ?_); (case side1 => repeat (first | exact (Kd.R_reads' HO432.out).2.2 | (with_reducible refine Kd.C_alloc ?_ _) | (with_reducible refine Kd.C_drewN ?_ _) | (with_reducible refine Kd.C_drew ?_))); (case side2 => exact (Kd.R_reads' HO432.out).2.1); (case side3 => repeat (first | exact (Kd.R_reads' HO435.out).2.2 | (with_reducible refine Kd.C_alloc ?_ _) | (with_reducible refine Kd.C_drewN ?_ _) | (with_reducible refine Kd.C_drew ?_))); (case side4 => exact (Kd.R_reads' HO435.out).2.1); rintro e w36 ⟨v437, rfl, ho0, hb⟩; refine ⟨_, rfl, ?_⟩; have n0_ := Aside0.mk (Kd.R_below (by (with_reducible repeat (first | apply Kd.R_alloc | apply Kd.R_drewN | apply Kd.R_drew)); exact HO432.out) hb); have n1_ := Aside0.mk (Kd.R_below (by (with_reducible repeat (first | apply Kd.R_alloc | apply Kd.R_drewN | apply Kd.R_drew)); exact HO435.out) hb); have n2_ := Aside0.mk (Kd.R_lower ho0 (below_size (by repeat (first | (with_reducible first | exact HB.out | apply below_alloc | apply pw_below_drewN | apply below_drew1 | refine below_set ?_ GE427.out) | exact HB.out)))); have n3_ := Aside0.mk (blk_below (g := gb427) (o := .cells #[.int .i64 a0_0, .slice A0_1 l0_1.length c0_1] 24 (0, 0)) (by (with_reducible repeat (first | refine blk_drewN ?_ _ | refine blk_drew ?_ | refine blk_alloc ?_ _)); exact BK427.out) hb); have n4_ := Aside0.mk (below_step (by repeat (first | (with_reducible first | exact HB.out | apply below_alloc | apply pw_below_drewN | apply below_drew1 | refine below_set ?_ GE427.out) | exact HB.out)) hb); clear HO432; clear HO435; clear BK427; clear HB; have HO432 := n0_; have HO435 := n1_; have HO438 := n2_; have BK427 := n3_; have HB := n4_; clear n0_ n1_ n2_ n3_ n4_; (try clear hb); (try clear hb2); (try clear hk); (try clear hi); (try clear ho0); have hcz37_0 : w36.cell? ⟨gb427, 0, none⟩ = some (.int .i64 a0_0) := (blk_cell BK427.out 0).trans rfl; have hcz37_1 : w36.cell? ⟨gb427, 1, none⟩ = some (.slice A0_1 l0_1.length c0_1) := (blk_cell BK427.out 1).trans rfl; have hfz37_0 := blk_frozen BK427.out 0; have hfz37_1 := blk_frozen BK427.out 1) | ((with_reducible refine gate_callee (f := 16) rfl ?_); refine goesL_ (some 31) rfl rfl Try.func16 (by kernel_rfl) rfl #[.agg #[.int .i64 a0_0, .slice A0_1 l0_1.length c0_1]] rfl (by (try simp only [List.map_toArray, List.map_cons, List.map_nil]); first | done | rfl | (simp only [List.length_drop, List.length_take]; rfl)) ?_; (with_reducible refine (laws_toNet.calls k a0_0 _ _ l0_1 t439 t440 _ ?side1 ?side2 A14.out).mono ?_); (case side1 => repeat (first | exact (Kd.C_below HR0_1.out HB.out) | (with_reducible refine Kd.C_alloc ?_ _) | (with_reducible refine Kd.C_drewN ?_ _) | (with_reducible refine Kd.C_drew ?_))); (case side2 => exact HC0_1.out); rintro e w38 ⟨v441, rfl, ho0, hb⟩; refine ⟨_, rfl, ?_⟩; have n0_ := Aside0.mk (Kd.R_elder' (by (with_reducible repeat (first | apply Kd.R_alloc | apply Kd.R_drewN | apply Kd.R_drew)); exact HO432.out) (Kd.R_base ho0) hb); have n1_ := Aside0.mk (Kd.R_below (by (with_reducible repeat (first | apply Kd.R_alloc | apply Kd.R_drewN | apply Kd.R_drew)); exact HO435.out) hb); have n2_ := Aside0.mk (Kd.R_below (by (with_reducible repeat (first | apply Kd.R_alloc | apply Kd.R_drewN | apply Kd.R_drew)); exact HO438.out) hb); have n3_ := Aside0.mk (Kd.R_lower (Kd.R_new' ho0 (Kd.R_lt (by (with_reducible repeat (first | apply Kd.R_alloc | apply Kd.R_drewN | apply Kd.R_drew)); exact HO432.out))) (below_size (by repeat (first | (with_reducible first | exact HB.out | apply below_alloc | apply pw_below_drewN | apply below_drew1 | refine below_set ?_ GE427.out) | exact HB.out)))); have n4_ := Aside0.mk (blk_below (g := gb427) (o := .cells #[.int .i64 a0_0, .slice A0_1 l0_1.length c0_1] 24 (0, 0)) (by (with_reducible repeat (first | refine blk_drewN ?_ _ | refine blk_drew ?_ | refine blk_alloc ?_ _)); exact BK427.out) hb); have n5_ := Aside0.mk (below_step (by repeat (first | (with_reducible first | exact HB.out | apply below_alloc | apply pw_below_drewN | apply below_drew1 | refine below_set ?_ GE427.out) | exact HB.out)) hb); clear HO432; clear HO435; clear HO438; clear BK427; clear HB; have HO432 := n0_; have HO435 := n1_; have HO438 := n2_; have HO442 := n3_; have BK427 := n4_; have HB := n5_; clear n0_ n1_ n2_ n3_ n4_ n5_; (try clear hb); (try clear hb2); (try clear hk); (try clear hi); (try clear ho0)) | ((with_reducible refine gate_dst (N := 9) rfl ?_); refine box_event ?hg (N := 9) ?hd (cs := #[.int .i64 0, .slice none 0 0]) (t := 30) ?hr ?_; (case hd => rfl); (case hg => rfl); (case hr => first | (go_simp; done) | (go_simp; rfl)); intro gb443 hg w39 hbox hb; have n0_ := Aside0.mk (Kd.R_below (by (with_reducible repeat (first | apply Kd.R_alloc | apply Kd.R_drewN | apply Kd.R_drew)); exact HO432.out) hb); have n1_ := Aside0.mk (Kd.R_below (by (with_reducible repeat (first | apply Kd.R_alloc | apply Kd.R_drewN | apply Kd.R_drew)); exact HO435.out) hb); have n2_ := Aside0.mk (Kd.R_below (by (with_reducible repeat (first | apply Kd.R_alloc | apply Kd.R_drewN | apply Kd.R_drew)); exact HO438.out) hb); have n3_ := Aside0.mk (Kd.R_below (by (with_reducible repeat (first | apply Kd.R_alloc | apply Kd.R_drewN | apply Kd.R_drew)); exact HO442.out) hb); have n4_ := Aside0.mk (blk_below (g := gb427) (o := .cells #[.int .i64 a0_0, .slice A0_1 l0_1.length c0_1] 24 (0, 0)) (by (with_reducible repeat (first | refine blk_drewN ?_ _ | refine blk_drew ?_ | refine blk_alloc ?_ _)); exact BK427.out) hb); have n5_ := Aside0.mk (below_step (by repeat (first | (with_reducible first | exact HB.out | apply below_alloc | apply pw_below_drewN | apply below_drew1 | refine below_set ?_ GE427.out) | exact HB.out)) hb); have n6_ := Aside0.mk (hbox); have n7_ := Aside0.mk ((by rw [hg]; exact (below_size (by repeat (first | (with_reducible first | exact HB.out | apply below_alloc | apply pw_below_drewN | apply below_drew1 | refine below_set ?_ GE427.out) | exact HB.out))) : w.heap.size ≤ gb443)); have n8_ := Aside0.mk ((by rw [hg]; exact (below_size (by repeat (first | (with_reducible first | exact HB.out | apply below_alloc | apply pw_below_drewN | apply below_drew1 | refine below_set ?_ GE427.out) | exact HB.out))) : w.heap.size ≤ gb443)); have n9_ := Aside0.mk ((by rw [hg]; exact Nat.ne_of_lt (blk_lt (g := gb427) (o := .cells #[.int .i64 a0_0, .slice A0_1 l0_1.length c0_1] 24 (0, 0)) (by (with_reducible repeat (first | refine blk_drewN ?_ _ | refine blk_drew ?_ | refine blk_alloc ?_ _)); exact BK427.out)) : gb427 ≠ gb443)); have n10_ := Aside0.mk ((by rw [hg]; exact Nat.ne_of_gt (blk_lt (g := gb427) (o := .cells #[.int .i64 a0_0, .slice A0_1 l0_1.length c0_1] 24 (0, 0)) (by (with_reducible repeat (first | refine blk_drewN ?_ _ | refine blk_drew ?_ | refine blk_alloc ?_ _)); exact BK427.out)) : gb443 ≠ gb427)); clear HO432; clear HO435; clear HO438; clear HO442; clear BK427; clear HB; have HO432 := n0_; have HO435 := n1_; have HO438 := n2_; have HO442 := n3_; have BK427 := n4_; have HB := n5_; have BK443 := n6_; have GW443 := n7_; have GE443 := n8_; have NB427_443 := n9_; have NB443_427 := n10_; clear n0_ n1_ n2_ n3_ n4_ n5_ n6_ n7_ n8_ n9_ n10_; clear hb hbox hg; have hnb40 := NB443_427.out; have hnc40 := NB427_443.out; have hcz41_0 : w39.cell? ⟨gb443, 0, none⟩ = some (.int .i64 0) := (blk_cell BK443.out 0).trans rfl; have hcz41_1 : w39.cell? ⟨gb443, 1, none⟩ = some (.slice none 0 0) := (blk_cell BK443.out 1).trans rfl; have hfz41_0 := blk_frozen BK443.out 0; have hfz41_1 := blk_frozen BK443.out 1; obtain ⟨Ao42, co42, eo42⟩ := Kd.R_slice HO442.out; subst eo42) | ((with_reducible refine gate_callee (f := 17) rfl ?_); refine goesL_ (some 33) rfl rfl Try.func17 (by kernel_rfl) rfl #[.slice A1 l1.length c1] rfl (by (try simp only [List.map_toArray, List.map_cons, List.map_nil]); first | done | rfl | (simp only [List.length_drop, List.length_take]; rfl)) ?_; (with_reducible refine (laws_toBoolS.calls k _ _ l1 t444 _ ?side1 ?side2 A15.out).mono ?_); (case side1 => exact Kd.C_below HR1.out (by repeat (first | (with_reducible first | exact HB.out | apply below_alloc | apply pw_below_drewN | apply below_drew1 | refine below_set ?_ GE427.out | refine below_set ?_ GE443.out) | exact HB.out))); (case side2 => exact HC1.out); rintro e w43 ⟨v445, rfl, ho0, hb⟩; refine ⟨_, rfl, ?_⟩; have n0_ := Aside0.mk (Kd.R_below (by (with_reducible repeat (first | apply Kd.R_alloc | apply Kd.R_drewN | apply Kd.R_drew)); exact (Kd.R_mono (Kd.R_far (p := ⟨gb443, 1, none⟩) (Kd.R_far (p := ⟨gb443, 0, none⟩) (Kd.R_types HO432.out BK443.out (by decide)) (fun _ hk => hk.2) (.int .i64 t439)) (fun _ hk => hk.2) (.slice Ao42 t440.length co42)) (fun _ h_ => h_.1))) hb); have n1_ := Aside0.mk (Kd.R_elder' (by (with_reducible repeat (first | apply Kd.R_alloc | apply Kd.R_drewN | apply Kd.R_drew)); exact (Kd.R_mono (Kd.R_far (p := ⟨gb443, 1, none⟩) (Kd.R_far (p := ⟨gb443, 0, none⟩) (Kd.R_types HO435.out BK443.out (by decide)) (fun _ hk => hk.2) (.int .i64 t439)) (fun _ hk => hk.2) (.slice Ao42 t440.length co42)) (fun _ h_ => h_.1))) (Kd.R_base ho0) hb); have n2_ := Aside0.mk (Kd.R_below (by (with_reducible repeat (first | apply Kd.R_alloc | apply Kd.R_drewN | apply Kd.R_drew)); exact (Kd.R_mono (Kd.R_far (p := ⟨gb443, 1, none⟩) (Kd.R_far (p := ⟨gb443, 0, none⟩) (Kd.R_types HO438.out BK443.out (by decide)) (fun _ hk => hk.2) (.int .i64 t439)) (fun _ hk => hk.2) (.slice Ao42 t440.length co42)) (fun _ h_ => h_.1))) hb); have n3_ := Aside0.mk (Kd.R_below (by (with_reducible repeat (first | apply Kd.R_alloc | apply Kd.R_drewN | apply Kd.R_drew)); exact (Kd.R_mono (Kd.R_far (p := ⟨gb443, 1, none⟩) (Kd.R_far (p := ⟨gb443, 0, none⟩) (Kd.R_types HO442.out BK443.out (by decide)) (fun _ hk => hk.2) (.int .i64 t439)) (fun _ hk => hk.2) (.slice Ao42 t440.length co42)) (fun _ h_ => h_.1))) hb); have n4_ := Aside0.mk (Kd.R_lower (Kd.R_new' ho0 (Kd.R_lt (by (with_reducible repeat (first | apply Kd.R_alloc | apply Kd.R_drewN | apply Kd.R_drew)); exact (Kd.R_mono (Kd.R_far (p := ⟨gb443, 1, none⟩) (Kd.R_far (p := ⟨gb443, 0, none⟩) (Kd.R_types HO435.out BK443.out (by decide)) (fun _ hk => hk.2) (.int .i64 t439)) (fun _ hk => hk.2) (.slice Ao42 t440.length co42)) (fun _ h_ => h_.1))))) (below_size (by repeat (first | (with_reducible first | exact HB.out | apply below_alloc | apply pw_below_drewN | apply below_drew1 | refine below_set ?_ GE427.out | refine below_set ?_ GE443.out) | exact HB.out)))); have n5_ := Aside0.mk (blk_below (g := gb427) (o := .cells #[.int .i64 a0_0, .slice A0_1 l0_1.length c0_1] 24 (0, 0)) (by (with_reducible repeat (first | refine blk_drewN ?_ _ | refine blk_drew ?_ | refine blk_alloc ?_ _)); refine blk_far ?_ NB427_443.out _; (with_reducible repeat (first | refine blk_drewN ?_ _ | refine blk_drew ?_ | refine blk_alloc ?_ _)); refine blk_far ?_ NB427_443.out _; (with_reducible repeat (first | refine blk_drewN ?_ _ | refine blk_drew ?_ | refine blk_alloc ?_ _)); exact BK427.out) hb); have n6_ := Aside0.mk (blk_below (g := gb443) (o := .cells #[.int .i64 t439, .slice Ao42 t440.length co42] 30 (0, 0)) (by (with_reducible repeat (first | refine blk_drewN ?_ _ | refine blk_drew ?_ | refine blk_alloc ?_ _)); refine blk_put (cs := #[.int .i64 t439, .slice none 0 0]) ?_ 1 _ rfl; (with_reducible repeat (first | refine blk_drewN ?_ _ | refine blk_drew ?_ | refine blk_alloc ?_ _)); refine blk_put (cs := #[.int .i64 0, .slice none 0 0]) ?_ 0 _ rfl; (with_reducible repeat (first | refine blk_drewN ?_ _ | refine blk_drew ?_ | refine blk_alloc ?_ _)); exact BK443.out) hb); have n7_ := Aside0.mk (below_step (by repeat (first | (with_reducible first | exact HB.out | apply below_alloc | apply pw_below_drewN | apply below_drew1 | refine below_set ?_ GE427.out | refine below_set ?_ GE443.out) | exact HB.out)) hb); clear HO432; clear HO435; clear HO438; clear HO442; clear BK427; clear BK443; clear HB; have HO432 := n0_; have HO435 := n1_; have HO438 := n2_; have HO442 := n3_; have HO446 := n4_; have BK427 := n5_; have BK443 := n6_; have HB := n7_; clear n0_ n1_ n2_ n3_ n4_ n5_ n6_ n7_; (try clear hb); (try clear hb2); (try clear hk); (try clear hi); (try clear ho0); have hcz44_0 : w43.cell? ⟨gb443, 0, none⟩ = some (.int .i64 t439) := (blk_cell BK443.out 0).trans rfl; have hcz44_1 : w43.cell? ⟨gb443, 1, none⟩ = some (.slice Ao42 t440.length co42) := (blk_cell BK443.out 1).trans rfl; have hfz44_0 := blk_frozen BK443.out 0; have hfz44_1 := blk_frozen BK443.out 1; obtain ⟨Ao45, co45, eo45⟩ := Kd.R_slice HO446.out; subst eo45) | ((with_reducible refine gate_callee (f := 31) rfl ?_); refine goesL_ (some 37) rfl rfl Try.func31 (by kernel_rfl) rfl #[.agg #[.int .i64 t439, .slice Ao42 t440.length co42], .slice Ao45 t444.length co45, .int .i64 a2] rfl (by (try simp only [List.map_toArray, List.map_cons, List.map_nil]); first | done | rfl | (simp only [List.length_drop, List.length_take]; rfl)) ?_; (with_reducible refine (impl_Reached.calls k t439 _ _ t440 _ _ t444 a2 t447 _ ?side1 ?side2 ?side3 ?side4 A16.out).mono ?_); (case side1 => repeat (first | exact (Kd.R_reads' HO442.out).2.2 | (with_reducible refine Kd.C_alloc ?_ _) | (with_reducible refine Kd.C_drewN ?_ _) | (with_reducible refine Kd.C_drew ?_))); (case side2 => exact (Kd.R_reads' HO442.out).2.1); (case side3 => repeat (first | exact (Kd.R_reads' HO446.out).2.2 | (with_reducible refine Kd.C_alloc ?_ _) | (with_reducible refine Kd.C_drewN ?_ _) | (with_reducible refine Kd.C_drew ?_))); (case side4 => exact (Kd.R_reads' HO446.out).2.1); rintro e w46 ⟨v448, rfl, ho0, hb⟩; refine ⟨_, rfl, ?_⟩; have n0_ := Aside0.mk (Kd.R_below (by (with_reducible repeat (first | apply Kd.R_alloc | apply Kd.R_drewN | apply Kd.R_drew)); exact HO432.out) hb); have n1_ := Aside0.mk (Kd.R_below (by (with_reducible repeat (first | apply Kd.R_alloc | apply Kd.R_drewN | apply Kd.R_drew)); exact HO435.out) hb); have n2_ := Aside0.mk (Kd.R_elder' (by (with_reducible repeat (first | apply Kd.R_alloc | apply Kd.R_drewN | apply Kd.R_drew)); exact HO438.out) (Kd.R_base ho0) hb); have n3_ := Aside0.mk (Kd.R_below (by (with_reducible repeat (first | apply Kd.R_alloc | apply Kd.R_drewN | apply Kd.R_drew)); exact HO442.out) hb); have n4_ := Aside0.mk (Kd.R_below (by (with_reducible repeat (first | apply Kd.R_alloc | apply Kd.R_drewN | apply Kd.R_drew)); exact HO446.out) hb); have n5_ := Aside0.mk (Kd.R_lower (Kd.R_new' ho0 (Kd.R_lt (by (with_reducible repeat (first | apply Kd.R_alloc | apply Kd.R_drewN | apply Kd.R_drew)); exact HO438.out))) (below_size (by repeat (first | (with_reducible first | exact HB.out | apply below_alloc | apply pw_below_drewN | apply below_drew1 | refine below_set ?_ GE427.out | refine below_set ?_ GE443.out) | exact HB.out)))); have n6_ := Aside0.mk (blk_below (g := gb427) (o := .cells #[.int .i64 a0_0, .slice A0_1 l0_1.length c0_1] 24 (0, 0)) (by (with_reducible repeat (first | refine blk_drewN ?_ _ | refine blk_drew ?_ | refine blk_alloc ?_ _)); exact BK427.out) hb); have n7_ := Aside0.mk (blk_below (g := gb443) (o := .cells #[.int .i64 t439, .slice Ao42 t440.length co42] 30 (0, 0)) (by (with_reducible repeat (first | refine blk_drewN ?_ _ | refine blk_drew ?_ | refine blk_alloc ?_ _)); exact BK443.out) hb); have n8_ := Aside0.mk (below_step (by repeat (first | (with_reducible first | exact HB.out | apply below_alloc | apply pw_below_drewN | apply below_drew1 | refine below_set ?_ GE427.out | refine below_set ?_ GE443.out) | exact HB.out)) hb); clear HO432; clear HO435; clear HO438; clear HO442; clear HO446; clear BK427; clear BK443; clear HB; have HO432 := n0_; have HO435 := n1_; have HO438 := n2_; have HO442 := n3_; have HO446 := n4_; have HO449 := n5_; have BK427 := n6_; have BK443 := n7_; have HB := n8_; clear n0_ n1_ n2_ n3_ n4_ n5_ n6_ n7_ n8_; (try clear hb); (try clear hb2); (try clear hk); (try clear hi); (try clear ho0); obtain ⟨Ao47, co47, eo47⟩ := Kd.R_slice HO449.out; subst eo47; obtain ⟨Ao48, co48, eo48⟩ := Kd.R_slice HO438.out; subst eo48) | ((with_reducible refine gate_callee (f := 25) rfl ?_); refine goesL_ (some 40) rfl rfl Try.func25 (by kernel_rfl) rfl #[.slice Ao47 t447.length co47, .slice Ao48 t436.length co48] rfl (by (try simp only [List.map_toArray, List.map_cons, List.map_nil]); first | done | rfl | (simp only [List.length_drop, List.length_take]; rfl)) ?_; (with_reducible refine (laws_eqIntS.calls k _ _ t447 _ _ t436 true _ ?side1 ?side2 ?side3 ?side4 A17.out).mono ?_); (case side1 => repeat (first | exact (Kd.R_reads' HO449.out).2.2 | (with_reducible refine Kd.C_alloc ?_ _) | (with_reducible refine Kd.C_drewN ?_ _) | (with_reducible refine Kd.C_drew ?_))); (case side2 => exact (Kd.R_reads' HO449.out).2.1); (case side3 => repeat (first | exact (Kd.R_reads' HO438.out).2.2 | (with_reducible refine Kd.C_alloc ?_ _) | (with_reducible refine Kd.C_drewN ?_ _) | (with_reducible refine Kd.C_drew ?_))); (case side4 => exact (Kd.R_reads' HO438.out).2.1); rintro e w' ⟨rfl, ⟨nd, rfl⟩⟩; refine ⟨_, rfl, ?_⟩))
            (try (rw [drewN_self w46]; generalize hq_ : World.drewN w46 _ = w46; have n0_ : Aside0 (Kd.R k73 73 w46 w.heap.size (fun k_ => (True ∧ some k_ ≠ (.slice Ao42 t440.length co42 : Value).ownBlock)) (.slice Ao34 t430.length co34) t430) := ⟨by rw [← hq_]; exact (by (with_reducible repeat (first | apply Kd.R_alloc | apply Kd.R_drewN | apply Kd.R_drew)); exact HO432.out)⟩; have n1_ : Aside0 (Kd.R Kd.bool 4 w46 w.heap.size (fun k_ => (True ∧ some k_ ≠ (.slice Ao45 t444.length co45 : Value).ownBlock)) (.slice Ao35 t433.length co35) t433) := ⟨by rw [← hq_]; exact (by (with_reducible repeat (first | apply Kd.R_alloc | apply Kd.R_drewN | apply Kd.R_drew)); exact HO435.out)⟩; have n2_ : Aside0 (Kd.R (Kd.int .i64) 3 w46 w.heap.size (fun k_ => (True ∧ some k_ ≠ (.slice Ao47 t447.length co47 : Value).ownBlock)) (.slice Ao48 t436.length co48) t436) := ⟨by rw [← hq_]; exact (by (with_reducible repeat (first | apply Kd.R_alloc | apply Kd.R_drewN | apply Kd.R_drew)); exact HO438.out)⟩; have n3_ : Aside0 (Kd.R k73 73 w46 w.heap.size (fun k_ => (True ∧ some k_ ≠ (.slice Ao34 t430.length co34 : Value).ownBlock)) (.slice Ao42 t440.length co42) t440) := ⟨by rw [← hq_]; exact (by (with_reducible repeat (first | apply Kd.R_alloc | apply Kd.R_drewN | apply Kd.R_drew)); exact HO442.out)⟩; have n4_ : Aside0 (Kd.R Kd.bool 4 w46 w.heap.size (fun k_ => (True ∧ some k_ ≠ (.slice Ao35 t433.length co35 : Value).ownBlock)) (.slice Ao45 t444.length co45) t444) := ⟨by rw [← hq_]; exact (by (with_reducible repeat (first | apply Kd.R_alloc | apply Kd.R_drewN | apply Kd.R_drew)); exact HO446.out)⟩; have n5_ : Aside0 (Kd.R (Kd.int .i64) 3 w46 w.heap.size (fun k_ => (True ∧ some k_ ≠ (.slice Ao48 t436.length co48 : Value).ownBlock)) (.slice Ao47 t447.length co47) t447) := ⟨by rw [← hq_]; exact (by (with_reducible repeat (first | apply Kd.R_alloc | apply Kd.R_drewN | apply Kd.R_drew)); exact HO449.out)⟩; have n6_ : Aside0 (w46.heap[gb427]? = some (.cells #[.int .i64 a0_0, .slice A0_1 l0_1.length c0_1] 24 (0, 0))) := ⟨by rw [← hq_]; exact (by (with_reducible repeat (first | refine blk_drewN ?_ _ | refine blk_drew ?_ | refine blk_alloc ?_ _)); exact BK427.out)⟩; have n7_ : Aside0 (w46.heap[gb443]? = some (.cells #[.int .i64 t439, .slice Ao42 t440.length co42] 30 (0, 0))) := ⟨by rw [← hq_]; exact (by (with_reducible repeat (first | refine blk_drewN ?_ _ | refine blk_drew ?_ | refine blk_alloc ?_ _)); exact BK443.out)⟩; have n8_ : Aside0 (Below w.heap.size w w46) := ⟨by rw [← hq_]; exact (by repeat (first | (with_reducible first | exact HB.out | apply below_alloc | apply pw_below_drewN | apply below_drew1 | refine below_set ?_ GE427.out | refine below_set ?_ GE443.out) | exact HB.out))⟩; clear HO432 HO435 HO438 HO442 HO446 HO449 BK427 BK443 HB hq_; have HO432 := n0_; have HO435 := n1_; have HO438 := n2_; have HO442 := n3_; have HO446 := n4_; have HO449 := n5_; have BK427 := n6_; have BK443 := n7_; have HB := n8_; clear n0_ n1_ n2_ n3_ n4_ n5_ n6_ n7_ n8_))
            have n0_ := Aside0.mk (Kd.R_drew HO432.out)
            have n1_ := Aside0.mk (Kd.R_drew HO435.out)
            have n2_ := Aside0.mk (Kd.R_drew HO438.out)
            have n3_ := Aside0.mk (Kd.R_drew HO442.out)
            have n4_ := Aside0.mk (Kd.R_drew HO446.out)
            have n5_ := Aside0.mk (Kd.R_drew HO449.out)
            have n6_ := Aside0.mk (blk_drew BK427.out)
            have n7_ := Aside0.mk (blk_drew BK443.out)
            have n8_ := Aside0.mk (below_drew1 HB.out)
            clear HO432
            clear HO435
            clear HO438
            clear HO442
            clear HO446
            clear HO449
            clear BK427
            clear BK443
            clear HB
            have HO432 := n0_
            have HO435 := n1_
            have HO438 := n2_
            have HO442 := n3_
            have HO446 := n4_
            have HO449 := n5_
            have BK427 := n6_
            have BK443 := n7_
            have HB := n8_
            clear n0_ n1_ n2_ n3_ n4_ n5_ n6_ n7_ n8_
            refine start_ (n := 5) (S := fun w' => w'.cell? ⟨gb443, 0, none⟩ = some (.int .i64 t439) ∧ w'.cell? ⟨gb443, 1, none⟩ = some (.slice Ao42 t440.length co42) ∧ w'.cell? ⟨gb427, 0, none⟩ = some (.int .i64 a0_0) ∧ w'.cell? ⟨gb427, 1, none⟩ = some (.slice A0_1 l0_1.length c0_1)) (ds := []) #[false, false, false, false, false] (by kernel_rfl) rfl rfl ⟨(blk_cell BK443.out 0).trans rfl, (blk_cell BK443.out 1).trans rfl, (blk_cell BK427.out 0).trans rfl, (blk_cell BK427.out 1).trans rfl⟩ (fun hHeld => ?_)
            generalize w46.drew = w49 at HO432 HO435 HO438 HO442 HO446 HO449 BK427 BK443 HB hHeld ⊢
            refine take_ (i := 0) (N := some 42) (v := ?_) (a' := ?_) #[true, false, false, false, false] rfl rfl (by kernel_rfl) (fun _ _ _ h => h) (Or.inl ⟨by rfl, ?_⟩) hHeld ?_ ?_
            rotate_left
            · rintro w' ⟨s0, s1, s2, s3⟩
              go_simp
              with_reducible rfl
            rotate_left
            · simp only [Act.put, List.setIfInBounds_toArray, List.set_cons_zero, List.set_cons_succ, i64_w, i32_w]
              rfl
            refine take_ (i := 1) (N := some 43) (v := ?_) (a' := ?_) #[true, true, false, false, false] rfl rfl (by kernel_rfl) (fun _ _ _ h => h) (Or.inl ⟨by rfl, ?_⟩) hHeld ?_ ?_
            rotate_left
            · rintro w' ⟨s0, s1, s2, s3⟩
              go_simp
              with_reducible rfl
            rotate_left
            · simp only [Act.put, List.setIfInBounds_toArray, List.set_cons_zero, List.set_cons_succ, i64_w, i32_w]
              rfl
            refine one_ (i := 2) (N := some 44) #[true, true, true, false, false] rfl rfl (by kernel_rfl) (by decide) (fun K hK => ?_)
            refine goes_ Try.func16 (by kernel_rfl) rfl #[.agg #[.int .i64 a0_0, .slice A0_1 l0_1.length c0_1]] (by rfl) rfl rfl (by (try simp only [List.map_toArray, List.map_cons, List.map_nil]); first | done | rfl | (simp only [List.length_drop, List.length_take]; rfl)) ?_
            with_reducible refine (laws_toNet.calls k a0_0 _ _ l0_1 t451 t452 _ ?side1 ?side2 A19.out).mono ?_
            (case side1 => repeat (first | exact (Kd.C_below HR0_1.out HB.out) | (with_reducible refine Kd.C_alloc ?_ _) | (with_reducible refine Kd.C_drewN ?_ _) | (with_reducible refine Kd.C_drew ?_)))
            (case side2 => exact HC0_1.out)
            rintro e w50 ⟨v453, rfl, ho0, hb⟩
            refine ⟨_, rfl, ?_⟩
            have n0_ := Aside0.mk (Kd.R_elder' (by (with_reducible repeat (first | apply Kd.R_alloc | apply Kd.R_drewN | apply Kd.R_drew)); exact HO432.out) (Kd.R_base ho0) hb)
            have n1_ := Aside0.mk (Kd.R_below (by (with_reducible repeat (first | apply Kd.R_alloc | apply Kd.R_drewN | apply Kd.R_drew)); exact HO435.out) hb)
            have n2_ := Aside0.mk (Kd.R_below (by (with_reducible repeat (first | apply Kd.R_alloc | apply Kd.R_drewN | apply Kd.R_drew)); exact HO438.out) hb)
            have n3_ := Aside0.mk (Kd.R_elder' (by (with_reducible repeat (first | apply Kd.R_alloc | apply Kd.R_drewN | apply Kd.R_drew)); exact HO442.out) (Kd.R_base ho0) hb)
            have n4_ := Aside0.mk (Kd.R_below (by (with_reducible repeat (first | apply Kd.R_alloc | apply Kd.R_drewN | apply Kd.R_drew)); exact HO446.out) hb)
            have n5_ := Aside0.mk (Kd.R_below (by (with_reducible repeat (first | apply Kd.R_alloc | apply Kd.R_drewN | apply Kd.R_drew)); exact HO449.out) hb)
            have n6_ := Aside0.mk (Kd.R_lower (Kd.R_new' (Kd.R_new' ho0 (Kd.R_lt (by (with_reducible repeat (first | apply Kd.R_alloc | apply Kd.R_drewN | apply Kd.R_drew)); exact HO432.out))) (Kd.R_lt (by (with_reducible repeat (first | apply Kd.R_alloc | apply Kd.R_drewN | apply Kd.R_drew)); exact HO442.out))) (below_size (by repeat (first | (with_reducible first | exact HB.out | apply below_alloc | apply pw_below_drewN | apply below_drew1 | refine below_set ?_ GE427.out | refine below_set ?_ GE443.out) | exact HB.out))))
            have n7_ := Aside0.mk (blk_below (g := gb427) (o := .cells #[.int .i64 a0_0, .slice A0_1 l0_1.length c0_1] 24 (0, 0)) (by (with_reducible repeat (first | refine blk_drewN ?_ _ | refine blk_drew ?_ | refine blk_alloc ?_ _)); exact BK427.out) hb)
            have n8_ := Aside0.mk (blk_below (g := gb443) (o := .cells #[.int .i64 t439, .slice Ao42 t440.length co42] 30 (0, 0)) (by (with_reducible repeat (first | refine blk_drewN ?_ _ | refine blk_drew ?_ | refine blk_alloc ?_ _)); exact BK443.out) hb)
            have n9_ := Aside0.mk (below_step (by repeat (first | (with_reducible first | exact HB.out | apply below_alloc | apply pw_below_drewN | apply below_drew1 | refine below_set ?_ GE427.out | refine below_set ?_ GE443.out) | exact HB.out)) hb)
            clear HO432
            clear HO435
            clear HO438
            clear HO442
            clear HO446
            clear HO449
            clear BK427
            clear BK443
            clear HB
            have HO432 := n0_
            have HO435 := n1_
            have HO438 := n2_
            have HO442 := n3_
            have HO446 := n4_
            have HO449 := n5_
            have HO454 := n6_
            have BK427 := n7_
            have BK443 := n8_
            have HB := n9_
            clear n0_ n1_ n2_ n3_ n4_ n5_ n6_ n7_ n8_ n9_
            (try clear hb)
            (try clear hb2)
            (try clear hk)
            (try clear hi)
            (try clear ho0)
            obtain ⟨Ao51, co51, eo51⟩ := Kd.R_slice HO454.out
            (first | subst eo51 | (injection eo51 with f1_ f2_ f3_; have f4_ := f1_.symm; have f5_ := f3_.symm; clear f1_ f2_ f3_; subst f4_; subst f5_))
            refine hK.out _ _ ⟨(blk_cell BK443.out 0).trans rfl, (blk_cell BK443.out 1).trans rfl, (blk_cell BK427.out 0).trans rfl, (blk_cell BK427.out 1).trans rfl⟩ (fun hHeld => ?_)
            clear hK K
            refine norm_ (a' := ?_) ?_ ?_
            rotate_left
            · show Act.put _ (some 44) _ = _
              simp only [Act.put, List.setIfInBounds_toArray, List.set_cons_zero, List.set_cons_succ, i64_w, i32_w]
              rfl
            refine one_ (i := 3) (N := some 45) #[true, true, true, true, false] rfl rfl (by kernel_rfl) (by decide) (fun K hK => ?_)
            refine goes_ Try.func19 (by kernel_rfl) rfl #[.agg #[.int .i64 t439, .slice Ao42 t440.length co42], .agg #[.int .i64 t451, .slice Ao51 t452.length co51]] (by rfl) rfl rfl (by (try simp only [List.map_toArray, List.map_cons, List.map_nil]); first | done | rfl | (simp only [List.length_drop, List.length_take]; rfl)) ?_
            with_reducible refine (laws_eqNet.calls k t439 _ _ t440 t451 _ _ t452 true _ ?side1 ?side2 ?side3 ?side4 A20.out).mono ?_
            (case side1 => repeat (first | exact (Kd.R_reads' HO442.out).2.2 | (with_reducible refine Kd.C_alloc ?_ _) | (with_reducible refine Kd.C_drewN ?_ _) | (with_reducible refine Kd.C_drew ?_)))
            (case side2 => exact (Kd.R_reads' HO442.out).2.1)
            (case side3 => repeat (first | exact (Kd.R_reads' HO454.out).2.2 | (with_reducible refine Kd.C_alloc ?_ _) | (with_reducible refine Kd.C_drewN ?_ _) | (with_reducible refine Kd.C_drew ?_)))
            (case side4 => exact (Kd.R_reads' HO454.out).2.1)
            rintro e w52 ⟨rfl, hb⟩
            refine ⟨_, rfl, ?_⟩
            have n0_ := Aside0.mk (Kd.R_below (by (with_reducible repeat (first | apply Kd.R_alloc | apply Kd.R_drewN | apply Kd.R_drew)); exact HO432.out) hb)
            have n1_ := Aside0.mk (Kd.R_below (by (with_reducible repeat (first | apply Kd.R_alloc | apply Kd.R_drewN | apply Kd.R_drew)); exact HO435.out) hb)
            have n2_ := Aside0.mk (Kd.R_below (by (with_reducible repeat (first | apply Kd.R_alloc | apply Kd.R_drewN | apply Kd.R_drew)); exact HO438.out) hb)
            have n3_ := Aside0.mk (Kd.R_below (by (with_reducible repeat (first | apply Kd.R_alloc | apply Kd.R_drewN | apply Kd.R_drew)); exact HO442.out) hb)
            have n4_ := Aside0.mk (Kd.R_below (by (with_reducible repeat (first | apply Kd.R_alloc | apply Kd.R_drewN | apply Kd.R_drew)); exact HO446.out) hb)
            have n5_ := Aside0.mk (Kd.R_below (by (with_reducible repeat (first | apply Kd.R_alloc | apply Kd.R_drewN | apply Kd.R_drew)); exact HO449.out) hb)
            have n6_ := Aside0.mk (Kd.R_below (by (with_reducible repeat (first | apply Kd.R_alloc | apply Kd.R_drewN | apply Kd.R_drew)); exact HO454.out) hb)
            have n7_ := Aside0.mk (blk_below (g := gb427) (o := .cells #[.int .i64 a0_0, .slice A0_1 l0_1.length c0_1] 24 (0, 0)) (by (with_reducible repeat (first | refine blk_drewN ?_ _ | refine blk_drew ?_ | refine blk_alloc ?_ _)); exact BK427.out) hb)
            have n8_ := Aside0.mk (blk_below (g := gb443) (o := .cells #[.int .i64 t439, .slice Ao42 t440.length co42] 30 (0, 0)) (by (with_reducible repeat (first | refine blk_drewN ?_ _ | refine blk_drew ?_ | refine blk_alloc ?_ _)); exact BK443.out) hb)
            have n9_ := Aside0.mk (below_step (by repeat (first | (with_reducible first | exact HB.out | apply below_alloc | apply pw_below_drewN | apply below_drew1 | refine below_set ?_ GE427.out | refine below_set ?_ GE443.out) | exact HB.out)) hb)
            clear HO432
            clear HO435
            clear HO438
            clear HO442
            clear HO446
            clear HO449
            clear HO454
            clear BK427
            clear BK443
            clear HB
            have HO432 := n0_
            have HO435 := n1_
            have HO438 := n2_
            have HO442 := n3_
            have HO446 := n4_
            have HO449 := n5_
            have HO454 := n6_
            have BK427 := n7_
            have BK443 := n8_
            have HB := n9_
            clear n0_ n1_ n2_ n3_ n4_ n5_ n6_ n7_ n8_ n9_
            (try clear hb)
            (try clear hb2)
            (try clear hk)
            (try clear hi)
            refine hK.out _ _ ⟨(blk_cell BK443.out 0).trans rfl, (blk_cell BK443.out 1).trans rfl, (blk_cell BK427.out 0).trans rfl, (blk_cell BK427.out 1).trans rfl⟩ (fun hHeld => ?_)
            clear hK K
            refine norm_ (a' := ?_) ?_ ?_
            rotate_left
            · show Act.put _ (some 45) _ = _
              simp only [Act.put, List.setIfInBounds_toArray, List.set_cons_zero, List.set_cons_succ, i64_w, i32_w]
              rfl
            refine pure_ (i := 4) (N := some 46) (v := ?_) (a' := ?_) #[true, true, true, true, true] rfl rfl (by kernel_rfl) (fun _ _ _ h => h) (Or.inl ⟨by rfl, ?_⟩) ?_ ?_
            rotate_left
            · intro w'
              go_simp
              with_reducible rfl
            rotate_left
            · simp only [Act.put, List.setIfInBounds_toArray, List.set_cons_zero, List.set_cons_succ, i64_w, i32_w]
              rfl
            refine done_ (by kernel_rfl) ?_
            go_upto_region 20 with (first | ((with_reducible refine gate_callee (f := 17) rfl ?_); refine goesL_ (some 49) rfl rfl Try.func17 (by kernel_rfl) rfl #[.slice A1 l1.length c1] rfl (by (try simp only [List.map_toArray, List.map_cons, List.map_nil]); first | done | rfl | (simp only [List.length_drop, List.length_take]; rfl)) ?_; (with_reducible refine (laws_toBoolS.calls k _ _ l1 t456 _ ?side1 ?side2 A22.out).mono ?_); (case side1 => repeat (first | exact (Kd.C_below HR1.out HB.out) | (with_reducible refine Kd.C_alloc ?_ _) | (with_reducible refine Kd.C_drewN ?_ _) | (with_reducible refine Kd.C_drew ?_))); (case side2 => exact HC1.out); rintro e w53 ⟨v457, rfl, ho0, hb⟩; refine ⟨_, rfl, ?_⟩; have n0_ := Aside0.mk (Kd.R_below (by (with_reducible repeat (first | apply Kd.R_alloc | apply Kd.R_drewN | apply Kd.R_drew)); exact HO432.out) hb); have n1_ := Aside0.mk (Kd.R_elder' (by (with_reducible repeat (first | apply Kd.R_alloc | apply Kd.R_drewN | apply Kd.R_drew)); exact HO435.out) (Kd.R_base ho0) hb); have n2_ := Aside0.mk (Kd.R_below (by (with_reducible repeat (first | apply Kd.R_alloc | apply Kd.R_drewN | apply Kd.R_drew)); exact HO438.out) hb); have n3_ := Aside0.mk (Kd.R_below (by (with_reducible repeat (first | apply Kd.R_alloc | apply Kd.R_drewN | apply Kd.R_drew)); exact HO442.out) hb); have n4_ := Aside0.mk (Kd.R_elder' (by (with_reducible repeat (first | apply Kd.R_alloc | apply Kd.R_drewN | apply Kd.R_drew)); exact HO446.out) (Kd.R_base ho0) hb); have n5_ := Aside0.mk (Kd.R_below (by (with_reducible repeat (first | apply Kd.R_alloc | apply Kd.R_drewN | apply Kd.R_drew)); exact HO449.out) hb); have n6_ := Aside0.mk (Kd.R_below (by (with_reducible repeat (first | apply Kd.R_alloc | apply Kd.R_drewN | apply Kd.R_drew)); exact HO454.out) hb); have n7_ := Aside0.mk (Kd.R_lower (Kd.R_new' (Kd.R_new' ho0 (Kd.R_lt (by (with_reducible repeat (first | apply Kd.R_alloc | apply Kd.R_drewN | apply Kd.R_drew)); exact HO435.out))) (Kd.R_lt (by (with_reducible repeat (first | apply Kd.R_alloc | apply Kd.R_drewN | apply Kd.R_drew)); exact HO446.out))) (below_size (by repeat (first | (with_reducible first | exact HB.out | apply below_alloc | apply pw_below_drewN | apply below_drew1 | refine below_set ?_ GE427.out | refine below_set ?_ GE443.out) | exact HB.out)))); have n8_ := Aside0.mk (blk_below (g := gb427) (o := .cells #[.int .i64 a0_0, .slice A0_1 l0_1.length c0_1] 24 (0, 0)) (by (with_reducible repeat (first | refine blk_drewN ?_ _ | refine blk_drew ?_ | refine blk_alloc ?_ _)); exact BK427.out) hb); have n9_ := Aside0.mk (blk_below (g := gb443) (o := .cells #[.int .i64 t439, .slice Ao42 t440.length co42] 30 (0, 0)) (by (with_reducible repeat (first | refine blk_drewN ?_ _ | refine blk_drew ?_ | refine blk_alloc ?_ _)); exact BK443.out) hb); have n10_ := Aside0.mk (below_step (by repeat (first | (with_reducible first | exact HB.out | apply below_alloc | apply pw_below_drewN | apply below_drew1 | refine below_set ?_ GE427.out | refine below_set ?_ GE443.out) | exact HB.out)) hb); clear HO432; clear HO435; clear HO438; clear HO442; clear HO446; clear HO449; clear HO454; clear BK427; clear BK443; clear HB; have HO432 := n0_; have HO435 := n1_; have HO438 := n2_; have HO442 := n3_; have HO446 := n4_; have HO449 := n5_; have HO454 := n6_; have HO458 := n7_; have BK427 := n8_; have BK443 := n9_; have HB := n10_; clear n0_ n1_ n2_ n3_ n4_ n5_ n6_ n7_ n8_ n9_ n10_; (try clear hb); (try clear hb2); (try clear hk); (try clear hi); (try clear ho0); obtain ⟨Ao54, co54, eo54⟩ := Kd.R_slice HO458.out; subst eo54) | ((with_reducible refine gate_callee (f := 20) rfl ?_); refine goesL_ (some 50) rfl rfl Try.func20 (by kernel_rfl) rfl #[.slice Ao45 t444.length co45, .slice Ao54 t456.length co54] rfl (by (try simp only [List.map_toArray, List.map_cons, List.map_nil]); first | done | rfl | (simp only [List.length_drop, List.length_take]; rfl)) ?_; (with_reducible refine (laws_eqBoolS.calls k _ _ t444 _ _ t456 true _ ?side1 ?side2 ?side3 ?side4 A23.out).mono ?_); (case side1 => repeat (first | exact (Kd.R_reads' HO446.out).2.2 | (with_reducible refine Kd.C_alloc ?_ _) | (with_reducible refine Kd.C_drewN ?_ _) | (with_reducible refine Kd.C_drew ?_))); (case side2 => exact (Kd.R_reads' HO446.out).2.1); (case side3 => repeat (first | exact (Kd.R_reads' HO458.out).2.2 | (with_reducible refine Kd.C_alloc ?_ _) | (with_reducible refine Kd.C_drewN ?_ _) | (with_reducible refine Kd.C_drew ?_))); (case side4 => exact (Kd.R_reads' HO458.out).2.1); rintro e w' ⟨rfl, ⟨nd, rfl⟩⟩; refine ⟨_, rfl, ?_⟩; have hcz55_0 : w53.cell? ⟨gb443, 0, none⟩ = some (.int .i64 t439) := (blk_cell BK443.out 0).trans rfl; have hcz55_1 : w53.cell? ⟨gb443, 1, none⟩ = some (.slice Ao42 t440.length co42) := (blk_cell BK443.out 1).trans rfl; have hfz55_0 := blk_frozen BK443.out 0; have hfz55_1 := blk_frozen BK443.out 1) | ((with_reducible refine gate_callee (f := 26) rfl ?_); refine goesL_ (some 54) rfl rfl Try.func26 (by kernel_rfl) rfl #[.agg #[.int .i64 t439, .slice Ao42 t440.length co42], .int .i64 1] rfl (by (try simp only [List.map_toArray, List.map_cons, List.map_nil]); first | done | rfl | (simp only [List.length_drop, List.length_take]; rfl)) ?_; (with_reducible refine (laws_markNet.calls k t439 (fun k_ => some k_ = (.slice Ao42 t440.length co42 : Value).ownBlock) (.slice Ao42 t440.length co42) t440 1 t460 t461 w _ ?side1 ?side2 A25.out).mono ?_); (case side1 => repeat (first | (with_reducible first | exact HB.out | apply below_alloc | apply pw_below_drewN | apply below_drew1 | refine below_set ?_ GE427.out | refine below_set ?_ GE443.out) | exact HB.out)); (case side2 => exact Kd.R_tight rfl HO442.out); rintro e w56 ⟨rfl, hy0, hb, hkp⟩; refine ⟨_, rfl, ?_⟩; have n0_ := Aside0.mk (blk_kept (by (with_reducible repeat (first | refine blk_drewN ?_ _ | refine blk_drew ?_ | refine blk_alloc ?_ _)); exact BK427.out) hkp (fun hs_ => (fun e_ => (Kd.R_ne HO442.out BK427.out (by decide)) e_) hs_)); have n1_ := Aside0.mk (Kd.R_mono (ok' := fun k_ => some k_ ≠ (.slice Ao42 t440.length co42 : Value).ownBlock ∧ some k_ ≠ (.slice Ao51 t452.length co51 : Value).ownBlock) (Kd.R_keptB (HO432.out) hkp (fun k_ hk_ hs_ => (hk_.1.2) hs_)) (fun k_ hk_ => ⟨hk_.1.1.2, hk_.1.2⟩)); have n2_ := Aside0.mk (Kd.R_mono (ok' := fun k_ => some k_ ≠ (.slice Ao45 t444.length co45 : Value).ownBlock ∧ some k_ ≠ (.slice Ao54 t456.length co54 : Value).ownBlock) (Kd.R_keptB ((Kd.R_apart' HO435.out (Kd.R_typed HO442.out) (by decide))) hkp (fun k_ hk_ hs_ => (hk_.2) hs_)) (fun k_ hk_ => ⟨hk_.1.1.1.2, hk_.1.1.2⟩)); have n3_ := Aside0.mk (Kd.R_mono (ok' := fun k_ => some k_ ≠ (.slice Ao47 t447.length co47 : Value).ownBlock) (Kd.R_keptB ((Kd.R_apart' HO438.out (Kd.R_typed HO442.out) (by decide))) hkp (fun k_ hk_ hs_ => (hk_.2) hs_)) (fun k_ hk_ => hk_.1.1.2)); have n4_ := Aside0.mk (Kd.R_reok rfl hy0 (fun k_ e_ => HO442.out.1 k_ e_)); have n5_ := Aside0.mk (blk_kept (by (with_reducible repeat (first | refine blk_drewN ?_ _ | refine blk_drew ?_ | refine blk_alloc ?_ _)); exact BK443.out) hkp (fun hs_ => (fun e_ => (Kd.R_ne HO442.out BK443.out (by decide)) e_) hs_)); have n6_ := Aside0.mk (Kd.R_mono (ok' := fun k_ => some k_ ≠ (.slice Ao35 t433.length co35 : Value).ownBlock ∧ some k_ ≠ (.slice Ao54 t456.length co54 : Value).ownBlock) (Kd.R_keptB ((Kd.R_apart' HO446.out (Kd.R_typed HO442.out) (by decide))) hkp (fun k_ hk_ hs_ => (hk_.2) hs_)) (fun k_ hk_ => ⟨hk_.1.1.1.2, hk_.1.1.2⟩)); have n7_ := Aside0.mk (Kd.R_mono (ok' := fun k_ => some k_ ≠ (.slice Ao48 t436.length co48 : Value).ownBlock) (Kd.R_keptB ((Kd.R_apart' HO449.out (Kd.R_typed HO442.out) (by decide))) hkp (fun k_ hk_ hs_ => (hk_.2) hs_)) (fun k_ hk_ => hk_.1.1.2)); have n8_ := Aside0.mk (Kd.R_mono (ok' := fun k_ => some k_ ≠ (.slice Ao34 t430.length co34 : Value).ownBlock ∧ some k_ ≠ (.slice Ao42 t440.length co42 : Value).ownBlock) (Kd.R_keptB (HO454.out) hkp (fun k_ hk_ hs_ => (hk_.2) hs_)) (fun k_ hk_ => ⟨hk_.1.1.2, hk_.1.2⟩)); have n9_ := Aside0.mk (Kd.R_mono (ok' := fun k_ => some k_ ≠ (.slice Ao35 t433.length co35 : Value).ownBlock ∧ some k_ ≠ (.slice Ao45 t444.length co45 : Value).ownBlock) (Kd.R_keptB ((Kd.R_apart' HO458.out (Kd.R_typed HO442.out) (by decide))) hkp (fun k_ hk_ hs_ => (hk_.2) hs_)) (fun k_ hk_ => ⟨hk_.1.1.1.2, hk_.1.1.2⟩)); have n10_ := Aside0.mk (hb); clear BK427; clear HO432; clear HO435; clear HO438; clear HO442; clear BK443; clear HO446; clear HO449; clear HO454; clear HO458; clear HB; have BK427 := n0_; have HO432 := n1_; have HO435 := n2_; have HO438 := n3_; have HO442 := n4_; have BK443 := n5_; have HO446 := n6_; have HO449 := n7_; have HO454 := n8_; have HO458 := n9_; have HB := n10_; clear n0_ n1_ n2_ n3_ n4_ n5_ n6_ n7_ n8_ n9_ n10_; (try clear hb); (try clear hkp); (try clear hy0)) | ((with_reducible refine gate_callee (f := 27) rfl ?_); refine goesL_ (some 57) rfl rfl Try.func27 (by kernel_rfl) rfl #[.slice Ao45 t444.length co45, .int .i64 t460] rfl (by (try simp only [List.map_toArray, List.map_cons, List.map_nil]); first | done | rfl | (simp only [List.length_drop, List.length_take]; rfl)) ?_; (with_reducible refine (laws_markBoolS.calls k (fun k_ => some k_ = (.slice Ao45 t444.length co45 : Value).ownBlock) (.slice Ao45 t444.length co45) t444 t460 t462 t463 w _ ?side1 ?side2 A26.out).mono ?_); (case side1 => repeat (first | (with_reducible first | exact HB.out | apply below_alloc | apply pw_below_drewN | apply below_drew1 | refine below_set ?_ GE427.out | refine below_set ?_ GE443.out) | exact HB.out)); (case side2 => exact Kd.R_tight rfl HO446.out); rintro e w57 ⟨rfl, hy0, hb, hkp⟩; refine ⟨_, rfl, ?_⟩; have n0_ := Aside0.mk (blk_kept (by (with_reducible repeat (first | refine blk_drewN ?_ _ | refine blk_drew ?_ | refine blk_alloc ?_ _)); exact BK427.out) hkp (fun hs_ => (fun e_ => (Kd.R_ne HO446.out BK427.out (by decide)) e_) hs_)); have n1_ := Aside0.mk (Kd.R_mono (ok' := fun k_ => some k_ ≠ (.slice Ao42 t440.length co42 : Value).ownBlock ∧ some k_ ≠ (.slice Ao51 t452.length co51 : Value).ownBlock) (Kd.R_keptB ((Kd.R_apart' HO432.out (Kd.R_typed HO446.out) (by decide))) hkp (fun k_ hk_ hs_ => (hk_.2) hs_)) (fun k_ hk_ => ⟨hk_.1.1.1, hk_.1.1.2⟩)); have n2_ := Aside0.mk (Kd.R_mono (ok' := fun k_ => some k_ ≠ (.slice Ao45 t444.length co45 : Value).ownBlock ∧ some k_ ≠ (.slice Ao54 t456.length co54 : Value).ownBlock) (Kd.R_keptB (HO435.out) hkp (fun k_ hk_ hs_ => (hk_.1) hs_)) (fun k_ hk_ => ⟨hk_.1.1, hk_.1.2⟩)); have n3_ := Aside0.mk (Kd.R_mono (ok' := fun k_ => some k_ ≠ (.slice Ao47 t447.length co47 : Value).ownBlock) (Kd.R_keptB ((Kd.R_apart' HO438.out (Kd.R_typed HO446.out) (by decide))) hkp (fun k_ hk_ hs_ => (hk_.2) hs_)) (fun k_ hk_ => hk_.1.1)); have n4_ := Aside0.mk (Kd.R_mono (ok' := fun k_ => some k_ ≠ (.slice Ao34 t430.length co34 : Value).ownBlock ∧ some k_ ≠ (.slice Ao51 t452.length co51 : Value).ownBlock) (Kd.R_keptB ((Kd.R_apart' HO442.out (Kd.R_typed HO446.out) (by decide))) hkp (fun k_ hk_ hs_ => (hk_.2) hs_)) (fun k_ hk_ => ⟨hk_.1.1.1.2, hk_.1.1.2⟩)); have n5_ := Aside0.mk (blk_kept (by (with_reducible repeat (first | refine blk_drewN ?_ _ | refine blk_drew ?_ | refine blk_alloc ?_ _)); exact BK443.out) hkp (fun hs_ => (fun e_ => (Kd.R_ne HO446.out BK443.out (by decide)) e_) hs_)); have n6_ := Aside0.mk (Kd.R_reok rfl hy0 (fun k_ e_ => HO446.out.1 k_ e_)); have n7_ := Aside0.mk (Kd.R_mono (ok' := fun k_ => some k_ ≠ (.slice Ao48 t436.length co48 : Value).ownBlock) (Kd.R_keptB ((Kd.R_apart' HO449.out (Kd.R_typed HO446.out) (by decide))) hkp (fun k_ hk_ hs_ => (hk_.2) hs_)) (fun k_ hk_ => hk_.1.1)); have n8_ := Aside0.mk (Kd.R_mono (ok' := fun k_ => some k_ ≠ (.slice Ao34 t430.length co34 : Value).ownBlock ∧ some k_ ≠ (.slice Ao42 t440.length co42 : Value).ownBlock) (Kd.R_keptB ((Kd.R_apart' HO454.out (Kd.R_typed HO446.out) (by decide))) hkp (fun k_ hk_ hs_ => (hk_.2) hs_)) (fun k_ hk_ => ⟨hk_.1.1.1, hk_.1.1.2⟩)); have n9_ := Aside0.mk (Kd.R_mono (ok' := fun k_ => some k_ ≠ (.slice Ao35 t433.length co35 : Value).ownBlock ∧ some k_ ≠ (.slice Ao45 t444.length co45 : Value).ownBlock) (Kd.R_keptB (HO458.out) hkp (fun k_ hk_ hs_ => (hk_.2) hs_)) (fun k_ hk_ => ⟨hk_.1.1, hk_.1.2⟩)); have n10_ := Aside0.mk (hb); clear BK427; clear HO432; clear HO435; clear HO438; clear HO442; clear BK443; clear HO446; clear HO449; clear HO454; clear HO458; clear HB; have BK427 := n0_; have HO432 := n1_; have HO435 := n2_; have HO438 := n3_; have HO442 := n4_; have BK443 := n5_; have HO446 := n6_; have HO449 := n7_; have HO454 := n8_; have HO458 := n9_; have HB := n10_; clear n0_ n1_ n2_ n3_ n4_ n5_ n6_ n7_ n8_ n9_ n10_; (try clear hb); (try clear hkp); (try clear hy0)))
            (try simp only [Act.put, List.setIfInBounds_toArray, List.set_cons_zero, List.set_cons_succ])
            go_cut [65] (fun v65 wc => ∃ (kq : Nat) (x65_26 : Bool), v65 = .bool x65_26 ∧ Aside0 (laws_FnExactReached.j0 kq l1 a2 t436 t447 x65_26 a0_0 l0_1 = some r) ∧ Aside0 (kq ≤ k) ∧ Aside0 (Kd.R (Kd.int .i64) 3 wc w.heap.size (fun k_ => some k_ ≠ ((.slice Ao47 t447.length co47) : Value).ownBlock) (.slice Ao48 t436.length co48) t436) ∧ Aside0 (Kd.R (Kd.int .i64) 3 wc w.heap.size (fun k_ => some k_ ≠ ((.slice Ao48 t436.length co48) : Value).ownBlock) (.slice Ao47 t447.length co47) t447) ∧ Aside0 (Kd.R k73 73 wc w.heap.size (fun _ => True) (.slice Ao42 t440.length co42) t461) ∧ Aside0 (wc.heap[gb427]? = some (.cells #[.int .i64 a0_0, (.slice A0_1 l0_1.length c0_1)] 24 (0, 0))) ∧ Aside0 (wc.heap[gb443]? = some (.cells #[.int .i64 t439, (.slice Ao42 t440.length co42)] 30 (0, 0))) ∧ Aside0 (Below w.heap.size w wc))
            case first =>
              have H := HC27.out
              clear HC27
              by_cases c58 : t462 < 0
              · rw [if_pos c58] at H
                have c58b0 : decide (t462 < 0) = true := decide_eq_true c58
                clear c58
                (first | rw [c58b0] | (simp only [i64_w, i32_w]; rw [c58b0]) | skip)
                have H' := Aside0.mk H
                clear H
                go_wp2
                go_meet
                case rel => exact ⟨_, (true), (by first | rfl | (simp; done) | (simp [*]; done)), H', ⟨by first | omega | exact Nat.le_refl _⟩, ⟨by (with_reducible repeat (first | apply Kd.R_alloc | apply Kd.R_drewN | apply Kd.R_drew)); exact HO438.out⟩, ⟨by (with_reducible repeat (first | apply Kd.R_alloc | apply Kd.R_drewN | apply Kd.R_drew)); exact HO449.out⟩, ⟨by (with_reducible repeat (first | apply Kd.R_alloc | apply Kd.R_drewN | apply Kd.R_drew)); exact Kd.R_mono HO442.out (fun _ hk => trivial)⟩, ⟨by (with_reducible repeat (first | refine blk_drewN ?_ _ | refine blk_drew ?_ | refine blk_alloc ?_ _)); exact BK427.out⟩, ⟨by (with_reducible repeat (first | refine blk_drewN ?_ _ | refine blk_drew ?_ | refine blk_alloc ?_ _)); exact BK443.out⟩, ⟨by repeat (first | (with_reducible first | exact HB.out | apply below_alloc | apply pw_below_drewN | apply below_drew1 | refine below_set ?_ GE427.out | refine below_set ?_ GE443.out) | exact HB.out)⟩⟩
              · rw [if_neg c58] at H
                have c58b0 : decide (t462 < 0) = false := decide_eq_false c58
                clear c58
                (first | rw [c58b0] | (simp only [i64_w, i32_w]; rw [c58b0]) | skip)
                replace H := Option.bind_eq_some_iff.mp H
                obtain ⟨t464, A590, H⟩ := H
                replace H : (laws_FnExactReached.j0 k l1 a2 t436 t447 (!t464) a0_0 l0_1) = some r := H
                have A59 := Aside0.mk A590
                clear A590
                have H' := Aside0.mk H
                clear H
                go_wp2_with (first | (go_at_call 25; (with_reducible refine (laws_eqIntS.calls k _ _ t447 _ _ t436 t464 _ ?side1 ?side2 ?side3 ?side4 A59.out).mono ?_); (case side1 => repeat (first | exact (Kd.R_reads' HO449.out).2.2 | (with_reducible refine Kd.C_alloc ?_ _) | (with_reducible refine Kd.C_drewN ?_ _) | (with_reducible refine Kd.C_drew ?_))); (case side2 => exact (Kd.R_reads' HO449.out).2.1); (case side3 => repeat (first | exact (Kd.R_reads' HO438.out).2.2 | (with_reducible refine Kd.C_alloc ?_ _) | (with_reducible refine Kd.C_drewN ?_ _) | (with_reducible refine Kd.C_drew ?_))); (case side4 => exact (Kd.R_reads' HO438.out).2.1); rintro e w' ⟨rfl, ⟨nd, rfl⟩⟩))
                go_meet
                case rel => exact ⟨_, (!t464), (by first | rfl | (simp; done) | (simp [*]; done)), H', ⟨by first | omega | exact Nat.le_refl _⟩, ⟨by (with_reducible repeat (first | apply Kd.R_alloc | apply Kd.R_drewN | apply Kd.R_drew)); exact HO438.out⟩, ⟨by (with_reducible repeat (first | apply Kd.R_alloc | apply Kd.R_drewN | apply Kd.R_drew)); exact HO449.out⟩, ⟨by (with_reducible repeat (first | apply Kd.R_alloc | apply Kd.R_drewN | apply Kd.R_drew)); exact Kd.R_mono HO442.out (fun _ hk => trivial)⟩, ⟨by (with_reducible repeat (first | refine blk_drewN ?_ _ | refine blk_drew ?_ | refine blk_alloc ?_ _)); exact BK427.out⟩, ⟨by (with_reducible repeat (first | refine blk_drewN ?_ _ | refine blk_drew ?_ | refine blk_alloc ?_ _)); exact BK443.out⟩, ⟨by repeat (first | (with_reducible first | exact HB.out | apply below_alloc | apply pw_below_drewN | apply below_drew1 | refine below_set ?_ GE427.out | refine below_set ?_ GE443.out) | exact HB.out)⟩⟩
            case rest =>
              clear HC27
              try clear c1
              try clear c2
              try clear p2
              try clear c3
              try clear c4
              try clear c4b0
              try clear c4b1
              try clear c5
              try clear c6
              try clear c7
              try clear c7b0
              try clear c14
              try clear c16
              try clear c17
              try clear c18
              try clear c19
              try clear c20
              try clear c21
              try clear c24
              try clear c25
              try clear c26
              try clear c27
              try clear c30
              try clear c31
              try clear c40
              try clear c58
              try clear c58b0
              try clear hcz29_0
              try clear hcz29_1
              try clear hcz31_0
              try clear hcz31_1
              try clear hcz37_0
              try clear hcz37_1
              try clear hcz41_0
              try clear hcz41_1
              try clear hcz44_0
              try clear hcz44_1
              try clear hcz55_0
              try clear hcz55_1
              try clear hcz9_0
              try clear hcz9_1
              try clear hfz29_0
              try clear hfz29_1
              try clear hfz31_0
              try clear hfz31_1
              try clear hfz37_0
              try clear hfz37_1
              try clear hfz41_0
              try clear hfz41_1
              try clear hfz44_0
              try clear hfz44_1
              try clear hfz55_0
              try clear hfz55_1
              try clear hfz9_0
              try clear hfz9_1
              obtain ⟨kq, x65_26, rfl, HA, HJ26, HO_8, HO_11, HO_444001, BK427, BK443, HB⟩ := hcut
              have hl444001_26 := (Kd.R_reads' HO_444001.out).1
              rw [hl444001_26] at HO_444001
              (try simp only [hl444001_26])
              (try simp only [hl444001_26] at BK427)
              (try simp only [hl444001_26] at BK443)
              (try simp only [hl444001_26] at HO_8)
              (try simp only [hl444001_26] at HO_11)
              cases kq with
              | zero => exact absurd HA.out (by simp [laws_FnExactReached.j0])
              | succ kj26 =>
                have H := HA.out
                clear HA
                simp only [laws_FnExactReached.j0] at H
                by_cases c60 : x65_26 = true
                · subst c60
                  have H1 : (none) = some r := by rw [if_pos rfl] at H; exact H
                  clear H
                  have H := H1
                  clear H1
                  exact absurd H (by simp)
                · replace c60 := Bool.eq_false_iff.mpr c60
                  subst c60
                  have H1 : ((laws_markIntS.f kj26 t447 1).bind fun bt465 => ((laws_heldIntS.f kj26 bt465.2 1).bind fun t467 => (if t467 < 0 then (none) else (if t467 = bt465.1 then ((laws_toNet.f kj26 a0_0 l0_1).bind fun bt468 => ((laws_toBoolS.f kj26 l1).bind fun t472 => ((impl_Reached.f kj26 bt468.1 bt468.2 t472 a2).bind fun t475 => ((laws_eqIntS.f kj26 t475 t436).bind fun t478 => (if t478 = true then ((laws_heldIntS.f kj26 bt465.2 1).bind fun t479 => (if t479 < 0 then (none) else (if t479 = bt465.1 then (some true) else (none)))) else (none)))))) else (none))))) = some r := by rw [if_neg (show ¬ (false = true) by decide)] at H; exact H
                  clear H
                  have H := H1
                  clear H1
                  replace H := Option.bind_eq_some_iff.mp H
                  obtain ⟨⟨t465, t466⟩, A610, H⟩ := H
                  replace H : ((laws_heldIntS.f kj26 t466 1).bind fun t467 => (if t467 < 0 then (none) else (if t467 = t465 then ((laws_toNet.f kj26 a0_0 l0_1).bind fun bt468 => ((laws_toBoolS.f kj26 l1).bind fun t472 => ((impl_Reached.f kj26 bt468.1 bt468.2 t472 a2).bind fun t475 => ((laws_eqIntS.f kj26 t475 t436).bind fun t478 => (if t478 = true then ((laws_heldIntS.f kj26 t466 1).bind fun t479 => (if t479 < 0 then (none) else (if t479 = t465 then (some true) else (none)))) else (none)))))) else (none)))) = some r := H
                  have A61 := Aside0.mk A610
                  clear A610
                  replace H := Option.bind_eq_some_iff.mp H
                  obtain ⟨t467, A620, H⟩ := H
                  replace H : (if t467 < 0 then (none) else (if t467 = t465 then ((laws_toNet.f kj26 a0_0 l0_1).bind fun bt468 => ((laws_toBoolS.f kj26 l1).bind fun t472 => ((impl_Reached.f kj26 bt468.1 bt468.2 t472 a2).bind fun t475 => ((laws_eqIntS.f kj26 t475 t436).bind fun t478 => (if t478 = true then ((laws_heldIntS.f kj26 t466 1).bind fun t479 => (if t479 < 0 then (none) else (if t479 = t465 then (some true) else (none)))) else (none)))))) else (none))) = some r := H
                  have A62 := Aside0.mk A620
                  clear A620
                  by_cases c63 : t467 < 0
                  · rw [if_pos c63] at H
                    exact absurd H (by simp)
                  · rw [if_neg c63] at H
                    have c63b0 : decide (t467 < 0) = false := decide_eq_false c63
                    clear c63
                    by_cases c64 : t467 = t465
                    · rw [if_pos c64] at H
                      have c64b0 : (t467 == t465) = true := beq_iff_eq.mpr c64
                      have c64b1 : (t467 != t465) = false := bne_eq_false_iff_eq.mpr c64
                      clear c64
                      replace H := Option.bind_eq_some_iff.mp H
                      obtain ⟨⟨t468, t469⟩, A650, H⟩ := H
                      replace H : ((laws_toBoolS.f kj26 l1).bind fun t472 => ((impl_Reached.f kj26 t468 t469 t472 a2).bind fun t475 => ((laws_eqIntS.f kj26 t475 t436).bind fun t478 => (if t478 = true then ((laws_heldIntS.f kj26 t466 1).bind fun t479 => (if t479 < 0 then (none) else (if t479 = t465 then (some true) else (none)))) else (none))))) = some r := H
                      have A65 := Aside0.mk A650
                      clear A650
                      replace H := Option.bind_eq_some_iff.mp H
                      obtain ⟨t472, A660, H⟩ := H
                      replace H : ((impl_Reached.f kj26 t468 t469 t472 a2).bind fun t475 => ((laws_eqIntS.f kj26 t475 t436).bind fun t478 => (if t478 = true then ((laws_heldIntS.f kj26 t466 1).bind fun t479 => (if t479 < 0 then (none) else (if t479 = t465 then (some true) else (none)))) else (none)))) = some r := H
                      have A66 := Aside0.mk A660
                      clear A660
                      replace H := Option.bind_eq_some_iff.mp H
                      obtain ⟨t475, A670, H⟩ := H
                      replace H : ((laws_eqIntS.f kj26 t475 t436).bind fun t478 => (if t478 = true then ((laws_heldIntS.f kj26 t466 1).bind fun t479 => (if t479 < 0 then (none) else (if t479 = t465 then (some true) else (none)))) else (none))) = some r := H
                      have A67 := Aside0.mk A670
                      clear A670
                      replace H := Option.bind_eq_some_iff.mp H
                      obtain ⟨t478, A680, H⟩ := H
                      replace H : (if t478 = true then ((laws_heldIntS.f kj26 t466 1).bind fun t479 => (if t479 < 0 then (none) else (if t479 = t465 then (some true) else (none)))) else (none)) = some r := H
                      have A68 := Aside0.mk A680
                      clear A680
                      by_cases c69 : t478 = true
                      · subst c69
                        have H1 : ((laws_heldIntS.f kj26 t466 1).bind fun t479 => (if t479 < 0 then (none) else (if t479 = t465 then (some true) else (none)))) = some r := by rw [if_pos rfl] at H; exact H
                        clear H
                        have H := H1
                        clear H1
                        replace H := Option.bind_eq_some_iff.mp H
                        obtain ⟨t479, A700, H⟩ := H
                        replace H : (if t479 < 0 then (none) else (if t479 = t465 then (some true) else (none))) = some r := H
                        have A70 := Aside0.mk A700
                        clear A700
                        by_cases c71 : t479 < 0
                        · rw [if_pos c71] at H
                          exact absurd H (by simp)
                        · rw [if_neg c71] at H
                          have c71b0 : decide (t479 < 0) = false := decide_eq_false c71
                          clear c71
                          by_cases c72 : t479 = t465
                          · rw [if_pos c72] at H
                            have c72b0 : (t479 == t465) = true := beq_iff_eq.mpr c72
                            have c72b1 : (t479 != t465) = false := bne_eq_false_iff_eq.mpr c72
                            clear c72
                            obtain rfl := Option.some.inj H
                            go_wp2_with (first | ((with_reducible refine gate_callee (f := 28) rfl ?_); refine goesL_ (some 68) rfl rfl Try.func28 (by kernel_rfl) rfl #[.slice Ao47 t447.length co47, .int .i64 1] rfl (by (try simp only [List.map_toArray, List.map_cons, List.map_nil]); first | done | rfl | (simp only [List.length_drop, List.length_take]; rfl)) ?_; (with_reducible refine (laws_markIntS.calls kj26 (fun k_ => some k_ = (.slice Ao47 t447.length co47 : Value).ownBlock) (.slice Ao47 t447.length co47) t447 1 t465 t466 w _ ?side1 ?side2 A61.out).mono ?_); (case side1 => repeat (first | (with_reducible first | exact HB.out | apply below_alloc | apply pw_below_drewN | apply below_drew1 | refine below_set ?_ GE427.out | refine below_set ?_ GE443.out) | exact HB.out)); (case side2 => exact Kd.R_tight rfl HO_11.out); rintro e w73 ⟨rfl, hy0, hb, hkp⟩; refine ⟨_, rfl, ?_⟩; have n0_ := Aside0.mk (Kd.R_mono (ok' := fun k_ => some k_ ≠ (.slice Ao47 t447.length co47 : Value).ownBlock) (Kd.R_keptB (HO_8.out) hkp (fun k_ hk_ hs_ => (hk_) hs_)) (fun k_ hk_ => hk_.1)); have n1_ := Aside0.mk (Kd.R_reok rfl hy0 (fun k_ e_ => HO_11.out.1 k_ e_)); have n2_ := Aside0.mk (Kd.R_mono (ok' := fun k_ => True) (Kd.R_keptB ((Kd.R_apart' HO_444001.out (Kd.R_typed HO_11.out) (by decide))) hkp (fun k_ hk_ hs_ => (hk_.2) hs_)) (fun k_ hk_ => trivial)); have n3_ := Aside0.mk (blk_kept (by (with_reducible repeat (first | refine blk_drewN ?_ _ | refine blk_drew ?_ | refine blk_alloc ?_ _)); exact BK427.out) hkp (fun hs_ => (fun e_ => (Kd.R_ne HO_11.out BK427.out (by decide)) e_) hs_)); have n4_ := Aside0.mk (blk_kept (by (with_reducible repeat (first | refine blk_drewN ?_ _ | refine blk_drew ?_ | refine blk_alloc ?_ _)); exact BK443.out) hkp (fun hs_ => (fun e_ => (Kd.R_ne HO_11.out BK443.out (by decide)) e_) hs_)); have n5_ := Aside0.mk (hb); clear HO_8; clear HO_11; clear HO_444001; clear BK427; clear BK443; clear HB; have HO_8 := n0_; have HO_11 := n1_; have HO_444001 := n2_; have BK427 := n3_; have BK443 := n4_; have HB := n5_; clear n0_ n1_ n2_ n3_ n4_ n5_; (try clear hb); (try clear hkp); (try clear hy0)) | ((with_reducible refine gate_callee (f := 29) rfl ?_); refine goesL_ (some 71) rfl rfl Try.func29 (by kernel_rfl) rfl #[.slice Ao47 t466.length co47, .int .i64 1] rfl (by (try simp only [List.map_toArray, List.map_cons, List.map_nil]); first | done | (rw [show t466.length = t447.length from (Kd.R_reads' HO_11.out).1.symm] <;> rfl) | rfl | (simp only [List.length_drop, List.length_take]; rfl)) ?_; (with_reducible refine (laws_heldIntS.calls kj26 _ _ t466 1 t467 _ ?side1 ?side2 A62.out).mono ?_); (case side1 => repeat (first | exact (Kd.R_reads' HO_11.out).2.2 | (with_reducible refine Kd.C_alloc ?_ _) | (with_reducible refine Kd.C_drewN ?_ _) | (with_reducible refine Kd.C_drew ?_))); (case side2 => rw [show t466.length = t447.length from (Kd.R_reads' HO_11.out).1.symm]; exact (Kd.R_reads' HO_11.out).2.1); rintro e w' ⟨rfl, ⟨nd, rfl⟩⟩; refine ⟨_, rfl, ?_⟩; have hnb74 := NB427_443.out; have hnc74 := NB443_427.out; have hcz75_0 : w73.cell? ⟨gb427, 0, none⟩ = some (.int .i64 a0_0) := (blk_cell BK427.out 0).trans rfl; have hcz75_1 : w73.cell? ⟨gb427, 1, none⟩ = some (.slice A0_1 l0_1.length c0_1) := (blk_cell BK427.out 1).trans rfl; have hfz75_0 := blk_frozen BK427.out 0; have hfz75_1 := blk_frozen BK427.out 1) | ((with_reducible refine gate_callee (f := 16) rfl ?_); refine goesL_ (some 78) rfl rfl Try.func16 (by kernel_rfl) rfl #[.agg #[.int .i64 a0_0, .slice A0_1 l0_1.length c0_1]] rfl (by (try simp only [List.map_toArray, List.map_cons, List.map_nil]); first | done | rfl | (simp only [List.length_drop, List.length_take]; rfl)) ?_; (with_reducible refine (laws_toNet.calls kj26 a0_0 _ _ l0_1 t468 t469 _ ?side1 ?side2 A65.out).mono ?_); (case side1 => repeat (first | exact (Kd.C_below HR0_1.out (by repeat (first | (with_reducible first | exact HB.out | apply below_alloc | apply pw_below_drewN | apply below_drew1 | refine below_set ?_ GE427.out | refine below_set ?_ GE443.out) | exact HB.out))) | (with_reducible refine Kd.C_alloc ?_ _) | (with_reducible refine Kd.C_drewN ?_ _) | (with_reducible refine Kd.C_drew ?_))); (case side2 => exact HC0_1.out); rintro e w76 ⟨v470, rfl, ho0, hb⟩; refine ⟨_, rfl, ?_⟩; have n0_ := Aside0.mk (Kd.R_below (by (with_reducible repeat (first | apply Kd.R_alloc | apply Kd.R_drewN | apply Kd.R_drew)); exact HO_8.out) hb); have n1_ := Aside0.mk (Kd.R_below (by (with_reducible repeat (first | apply Kd.R_alloc | apply Kd.R_drewN | apply Kd.R_drew)); exact HO_11.out) hb); have n2_ := Aside0.mk (Kd.R_elder' (by (with_reducible repeat (first | apply Kd.R_alloc | apply Kd.R_drewN | apply Kd.R_drew)); exact HO_444001.out) (Kd.R_base ho0) hb); have n3_ := Aside0.mk (Kd.R_lower (Kd.R_new' ho0 (Kd.R_lt (by (with_reducible repeat (first | apply Kd.R_alloc | apply Kd.R_drewN | apply Kd.R_drew)); exact HO_444001.out))) (below_size (by repeat (first | (with_reducible first | exact HB.out | apply below_alloc | apply pw_below_drewN | apply below_drew1 | refine below_set ?_ GE427.out | refine below_set ?_ GE443.out) | exact HB.out)))); have n4_ := Aside0.mk (blk_below (g := gb427) (o := .cells #[.int .i64 a0_0, .slice A0_1 l0_1.length c0_1] 24 (0, 0)) (by (with_reducible repeat (first | refine blk_drewN ?_ _ | refine blk_drew ?_ | refine blk_alloc ?_ _)); exact BK427.out) hb); have n5_ := Aside0.mk (blk_below (g := gb443) (o := .cells #[.int .i64 t439, .slice Ao42 t461.length co42] 30 (0, 0)) (by (with_reducible repeat (first | refine blk_drewN ?_ _ | refine blk_drew ?_ | refine blk_alloc ?_ _)); exact BK443.out) hb); have n6_ := Aside0.mk (below_step (by repeat (first | (with_reducible first | exact HB.out | apply below_alloc | apply pw_below_drewN | apply below_drew1 | refine below_set ?_ GE427.out | refine below_set ?_ GE443.out) | exact HB.out)) hb); clear HO_8; clear HO_11; clear HO_444001; clear BK427; clear BK443; clear HB; have HO_8 := n0_; have HO_11 := n1_; have HO_444001 := n2_; have HO471 := n3_; have BK427 := n4_; have BK443 := n5_; have HB := n6_; clear n0_ n1_ n2_ n3_ n4_ n5_ n6_; (try clear hb); (try clear hb2); (try clear hk); (try clear hi); (try clear ho0)) | ((with_reducible refine gate_callee (f := 17) rfl ?_); refine goesL_ (some 80) rfl rfl Try.func17 (by kernel_rfl) rfl #[.slice A1 l1.length c1] rfl (by (try simp only [List.map_toArray, List.map_cons, List.map_nil]); first | done | rfl | (simp only [List.length_drop, List.length_take]; rfl)) ?_; (with_reducible refine (laws_toBoolS.calls kj26 _ _ l1 t472 _ ?side1 ?side2 A66.out).mono ?_); (case side1 => repeat (first | exact (Kd.C_below HR1.out HB.out) | (with_reducible refine Kd.C_alloc ?_ _) | (with_reducible refine Kd.C_drewN ?_ _) | (with_reducible refine Kd.C_drew ?_))); (case side2 => exact HC1.out); rintro e w77 ⟨v473, rfl, ho0, hb⟩; refine ⟨_, rfl, ?_⟩; have n0_ := Aside0.mk (Kd.R_below (by (with_reducible repeat (first | apply Kd.R_alloc | apply Kd.R_drewN | apply Kd.R_drew)); exact HO_8.out) hb); have n1_ := Aside0.mk (Kd.R_below (by (with_reducible repeat (first | apply Kd.R_alloc | apply Kd.R_drewN | apply Kd.R_drew)); exact HO_11.out) hb); have n2_ := Aside0.mk (Kd.R_below (by (with_reducible repeat (first | apply Kd.R_alloc | apply Kd.R_drewN | apply Kd.R_drew)); exact HO_444001.out) hb); have n3_ := Aside0.mk (Kd.R_below (by (with_reducible repeat (first | apply Kd.R_alloc | apply Kd.R_drewN | apply Kd.R_drew)); exact HO471.out) hb); have n4_ := Aside0.mk (Kd.R_lower ho0 (below_size (by repeat (first | (with_reducible first | exact HB.out | apply below_alloc | apply pw_below_drewN | apply below_drew1 | refine below_set ?_ GE427.out | refine below_set ?_ GE443.out) | exact HB.out)))); have n5_ := Aside0.mk (blk_below (g := gb427) (o := .cells #[.int .i64 a0_0, .slice A0_1 l0_1.length c0_1] 24 (0, 0)) (by (with_reducible repeat (first | refine blk_drewN ?_ _ | refine blk_drew ?_ | refine blk_alloc ?_ _)); exact BK427.out) hb); have n6_ := Aside0.mk (blk_below (g := gb443) (o := .cells #[.int .i64 t439, .slice Ao42 t461.length co42] 30 (0, 0)) (by (with_reducible repeat (first | refine blk_drewN ?_ _ | refine blk_drew ?_ | refine blk_alloc ?_ _)); exact BK443.out) hb); have n7_ := Aside0.mk (below_step (by repeat (first | (with_reducible first | exact HB.out | apply below_alloc | apply pw_below_drewN | apply below_drew1 | refine below_set ?_ GE427.out | refine below_set ?_ GE443.out) | exact HB.out)) hb); clear HO_8; clear HO_11; clear HO_444001; clear HO471; clear BK427; clear BK443; clear HB; have HO_8 := n0_; have HO_11 := n1_; have HO_444001 := n2_; have HO471 := n3_; have HO474 := n4_; have BK427 := n5_; have BK443 := n6_; have HB := n7_; clear n0_ n1_ n2_ n3_ n4_ n5_ n6_ n7_; (try clear hb); (try clear hb2); (try clear hk); (try clear hi); (try clear ho0); obtain ⟨Ao78, co78, eo78⟩ := Kd.R_slice HO471.out; subst eo78; obtain ⟨Ao79, co79, eo79⟩ := Kd.R_slice HO474.out; subst eo79) | ((with_reducible refine gate_callee (f := 31) rfl ?_); refine goesL_ (some 82) rfl rfl Try.func31 (by kernel_rfl) rfl #[.agg #[.int .i64 t468, .slice Ao78 t469.length co78], .slice Ao79 t472.length co79, .int .i64 a2] rfl (by (try simp only [List.map_toArray, List.map_cons, List.map_nil]); first | done | rfl | (simp only [List.length_drop, List.length_take]; rfl)) ?_; (with_reducible refine (impl_Reached.calls kj26 t468 _ _ t469 _ _ t472 a2 t475 _ ?side1 ?side2 ?side3 ?side4 A67.out).mono ?_); (case side1 => repeat (first | exact (Kd.R_reads' HO471.out).2.2 | (with_reducible refine Kd.C_alloc ?_ _) | (with_reducible refine Kd.C_drewN ?_ _) | (with_reducible refine Kd.C_drew ?_))); (case side2 => exact (Kd.R_reads' HO471.out).2.1); (case side3 => repeat (first | exact (Kd.R_reads' HO474.out).2.2 | (with_reducible refine Kd.C_alloc ?_ _) | (with_reducible refine Kd.C_drewN ?_ _) | (with_reducible refine Kd.C_drew ?_))); (case side4 => exact (Kd.R_reads' HO474.out).2.1); rintro e w80 ⟨v476, rfl, ho0, hb⟩; refine ⟨_, rfl, ?_⟩; have n0_ := Aside0.mk (Kd.R_elder' (by (with_reducible repeat (first | apply Kd.R_alloc | apply Kd.R_drewN | apply Kd.R_drew)); exact HO_8.out) (Kd.R_base ho0) hb); have n1_ := Aside0.mk (Kd.R_elder' (by (with_reducible repeat (first | apply Kd.R_alloc | apply Kd.R_drewN | apply Kd.R_drew)); exact HO_11.out) (Kd.R_base ho0) hb); have n2_ := Aside0.mk (Kd.R_below (by (with_reducible repeat (first | apply Kd.R_alloc | apply Kd.R_drewN | apply Kd.R_drew)); exact HO_444001.out) hb); have n3_ := Aside0.mk (Kd.R_below (by (with_reducible repeat (first | apply Kd.R_alloc | apply Kd.R_drewN | apply Kd.R_drew)); exact HO471.out) hb); have n4_ := Aside0.mk (Kd.R_below (by (with_reducible repeat (first | apply Kd.R_alloc | apply Kd.R_drewN | apply Kd.R_drew)); exact HO474.out) hb); have n5_ := Aside0.mk (Kd.R_lower (Kd.R_new' (Kd.R_new' ho0 (Kd.R_lt (by (with_reducible repeat (first | apply Kd.R_alloc | apply Kd.R_drewN | apply Kd.R_drew)); exact HO_8.out))) (Kd.R_lt (by (with_reducible repeat (first | apply Kd.R_alloc | apply Kd.R_drewN | apply Kd.R_drew)); exact HO_11.out))) (below_size (by repeat (first | (with_reducible first | exact HB.out | apply below_alloc | apply pw_below_drewN | apply below_drew1 | refine below_set ?_ GE427.out | refine below_set ?_ GE443.out) | exact HB.out)))); have n6_ := Aside0.mk (blk_below (g := gb427) (o := .cells #[.int .i64 a0_0, .slice A0_1 l0_1.length c0_1] 24 (0, 0)) (by (with_reducible repeat (first | refine blk_drewN ?_ _ | refine blk_drew ?_ | refine blk_alloc ?_ _)); exact BK427.out) hb); have n7_ := Aside0.mk (blk_below (g := gb443) (o := .cells #[.int .i64 t439, .slice Ao42 t461.length co42] 30 (0, 0)) (by (with_reducible repeat (first | refine blk_drewN ?_ _ | refine blk_drew ?_ | refine blk_alloc ?_ _)); exact BK443.out) hb); have n8_ := Aside0.mk (below_step (by repeat (first | (with_reducible first | exact HB.out | apply below_alloc | apply pw_below_drewN | apply below_drew1 | refine below_set ?_ GE427.out | refine below_set ?_ GE443.out) | exact HB.out)) hb); clear HO_8; clear HO_11; clear HO_444001; clear HO471; clear HO474; clear BK427; clear BK443; clear HB; have HO_8 := n0_; have HO_11 := n1_; have HO_444001 := n2_; have HO471 := n3_; have HO474 := n4_; have HO477 := n5_; have BK427 := n6_; have BK443 := n7_; have HB := n8_; clear n0_ n1_ n2_ n3_ n4_ n5_ n6_ n7_ n8_; (try clear hb); (try clear hb2); (try clear hk); (try clear hi); (try clear ho0); obtain ⟨Ao81, co81, eo81⟩ := Kd.R_slice HO477.out; subst eo81) | ((with_reducible refine gate_callee (f := 25) rfl ?_); refine goesL_ (some 85) rfl rfl Try.func25 (by kernel_rfl) rfl #[.slice Ao81 t475.length co81, .slice Ao48 t436.length co48] rfl (by (try simp only [List.map_toArray, List.map_cons, List.map_nil]); first | done | rfl | (simp only [List.length_drop, List.length_take]; rfl)) ?_; (with_reducible refine (laws_eqIntS.calls kj26 _ _ t475 _ _ t436 true _ ?side1 ?side2 ?side3 ?side4 A68.out).mono ?_); (case side1 => repeat (first | exact (Kd.R_reads' HO477.out).2.2 | (with_reducible refine Kd.C_alloc ?_ _) | (with_reducible refine Kd.C_drewN ?_ _) | (with_reducible refine Kd.C_drew ?_))); (case side2 => exact (Kd.R_reads' HO477.out).2.1); (case side3 => repeat (first | exact (Kd.R_reads' HO_8.out).2.2 | (with_reducible refine Kd.C_alloc ?_ _) | (with_reducible refine Kd.C_drewN ?_ _) | (with_reducible refine Kd.C_drew ?_))); (case side4 => exact (Kd.R_reads' HO_8.out).2.1); rintro e w' ⟨rfl, ⟨nd, rfl⟩⟩; refine ⟨_, rfl, ?_⟩) | ((with_reducible refine gate_callee (f := 29) rfl ?_); refine goesL_ (some 89) rfl rfl Try.func29 (by kernel_rfl) rfl #[.slice Ao47 t466.length co47, .int .i64 1] rfl (by (try simp only [List.map_toArray, List.map_cons, List.map_nil]); first | done | (rw [show t466.length = t447.length from (Kd.R_reads' HO_11.out).1.symm] <;> rfl) | rfl | (simp only [List.length_drop, List.length_take]; rfl)) ?_; (with_reducible refine (laws_heldIntS.calls kj26 _ _ t466 1 t479 _ ?side1 ?side2 A70.out).mono ?_); (case side1 => repeat (first | exact (Kd.R_reads' HO_11.out).2.2 | (with_reducible refine Kd.C_alloc ?_ _) | (with_reducible refine Kd.C_drewN ?_ _) | (with_reducible refine Kd.C_drew ?_))); (case side2 => rw [show t466.length = t447.length from (Kd.R_reads' HO_11.out).1.symm]; exact (Kd.R_reads' HO_11.out).2.1); rintro e w' ⟨rfl, ⟨nd, rfl⟩⟩; refine ⟨_, rfl, ?_⟩))
                            go_ret
                            exact ⟨by first | rfl | (simp [errW_none, errW_some] <;> rfl) | (simp [*, errW_none, errW_some] <;> rfl), by repeat (first | (with_reducible first | exact HB.out | apply below_alloc | apply pw_below_drewN | apply below_drew1 | refine below_set ?_ GE427.out | refine below_set ?_ GE443.out) | exact HB.out)⟩
                          · rw [if_neg c72] at H
                            exact absurd H (by simp)
                      · replace c69 := Bool.eq_false_iff.mpr c69
                        subst c69
                        have H1 : (none) = some r := by rw [if_neg (show ¬ (false = true) by decide)] at H; exact H
                        clear H
                        have H := H1
                        clear H1
                        exact absurd H (by simp)
                    · rw [if_neg c64] at H
                      exact absurd H (by simp)
          · replace c24 := Bool.eq_false_iff.mpr c24
            subst c24
            have H1 : (none) = some r := by rw [if_neg (show ¬ (false = true) by decide)] at H; exact H
            clear H
            have H := H1
            clear H1
            exact absurd H (by simp)
        · replace c21 := Bool.eq_false_iff.mpr c21
          subst c21
          have H1 : (none) = some r := by rw [if_neg (show ¬ (false = true) by decide)] at H; exact H
          clear H
          have H := H1
          clear H1
          exact absurd H (by simp)
      · replace c18 := Bool.eq_false_iff.mpr c18
        subst c18
        have H1 : (none) = some r := by rw [if_neg (show ¬ (false = true) by decide)] at H; exact H
        clear H
        have H := H1
        clear H1
        exact absurd H (by simp)

end Go.Proofs.Ytknddipjabkfbaa.P

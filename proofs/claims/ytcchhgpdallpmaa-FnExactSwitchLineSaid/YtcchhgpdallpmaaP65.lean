/- Contracts of Go functions of this seat's translation, written by this repo's wip/mk.py: it calls the kit's print.py with contracts typed by hand in place of functions that it does not take. Not trusted: Lean checks it. -/
import Derived.Test.YtcchhgpdallpmaaP0
import Derived.Test.YtcchhgpdallpmaaP3
import Derived.Test.YtcchhgpdallpmaaP5
import Derived.Test.YtcchhgpdallpmaaP11
import Derived.Test.YtcchhgpdallpmaaP12
import Derived.Test.YtcchhgpdallpmaaP27
import Derived.Test.YtcchhgpdallpmaaP31
import Derived.Test.YtcchhgpdallpmaaP36
import Derived.Test.YtcchhgpdallpmaaP61
import Derived.Test.YtcchhgpdallpmaaP63
import Derived.Test.YtcchhgpdallpmaaP64
namespace Go.Proofs.Ytcchhgpdallpmaa.P
open Go.RowKit Go.Proofs.YtcchhgpdallpmaaW.PrintWords Go.Proofs.YtcchhgpdallpmaaW.PrintLast Go.Proofs.YtcchhgpdallpmaaW.PrintMore
attribute [local go_sem] max2_int min2_int max_two min_two max_three min_three max_four min_four   -- for this text's walks alone
set_option linter.unusedVariables false
set_option linter.unusedSimpArgs false

/-! ### laws_FnExactSwitchLine: function 14 -/
mutual
def laws_FnExactSwitchLine.j0 : Nat → List Bool → Int → Bool → List Bool → Bool → List Bool → List Bool → Bool → Bool → Int → List (S82) → Int → List (S70) → Option (Bool)
  | 0, _, _, _, _, _, _, _, _, _, _, _, _, _ => none
  | k + 1, x1, x2, x3, x10, x11, x13, x14, x15, x59, x585000, x585001, x602000, x602001 => if x59 = true then (none) else ((laws_toNet.f k x585000 x585001).bind fun bt610 => ((laws_eqNet.f k x602000 x602001 bt610.1 bt610.2).bind fun t614 => (if t614 = true then ((laws_toBoolS.f k x1).bind fun t615 => ((laws_eqBoolS.f k x13 t615).bind fun t618 => (if t618 = true then ((laws_markNet.f k x602000 x602001 1).bind fun bt619 => ((laws_markBoolS.f k x13 bt619.1).bind fun bt621 => (if bt621.1 < 0 then (laws_FnExactSwitchLine.j1 k x1 x2 x3 x10 x11 x14 true x585000 x585001) else ((laws_eqBoolS.f k x14 x10).bind fun t623 => (if t623 = true then (laws_FnExactSwitchLine.j1 k x1 x2 x3 x10 x11 x14 (x15 != x11) x585000 x585001) else (laws_FnExactSwitchLine.j1 k x1 x2 x3 x10 x11 x14 true x585000 x585001)))))) else (none)))) else (none))))
def laws_FnExactSwitchLine.j1 : Nat → List Bool → Int → Bool → List Bool → Bool → List Bool → Bool → Int → List (S82) → Option (Bool)
  | 0, _, _, _, _, _, _, _, _, _ => none
  | k + 1, x1, x2, x3, x10, x11, x14, x88, x585000, x585001 => if x88 = true then (none) else ((laws_markBoolS.f k x14 1).bind fun bt624 => ((laws_heldBoolS.f k bt624.2 1).bind fun t626 => (if t626 < 0 then (none) else (if t626 = bt624.1 then ((laws_toNet.f k x585000 x585001).bind fun bt627 => ((laws_toBoolS.f k x1).bind fun t631 => ((impl_SwitchLine.f k bt627.1 bt627.2 t631 x2 x3).bind fun bt634 => ((laws_eqBoolS.f k bt634.1 x10).bind fun t638 => (if t638 = true then (laws_FnExactSwitchLine.j2 k bt624.2 bt624.1 (bt634.2 != x11)) else (laws_FnExactSwitchLine.j2 k bt624.2 bt624.1 true)))))) else (none)))))
def laws_FnExactSwitchLine.j2 : Nat → List Bool → Int → Bool → Option (Bool)
  | 0, _, _, _ => none
  | k + 1, x14, x17, x118 => if x118 = true then (none) else ((laws_heldBoolS.f k x14 1).bind fun t639 => (if t639 < 0 then (none) else (if t639 = x17 then (some true) else (none))))
end
def laws_FnExactSwitchLine.f (k : Nat) (a0_0 : Int) (l0_1 : List (S82)) (l1 : List Bool) (a2 : Int) (a3 : Bool) : Option (Bool) := if (l1.length : Int) > 1048576 then (some true) else ((laws_szNet.f a0_0 l0_1 1048576).bind fun t585 => (if t585 < 0 then (some true) else ((laws_toNet.f k a0_0 l0_1).bind fun bt586 => ((laws_toBoolS.f k l1).bind fun t590 => ((spec_SwitchLine.f k bt586.1 bt586.2 t590 a2 a3).bind fun bt593 => ((laws_toNet.f k a0_0 l0_1).bind fun bt597 => ((laws_toBoolS.f k l1).bind fun t602 => ((impl_SwitchLine.f k bt597.1 bt597.2 t602 a2 a3).bind fun bt605 => ((laws_eqBoolS.f k bt605.1 bt593.1).bind fun t609 => (if t609 = true then (laws_FnExactSwitchLine.j0 k l1 a2 a3 bt593.1 bt593.2 t602 bt605.1 bt605.2 (bt605.2 != bt593.2) a0_0 l0_1 bt597.1 bt597.2) else (laws_FnExactSwitchLine.j0 k l1 a2 a3 bt593.1 bt593.2 t602 bt605.1 bt605.2 true a0_0 l0_1 bt597.1 bt597.2)))))))))))
theorem laws_FnExactSwitchLine.mono_l : ∀ k, (∀ y0 y1 y2 y3 y4 y5 y6 y7 y8 y9 y10 y11 y12, LeO (laws_FnExactSwitchLine.j0 k y0 y1 y2 y3 y4 y5 y6 y7 y8 y9 y10 y11 y12) (laws_FnExactSwitchLine.j0 (k + 1) y0 y1 y2 y3 y4 y5 y6 y7 y8 y9 y10 y11 y12)) ∧ (∀ y0 y1 y2 y3 y4 y5 y6 y7 y8, LeO (laws_FnExactSwitchLine.j1 k y0 y1 y2 y3 y4 y5 y6 y7 y8) (laws_FnExactSwitchLine.j1 (k + 1) y0 y1 y2 y3 y4 y5 y6 y7 y8)) ∧ (∀ y0 y1 y2, LeO (laws_FnExactSwitchLine.j2 k y0 y1 y2) (laws_FnExactSwitchLine.j2 (k + 1) y0 y1 y2))
  | 0 => ⟨fun _ _ _ _ _ _ _ _ _ _ _ _ _ r h => by simp [laws_FnExactSwitchLine.j0] at h, fun _ _ _ _ _ _ _ _ _ r h => by simp [laws_FnExactSwitchLine.j1] at h, fun _ _ _ r h => by simp [laws_FnExactSwitchLine.j2] at h⟩
  | k + 1 => by
    obtain ⟨ih0, ih1, ih2⟩ := laws_FnExactSwitchLine.mono_l k
    refine ⟨?_, ?_, ?_⟩
    · intro y0 y1 y2 y3 y4 y5 y6 y7 y8 y9 y10 y11 y12
      unfold laws_FnExactSwitchLine.j0
      repeat' first
      | (with_reducible exact ih0 _ _ _ _ _ _ _ _ _ _ _ _ _)
      | (with_reducible exact ih1 _ _ _ _ _ _ _ _ _)
      | (with_reducible exact ih2 _ _ _)
      | (with_reducible exact impl_SwitchLine.mono _ _ _ _ _ _)
      | (with_reducible exact laws_eqBoolS.mono _ _ _)
      | (with_reducible exact laws_eqNet.mono _ _ _ _ _)
      | (with_reducible exact laws_heldBoolS.mono _ _ _)
      | (with_reducible exact laws_markBoolS.mono _ _ _)
      | (with_reducible exact laws_markNet.mono _ _ _ _)
      | (with_reducible exact laws_toBoolS.mono _ _)
      | (with_reducible exact laws_toNet.mono _ _ _)
      | (with_reducible exact spec_SwitchLine.mono _ _ _ _ _ _)
      | (with_reducible exact LeO.refl _)
      | (with_reducible exact LeO.none _)
      | (with_reducible refine LeO.ite ?_ ?_)
      | (with_reducible refine LeO.bind ?_ (fun _ => ?_))
      | exact ih0 _ _ _ _ _ _ _ _ _ _ _ _ _
      | exact ih1 _ _ _ _ _ _ _ _ _
      | exact ih2 _ _ _
      | exact impl_SwitchLine.mono _ _ _ _ _ _
      | exact laws_eqBoolS.mono _ _ _
      | exact laws_eqNet.mono _ _ _ _ _
      | exact laws_heldBoolS.mono _ _ _
      | exact laws_markBoolS.mono _ _ _
      | exact laws_markNet.mono _ _ _ _
      | exact laws_toBoolS.mono _ _
      | exact laws_toNet.mono _ _ _
      | exact spec_SwitchLine.mono _ _ _ _ _ _
      | exact LeO.none _
      | refine LeO.ite ?_ ?_
      | refine LeO.bind ?_ (fun _ => ?_)
    · intro y0 y1 y2 y3 y4 y5 y6 y7 y8
      unfold laws_FnExactSwitchLine.j1
      repeat' first
      | (with_reducible exact ih0 _ _ _ _ _ _ _ _ _ _ _ _ _)
      | (with_reducible exact ih1 _ _ _ _ _ _ _ _ _)
      | (with_reducible exact ih2 _ _ _)
      | (with_reducible exact impl_SwitchLine.mono _ _ _ _ _ _)
      | (with_reducible exact laws_eqBoolS.mono _ _ _)
      | (with_reducible exact laws_eqNet.mono _ _ _ _ _)
      | (with_reducible exact laws_heldBoolS.mono _ _ _)
      | (with_reducible exact laws_markBoolS.mono _ _ _)
      | (with_reducible exact laws_markNet.mono _ _ _ _)
      | (with_reducible exact laws_toBoolS.mono _ _)
      | (with_reducible exact laws_toNet.mono _ _ _)
      | (with_reducible exact spec_SwitchLine.mono _ _ _ _ _ _)
      | (with_reducible exact LeO.refl _)
      | (with_reducible exact LeO.none _)
      | (with_reducible refine LeO.ite ?_ ?_)
      | (with_reducible refine LeO.bind ?_ (fun _ => ?_))
      | exact ih0 _ _ _ _ _ _ _ _ _ _ _ _ _
      | exact ih1 _ _ _ _ _ _ _ _ _
      | exact ih2 _ _ _
      | exact impl_SwitchLine.mono _ _ _ _ _ _
      | exact laws_eqBoolS.mono _ _ _
      | exact laws_eqNet.mono _ _ _ _ _
      | exact laws_heldBoolS.mono _ _ _
      | exact laws_markBoolS.mono _ _ _
      | exact laws_markNet.mono _ _ _ _
      | exact laws_toBoolS.mono _ _
      | exact laws_toNet.mono _ _ _
      | exact spec_SwitchLine.mono _ _ _ _ _ _
      | exact LeO.none _
      | refine LeO.ite ?_ ?_
      | refine LeO.bind ?_ (fun _ => ?_)
    · intro y0 y1 y2
      unfold laws_FnExactSwitchLine.j2
      repeat' first
      | (with_reducible exact ih0 _ _ _ _ _ _ _ _ _ _ _ _ _)
      | (with_reducible exact ih1 _ _ _ _ _ _ _ _ _)
      | (with_reducible exact ih2 _ _ _)
      | (with_reducible exact impl_SwitchLine.mono _ _ _ _ _ _)
      | (with_reducible exact laws_eqBoolS.mono _ _ _)
      | (with_reducible exact laws_eqNet.mono _ _ _ _ _)
      | (with_reducible exact laws_heldBoolS.mono _ _ _)
      | (with_reducible exact laws_markBoolS.mono _ _ _)
      | (with_reducible exact laws_markNet.mono _ _ _ _)
      | (with_reducible exact laws_toBoolS.mono _ _)
      | (with_reducible exact laws_toNet.mono _ _ _)
      | (with_reducible exact spec_SwitchLine.mono _ _ _ _ _ _)
      | (with_reducible exact LeO.refl _)
      | (with_reducible exact LeO.none _)
      | (with_reducible refine LeO.ite ?_ ?_)
      | (with_reducible refine LeO.bind ?_ (fun _ => ?_))
      | exact ih0 _ _ _ _ _ _ _ _ _ _ _ _ _
      | exact ih1 _ _ _ _ _ _ _ _ _
      | exact ih2 _ _ _
      | exact impl_SwitchLine.mono _ _ _ _ _ _
      | exact laws_eqBoolS.mono _ _ _
      | exact laws_eqNet.mono _ _ _ _ _
      | exact laws_heldBoolS.mono _ _ _
      | exact laws_markBoolS.mono _ _ _
      | exact laws_markNet.mono _ _ _ _
      | exact laws_toBoolS.mono _ _
      | exact laws_toNet.mono _ _ _
      | exact spec_SwitchLine.mono _ _ _ _ _ _
      | exact LeO.none _
      | refine LeO.ite ?_ ?_
      | refine LeO.bind ?_ (fun _ => ?_)
theorem laws_FnExactSwitchLine.mono : ∀ a0 a1 a2 a3 a4 k, LeO (laws_FnExactSwitchLine.f k a0 a1 a2 a3 a4) (laws_FnExactSwitchLine.f (k + 1) a0 a1 a2 a3 a4) := by
  intro a0 a1 a2 a3 a4 k
  obtain ⟨ih0, ih1, ih2⟩ := laws_FnExactSwitchLine.mono_l k
  unfold laws_FnExactSwitchLine.f
  repeat' first
      | (with_reducible exact ih0 _ _ _ _ _ _ _ _ _ _ _ _ _)
      | (with_reducible exact ih1 _ _ _ _ _ _ _ _ _)
      | (with_reducible exact ih2 _ _ _)
      | (with_reducible exact impl_SwitchLine.mono _ _ _ _ _ _)
      | (with_reducible exact laws_eqBoolS.mono _ _ _)
      | (with_reducible exact laws_eqNet.mono _ _ _ _ _)
      | (with_reducible exact laws_heldBoolS.mono _ _ _)
      | (with_reducible exact laws_markBoolS.mono _ _ _)
      | (with_reducible exact laws_markNet.mono _ _ _ _)
      | (with_reducible exact laws_toBoolS.mono _ _)
      | (with_reducible exact laws_toNet.mono _ _ _)
      | (with_reducible exact spec_SwitchLine.mono _ _ _ _ _ _)
      | (with_reducible exact LeO.refl _)
      | (with_reducible exact LeO.none _)
      | (with_reducible refine LeO.ite ?_ ?_)
      | (with_reducible refine LeO.bind ?_ (fun _ => ?_))
      | exact ih0 _ _ _ _ _ _ _ _ _ _ _ _ _
      | exact ih1 _ _ _ _ _ _ _ _ _
      | exact ih2 _ _ _
      | exact impl_SwitchLine.mono _ _ _ _ _ _
      | exact laws_eqBoolS.mono _ _ _
      | exact laws_eqNet.mono _ _ _ _ _
      | exact laws_heldBoolS.mono _ _ _
      | exact laws_markBoolS.mono _ _ _
      | exact laws_markNet.mono _ _ _ _
      | exact laws_toBoolS.mono _ _
      | exact laws_toNet.mono _ _ _
      | exact spec_SwitchLine.mono _ _ _ _ _ _
      | exact LeO.none _
      | refine LeO.ite ?_ ?_
      | refine LeO.bind ?_ (fun _ => ?_)
set_option maxHeartbeats 8000000 in
set_option maxRecDepth 100000 in
theorem laws_FnExactSwitchLine.calls (k : Nat) (a0_0 : Int) (A0_1 : Option Addr) (c0_1 : Nat) (l0_1 : List (S82)) (A1 : Option Addr) (c1 : Nat) (l1 : List Bool) (a2 : Int) (a3 : Bool) (r : Bool) (w : World) (hr0_1 : Kd.C k82 w A0_1 l0_1.length l0_1) (hc0_1 : l0_1.length ≤ c0_1) (hr1 : Kd.C Kd.bool w A1 l1.length l1) (hc1 : l1.length ≤ c1) (h : laws_FnExactSwitchLine.f k a0_0 l0_1 l1 a2 a3 = some r) :
    Calls Try.prog 14 #[.agg #[.int .i64 a0_0, .slice A0_1 l0_1.length c0_1], .slice A1 l1.length c1, .int .i64 a2, .bool a3] w fun e w' => e = .returned (.bool r) ∧ Below w.heap.size w w' := by
  have hu41 := Try.underlying41
  have hu46 := Try.underlying46
  have HR0_1 := Aside0.mk hr0_1
  have HC0_1 := Aside0.mk hc0_1
  clear hr0_1 hc0_1
  have HR1 := Aside0.mk hr1
  have HC1 := Aside0.mk hc1
  clear hr1 hc1
  have HB := Aside0.mk (Below.refl w.heap.size w)
  have H : (if (l1.length : Int) > 1048576 then (some true) else ((laws_szNet.f a0_0 l0_1 1048576).bind fun t585 => (if t585 < 0 then (some true) else ((laws_toNet.f k a0_0 l0_1).bind fun bt586 => ((laws_toBoolS.f k l1).bind fun t590 => ((spec_SwitchLine.f k bt586.1 bt586.2 t590 a2 a3).bind fun bt593 => ((laws_toNet.f k a0_0 l0_1).bind fun bt597 => ((laws_toBoolS.f k l1).bind fun t602 => ((impl_SwitchLine.f k bt597.1 bt597.2 t602 a2 a3).bind fun bt605 => ((laws_eqBoolS.f k bt605.1 bt593.1).bind fun t609 => (if t609 = true then (laws_FnExactSwitchLine.j0 k l1 a2 a3 bt593.1 bt593.2 t602 bt605.1 bt605.2 (bt605.2 != bt593.2) a0_0 l0_1 bt597.1 bt597.2) else (laws_FnExactSwitchLine.j0 k l1 a2 a3 bt593.1 bt593.2 t602 bt605.1 bt605.2 true a0_0 l0_1 bt597.1 bt597.2)))))))))))) = some r := h
  clear h
  by_cases c5 : (l1.length : Int) > 1048576
  · rw [if_pos c5] at H
    have c5b0 : decide (1048576 < (l1.length : Int)) = true := decide_eq_true c5
    have c5b1 : decide (1048576 < l1.length) = true := decide_eq_true (by omega)
    clear c5
    obtain rfl := Option.some.inj H
    go_enter Try.func14, Try.ntmps14
    go_wp2_with (first | ((with_reducible refine gate_dst (N := 4) rfl ?_); refine box_event ?hg (N := 4) ?hd (cs := #[.int .i64 a0_0, .slice A0_1 l0_1.length c0_1]) (t := 41) ?hr ?_; (case hd => rfl); (case hg => rfl); (case hr => first | (go_simp; done) | (go_simp; rfl)); intro gb584 hg w6 hbox hb; have n0_ := Aside0.mk (below_step (by repeat (first | (with_reducible first | exact HB.out | apply below_alloc | apply pw_below_drewN | apply below_drew1) | exact HB.out)) hb); have n1_ := Aside0.mk (hbox); have n2_ := Aside0.mk ((by rw [hg]; exact (below_size (by repeat (first | (with_reducible first | exact HB.out | apply below_alloc | apply pw_below_drewN | apply below_drew1) | exact HB.out))) : w.heap.size ≤ gb584)); have n3_ := Aside0.mk ((by rw [hg]; exact (below_size (by repeat (first | (with_reducible first | exact HB.out | apply below_alloc | apply pw_below_drewN | apply below_drew1) | exact HB.out))) : w.heap.size ≤ gb584)); clear HB; have HB := n0_; have BK584 := n1_; have GW584 := n2_; have GE584 := n3_; clear n0_ n1_ n2_ n3_; clear hb hbox hg))
    go_ret
    exact ⟨by first | rfl | (simp [errW_none, errW_some] <;> rfl) | (simp [*, errW_none, errW_some] <;> rfl), by repeat (first | (with_reducible first | exact HB.out | apply below_alloc | apply pw_below_drewN | apply below_drew1 | refine below_set ?_ GE584.out) | exact HB.out)⟩
  · rw [if_neg c5] at H
    have c5b0 : decide (1048576 < (l1.length : Int)) = false := decide_eq_false c5
    have c5b1 : decide (1048576 < l1.length) = false := decide_eq_false (by omega)
    clear c5
    replace H := Option.bind_eq_some_iff.mp H
    obtain ⟨t585, A70, H⟩ := H
    replace H : (if t585 < 0 then (some true) else ((laws_toNet.f k a0_0 l0_1).bind fun bt586 => ((laws_toBoolS.f k l1).bind fun t590 => ((spec_SwitchLine.f k bt586.1 bt586.2 t590 a2 a3).bind fun bt593 => ((laws_toNet.f k a0_0 l0_1).bind fun bt597 => ((laws_toBoolS.f k l1).bind fun t602 => ((impl_SwitchLine.f k bt597.1 bt597.2 t602 a2 a3).bind fun bt605 => ((laws_eqBoolS.f k bt605.1 bt593.1).bind fun t609 => (if t609 = true then (laws_FnExactSwitchLine.j0 k l1 a2 a3 bt593.1 bt593.2 t602 bt605.1 bt605.2 (bt605.2 != bt593.2) a0_0 l0_1 bt597.1 bt597.2) else (laws_FnExactSwitchLine.j0 k l1 a2 a3 bt593.1 bt593.2 t602 bt605.1 bt605.2 true a0_0 l0_1 bt597.1 bt597.2)))))))))) = some r := H
    have A7 := Aside0.mk A70
    clear A70
    by_cases c8 : t585 < 0
    · rw [if_pos c8] at H
      have c8b0 : decide (t585 < 0) = true := decide_eq_true c8
      clear c8
      obtain rfl := Option.some.inj H
      go_enter Try.func14, Try.ntmps14
      go_wp2_with (first | ((with_reducible refine gate_dst (N := 4) rfl ?_); refine box_event ?hg (N := 4) ?hd (cs := #[.int .i64 a0_0, .slice A0_1 l0_1.length c0_1]) (t := 41) ?hr ?_; (case hd => rfl); (case hg => rfl); (case hr => first | (go_simp; done) | (go_simp; rfl)); intro gb584 hg w9 hbox hb; have n0_ := Aside0.mk (below_step (by repeat (first | (with_reducible first | exact HB.out | apply below_alloc | apply pw_below_drewN | apply below_drew1) | exact HB.out)) hb); have n1_ := Aside0.mk (hbox); have n2_ := Aside0.mk ((by rw [hg]; exact (below_size (by repeat (first | (with_reducible first | exact HB.out | apply below_alloc | apply pw_below_drewN | apply below_drew1) | exact HB.out))) : w.heap.size ≤ gb584)); have n3_ := Aside0.mk ((by rw [hg]; exact (below_size (by repeat (first | (with_reducible first | exact HB.out | apply below_alloc | apply pw_below_drewN | apply below_drew1) | exact HB.out))) : w.heap.size ≤ gb584)); clear HB; have HB := n0_; have BK584 := n1_; have GW584 := n2_; have GE584 := n3_; clear n0_ n1_ n2_ n3_; clear hb hbox hg; have hcz10_0 : w9.cell? ⟨gb584, 0, none⟩ = some (.int .i64 a0_0) := (blk_cell BK584.out 0).trans rfl; have hcz10_1 : w9.cell? ⟨gb584, 1, none⟩ = some (.slice A0_1 l0_1.length c0_1) := (blk_cell BK584.out 1).trans rfl; have hfz10_0 := blk_frozen BK584.out 0; have hfz10_1 := blk_frozen BK584.out 1) | ((with_reducible refine gate_callee (f := 31) rfl ?_); refine goesL_ (some 26) rfl rfl Try.func31 (by kernel_rfl) rfl #[.agg #[.int .i64 a0_0, .slice A0_1 l0_1.length c0_1], .int .i64 1048576] rfl (by (try simp only [List.map_toArray, List.map_cons, List.map_nil]); first | done | rfl | (simp only [List.length_drop, List.length_take]; rfl)) ?_; (with_reducible refine (laws_szNet.calls a0_0 _ _ l0_1 1048576 t585 _ ?side1 ?side2 A7.out).mono ?_); (case side1 => repeat (first | exact (Kd.C_below HR0_1.out HB.out) | (with_reducible refine Kd.C_alloc ?_ _) | (with_reducible refine Kd.C_drewN ?_ _) | (with_reducible refine Kd.C_drew ?_))); (case side2 => exact HC0_1.out); rintro e w11 ⟨rfl, hb⟩; refine ⟨_, rfl, ?_⟩; have n0_ := Aside0.mk (blk_below (g := gb584) (o := .cells #[.int .i64 a0_0, .slice A0_1 l0_1.length c0_1] 41 (0, 0)) (by (with_reducible repeat (first | refine blk_drewN ?_ _ | refine blk_drew ?_ | refine blk_alloc ?_ _)); exact BK584.out) hb); have n1_ := Aside0.mk (below_step (by repeat (first | (with_reducible first | exact HB.out | apply below_alloc | apply pw_below_drewN | apply below_drew1 | refine below_set ?_ GE584.out) | exact HB.out)) hb); clear BK584; clear HB; have BK584 := n0_; have HB := n1_; clear n0_ n1_; (try clear hb); (try clear hb2); (try clear hk); (try clear hi)))
      go_ret
      exact ⟨by first | rfl | (simp [errW_none, errW_some] <;> rfl) | (simp [*, errW_none, errW_some] <;> rfl), by repeat (first | (with_reducible first | exact HB.out | apply below_alloc | apply pw_below_drewN | apply below_drew1 | refine below_set ?_ GE584.out) | exact HB.out)⟩
    · rw [if_neg c8] at H
      have c8b0 : decide (t585 < 0) = false := decide_eq_false c8
      clear c8
      replace H := Option.bind_eq_some_iff.mp H
      obtain ⟨⟨t586, t587⟩, A120, H⟩ := H
      replace H : ((laws_toBoolS.f k l1).bind fun t590 => ((spec_SwitchLine.f k t586 t587 t590 a2 a3).bind fun bt593 => ((laws_toNet.f k a0_0 l0_1).bind fun bt597 => ((laws_toBoolS.f k l1).bind fun t602 => ((impl_SwitchLine.f k bt597.1 bt597.2 t602 a2 a3).bind fun bt605 => ((laws_eqBoolS.f k bt605.1 bt593.1).bind fun t609 => (if t609 = true then (laws_FnExactSwitchLine.j0 k l1 a2 a3 bt593.1 bt593.2 t602 bt605.1 bt605.2 (bt605.2 != bt593.2) a0_0 l0_1 bt597.1 bt597.2) else (laws_FnExactSwitchLine.j0 k l1 a2 a3 bt593.1 bt593.2 t602 bt605.1 bt605.2 true a0_0 l0_1 bt597.1 bt597.2)))))))) = some r := H
      have A12 := Aside0.mk A120
      clear A120
      replace H := Option.bind_eq_some_iff.mp H
      obtain ⟨t590, A130, H⟩ := H
      replace H : ((spec_SwitchLine.f k t586 t587 t590 a2 a3).bind fun bt593 => ((laws_toNet.f k a0_0 l0_1).bind fun bt597 => ((laws_toBoolS.f k l1).bind fun t602 => ((impl_SwitchLine.f k bt597.1 bt597.2 t602 a2 a3).bind fun bt605 => ((laws_eqBoolS.f k bt605.1 bt593.1).bind fun t609 => (if t609 = true then (laws_FnExactSwitchLine.j0 k l1 a2 a3 bt593.1 bt593.2 t602 bt605.1 bt605.2 (bt605.2 != bt593.2) a0_0 l0_1 bt597.1 bt597.2) else (laws_FnExactSwitchLine.j0 k l1 a2 a3 bt593.1 bt593.2 t602 bt605.1 bt605.2 true a0_0 l0_1 bt597.1 bt597.2))))))) = some r := H
      have A13 := Aside0.mk A130
      clear A130
      replace H := Option.bind_eq_some_iff.mp H
      obtain ⟨⟨t593, t596⟩, A140, H⟩ := H
      replace H : ((laws_toNet.f k a0_0 l0_1).bind fun bt597 => ((laws_toBoolS.f k l1).bind fun t602 => ((impl_SwitchLine.f k bt597.1 bt597.2 t602 a2 a3).bind fun bt605 => ((laws_eqBoolS.f k bt605.1 t593).bind fun t609 => (if t609 = true then (laws_FnExactSwitchLine.j0 k l1 a2 a3 t593 t596 t602 bt605.1 bt605.2 (bt605.2 != t596) a0_0 l0_1 bt597.1 bt597.2) else (laws_FnExactSwitchLine.j0 k l1 a2 a3 t593 t596 t602 bt605.1 bt605.2 true a0_0 l0_1 bt597.1 bt597.2)))))) = some r := H
      have A14 := Aside0.mk A140
      clear A140
      replace H := Option.bind_eq_some_iff.mp H
      obtain ⟨⟨t597, t598⟩, A150, H⟩ := H
      replace H : ((laws_toBoolS.f k l1).bind fun t602 => ((impl_SwitchLine.f k t597 t598 t602 a2 a3).bind fun bt605 => ((laws_eqBoolS.f k bt605.1 t593).bind fun t609 => (if t609 = true then (laws_FnExactSwitchLine.j0 k l1 a2 a3 t593 t596 t602 bt605.1 bt605.2 (bt605.2 != t596) a0_0 l0_1 t597 t598) else (laws_FnExactSwitchLine.j0 k l1 a2 a3 t593 t596 t602 bt605.1 bt605.2 true a0_0 l0_1 t597 t598))))) = some r := H
      have A15 := Aside0.mk A150
      clear A150
      replace H := Option.bind_eq_some_iff.mp H
      obtain ⟨t602, A160, H⟩ := H
      replace H : ((impl_SwitchLine.f k t597 t598 t602 a2 a3).bind fun bt605 => ((laws_eqBoolS.f k bt605.1 t593).bind fun t609 => (if t609 = true then (laws_FnExactSwitchLine.j0 k l1 a2 a3 t593 t596 t602 bt605.1 bt605.2 (bt605.2 != t596) a0_0 l0_1 t597 t598) else (laws_FnExactSwitchLine.j0 k l1 a2 a3 t593 t596 t602 bt605.1 bt605.2 true a0_0 l0_1 t597 t598)))) = some r := H
      have A16 := Aside0.mk A160
      clear A160
      replace H := Option.bind_eq_some_iff.mp H
      obtain ⟨⟨t605, t608⟩, A170, H⟩ := H
      replace H : ((laws_eqBoolS.f k t605 t593).bind fun t609 => (if t609 = true then (laws_FnExactSwitchLine.j0 k l1 a2 a3 t593 t596 t602 t605 t608 (t608 != t596) a0_0 l0_1 t597 t598) else (laws_FnExactSwitchLine.j0 k l1 a2 a3 t593 t596 t602 t605 t608 true a0_0 l0_1 t597 t598))) = some r := H
      have A17 := Aside0.mk A170
      clear A170
      have HC18 := Aside0.mk H
      clear H
      go_enter Try.func14, Try.ntmps14
      go_upto_region 11 with (first | ((with_reducible refine gate_dst (N := 4) rfl ?_); refine box_event ?hg (N := 4) ?hd (cs := #[.int .i64 a0_0, .slice A0_1 l0_1.length c0_1]) (t := 41) ?hr ?_; (case hd => rfl); (case hg => rfl); (case hr => first | (go_simp; done) | (go_simp; rfl)); intro gb584 hg w19 hbox hb; have n0_ := Aside0.mk (below_step (by repeat (first | (with_reducible first | exact HB.out | apply below_alloc | apply pw_below_drewN | apply below_drew1) | exact HB.out)) hb); have n1_ := Aside0.mk (hbox); have n2_ := Aside0.mk ((by rw [hg]; exact (below_size (by repeat (first | (with_reducible first | exact HB.out | apply below_alloc | apply pw_below_drewN | apply below_drew1) | exact HB.out))) : w.heap.size ≤ gb584)); have n3_ := Aside0.mk ((by rw [hg]; exact (below_size (by repeat (first | (with_reducible first | exact HB.out | apply below_alloc | apply pw_below_drewN | apply below_drew1) | exact HB.out))) : w.heap.size ≤ gb584)); clear HB; have HB := n0_; have BK584 := n1_; have GW584 := n2_; have GE584 := n3_; clear n0_ n1_ n2_ n3_; clear hb hbox hg; have hcz20_0 : w19.cell? ⟨gb584, 0, none⟩ = some (.int .i64 a0_0) := (blk_cell BK584.out 0).trans rfl; have hcz20_1 : w19.cell? ⟨gb584, 1, none⟩ = some (.slice A0_1 l0_1.length c0_1) := (blk_cell BK584.out 1).trans rfl; have hfz20_0 := blk_frozen BK584.out 0; have hfz20_1 := blk_frozen BK584.out 1) | ((with_reducible refine gate_callee (f := 31) rfl ?_); refine goesL_ (some 26) rfl rfl Try.func31 (by kernel_rfl) rfl #[.agg #[.int .i64 a0_0, .slice A0_1 l0_1.length c0_1], .int .i64 1048576] rfl (by (try simp only [List.map_toArray, List.map_cons, List.map_nil]); first | done | rfl | (simp only [List.length_drop, List.length_take]; rfl)) ?_; (with_reducible refine (laws_szNet.calls a0_0 _ _ l0_1 1048576 t585 _ ?side1 ?side2 A7.out).mono ?_); (case side1 => repeat (first | exact (Kd.C_below HR0_1.out HB.out) | (with_reducible refine Kd.C_alloc ?_ _) | (with_reducible refine Kd.C_drewN ?_ _) | (with_reducible refine Kd.C_drew ?_))); (case side2 => exact HC0_1.out); rintro e w21 ⟨rfl, hb⟩; refine ⟨_, rfl, ?_⟩; have n0_ := Aside0.mk (blk_below (g := gb584) (o := .cells #[.int .i64 a0_0, .slice A0_1 l0_1.length c0_1] 41 (0, 0)) (by (with_reducible repeat (first | refine blk_drewN ?_ _ | refine blk_drew ?_ | refine blk_alloc ?_ _)); exact BK584.out) hb); have n1_ := Aside0.mk (below_step (by repeat (first | (with_reducible first | exact HB.out | apply below_alloc | apply pw_below_drewN | apply below_drew1 | refine below_set ?_ GE584.out) | exact HB.out)) hb); clear BK584; clear HB; have BK584 := n0_; have HB := n1_; clear n0_ n1_; (try clear hb); (try clear hb2); (try clear hk); (try clear hi); have hcz22_0 : w21.cell? ⟨gb584, 0, none⟩ = some (.int .i64 a0_0) := (blk_cell BK584.out 0).trans rfl; have hcz22_1 : w21.cell? ⟨gb584, 1, none⟩ = some (.slice A0_1 l0_1.length c0_1) := (blk_cell BK584.out 1).trans rfl; have hfz22_0 := blk_frozen BK584.out 0; have hfz22_1 := blk_frozen BK584.out 1) | ((with_reducible refine gate_callee (f := 33) rfl ?_); refine goesL_ (some 31) rfl rfl Try.func33 (by kernel_rfl) rfl #[.agg #[.int .i64 a0_0, .slice A0_1 l0_1.length c0_1]] rfl (by (try simp only [List.map_toArray, List.map_cons, List.map_nil]); first | done | rfl | (simp only [List.length_drop, List.length_take]; rfl)) ?_; (with_reducible refine (laws_toNet.calls k a0_0 _ _ l0_1 t586 t587 _ ?side1 ?side2 A12.out).mono ?_); (case side1 => repeat (first | exact (Kd.C_below HR0_1.out HB.out) | (with_reducible refine Kd.C_alloc ?_ _) | (with_reducible refine Kd.C_drewN ?_ _) | (with_reducible refine Kd.C_drew ?_))); (case side2 => exact HC0_1.out); rintro e w23 ⟨v588, rfl, ho0, hb⟩; refine ⟨_, rfl, ?_⟩; have n0_ := Aside0.mk (Kd.R_lower ho0 (below_size (by repeat (first | (with_reducible first | exact HB.out | apply below_alloc | apply pw_below_drewN | apply below_drew1 | refine below_set ?_ GE584.out) | exact HB.out)))); have n1_ := Aside0.mk (blk_below (g := gb584) (o := .cells #[.int .i64 a0_0, .slice A0_1 l0_1.length c0_1] 41 (0, 0)) (by (with_reducible repeat (first | refine blk_drewN ?_ _ | refine blk_drew ?_ | refine blk_alloc ?_ _)); exact BK584.out) hb); have n2_ := Aside0.mk (below_step (by repeat (first | (with_reducible first | exact HB.out | apply below_alloc | apply pw_below_drewN | apply below_drew1 | refine below_set ?_ GE584.out) | exact HB.out)) hb); clear BK584; clear HB; have HO589 := n0_; have BK584 := n1_; have HB := n2_; clear n0_ n1_ n2_; (try clear hb); (try clear hb2); (try clear hk); (try clear hi); (try clear ho0)) | ((with_reducible refine gate_callee (f := 16) rfl ?_); refine goesL_ (some 33) rfl rfl Try.func16 (by kernel_rfl) rfl #[.slice A1 l1.length c1] rfl (by (try simp only [List.map_toArray, List.map_cons, List.map_nil]); first | done | rfl | (simp only [List.length_drop, List.length_take]; rfl)) ?_; (with_reducible refine (laws_toBoolS.calls k _ _ l1 t590 _ ?side1 ?side2 A13.out).mono ?_); (case side1 => repeat (first | exact (Kd.C_below HR1.out HB.out) | (with_reducible refine Kd.C_alloc ?_ _) | (with_reducible refine Kd.C_drewN ?_ _) | (with_reducible refine Kd.C_drew ?_))); (case side2 => exact HC1.out); rintro e w24 ⟨v591, rfl, ho0, hb⟩; refine ⟨_, rfl, ?_⟩; have n0_ := Aside0.mk (Kd.R_below (by (with_reducible repeat (first | apply Kd.R_alloc | apply Kd.R_drewN | apply Kd.R_drew)); exact HO589.out) hb); have n1_ := Aside0.mk (Kd.R_lower ho0 (below_size (by repeat (first | (with_reducible first | exact HB.out | apply below_alloc | apply pw_below_drewN | apply below_drew1 | refine below_set ?_ GE584.out) | exact HB.out)))); have n2_ := Aside0.mk (blk_below (g := gb584) (o := .cells #[.int .i64 a0_0, .slice A0_1 l0_1.length c0_1] 41 (0, 0)) (by (with_reducible repeat (first | refine blk_drewN ?_ _ | refine blk_drew ?_ | refine blk_alloc ?_ _)); exact BK584.out) hb); have n3_ := Aside0.mk (below_step (by repeat (first | (with_reducible first | exact HB.out | apply below_alloc | apply pw_below_drewN | apply below_drew1 | refine below_set ?_ GE584.out) | exact HB.out)) hb); clear HO589; clear BK584; clear HB; have HO589 := n0_; have HO592 := n1_; have BK584 := n2_; have HB := n3_; clear n0_ n1_ n2_ n3_; (try clear hb); (try clear hb2); (try clear hk); (try clear hi); (try clear ho0); obtain ⟨Ao25, co25, eo25⟩ := Kd.R_slice HO589.out; subst eo25; obtain ⟨Ao26, co26, eo26⟩ := Kd.R_slice HO592.out; subst eo26) | ((with_reducible refine gate_callee (f := 50) rfl ?_); refine goesL_ (some 36) rfl rfl Try.func50 (by kernel_rfl) rfl #[.agg #[.int .i64 t586, .slice Ao25 t587.length co25], .slice Ao26 t590.length co26, .int .i64 a2, .bool a3] rfl (by (try simp only [List.map_toArray, List.map_cons, List.map_nil]); first | done | rfl | (simp only [List.length_drop, List.length_take]; rfl)) ?_; (with_reducible refine (spec_SwitchLine.calls k t586 _ _ t587 _ _ t590 a2 a3 t593 t596 _ ?side1 ?side2 ?side3 ?side4 A14.out).mono ?_); (case side1 => repeat (first | exact (Kd.R_reads' HO589.out).2.2 | (with_reducible refine Kd.C_alloc ?_ _) | (with_reducible refine Kd.C_drewN ?_ _) | (with_reducible refine Kd.C_drew ?_))); (case side2 => exact (Kd.R_reads' HO589.out).2.1); (case side3 => repeat (first | exact (Kd.R_reads' HO592.out).2.2 | (with_reducible refine Kd.C_alloc ?_ _) | (with_reducible refine Kd.C_drewN ?_ _) | (with_reducible refine Kd.C_drew ?_))); (case side4 => exact (Kd.R_reads' HO592.out).2.1); rintro e w27 ⟨v594, rfl, ho0, hb⟩; refine ⟨_, rfl, ?_⟩; have n0_ := Aside0.mk (Kd.R_below (by (with_reducible repeat (first | apply Kd.R_alloc | apply Kd.R_drewN | apply Kd.R_drew)); exact HO589.out) hb); have n1_ := Aside0.mk (Kd.R_elder' (by (with_reducible repeat (first | apply Kd.R_alloc | apply Kd.R_drewN | apply Kd.R_drew)); exact HO592.out) (Kd.R_base ho0) hb); have n2_ := Aside0.mk (Kd.R_lower (Kd.R_new' ho0 (Kd.R_lt (by (with_reducible repeat (first | apply Kd.R_alloc | apply Kd.R_drewN | apply Kd.R_drew)); exact HO592.out))) (below_size (by repeat (first | (with_reducible first | exact HB.out | apply below_alloc | apply pw_below_drewN | apply below_drew1 | refine below_set ?_ GE584.out) | exact HB.out)))); have n3_ := Aside0.mk (blk_below (g := gb584) (o := .cells #[.int .i64 a0_0, .slice A0_1 l0_1.length c0_1] 41 (0, 0)) (by (with_reducible repeat (first | refine blk_drewN ?_ _ | refine blk_drew ?_ | refine blk_alloc ?_ _)); exact BK584.out) hb); have n4_ := Aside0.mk (below_step (by repeat (first | (with_reducible first | exact HB.out | apply below_alloc | apply pw_below_drewN | apply below_drew1 | refine below_set ?_ GE584.out) | exact HB.out)) hb); clear HO589; clear HO592; clear BK584; clear HB; have HO589 := n0_; have HO592 := n1_; have HO595 := n2_; have BK584 := n3_; have HB := n4_; clear n0_ n1_ n2_ n3_ n4_; (try clear hb); (try clear hb2); (try clear hk); (try clear hi); (try clear ho0); have hcz28_0 : w27.cell? ⟨gb584, 0, none⟩ = some (.int .i64 a0_0) := (blk_cell BK584.out 0).trans rfl; have hcz28_1 : w27.cell? ⟨gb584, 1, none⟩ = some (.slice A0_1 l0_1.length c0_1) := (blk_cell BK584.out 1).trans rfl; have hfz28_0 := blk_frozen BK584.out 0; have hfz28_1 := blk_frozen BK584.out 1) | ((with_reducible refine gate_callee (f := 33) rfl ?_); refine goesL_ (some 40) rfl rfl Try.func33 (by kernel_rfl) rfl #[.agg #[.int .i64 a0_0, .slice A0_1 l0_1.length c0_1]] rfl (by (try simp only [List.map_toArray, List.map_cons, List.map_nil]); first | done | rfl | (simp only [List.length_drop, List.length_take]; rfl)) ?_; (with_reducible refine (laws_toNet.calls k a0_0 _ _ l0_1 t597 t598 _ ?side1 ?side2 A15.out).mono ?_); (case side1 => repeat (first | exact (Kd.C_below HR0_1.out HB.out) | (with_reducible refine Kd.C_alloc ?_ _) | (with_reducible refine Kd.C_drewN ?_ _) | (with_reducible refine Kd.C_drew ?_))); (case side2 => exact HC0_1.out); rintro e w29 ⟨v599, rfl, ho0, hb⟩; refine ⟨_, rfl, ?_⟩; have n0_ := Aside0.mk (Kd.R_elder' (by (with_reducible repeat (first | apply Kd.R_alloc | apply Kd.R_drewN | apply Kd.R_drew)); exact HO589.out) (Kd.R_base ho0) hb); have n1_ := Aside0.mk (Kd.R_below (by (with_reducible repeat (first | apply Kd.R_alloc | apply Kd.R_drewN | apply Kd.R_drew)); exact HO592.out) hb); have n2_ := Aside0.mk (Kd.R_below (by (with_reducible repeat (first | apply Kd.R_alloc | apply Kd.R_drewN | apply Kd.R_drew)); exact HO595.out) hb); have n3_ := Aside0.mk (Kd.R_lower (Kd.R_new' ho0 (Kd.R_lt (by (with_reducible repeat (first | apply Kd.R_alloc | apply Kd.R_drewN | apply Kd.R_drew)); exact HO589.out))) (below_size (by repeat (first | (with_reducible first | exact HB.out | apply below_alloc | apply pw_below_drewN | apply below_drew1 | refine below_set ?_ GE584.out) | exact HB.out)))); have n4_ := Aside0.mk (blk_below (g := gb584) (o := .cells #[.int .i64 a0_0, .slice A0_1 l0_1.length c0_1] 41 (0, 0)) (by (with_reducible repeat (first | refine blk_drewN ?_ _ | refine blk_drew ?_ | refine blk_alloc ?_ _)); exact BK584.out) hb); have n5_ := Aside0.mk (below_step (by repeat (first | (with_reducible first | exact HB.out | apply below_alloc | apply pw_below_drewN | apply below_drew1 | refine below_set ?_ GE584.out) | exact HB.out)) hb); clear HO589; clear HO592; clear HO595; clear BK584; clear HB; have HO589 := n0_; have HO592 := n1_; have HO595 := n2_; have HO600 := n3_; have BK584 := n4_; have HB := n5_; clear n0_ n1_ n2_ n3_ n4_ n5_; (try clear hb); (try clear hb2); (try clear hk); (try clear hi); (try clear ho0)) | ((with_reducible refine gate_dst (N := 12) rfl ?_); refine box_event ?hg (N := 12) ?hd (cs := #[.int .i64 0, .slice none 0 0]) (t := 46) ?hr ?_; (case hd => rfl); (case hg => rfl); (case hr => first | (go_simp; done) | (go_simp; rfl)); intro gb601 hg w30 hbox hb; have n0_ := Aside0.mk (Kd.R_below (by (with_reducible repeat (first | apply Kd.R_alloc | apply Kd.R_drewN | apply Kd.R_drew)); exact HO589.out) hb); have n1_ := Aside0.mk (Kd.R_below (by (with_reducible repeat (first | apply Kd.R_alloc | apply Kd.R_drewN | apply Kd.R_drew)); exact HO592.out) hb); have n2_ := Aside0.mk (Kd.R_below (by (with_reducible repeat (first | apply Kd.R_alloc | apply Kd.R_drewN | apply Kd.R_drew)); exact HO595.out) hb); have n3_ := Aside0.mk (Kd.R_below (by (with_reducible repeat (first | apply Kd.R_alloc | apply Kd.R_drewN | apply Kd.R_drew)); exact HO600.out) hb); have n4_ := Aside0.mk (blk_below (g := gb584) (o := .cells #[.int .i64 a0_0, .slice A0_1 l0_1.length c0_1] 41 (0, 0)) (by (with_reducible repeat (first | refine blk_drewN ?_ _ | refine blk_drew ?_ | refine blk_alloc ?_ _)); exact BK584.out) hb); have n5_ := Aside0.mk (below_step (by repeat (first | (with_reducible first | exact HB.out | apply below_alloc | apply pw_below_drewN | apply below_drew1 | refine below_set ?_ GE584.out) | exact HB.out)) hb); have n6_ := Aside0.mk (hbox); have n7_ := Aside0.mk ((by rw [hg]; exact (below_size (by repeat (first | (with_reducible first | exact HB.out | apply below_alloc | apply pw_below_drewN | apply below_drew1 | refine below_set ?_ GE584.out) | exact HB.out))) : w.heap.size ≤ gb601)); have n8_ := Aside0.mk ((by rw [hg]; exact (below_size (by repeat (first | (with_reducible first | exact HB.out | apply below_alloc | apply pw_below_drewN | apply below_drew1 | refine below_set ?_ GE584.out) | exact HB.out))) : w.heap.size ≤ gb601)); have n9_ := Aside0.mk ((by rw [hg]; exact Nat.ne_of_lt (blk_lt (g := gb584) (o := .cells #[.int .i64 a0_0, .slice A0_1 l0_1.length c0_1] 41 (0, 0)) (by (with_reducible repeat (first | refine blk_drewN ?_ _ | refine blk_drew ?_ | refine blk_alloc ?_ _)); exact BK584.out)) : gb584 ≠ gb601)); have n10_ := Aside0.mk ((by rw [hg]; exact Nat.ne_of_gt (blk_lt (g := gb584) (o := .cells #[.int .i64 a0_0, .slice A0_1 l0_1.length c0_1] 41 (0, 0)) (by (with_reducible repeat (first | refine blk_drewN ?_ _ | refine blk_drew ?_ | refine blk_alloc ?_ _)); exact BK584.out)) : gb601 ≠ gb584)); clear HO589; clear HO592; clear HO595; clear HO600; clear BK584; clear HB; have HO589 := n0_; have HO592 := n1_; have HO595 := n2_; have HO600 := n3_; have BK584 := n4_; have HB := n5_; have BK601 := n6_; have GW601 := n7_; have GE601 := n8_; have NB584_601 := n9_; have NB601_584 := n10_; clear n0_ n1_ n2_ n3_ n4_ n5_ n6_ n7_ n8_ n9_ n10_; clear hb hbox hg; have hnb31 := NB601_584.out; have hnc31 := NB584_601.out; have hcz32_0 : w30.cell? ⟨gb601, 0, none⟩ = some (.int .i64 0) := (blk_cell BK601.out 0).trans rfl; have hcz32_1 : w30.cell? ⟨gb601, 1, none⟩ = some (.slice none 0 0) := (blk_cell BK601.out 1).trans rfl; have hfz32_0 := blk_frozen BK601.out 0; have hfz32_1 := blk_frozen BK601.out 1; obtain ⟨Ao33, co33, eo33⟩ := Kd.R_slice HO600.out; subst eo33) | ((with_reducible refine gate_callee (f := 16) rfl ?_); refine goesL_ (some 42) rfl rfl Try.func16 (by kernel_rfl) rfl #[.slice A1 l1.length c1] rfl (by (try simp only [List.map_toArray, List.map_cons, List.map_nil]); first | done | rfl | (simp only [List.length_drop, List.length_take]; rfl)) ?_; (with_reducible refine (laws_toBoolS.calls k _ _ l1 t602 _ ?side1 ?side2 A16.out).mono ?_); (case side1 => exact Kd.C_below HR1.out (by repeat (first | (with_reducible first | exact HB.out | apply below_alloc | apply pw_below_drewN | apply below_drew1 | refine below_set ?_ GE584.out | refine below_set ?_ GE601.out) | exact HB.out))); (case side2 => exact HC1.out); rintro e w34 ⟨v603, rfl, ho0, hb⟩; refine ⟨_, rfl, ?_⟩; have n0_ := Aside0.mk (Kd.R_below (by (with_reducible repeat (first | apply Kd.R_alloc | apply Kd.R_drewN | apply Kd.R_drew)); exact (Kd.R_mono (Kd.R_far (p := ⟨gb601, 1, none⟩) (Kd.R_far (p := ⟨gb601, 0, none⟩) (Kd.R_types HO589.out BK601.out (by decide)) (fun _ hk => hk.2) (.int .i64 t597)) (fun _ hk => hk.2) (.slice Ao33 t598.length co33)) (fun _ h_ => h_.1))) hb); have n1_ := Aside0.mk (Kd.R_elder' (by (with_reducible repeat (first | apply Kd.R_alloc | apply Kd.R_drewN | apply Kd.R_drew)); exact (Kd.R_mono (Kd.R_far (p := ⟨gb601, 1, none⟩) (Kd.R_far (p := ⟨gb601, 0, none⟩) (Kd.R_types HO592.out BK601.out (by decide)) (fun _ hk => hk.2) (.int .i64 t597)) (fun _ hk => hk.2) (.slice Ao33 t598.length co33)) (fun _ h_ => h_.1))) (Kd.R_base ho0) hb); have n2_ := Aside0.mk (Kd.R_elder' (by (with_reducible repeat (first | apply Kd.R_alloc | apply Kd.R_drewN | apply Kd.R_drew)); exact (Kd.R_mono (Kd.R_far (p := ⟨gb601, 1, none⟩) (Kd.R_far (p := ⟨gb601, 0, none⟩) (Kd.R_types HO595.out BK601.out (by decide)) (fun _ hk => hk.2) (.int .i64 t597)) (fun _ hk => hk.2) (.slice Ao33 t598.length co33)) (fun _ h_ => h_.1))) (Kd.R_base ho0) hb); have n3_ := Aside0.mk (Kd.R_below (by (with_reducible repeat (first | apply Kd.R_alloc | apply Kd.R_drewN | apply Kd.R_drew)); exact (Kd.R_mono (Kd.R_far (p := ⟨gb601, 1, none⟩) (Kd.R_far (p := ⟨gb601, 0, none⟩) (Kd.R_types HO600.out BK601.out (by decide)) (fun _ hk => hk.2) (.int .i64 t597)) (fun _ hk => hk.2) (.slice Ao33 t598.length co33)) (fun _ h_ => h_.1))) hb); have n4_ := Aside0.mk (Kd.R_lower (Kd.R_new' (Kd.R_new' ho0 (Kd.R_lt (by (with_reducible repeat (first | apply Kd.R_alloc | apply Kd.R_drewN | apply Kd.R_drew)); exact (Kd.R_mono (Kd.R_far (p := ⟨gb601, 1, none⟩) (Kd.R_far (p := ⟨gb601, 0, none⟩) (Kd.R_types HO592.out BK601.out (by decide)) (fun _ hk => hk.2) (.int .i64 t597)) (fun _ hk => hk.2) (.slice Ao33 t598.length co33)) (fun _ h_ => h_.1))))) (Kd.R_lt (by (with_reducible repeat (first | apply Kd.R_alloc | apply Kd.R_drewN | apply Kd.R_drew)); exact (Kd.R_mono (Kd.R_far (p := ⟨gb601, 1, none⟩) (Kd.R_far (p := ⟨gb601, 0, none⟩) (Kd.R_types HO595.out BK601.out (by decide)) (fun _ hk => hk.2) (.int .i64 t597)) (fun _ hk => hk.2) (.slice Ao33 t598.length co33)) (fun _ h_ => h_.1))))) (below_size (by repeat (first | (with_reducible first | exact HB.out | apply below_alloc | apply pw_below_drewN | apply below_drew1 | refine below_set ?_ GE584.out | refine below_set ?_ GE601.out) | exact HB.out)))); have n5_ := Aside0.mk (blk_below (g := gb584) (o := .cells #[.int .i64 a0_0, .slice A0_1 l0_1.length c0_1] 41 (0, 0)) (by (with_reducible repeat (first | refine blk_drewN ?_ _ | refine blk_drew ?_ | refine blk_alloc ?_ _)); refine blk_far ?_ NB584_601.out _; (with_reducible repeat (first | refine blk_drewN ?_ _ | refine blk_drew ?_ | refine blk_alloc ?_ _)); refine blk_far ?_ NB584_601.out _; (with_reducible repeat (first | refine blk_drewN ?_ _ | refine blk_drew ?_ | refine blk_alloc ?_ _)); exact BK584.out) hb); have n6_ := Aside0.mk (blk_below (g := gb601) (o := .cells #[.int .i64 t597, .slice Ao33 t598.length co33] 46 (0, 0)) (by (with_reducible repeat (first | refine blk_drewN ?_ _ | refine blk_drew ?_ | refine blk_alloc ?_ _)); refine blk_put (cs := #[.int .i64 t597, .slice none 0 0]) ?_ 1 _ rfl; (with_reducible repeat (first | refine blk_drewN ?_ _ | refine blk_drew ?_ | refine blk_alloc ?_ _)); refine blk_put (cs := #[.int .i64 0, .slice none 0 0]) ?_ 0 _ rfl; (with_reducible repeat (first | refine blk_drewN ?_ _ | refine blk_drew ?_ | refine blk_alloc ?_ _)); exact BK601.out) hb); have n7_ := Aside0.mk (below_step (by repeat (first | (with_reducible first | exact HB.out | apply below_alloc | apply pw_below_drewN | apply below_drew1 | refine below_set ?_ GE584.out | refine below_set ?_ GE601.out) | exact HB.out)) hb); clear HO589; clear HO592; clear HO595; clear HO600; clear BK584; clear BK601; clear HB; have HO589 := n0_; have HO592 := n1_; have HO595 := n2_; have HO600 := n3_; have HO604 := n4_; have BK584 := n5_; have BK601 := n6_; have HB := n7_; clear n0_ n1_ n2_ n3_ n4_ n5_ n6_ n7_; (try clear hb); (try clear hb2); (try clear hk); (try clear hi); (try clear ho0); have hcz35_0 : w34.cell? ⟨gb601, 0, none⟩ = some (.int .i64 t597) := (blk_cell BK601.out 0).trans rfl; have hcz35_1 : w34.cell? ⟨gb601, 1, none⟩ = some (.slice Ao33 t598.length co33) := (blk_cell BK601.out 1).trans rfl; have hfz35_0 := blk_frozen BK601.out 0; have hfz35_1 := blk_frozen BK601.out 1; obtain ⟨Ao36, co36, eo36⟩ := Kd.R_slice HO604.out; subst eo36) | ((with_reducible refine gate_callee (f := 51) rfl ?_); refine goesL_ (some 48) rfl rfl Try.func51 (by kernel_rfl) rfl #[.agg #[.int .i64 t597, .slice Ao33 t598.length co33], .slice Ao36 t602.length co36, .int .i64 a2, .bool a3] rfl (by (try simp only [List.map_toArray, List.map_cons, List.map_nil]); first | done | rfl | (simp only [List.length_drop, List.length_take]; rfl)) ?_; (with_reducible refine (impl_SwitchLine.calls k t597 _ _ t598 _ _ t602 a2 a3 t605 t608 _ ?side1 ?side2 ?side3 ?side4 A17.out).mono ?_); (case side1 => repeat (first | exact (Kd.R_reads' HO600.out).2.2 | (with_reducible refine Kd.C_alloc ?_ _) | (with_reducible refine Kd.C_drewN ?_ _) | (with_reducible refine Kd.C_drew ?_))); (case side2 => exact (Kd.R_reads' HO600.out).2.1); (case side3 => repeat (first | exact (Kd.R_reads' HO604.out).2.2 | (with_reducible refine Kd.C_alloc ?_ _) | (with_reducible refine Kd.C_drewN ?_ _) | (with_reducible refine Kd.C_drew ?_))); (case side4 => exact (Kd.R_reads' HO604.out).2.1); rintro e w37 ⟨v606, rfl, ho0, hb⟩; refine ⟨_, rfl, ?_⟩; have n0_ := Aside0.mk (Kd.R_below (by (with_reducible repeat (first | apply Kd.R_alloc | apply Kd.R_drewN | apply Kd.R_drew)); exact HO589.out) hb); have n1_ := Aside0.mk (Kd.R_elder' (by (with_reducible repeat (first | apply Kd.R_alloc | apply Kd.R_drewN | apply Kd.R_drew)); exact HO592.out) (Kd.R_base ho0) hb); have n2_ := Aside0.mk (Kd.R_elder' (by (with_reducible repeat (first | apply Kd.R_alloc | apply Kd.R_drewN | apply Kd.R_drew)); exact HO595.out) (Kd.R_base ho0) hb); have n3_ := Aside0.mk (Kd.R_below (by (with_reducible repeat (first | apply Kd.R_alloc | apply Kd.R_drewN | apply Kd.R_drew)); exact HO600.out) hb); have n4_ := Aside0.mk (Kd.R_elder' (by (with_reducible repeat (first | apply Kd.R_alloc | apply Kd.R_drewN | apply Kd.R_drew)); exact HO604.out) (Kd.R_base ho0) hb); have n5_ := Aside0.mk (Kd.R_lower (Kd.R_new' (Kd.R_new' (Kd.R_new' ho0 (Kd.R_lt (by (with_reducible repeat (first | apply Kd.R_alloc | apply Kd.R_drewN | apply Kd.R_drew)); exact HO592.out))) (Kd.R_lt (by (with_reducible repeat (first | apply Kd.R_alloc | apply Kd.R_drewN | apply Kd.R_drew)); exact HO595.out))) (Kd.R_lt (by (with_reducible repeat (first | apply Kd.R_alloc | apply Kd.R_drewN | apply Kd.R_drew)); exact HO604.out))) (below_size (by repeat (first | (with_reducible first | exact HB.out | apply below_alloc | apply pw_below_drewN | apply below_drew1 | refine below_set ?_ GE584.out | refine below_set ?_ GE601.out) | exact HB.out)))); have n6_ := Aside0.mk (blk_below (g := gb584) (o := .cells #[.int .i64 a0_0, .slice A0_1 l0_1.length c0_1] 41 (0, 0)) (by (with_reducible repeat (first | refine blk_drewN ?_ _ | refine blk_drew ?_ | refine blk_alloc ?_ _)); exact BK584.out) hb); have n7_ := Aside0.mk (blk_below (g := gb601) (o := .cells #[.int .i64 t597, .slice Ao33 t598.length co33] 46 (0, 0)) (by (with_reducible repeat (first | refine blk_drewN ?_ _ | refine blk_drew ?_ | refine blk_alloc ?_ _)); exact BK601.out) hb); have n8_ := Aside0.mk (below_step (by repeat (first | (with_reducible first | exact HB.out | apply below_alloc | apply pw_below_drewN | apply below_drew1 | refine below_set ?_ GE584.out | refine below_set ?_ GE601.out) | exact HB.out)) hb); clear HO589; clear HO592; clear HO595; clear HO600; clear HO604; clear BK584; clear BK601; clear HB; have HO589 := n0_; have HO592 := n1_; have HO595 := n2_; have HO600 := n3_; have HO604 := n4_; have HO607 := n5_; have BK584 := n6_; have BK601 := n7_; have HB := n8_; clear n0_ n1_ n2_ n3_ n4_ n5_ n6_ n7_ n8_; (try clear hb); (try clear hb2); (try clear hk); (try clear hi); (try clear ho0)))
      (try simp only [Act.put, List.setIfInBounds_toArray, List.set_cons_zero, List.set_cons_succ])
      go_cut [59] (fun v59 wc => ∃ (kq : Nat) (x59_17 : Bool), v59 = .bool x59_17 ∧ Aside0 (laws_FnExactSwitchLine.j0 kq l1 a2 a3 t593 t596 t602 t605 t608 x59_17 a0_0 l0_1 t597 t598 = some r) ∧ Aside0 (kq ≤ k) ∧ Aside0 (Kd.R Kd.bool 4 wc w.heap.size (fun k_ => some k_ ≠ ((.slice Ao36 t602.length co36) : Value).ownBlock ∧ some k_ ≠ (v606 : Value).ownBlock) v594 t593) ∧ Aside0 (Kd.R Kd.bool 4 wc w.heap.size (fun k_ => some k_ ≠ (v594 : Value).ownBlock ∧ some k_ ≠ (v606 : Value).ownBlock) (.slice Ao36 t602.length co36) t602) ∧ Aside0 (Kd.R Kd.bool 4 wc w.heap.size (fun k_ => some k_ ≠ (v594 : Value).ownBlock ∧ some k_ ≠ ((.slice Ao36 t602.length co36) : Value).ownBlock) v606 t605) ∧ Aside0 (Kd.R k70 70 wc w.heap.size (fun _ => True) (.slice Ao33 t598.length co33) t598) ∧ Aside0 (wc.heap[gb584]? = some (.cells #[.int .i64 a0_0, (.slice A0_1 l0_1.length c0_1)] 41 (0, 0))) ∧ Aside0 (wc.heap[gb601]? = some (.cells #[.int .i64 t597, (.slice Ao33 t598.length co33)] 46 (0, 0))) ∧ Aside0 (Below w.heap.size w wc))
      case first =>
        have H := HC18.out
        clear HC18
        replace H := Option.bind_eq_some_iff.mp H
        obtain ⟨t609, A380, H⟩ := H
        replace H : (if t609 = true then (laws_FnExactSwitchLine.j0 k l1 a2 a3 t593 t596 t602 t605 t608 (t608 != t596) a0_0 l0_1 t597 t598) else (laws_FnExactSwitchLine.j0 k l1 a2 a3 t593 t596 t602 t605 t608 true a0_0 l0_1 t597 t598)) = some r := H
        have A38 := Aside0.mk A380
        clear A380
        by_cases c39 : t609 = true
        · subst c39
          have H1 : (laws_FnExactSwitchLine.j0 k l1 a2 a3 t593 t596 t602 t605 t608 (t608 != t596) a0_0 l0_1 t597 t598) = some r := by rw [if_pos rfl] at H; exact H
          clear H
          have H := H1
          clear H1
          have H' := Aside0.mk H
          clear H
          obtain ⟨Ao40, co40, eo40⟩ := Kd.R_slice HO607.out
          subst eo40
          obtain ⟨Ao41, co41, eo41⟩ := Kd.R_slice HO595.out
          subst eo41
          go_wp2_with (first | ((with_reducible refine gate_callee (f := 18) rfl ?_); refine goesL_ (some 53) rfl rfl Try.func18 (by kernel_rfl) rfl #[.slice Ao40 t605.length co40, .slice Ao41 t593.length co41] rfl (by (try simp only [List.map_toArray, List.map_cons, List.map_nil]); first | done | rfl | (simp only [List.length_drop, List.length_take]; rfl)) ?_; (with_reducible refine (laws_eqBoolS.calls k _ _ t605 _ _ t593 true _ ?side1 ?side2 ?side3 ?side4 A38.out).mono ?_); (case side1 => repeat (first | exact (Kd.R_reads' HO607.out).2.2 | (with_reducible refine Kd.C_alloc ?_ _) | (with_reducible refine Kd.C_drewN ?_ _) | (with_reducible refine Kd.C_drew ?_))); (case side2 => exact (Kd.R_reads' HO607.out).2.1); (case side3 => repeat (first | exact (Kd.R_reads' HO595.out).2.2 | (with_reducible refine Kd.C_alloc ?_ _) | (with_reducible refine Kd.C_drewN ?_ _) | (with_reducible refine Kd.C_drew ?_))); (case side4 => exact (Kd.R_reads' HO595.out).2.1); rintro e w' ⟨rfl, ⟨nd, rfl⟩⟩; refine ⟨_, rfl, ?_⟩))
          go_meet
          case rel => exact ⟨_, ((t608 != t596)), (by first | rfl | (simp; done) | (simp [*]; done)), H', ⟨by first | omega | exact Nat.le_refl _⟩, ⟨by (with_reducible repeat (first | apply Kd.R_alloc | apply Kd.R_drewN | apply Kd.R_drew)); exact Kd.R_mono HO595.out (fun _ hk => ⟨hk.1.2, hk.2⟩)⟩, ⟨by (with_reducible repeat (first | apply Kd.R_alloc | apply Kd.R_drewN | apply Kd.R_drew)); exact Kd.R_mono HO604.out (fun _ hk => ⟨hk.1.2, hk.2⟩)⟩, ⟨by (with_reducible repeat (first | apply Kd.R_alloc | apply Kd.R_drewN | apply Kd.R_drew)); exact Kd.R_mono HO607.out (fun _ hk => ⟨hk.1.2, hk.2⟩)⟩, ⟨by (with_reducible repeat (first | apply Kd.R_alloc | apply Kd.R_drewN | apply Kd.R_drew)); exact Kd.R_mono HO600.out (fun _ hk => trivial)⟩, ⟨by (with_reducible repeat (first | refine blk_drewN ?_ _ | refine blk_drew ?_ | refine blk_alloc ?_ _)); exact BK584.out⟩, ⟨by (with_reducible repeat (first | refine blk_drewN ?_ _ | refine blk_drew ?_ | refine blk_alloc ?_ _)); exact BK601.out⟩, ⟨by repeat (first | (with_reducible first | exact HB.out | apply below_alloc | apply pw_below_drewN | apply below_drew1 | refine below_set ?_ GE584.out | refine below_set ?_ GE601.out) | exact HB.out)⟩⟩
        · replace c39 := Bool.eq_false_iff.mpr c39
          subst c39
          have H1 : (laws_FnExactSwitchLine.j0 k l1 a2 a3 t593 t596 t602 t605 t608 true a0_0 l0_1 t597 t598) = some r := by rw [if_neg (show ¬ (false = true) by decide)] at H; exact H
          clear H
          have H := H1
          clear H1
          have H' := Aside0.mk H
          clear H
          obtain ⟨Ao42, co42, eo42⟩ := Kd.R_slice HO607.out
          subst eo42
          obtain ⟨Ao43, co43, eo43⟩ := Kd.R_slice HO595.out
          subst eo43
          go_wp2_with (first | ((with_reducible refine gate_callee (f := 18) rfl ?_); refine goesL_ (some 53) rfl rfl Try.func18 (by kernel_rfl) rfl #[.slice Ao42 t605.length co42, .slice Ao43 t593.length co43] rfl (by (try simp only [List.map_toArray, List.map_cons, List.map_nil]); first | done | rfl | (simp only [List.length_drop, List.length_take]; rfl)) ?_; (with_reducible refine (laws_eqBoolS.calls k _ _ t605 _ _ t593 false _ ?side1 ?side2 ?side3 ?side4 A38.out).mono ?_); (case side1 => repeat (first | exact (Kd.R_reads' HO607.out).2.2 | (with_reducible refine Kd.C_alloc ?_ _) | (with_reducible refine Kd.C_drewN ?_ _) | (with_reducible refine Kd.C_drew ?_))); (case side2 => exact (Kd.R_reads' HO607.out).2.1); (case side3 => repeat (first | exact (Kd.R_reads' HO595.out).2.2 | (with_reducible refine Kd.C_alloc ?_ _) | (with_reducible refine Kd.C_drewN ?_ _) | (with_reducible refine Kd.C_drew ?_))); (case side4 => exact (Kd.R_reads' HO595.out).2.1); rintro e w' ⟨rfl, ⟨nd, rfl⟩⟩; refine ⟨_, rfl, ?_⟩))
          go_meet
          case rel => exact ⟨_, (true), (by first | rfl | (simp; done) | (simp [*]; done)), H', ⟨by first | omega | exact Nat.le_refl _⟩, ⟨by (with_reducible repeat (first | apply Kd.R_alloc | apply Kd.R_drewN | apply Kd.R_drew)); exact Kd.R_mono HO595.out (fun _ hk => ⟨hk.1.2, hk.2⟩)⟩, ⟨by (with_reducible repeat (first | apply Kd.R_alloc | apply Kd.R_drewN | apply Kd.R_drew)); exact Kd.R_mono HO604.out (fun _ hk => ⟨hk.1.2, hk.2⟩)⟩, ⟨by (with_reducible repeat (first | apply Kd.R_alloc | apply Kd.R_drewN | apply Kd.R_drew)); exact Kd.R_mono HO607.out (fun _ hk => ⟨hk.1.2, hk.2⟩)⟩, ⟨by (with_reducible repeat (first | apply Kd.R_alloc | apply Kd.R_drewN | apply Kd.R_drew)); exact Kd.R_mono HO600.out (fun _ hk => trivial)⟩, ⟨by (with_reducible repeat (first | refine blk_drewN ?_ _ | refine blk_drew ?_ | refine blk_alloc ?_ _)); exact BK584.out⟩, ⟨by (with_reducible repeat (first | refine blk_drewN ?_ _ | refine blk_drew ?_ | refine blk_alloc ?_ _)); exact BK601.out⟩, ⟨by repeat (first | (with_reducible first | exact HB.out | apply below_alloc | apply pw_below_drewN | apply below_drew1 | refine below_set ?_ GE584.out | refine below_set ?_ GE601.out) | exact HB.out)⟩⟩
      case rest =>
        clear HC18
        try clear c1
        try clear p2
        try clear c3
        try clear c5
        try clear c5b0
        try clear c5b1
        try clear c8
        try clear c8b0
        try clear c14
        try clear c16
        try clear c18
        try clear c31
        try clear c33
        try clear c39
        try clear hcz10_0
        try clear hcz10_1
        try clear hcz20_0
        try clear hcz20_1
        try clear hcz22_0
        try clear hcz22_1
        try clear hcz28_0
        try clear hcz28_1
        try clear hcz32_0
        try clear hcz32_1
        try clear hcz35_0
        try clear hcz35_1
        try clear hfz10_0
        try clear hfz10_1
        try clear hfz20_0
        try clear hfz20_1
        try clear hfz22_0
        try clear hfz22_1
        try clear hfz28_0
        try clear hfz28_1
        try clear hfz32_0
        try clear hfz32_1
        try clear hfz35_0
        try clear hfz35_1
        obtain ⟨kq, x59_17, rfl, HA, HJ17, HO_10, HO_13, HO_14, HO_602001, BK584, BK601, HB⟩ := hcut
        cases kq with
        | zero => exact absurd HA.out (by simp [laws_FnExactSwitchLine.j0])
        | succ kj17 =>
          have H := HA.out
          clear HA
          simp only [laws_FnExactSwitchLine.j0] at H
          by_cases c44 : x59_17 = true
          · subst c44
            have H1 : (none) = some r := by rw [if_pos rfl] at H; exact H
            clear H
            have H := H1
            clear H1
            exact absurd H (by simp)
          · replace c44 := Bool.eq_false_iff.mpr c44
            subst c44
            have H1 : ((laws_toNet.f kj17 a0_0 l0_1).bind fun bt610 => ((laws_eqNet.f kj17 t597 t598 bt610.1 bt610.2).bind fun t614 => (if t614 = true then ((laws_toBoolS.f kj17 l1).bind fun t615 => ((laws_eqBoolS.f kj17 t602 t615).bind fun t618 => (if t618 = true then ((laws_markNet.f kj17 t597 t598 1).bind fun bt619 => ((laws_markBoolS.f kj17 t602 bt619.1).bind fun bt621 => (if bt621.1 < 0 then (laws_FnExactSwitchLine.j1 kj17 l1 a2 a3 t593 t596 t605 true a0_0 l0_1) else ((laws_eqBoolS.f kj17 t605 t593).bind fun t623 => (if t623 = true then (laws_FnExactSwitchLine.j1 kj17 l1 a2 a3 t593 t596 t605 (t608 != t596) a0_0 l0_1) else (laws_FnExactSwitchLine.j1 kj17 l1 a2 a3 t593 t596 t605 true a0_0 l0_1)))))) else (none)))) else (none)))) = some r := by rw [if_neg (show ¬ (false = true) by decide)] at H; exact H
            clear H
            have H := H1
            clear H1
            replace H := Option.bind_eq_some_iff.mp H
            obtain ⟨⟨t610, t611⟩, A450, H⟩ := H
            replace H : ((laws_eqNet.f kj17 t597 t598 t610 t611).bind fun t614 => (if t614 = true then ((laws_toBoolS.f kj17 l1).bind fun t615 => ((laws_eqBoolS.f kj17 t602 t615).bind fun t618 => (if t618 = true then ((laws_markNet.f kj17 t597 t598 1).bind fun bt619 => ((laws_markBoolS.f kj17 t602 bt619.1).bind fun bt621 => (if bt621.1 < 0 then (laws_FnExactSwitchLine.j1 kj17 l1 a2 a3 t593 t596 t605 true a0_0 l0_1) else ((laws_eqBoolS.f kj17 t605 t593).bind fun t623 => (if t623 = true then (laws_FnExactSwitchLine.j1 kj17 l1 a2 a3 t593 t596 t605 (t608 != t596) a0_0 l0_1) else (laws_FnExactSwitchLine.j1 kj17 l1 a2 a3 t593 t596 t605 true a0_0 l0_1)))))) else (none)))) else (none))) = some r := H
            have A45 := Aside0.mk A450
            clear A450
            replace H := Option.bind_eq_some_iff.mp H
            obtain ⟨t614, A460, H⟩ := H
            replace H : (if t614 = true then ((laws_toBoolS.f kj17 l1).bind fun t615 => ((laws_eqBoolS.f kj17 t602 t615).bind fun t618 => (if t618 = true then ((laws_markNet.f kj17 t597 t598 1).bind fun bt619 => ((laws_markBoolS.f kj17 t602 bt619.1).bind fun bt621 => (if bt621.1 < 0 then (laws_FnExactSwitchLine.j1 kj17 l1 a2 a3 t593 t596 t605 true a0_0 l0_1) else ((laws_eqBoolS.f kj17 t605 t593).bind fun t623 => (if t623 = true then (laws_FnExactSwitchLine.j1 kj17 l1 a2 a3 t593 t596 t605 (t608 != t596) a0_0 l0_1) else (laws_FnExactSwitchLine.j1 kj17 l1 a2 a3 t593 t596 t605 true a0_0 l0_1)))))) else (none)))) else (none)) = some r := H
            have A46 := Aside0.mk A460
            clear A460
            by_cases c47 : t614 = true
            · subst c47
              have H1 : ((laws_toBoolS.f kj17 l1).bind fun t615 => ((laws_eqBoolS.f kj17 t602 t615).bind fun t618 => (if t618 = true then ((laws_markNet.f kj17 t597 t598 1).bind fun bt619 => ((laws_markBoolS.f kj17 t602 bt619.1).bind fun bt621 => (if bt621.1 < 0 then (laws_FnExactSwitchLine.j1 kj17 l1 a2 a3 t593 t596 t605 true a0_0 l0_1) else ((laws_eqBoolS.f kj17 t605 t593).bind fun t623 => (if t623 = true then (laws_FnExactSwitchLine.j1 kj17 l1 a2 a3 t593 t596 t605 (t608 != t596) a0_0 l0_1) else (laws_FnExactSwitchLine.j1 kj17 l1 a2 a3 t593 t596 t605 true a0_0 l0_1)))))) else (none)))) = some r := by rw [if_pos rfl] at H; exact H
              clear H
              have H := H1
              clear H1
              replace H := Option.bind_eq_some_iff.mp H
              obtain ⟨t615, A480, H⟩ := H
              replace H : ((laws_eqBoolS.f kj17 t602 t615).bind fun t618 => (if t618 = true then ((laws_markNet.f kj17 t597 t598 1).bind fun bt619 => ((laws_markBoolS.f kj17 t602 bt619.1).bind fun bt621 => (if bt621.1 < 0 then (laws_FnExactSwitchLine.j1 kj17 l1 a2 a3 t593 t596 t605 true a0_0 l0_1) else ((laws_eqBoolS.f kj17 t605 t593).bind fun t623 => (if t623 = true then (laws_FnExactSwitchLine.j1 kj17 l1 a2 a3 t593 t596 t605 (t608 != t596) a0_0 l0_1) else (laws_FnExactSwitchLine.j1 kj17 l1 a2 a3 t593 t596 t605 true a0_0 l0_1)))))) else (none))) = some r := H
              have A48 := Aside0.mk A480
              clear A480
              replace H := Option.bind_eq_some_iff.mp H
              obtain ⟨t618, A490, H⟩ := H
              replace H : (if t618 = true then ((laws_markNet.f kj17 t597 t598 1).bind fun bt619 => ((laws_markBoolS.f kj17 t602 bt619.1).bind fun bt621 => (if bt621.1 < 0 then (laws_FnExactSwitchLine.j1 kj17 l1 a2 a3 t593 t596 t605 true a0_0 l0_1) else ((laws_eqBoolS.f kj17 t605 t593).bind fun t623 => (if t623 = true then (laws_FnExactSwitchLine.j1 kj17 l1 a2 a3 t593 t596 t605 (t608 != t596) a0_0 l0_1) else (laws_FnExactSwitchLine.j1 kj17 l1 a2 a3 t593 t596 t605 true a0_0 l0_1)))))) else (none)) = some r := H
              have A49 := Aside0.mk A490
              clear A490
              by_cases c50 : t618 = true
              · subst c50
                have H1 : ((laws_markNet.f kj17 t597 t598 1).bind fun bt619 => ((laws_markBoolS.f kj17 t602 bt619.1).bind fun bt621 => (if bt621.1 < 0 then (laws_FnExactSwitchLine.j1 kj17 l1 a2 a3 t593 t596 t605 true a0_0 l0_1) else ((laws_eqBoolS.f kj17 t605 t593).bind fun t623 => (if t623 = true then (laws_FnExactSwitchLine.j1 kj17 l1 a2 a3 t593 t596 t605 (t608 != t596) a0_0 l0_1) else (laws_FnExactSwitchLine.j1 kj17 l1 a2 a3 t593 t596 t605 true a0_0 l0_1)))))) = some r := by rw [if_pos rfl] at H; exact H
                clear H
                have H := H1
                clear H1
                replace H := Option.bind_eq_some_iff.mp H
                obtain ⟨⟨t619, t620⟩, A510, H⟩ := H
                replace H : ((laws_markBoolS.f kj17 t602 t619).bind fun bt621 => (if bt621.1 < 0 then (laws_FnExactSwitchLine.j1 kj17 l1 a2 a3 t593 t596 t605 true a0_0 l0_1) else ((laws_eqBoolS.f kj17 t605 t593).bind fun t623 => (if t623 = true then (laws_FnExactSwitchLine.j1 kj17 l1 a2 a3 t593 t596 t605 (t608 != t596) a0_0 l0_1) else (laws_FnExactSwitchLine.j1 kj17 l1 a2 a3 t593 t596 t605 true a0_0 l0_1))))) = some r := H
                have A51 := Aside0.mk A510
                clear A510
                replace H := Option.bind_eq_some_iff.mp H
                obtain ⟨⟨t621, t622⟩, A520, H⟩ := H
                replace H : (if t621 < 0 then (laws_FnExactSwitchLine.j1 kj17 l1 a2 a3 t593 t596 t605 true a0_0 l0_1) else ((laws_eqBoolS.f kj17 t605 t593).bind fun t623 => (if t623 = true then (laws_FnExactSwitchLine.j1 kj17 l1 a2 a3 t593 t596 t605 (t608 != t596) a0_0 l0_1) else (laws_FnExactSwitchLine.j1 kj17 l1 a2 a3 t593 t596 t605 true a0_0 l0_1)))) = some r := H
                have A52 := Aside0.mk A520
                clear A520
                have HC53 := Aside0.mk H
                clear H
                try go_wp2
                have n0_ := Aside0.mk (Kd.R_drew HO_10.out)
                have n1_ := Aside0.mk (Kd.R_drew HO_13.out)
                have n2_ := Aside0.mk (Kd.R_drew HO_14.out)
                have n3_ := Aside0.mk (Kd.R_drew HO_602001.out)
                have n4_ := Aside0.mk (blk_drew BK584.out)
                have n5_ := Aside0.mk (blk_drew BK601.out)
                have n6_ := Aside0.mk (below_drew1 HB.out)
                clear HO_10
                clear HO_13
                clear HO_14
                clear HO_602001
                clear BK584
                clear BK601
                clear HB
                have HO_10 := n0_
                have HO_13 := n1_
                have HO_14 := n2_
                have HO_602001 := n3_
                have BK584 := n4_
                have BK601 := n5_
                have HB := n6_
                clear n0_ n1_ n2_ n3_ n4_ n5_ n6_
                refine start_ (n := 5) (S := fun w' => w'.cell? ⟨gb601, 0, none⟩ = some (.int .i64 t597) ∧ w'.cell? ⟨gb601, 1, none⟩ = some (.slice Ao33 t598.length co33) ∧ w'.cell? ⟨gb584, 0, none⟩ = some (.int .i64 a0_0) ∧ w'.cell? ⟨gb584, 1, none⟩ = some (.slice A0_1 l0_1.length c0_1)) (ds := []) #[false, false, false, false, false] (by kernel_rfl) rfl rfl ⟨(blk_cell BK601.out 0).trans rfl, (blk_cell BK601.out 1).trans rfl, (blk_cell BK584.out 0).trans rfl, (blk_cell BK584.out 1).trans rfl⟩ (fun hHeld => ?_)
                generalize wc.drew = w54 at HO_10 HO_13 HO_14 HO_602001 BK584 BK601 HB hHeld ⊢
                refine take_ (i := 0) (N := some 60) (v := ?_) (a' := ?_) #[true, false, false, false, false] rfl rfl (by kernel_rfl) (fun _ _ _ h => h) (Or.inl ⟨by rfl, ?_⟩) hHeld ?_ ?_
                rotate_left
                · rintro w' ⟨s0, s1, s2, s3⟩
                  go_simp
                  with_reducible rfl
                rotate_left
                · simp only [Act.put, List.setIfInBounds_toArray, List.set_cons_zero, List.set_cons_succ, i64_w, i32_w]
                  rfl
                refine take_ (i := 1) (N := some 61) (v := ?_) (a' := ?_) #[true, true, false, false, false] rfl rfl (by kernel_rfl) (fun _ _ _ h => h) (Or.inl ⟨by rfl, ?_⟩) hHeld ?_ ?_
                rotate_left
                · rintro w' ⟨s0, s1, s2, s3⟩
                  go_simp
                  with_reducible rfl
                rotate_left
                · simp only [Act.put, List.setIfInBounds_toArray, List.set_cons_zero, List.set_cons_succ, i64_w, i32_w]
                  rfl
                refine one_ (i := 2) (N := some 62) #[true, true, true, false, false] rfl rfl (by kernel_rfl) (by decide) (fun K hK => ?_)
                refine goes_ Try.func33 (by kernel_rfl) rfl #[.agg #[.int .i64 a0_0, .slice A0_1 l0_1.length c0_1]] (by rfl) rfl rfl (by (try simp only [List.map_toArray, List.map_cons, List.map_nil]); first | done | rfl | (simp only [List.length_drop, List.length_take]; rfl)) ?_
                with_reducible refine (laws_toNet.calls kj17 a0_0 _ _ l0_1 t610 t611 _ ?side1 ?side2 A45.out).mono ?_
                (case side1 => repeat (first | exact (Kd.C_below HR0_1.out HB.out) | (with_reducible refine Kd.C_alloc ?_ _) | (with_reducible refine Kd.C_drewN ?_ _) | (with_reducible refine Kd.C_drew ?_)))
                (case side2 => exact HC0_1.out)
                rintro e w55 ⟨v612, rfl, ho0, hb⟩
                refine ⟨_, rfl, ?_⟩
                have n0_ := Aside0.mk (Kd.R_below (by (with_reducible repeat (first | apply Kd.R_alloc | apply Kd.R_drewN | apply Kd.R_drew)); exact HO_10.out) hb)
                have n1_ := Aside0.mk (Kd.R_below (by (with_reducible repeat (first | apply Kd.R_alloc | apply Kd.R_drewN | apply Kd.R_drew)); exact HO_13.out) hb)
                have n2_ := Aside0.mk (Kd.R_below (by (with_reducible repeat (first | apply Kd.R_alloc | apply Kd.R_drewN | apply Kd.R_drew)); exact HO_14.out) hb)
                have n3_ := Aside0.mk (Kd.R_elder' (by (with_reducible repeat (first | apply Kd.R_alloc | apply Kd.R_drewN | apply Kd.R_drew)); exact HO_602001.out) (Kd.R_base ho0) hb)
                have n4_ := Aside0.mk (Kd.R_lower (Kd.R_new' ho0 (Kd.R_lt (by (with_reducible repeat (first | apply Kd.R_alloc | apply Kd.R_drewN | apply Kd.R_drew)); exact HO_602001.out))) (below_size (by repeat (first | (with_reducible first | exact HB.out | apply below_alloc | apply pw_below_drewN | apply below_drew1 | refine below_set ?_ GE584.out | refine below_set ?_ GE601.out) | exact HB.out))))
                have n5_ := Aside0.mk (blk_below (g := gb584) (o := .cells #[.int .i64 a0_0, .slice A0_1 l0_1.length c0_1] 41 (0, 0)) (by (with_reducible repeat (first | refine blk_drewN ?_ _ | refine blk_drew ?_ | refine blk_alloc ?_ _)); exact BK584.out) hb)
                have n6_ := Aside0.mk (blk_below (g := gb601) (o := .cells #[.int .i64 t597, .slice Ao33 t598.length co33] 46 (0, 0)) (by (with_reducible repeat (first | refine blk_drewN ?_ _ | refine blk_drew ?_ | refine blk_alloc ?_ _)); exact BK601.out) hb)
                have n7_ := Aside0.mk (below_step (by repeat (first | (with_reducible first | exact HB.out | apply below_alloc | apply pw_below_drewN | apply below_drew1 | refine below_set ?_ GE584.out | refine below_set ?_ GE601.out) | exact HB.out)) hb)
                clear HO_10
                clear HO_13
                clear HO_14
                clear HO_602001
                clear BK584
                clear BK601
                clear HB
                have HO_10 := n0_
                have HO_13 := n1_
                have HO_14 := n2_
                have HO_602001 := n3_
                have HO613 := n4_
                have BK584 := n5_
                have BK601 := n6_
                have HB := n7_
                clear n0_ n1_ n2_ n3_ n4_ n5_ n6_ n7_
                (try clear hb)
                (try clear hb2)
                (try clear hk)
                (try clear hi)
                (try clear ho0)
                obtain ⟨Ao56, co56, eo56⟩ := Kd.R_slice HO613.out
                (first | subst eo56 | (injection eo56 with f1_ f2_ f3_; have f4_ := f1_.symm; have f5_ := f3_.symm; clear f1_ f2_ f3_; subst f4_; subst f5_))
                refine hK.out _ _ ⟨(blk_cell BK601.out 0).trans rfl, (blk_cell BK601.out 1).trans rfl, (blk_cell BK584.out 0).trans rfl, (blk_cell BK584.out 1).trans rfl⟩ (fun hHeld => ?_)
                clear hK K
                refine norm_ (a' := ?_) ?_ ?_
                rotate_left
                · show Act.put _ (some 62) _ = _
                  simp only [Act.put, List.setIfInBounds_toArray, List.set_cons_zero, List.set_cons_succ, i64_w, i32_w]
                  rfl
                refine one_ (i := 3) (N := some 63) #[true, true, true, true, false] rfl rfl (by kernel_rfl) (by decide) (fun K hK => ?_)
                refine goes_ Try.func35 (by kernel_rfl) rfl #[.agg #[.int .i64 t597, .slice Ao33 t598.length co33], .agg #[.int .i64 t610, .slice Ao56 t611.length co56]] (by rfl) rfl rfl (by (try simp only [List.map_toArray, List.map_cons, List.map_nil]); first | done | rfl | (simp only [List.length_drop, List.length_take]; rfl)) ?_
                with_reducible refine (laws_eqNet.calls kj17 t597 _ _ t598 t610 _ _ t611 true _ ?side1 ?side2 ?side3 ?side4 A46.out).mono ?_
                (case side1 => repeat (first | exact (Kd.R_reads' HO_602001.out).2.2 | (with_reducible refine Kd.C_alloc ?_ _) | (with_reducible refine Kd.C_drewN ?_ _) | (with_reducible refine Kd.C_drew ?_)))
                (case side2 => exact (Kd.R_reads' HO_602001.out).2.1)
                (case side3 => repeat (first | exact (Kd.R_reads' HO613.out).2.2 | (with_reducible refine Kd.C_alloc ?_ _) | (with_reducible refine Kd.C_drewN ?_ _) | (with_reducible refine Kd.C_drew ?_)))
                (case side4 => exact (Kd.R_reads' HO613.out).2.1)
                rintro e w57 ⟨rfl, hb⟩
                refine ⟨_, rfl, ?_⟩
                have n0_ := Aside0.mk (Kd.R_below (by (with_reducible repeat (first | apply Kd.R_alloc | apply Kd.R_drewN | apply Kd.R_drew)); exact HO_10.out) hb)
                have n1_ := Aside0.mk (Kd.R_below (by (with_reducible repeat (first | apply Kd.R_alloc | apply Kd.R_drewN | apply Kd.R_drew)); exact HO_13.out) hb)
                have n2_ := Aside0.mk (Kd.R_below (by (with_reducible repeat (first | apply Kd.R_alloc | apply Kd.R_drewN | apply Kd.R_drew)); exact HO_14.out) hb)
                have n3_ := Aside0.mk (Kd.R_below (by (with_reducible repeat (first | apply Kd.R_alloc | apply Kd.R_drewN | apply Kd.R_drew)); exact HO_602001.out) hb)
                have n4_ := Aside0.mk (Kd.R_below (by (with_reducible repeat (first | apply Kd.R_alloc | apply Kd.R_drewN | apply Kd.R_drew)); exact HO613.out) hb)
                have n5_ := Aside0.mk (blk_below (g := gb584) (o := .cells #[.int .i64 a0_0, .slice A0_1 l0_1.length c0_1] 41 (0, 0)) (by (with_reducible repeat (first | refine blk_drewN ?_ _ | refine blk_drew ?_ | refine blk_alloc ?_ _)); exact BK584.out) hb)
                have n6_ := Aside0.mk (blk_below (g := gb601) (o := .cells #[.int .i64 t597, .slice Ao33 t598.length co33] 46 (0, 0)) (by (with_reducible repeat (first | refine blk_drewN ?_ _ | refine blk_drew ?_ | refine blk_alloc ?_ _)); exact BK601.out) hb)
                have n7_ := Aside0.mk (below_step (by repeat (first | (with_reducible first | exact HB.out | apply below_alloc | apply pw_below_drewN | apply below_drew1 | refine below_set ?_ GE584.out | refine below_set ?_ GE601.out) | exact HB.out)) hb)
                clear HO_10
                clear HO_13
                clear HO_14
                clear HO_602001
                clear HO613
                clear BK584
                clear BK601
                clear HB
                have HO_10 := n0_
                have HO_13 := n1_
                have HO_14 := n2_
                have HO_602001 := n3_
                have HO613 := n4_
                have BK584 := n5_
                have BK601 := n6_
                have HB := n7_
                clear n0_ n1_ n2_ n3_ n4_ n5_ n6_ n7_
                (try clear hb)
                (try clear hb2)
                (try clear hk)
                (try clear hi)
                refine hK.out _ _ ⟨(blk_cell BK601.out 0).trans rfl, (blk_cell BK601.out 1).trans rfl, (blk_cell BK584.out 0).trans rfl, (blk_cell BK584.out 1).trans rfl⟩ (fun hHeld => ?_)
                clear hK K
                refine norm_ (a' := ?_) ?_ ?_
                rotate_left
                · show Act.put _ (some 63) _ = _
                  simp only [Act.put, List.setIfInBounds_toArray, List.set_cons_zero, List.set_cons_succ, i64_w, i32_w]
                  rfl
                refine pure_ (i := 4) (N := some 64) (v := ?_) (a' := ?_) #[true, true, true, true, true] rfl rfl (by kernel_rfl) (fun _ _ _ h => h) (Or.inl ⟨by rfl, ?_⟩) ?_ ?_
                rotate_left
                · intro w'
                  go_simp
                  with_reducible rfl
                rotate_left
                · simp only [Act.put, List.setIfInBounds_toArray, List.set_cons_zero, List.set_cons_succ, i64_w, i32_w]
                  rfl
                refine done_ (by kernel_rfl) ?_
                go_upto_region 20 with (first | ((with_reducible refine gate_callee (f := 16) rfl ?_); refine goesL_ (some 67) rfl rfl Try.func16 (by kernel_rfl) rfl #[.slice A1 l1.length c1] rfl (by (try simp only [List.map_toArray, List.map_cons, List.map_nil]); first | done | rfl | (simp only [List.length_drop, List.length_take]; rfl)) ?_; (with_reducible refine (laws_toBoolS.calls kj17 _ _ l1 t615 _ ?side1 ?side2 A48.out).mono ?_); (case side1 => repeat (first | exact (Kd.C_below HR1.out HB.out) | (with_reducible refine Kd.C_alloc ?_ _) | (with_reducible refine Kd.C_drewN ?_ _) | (with_reducible refine Kd.C_drew ?_))); (case side2 => exact HC1.out); rintro e w58 ⟨v616, rfl, ho0, hb⟩; refine ⟨_, rfl, ?_⟩; have n0_ := Aside0.mk (Kd.R_elder' (by (with_reducible repeat (first | apply Kd.R_alloc | apply Kd.R_drewN | apply Kd.R_drew)); exact HO_10.out) (Kd.R_base ho0) hb); have n1_ := Aside0.mk (Kd.R_elder' (by (with_reducible repeat (first | apply Kd.R_alloc | apply Kd.R_drewN | apply Kd.R_drew)); exact HO_13.out) (Kd.R_base ho0) hb); have n2_ := Aside0.mk (Kd.R_elder' (by (with_reducible repeat (first | apply Kd.R_alloc | apply Kd.R_drewN | apply Kd.R_drew)); exact HO_14.out) (Kd.R_base ho0) hb); have n3_ := Aside0.mk (Kd.R_below (by (with_reducible repeat (first | apply Kd.R_alloc | apply Kd.R_drewN | apply Kd.R_drew)); exact HO_602001.out) hb); have n4_ := Aside0.mk (Kd.R_below (by (with_reducible repeat (first | apply Kd.R_alloc | apply Kd.R_drewN | apply Kd.R_drew)); exact HO613.out) hb); have n5_ := Aside0.mk (Kd.R_lower (Kd.R_new' (Kd.R_new' (Kd.R_new' ho0 (Kd.R_lt (by (with_reducible repeat (first | apply Kd.R_alloc | apply Kd.R_drewN | apply Kd.R_drew)); exact HO_10.out))) (Kd.R_lt (by (with_reducible repeat (first | apply Kd.R_alloc | apply Kd.R_drewN | apply Kd.R_drew)); exact HO_13.out))) (Kd.R_lt (by (with_reducible repeat (first | apply Kd.R_alloc | apply Kd.R_drewN | apply Kd.R_drew)); exact HO_14.out))) (below_size (by repeat (first | (with_reducible first | exact HB.out | apply below_alloc | apply pw_below_drewN | apply below_drew1 | refine below_set ?_ GE584.out | refine below_set ?_ GE601.out) | exact HB.out)))); have n6_ := Aside0.mk (blk_below (g := gb584) (o := .cells #[.int .i64 a0_0, .slice A0_1 l0_1.length c0_1] 41 (0, 0)) (by (with_reducible repeat (first | refine blk_drewN ?_ _ | refine blk_drew ?_ | refine blk_alloc ?_ _)); exact BK584.out) hb); have n7_ := Aside0.mk (blk_below (g := gb601) (o := .cells #[.int .i64 t597, .slice Ao33 t598.length co33] 46 (0, 0)) (by (with_reducible repeat (first | refine blk_drewN ?_ _ | refine blk_drew ?_ | refine blk_alloc ?_ _)); exact BK601.out) hb); have n8_ := Aside0.mk (below_step (by repeat (first | (with_reducible first | exact HB.out | apply below_alloc | apply pw_below_drewN | apply below_drew1 | refine below_set ?_ GE584.out | refine below_set ?_ GE601.out) | exact HB.out)) hb); clear HO_10; clear HO_13; clear HO_14; clear HO_602001; clear HO613; clear BK584; clear BK601; clear HB; have HO_10 := n0_; have HO_13 := n1_; have HO_14 := n2_; have HO_602001 := n3_; have HO613 := n4_; have HO617 := n5_; have BK584 := n6_; have BK601 := n7_; have HB := n8_; clear n0_ n1_ n2_ n3_ n4_ n5_ n6_ n7_ n8_; (try clear hb); (try clear hb2); (try clear hk); (try clear hi); (try clear ho0); obtain ⟨Ao59, co59, eo59⟩ := Kd.R_slice HO617.out; subst eo59) | ((with_reducible refine gate_callee (f := 18) rfl ?_); refine goesL_ (some 68) rfl rfl Try.func18 (by kernel_rfl) rfl #[.slice Ao36 t602.length co36, .slice Ao59 t615.length co59] rfl (by (try simp only [List.map_toArray, List.map_cons, List.map_nil]); first | done | rfl | (simp only [List.length_drop, List.length_take]; rfl)) ?_; (with_reducible refine (laws_eqBoolS.calls kj17 _ _ t602 _ _ t615 true _ ?side1 ?side2 ?side3 ?side4 A49.out).mono ?_); (case side1 => repeat (first | exact (Kd.R_reads' HO_13.out).2.2 | (with_reducible refine Kd.C_alloc ?_ _) | (with_reducible refine Kd.C_drewN ?_ _) | (with_reducible refine Kd.C_drew ?_))); (case side2 => exact (Kd.R_reads' HO_13.out).2.1); (case side3 => repeat (first | exact (Kd.R_reads' HO617.out).2.2 | (with_reducible refine Kd.C_alloc ?_ _) | (with_reducible refine Kd.C_drewN ?_ _) | (with_reducible refine Kd.C_drew ?_))); (case side4 => exact (Kd.R_reads' HO617.out).2.1); rintro e w' ⟨rfl, ⟨nd, rfl⟩⟩; refine ⟨_, rfl, ?_⟩; have hnb60 := NB601_584.out; have hnc60 := NB584_601.out; have hcz61_0 : w58.cell? ⟨gb601, 0, none⟩ = some (.int .i64 t597) := (blk_cell BK601.out 0).trans rfl; have hcz61_1 : w58.cell? ⟨gb601, 1, none⟩ = some (.slice Ao33 t598.length co33) := (blk_cell BK601.out 1).trans rfl; have hfz61_0 := blk_frozen BK601.out 0; have hfz61_1 := blk_frozen BK601.out 1) | ((with_reducible refine gate_callee (f := 49) rfl ?_); refine goesL_ (some 72) rfl rfl Try.func49 (by kernel_rfl) rfl #[.agg #[.int .i64 t597, .slice Ao33 t598.length co33], .int .i64 1] rfl (by (try simp only [List.map_toArray, List.map_cons, List.map_nil]); first | done | rfl | (simp only [List.length_drop, List.length_take]; rfl)) ?_; (with_reducible refine (laws_markNet.calls kj17 t597 (fun k_ => some k_ = (.slice Ao33 t598.length co33 : Value).ownBlock) (.slice Ao33 t598.length co33) t598 1 t619 t620 w _ ?side1 ?side2 A51.out).mono ?_); (case side1 => repeat (first | (with_reducible first | exact HB.out | apply below_alloc | apply pw_below_drewN | apply below_drew1 | refine below_set ?_ GE584.out | refine below_set ?_ GE601.out) | exact HB.out)); (case side2 => exact Kd.R_tight rfl HO_602001.out); rintro e w62 ⟨rfl, hy0, hb, hkp⟩; refine ⟨_, rfl, ?_⟩; have n0_ := Aside0.mk (Kd.R_mono (ok' := fun k_ => some k_ ≠ (.slice Ao36 t602.length co36 : Value).ownBlock ∧ some k_ ≠ (v606 : Value).ownBlock ∧ some k_ ≠ (.slice Ao59 t615.length co59 : Value).ownBlock) (Kd.R_keptB ((Kd.R_apart' HO_10.out (Kd.R_typed HO_602001.out) (by decide))) hkp (fun k_ hk_ hs_ => (hk_.2) hs_)) (fun k_ hk_ => ⟨hk_.1.1.1.1, hk_.1.1.1.2, hk_.1.1.2⟩)); have n1_ := Aside0.mk (Kd.R_mono (ok' := fun k_ => some k_ ≠ (v594 : Value).ownBlock ∧ some k_ ≠ (v606 : Value).ownBlock ∧ some k_ ≠ (.slice Ao59 t615.length co59 : Value).ownBlock) (Kd.R_keptB ((Kd.R_apart' HO_13.out (Kd.R_typed HO_602001.out) (by decide))) hkp (fun k_ hk_ hs_ => (hk_.2) hs_)) (fun k_ hk_ => ⟨hk_.1.1.1.1, hk_.1.1.1.2, hk_.1.1.2⟩)); have n2_ := Aside0.mk (Kd.R_mono (ok' := fun k_ => some k_ ≠ (v594 : Value).ownBlock ∧ some k_ ≠ (.slice Ao36 t602.length co36 : Value).ownBlock ∧ some k_ ≠ (.slice Ao59 t615.length co59 : Value).ownBlock) (Kd.R_keptB ((Kd.R_apart' HO_14.out (Kd.R_typed HO_602001.out) (by decide))) hkp (fun k_ hk_ hs_ => (hk_.2) hs_)) (fun k_ hk_ => ⟨hk_.1.1.1.1, hk_.1.1.1.2, hk_.1.1.2⟩)); have n3_ := Aside0.mk (Kd.R_reok rfl hy0 (fun k_ e_ => HO_602001.out.1 k_ e_)); have n4_ := Aside0.mk (blk_kept (by (with_reducible repeat (first | refine blk_drewN ?_ _ | refine blk_drew ?_ | refine blk_alloc ?_ _)); exact BK584.out) hkp (fun hs_ => (fun e_ => (Kd.R_ne HO_602001.out BK584.out (by decide)) e_) hs_)); have n5_ := Aside0.mk (blk_kept (by (with_reducible repeat (first | refine blk_drewN ?_ _ | refine blk_drew ?_ | refine blk_alloc ?_ _)); exact BK601.out) hkp (fun hs_ => (fun e_ => (Kd.R_ne HO_602001.out BK601.out (by decide)) e_) hs_)); have n6_ := Aside0.mk (Kd.R_mono (ok' := fun k_ => some k_ ≠ (.slice Ao33 t598.length co33 : Value).ownBlock) (Kd.R_keptB (HO613.out) hkp (fun k_ hk_ hs_ => (hk_.2) hs_)) (fun k_ hk_ => hk_.1.2)); have n7_ := Aside0.mk (Kd.R_mono (ok' := fun k_ => some k_ ≠ (v594 : Value).ownBlock ∧ some k_ ≠ (.slice Ao36 t602.length co36 : Value).ownBlock ∧ some k_ ≠ (v606 : Value).ownBlock) (Kd.R_keptB ((Kd.R_apart' HO617.out (Kd.R_typed HO_602001.out) (by decide))) hkp (fun k_ hk_ hs_ => (hk_.2) hs_)) (fun k_ hk_ => ⟨hk_.1.1.1.1.2, hk_.1.1.1.2, hk_.1.1.2⟩)); have n8_ := Aside0.mk (hb); clear HO_10; clear HO_13; clear HO_14; clear HO_602001; clear BK584; clear BK601; clear HO613; clear HO617; clear HB; have HO_10 := n0_; have HO_13 := n1_; have HO_14 := n2_; have HO_602001 := n3_; have BK584 := n4_; have BK601 := n5_; have HO613 := n6_; have HO617 := n7_; have HB := n8_; clear n0_ n1_ n2_ n3_ n4_ n5_ n6_ n7_ n8_; (try clear hb); (try clear hkp); (try clear hy0)) | ((with_reducible refine gate_callee (f := 21) rfl ?_); refine goesL_ (some 75) rfl rfl Try.func21 (by kernel_rfl) rfl #[.slice Ao36 t602.length co36, .int .i64 t619] rfl (by (try simp only [List.map_toArray, List.map_cons, List.map_nil]); first | done | rfl | (simp only [List.length_drop, List.length_take]; rfl)) ?_; (with_reducible refine (laws_markBoolS.calls kj17 (fun k_ => some k_ = (.slice Ao36 t602.length co36 : Value).ownBlock) (.slice Ao36 t602.length co36) t602 t619 t621 t622 w _ ?side1 ?side2 A52.out).mono ?_); (case side1 => repeat (first | (with_reducible first | exact HB.out | apply below_alloc | apply pw_below_drewN | apply below_drew1 | refine below_set ?_ GE584.out | refine below_set ?_ GE601.out) | exact HB.out)); (case side2 => exact Kd.R_tight rfl HO_13.out); rintro e w63 ⟨rfl, hy0, hb, hkp⟩; refine ⟨_, rfl, ?_⟩; have n0_ := Aside0.mk (Kd.R_mono (ok' := fun k_ => some k_ ≠ (.slice Ao36 t602.length co36 : Value).ownBlock ∧ some k_ ≠ (v606 : Value).ownBlock ∧ some k_ ≠ (.slice Ao59 t615.length co59 : Value).ownBlock) (Kd.R_keptB (HO_10.out) hkp (fun k_ hk_ hs_ => (hk_.1) hs_)) (fun k_ hk_ => ⟨hk_.1.1, hk_.1.2.1, hk_.1.2.2⟩)); have n1_ := Aside0.mk (Kd.R_reok rfl hy0 (fun k_ e_ => HO_13.out.1 k_ e_)); have n2_ := Aside0.mk (Kd.R_mono (ok' := fun k_ => some k_ ≠ (v594 : Value).ownBlock ∧ some k_ ≠ (.slice Ao36 t602.length co36 : Value).ownBlock ∧ some k_ ≠ (.slice Ao59 t615.length co59 : Value).ownBlock) (Kd.R_keptB (HO_14.out) hkp (fun k_ hk_ hs_ => (hk_.2.1) hs_)) (fun k_ hk_ => ⟨hk_.1.1, hk_.1.2.1, hk_.1.2.2⟩)); have n3_ := Aside0.mk (Kd.R_mono (ok' := fun k_ => some k_ ≠ (.slice Ao56 t611.length co56 : Value).ownBlock) (Kd.R_keptB ((Kd.R_apart' HO_602001.out (Kd.R_typed HO_13.out) (by decide))) hkp (fun k_ hk_ hs_ => (hk_.2) hs_)) (fun k_ hk_ => hk_.1.1.2)); have n4_ := Aside0.mk (blk_kept (by (with_reducible repeat (first | refine blk_drewN ?_ _ | refine blk_drew ?_ | refine blk_alloc ?_ _)); exact BK584.out) hkp (fun hs_ => (fun e_ => (Kd.R_ne HO_13.out BK584.out (by decide)) e_) hs_)); have n5_ := Aside0.mk (blk_kept (by (with_reducible repeat (first | refine blk_drewN ?_ _ | refine blk_drew ?_ | refine blk_alloc ?_ _)); exact BK601.out) hkp (fun hs_ => (fun e_ => (Kd.R_ne HO_13.out BK601.out (by decide)) e_) hs_)); have n6_ := Aside0.mk (Kd.R_mono (ok' := fun k_ => some k_ ≠ (.slice Ao33 t598.length co33 : Value).ownBlock) (Kd.R_keptB ((Kd.R_apart' HO613.out (Kd.R_typed HO_13.out) (by decide))) hkp (fun k_ hk_ hs_ => (hk_.2) hs_)) (fun k_ hk_ => hk_.1.1)); have n7_ := Aside0.mk (Kd.R_mono (ok' := fun k_ => some k_ ≠ (v594 : Value).ownBlock ∧ some k_ ≠ (.slice Ao36 t602.length co36 : Value).ownBlock ∧ some k_ ≠ (v606 : Value).ownBlock) (Kd.R_keptB (HO617.out) hkp (fun k_ hk_ hs_ => (hk_.2.1) hs_)) (fun k_ hk_ => ⟨hk_.1.1, hk_.1.2.1, hk_.1.2.2⟩)); have n8_ := Aside0.mk (hb); clear HO_10; clear HO_13; clear HO_14; clear HO_602001; clear BK584; clear BK601; clear HO613; clear HO617; clear HB; have HO_10 := n0_; have HO_13 := n1_; have HO_14 := n2_; have HO_602001 := n3_; have BK584 := n4_; have BK601 := n5_; have HO613 := n6_; have HO617 := n7_; have HB := n8_; clear n0_ n1_ n2_ n3_ n4_ n5_ n6_ n7_ n8_; (try clear hb); (try clear hkp); (try clear hy0)))
                (try simp only [Act.put, List.setIfInBounds_toArray, List.set_cons_zero, List.set_cons_succ])
                go_cut [88] (fun v88 wc => ∃ (kq : Nat) (x88_52 : Bool), v88 = .bool x88_52 ∧ Aside0 (laws_FnExactSwitchLine.j1 kq l1 a2 a3 t593 t596 t605 x88_52 a0_0 l0_1 = some r) ∧ Aside0 (kq ≤ kj17) ∧ Aside0 (Kd.R Kd.bool 4 wc w.heap.size (fun k_ => some k_ ≠ (v606 : Value).ownBlock) v594 t593) ∧ Aside0 (Kd.R Kd.bool 4 wc w.heap.size (fun k_ => some k_ ≠ (v594 : Value).ownBlock) v606 t605) ∧ Aside0 (Kd.R k70 70 wc w.heap.size (fun _ => True) (.slice Ao33 t598.length co33) t620) ∧ Aside0 (wc.heap[gb584]? = some (.cells #[.int .i64 a0_0, (.slice A0_1 l0_1.length c0_1)] 41 (0, 0))) ∧ Aside0 (wc.heap[gb601]? = some (.cells #[.int .i64 t597, (.slice Ao33 t598.length co33)] 46 (0, 0))) ∧ Aside0 (Below w.heap.size w wc))
                case first =>
                  have H := HC53.out
                  clear HC53
                  by_cases c64 : t621 < 0
                  · rw [if_pos c64] at H
                    have c64b0 : decide (t621 < 0) = true := decide_eq_true c64
                    clear c64
                    (first | rw [c64b0] | (simp only [i64_w, i32_w]; rw [c64b0]) | skip)
                    have H' := Aside0.mk H
                    clear H
                    go_wp2
                    go_meet
                    case rel => exact ⟨_, (true), (by first | rfl | (simp; done) | (simp [*]; done)), H', ⟨by have := HJ17.out; first | omega | exact Nat.le_refl _⟩, ⟨by (with_reducible repeat (first | apply Kd.R_alloc | apply Kd.R_drewN | apply Kd.R_drew)); exact Kd.R_mono HO_10.out (fun _ hk => hk.2.1)⟩, ⟨by (with_reducible repeat (first | apply Kd.R_alloc | apply Kd.R_drewN | apply Kd.R_drew)); exact Kd.R_mono HO_14.out (fun _ hk => hk.1)⟩, ⟨by (with_reducible repeat (first | apply Kd.R_alloc | apply Kd.R_drewN | apply Kd.R_drew)); exact Kd.R_mono HO_602001.out (fun _ hk => trivial)⟩, ⟨by (with_reducible repeat (first | refine blk_drewN ?_ _ | refine blk_drew ?_ | refine blk_alloc ?_ _)); exact BK584.out⟩, ⟨by (with_reducible repeat (first | refine blk_drewN ?_ _ | refine blk_drew ?_ | refine blk_alloc ?_ _)); exact BK601.out⟩, ⟨by repeat (first | (with_reducible first | exact HB.out | apply below_alloc | apply pw_below_drewN | apply below_drew1 | refine below_set ?_ GE584.out | refine below_set ?_ GE601.out) | exact HB.out)⟩⟩
                  · rw [if_neg c64] at H
                    have c64b0 : decide (t621 < 0) = false := decide_eq_false c64
                    clear c64
                    (first | rw [c64b0] | (simp only [i64_w, i32_w]; rw [c64b0]) | skip)
                    replace H := Option.bind_eq_some_iff.mp H
                    obtain ⟨t623, A650, H⟩ := H
                    replace H : (if t623 = true then (laws_FnExactSwitchLine.j1 kj17 l1 a2 a3 t593 t596 t605 (t608 != t596) a0_0 l0_1) else (laws_FnExactSwitchLine.j1 kj17 l1 a2 a3 t593 t596 t605 true a0_0 l0_1)) = some r := H
                    have A65 := Aside0.mk A650
                    clear A650
                    by_cases c66 : t623 = true
                    · subst c66
                      have H1 : (laws_FnExactSwitchLine.j1 kj17 l1 a2 a3 t593 t596 t605 (t608 != t596) a0_0 l0_1) = some r := by rw [if_pos rfl] at H; exact H
                      clear H
                      have H := H1
                      clear H1
                      have H' := Aside0.mk H
                      clear H
                      obtain ⟨Ao67, co67, eo67⟩ := Kd.R_slice HO_14.out
                      subst eo67
                      obtain ⟨Ao68, co68, eo68⟩ := Kd.R_slice HO_10.out
                      subst eo68
                      go_wp2_with (first | (go_at_call 18; (with_reducible refine (laws_eqBoolS.calls kj17 _ _ t605 _ _ t593 true _ ?side1 ?side2 ?side3 ?side4 A65.out).mono ?_); (case side1 => repeat (first | exact (Kd.R_reads' HO_14.out).2.2 | (with_reducible refine Kd.C_alloc ?_ _) | (with_reducible refine Kd.C_drewN ?_ _) | (with_reducible refine Kd.C_drew ?_))); (case side2 => exact (Kd.R_reads' HO_14.out).2.1); (case side3 => repeat (first | exact (Kd.R_reads' HO_10.out).2.2 | (with_reducible refine Kd.C_alloc ?_ _) | (with_reducible refine Kd.C_drewN ?_ _) | (with_reducible refine Kd.C_drew ?_))); (case side4 => exact (Kd.R_reads' HO_10.out).2.1); rintro e w' ⟨rfl, ⟨nd, rfl⟩⟩))
                      go_meet
                      case rel => exact ⟨_, ((t608 != t596)), (by first | rfl | (simp; done) | (simp [*]; done)), H', ⟨by have := HJ17.out; first | omega | exact Nat.le_refl _⟩, ⟨by (with_reducible repeat (first | apply Kd.R_alloc | apply Kd.R_drewN | apply Kd.R_drew)); exact Kd.R_mono HO_10.out (fun _ hk => hk.2.1)⟩, ⟨by (with_reducible repeat (first | apply Kd.R_alloc | apply Kd.R_drewN | apply Kd.R_drew)); exact Kd.R_mono HO_14.out (fun _ hk => hk.1)⟩, ⟨by (with_reducible repeat (first | apply Kd.R_alloc | apply Kd.R_drewN | apply Kd.R_drew)); exact Kd.R_mono HO_602001.out (fun _ hk => trivial)⟩, ⟨by (with_reducible repeat (first | refine blk_drewN ?_ _ | refine blk_drew ?_ | refine blk_alloc ?_ _)); exact BK584.out⟩, ⟨by (with_reducible repeat (first | refine blk_drewN ?_ _ | refine blk_drew ?_ | refine blk_alloc ?_ _)); exact BK601.out⟩, ⟨by repeat (first | (with_reducible first | exact HB.out | apply below_alloc | apply pw_below_drewN | apply below_drew1 | refine below_set ?_ GE584.out | refine below_set ?_ GE601.out) | exact HB.out)⟩⟩
                    · replace c66 := Bool.eq_false_iff.mpr c66
                      subst c66
                      have H1 : (laws_FnExactSwitchLine.j1 kj17 l1 a2 a3 t593 t596 t605 true a0_0 l0_1) = some r := by rw [if_neg (show ¬ (false = true) by decide)] at H; exact H
                      clear H
                      have H := H1
                      clear H1
                      have H' := Aside0.mk H
                      clear H
                      obtain ⟨Ao69, co69, eo69⟩ := Kd.R_slice HO_14.out
                      subst eo69
                      obtain ⟨Ao70, co70, eo70⟩ := Kd.R_slice HO_10.out
                      subst eo70
                      go_wp2_with (first | (go_at_call 18; (with_reducible refine (laws_eqBoolS.calls kj17 _ _ t605 _ _ t593 false _ ?side1 ?side2 ?side3 ?side4 A65.out).mono ?_); (case side1 => repeat (first | exact (Kd.R_reads' HO_14.out).2.2 | (with_reducible refine Kd.C_alloc ?_ _) | (with_reducible refine Kd.C_drewN ?_ _) | (with_reducible refine Kd.C_drew ?_))); (case side2 => exact (Kd.R_reads' HO_14.out).2.1); (case side3 => repeat (first | exact (Kd.R_reads' HO_10.out).2.2 | (with_reducible refine Kd.C_alloc ?_ _) | (with_reducible refine Kd.C_drewN ?_ _) | (with_reducible refine Kd.C_drew ?_))); (case side4 => exact (Kd.R_reads' HO_10.out).2.1); rintro e w' ⟨rfl, ⟨nd, rfl⟩⟩))
                      go_meet
                      case rel => exact ⟨_, (true), (by first | rfl | (simp; done) | (simp [*]; done)), H', ⟨by have := HJ17.out; first | omega | exact Nat.le_refl _⟩, ⟨by (with_reducible repeat (first | apply Kd.R_alloc | apply Kd.R_drewN | apply Kd.R_drew)); exact Kd.R_mono HO_10.out (fun _ hk => hk.2.1)⟩, ⟨by (with_reducible repeat (first | apply Kd.R_alloc | apply Kd.R_drewN | apply Kd.R_drew)); exact Kd.R_mono HO_14.out (fun _ hk => hk.1)⟩, ⟨by (with_reducible repeat (first | apply Kd.R_alloc | apply Kd.R_drewN | apply Kd.R_drew)); exact Kd.R_mono HO_602001.out (fun _ hk => trivial)⟩, ⟨by (with_reducible repeat (first | refine blk_drewN ?_ _ | refine blk_drew ?_ | refine blk_alloc ?_ _)); exact BK584.out⟩, ⟨by (with_reducible repeat (first | refine blk_drewN ?_ _ | refine blk_drew ?_ | refine blk_alloc ?_ _)); exact BK601.out⟩, ⟨by repeat (first | (with_reducible first | exact HB.out | apply below_alloc | apply pw_below_drewN | apply below_drew1 | refine below_set ?_ GE584.out | refine below_set ?_ GE601.out) | exact HB.out)⟩⟩
                case rest =>
                  clear HC53
                  try clear c1
                  try clear c2
                  try clear p2
                  try clear c3
                  try clear c4
                  try clear c5
                  try clear c5b0
                  try clear c5b1
                  try clear c6
                  try clear c8
                  try clear c8b0
                  try clear c14
                  try clear c16
                  try clear c18
                  try clear c21
                  try clear c31
                  try clear c33
                  try clear c35
                  try clear c39
                  try clear c44
                  try clear c47
                  try clear c49
                  try clear c50
                  try clear c51
                  try clear c60
                  try clear c64
                  try clear c64b0
                  try clear c66
                  try clear hcz10_0
                  try clear hcz10_1
                  try clear hcz20_0
                  try clear hcz20_1
                  try clear hcz22_0
                  try clear hcz22_1
                  try clear hcz28_0
                  try clear hcz28_1
                  try clear hcz32_0
                  try clear hcz32_1
                  try clear hcz35_0
                  try clear hcz35_1
                  try clear hcz61_0
                  try clear hcz61_1
                  try clear hfz10_0
                  try clear hfz10_1
                  try clear hfz20_0
                  try clear hfz20_1
                  try clear hfz22_0
                  try clear hfz22_1
                  try clear hfz28_0
                  try clear hfz28_1
                  try clear hfz32_0
                  try clear hfz32_1
                  try clear hfz35_0
                  try clear hfz35_1
                  try clear hfz61_0
                  try clear hfz61_1
                  try clear p2
                  obtain ⟨kq, x88_52, rfl, HA, HJ52, HO_10, HO_14, HO_602001, BK584, BK601, HB⟩ := hcut
                  have hl602001_52 := (Kd.R_reads' HO_602001.out).1
                  rw [hl602001_52] at HO_602001
                  (try simp only [hl602001_52])
                  (try simp only [hl602001_52] at BK584)
                  (try simp only [hl602001_52] at BK601)
                  (try simp only [hl602001_52] at HO_10)
                  (try simp only [hl602001_52] at HO_14)
                  cases kq with
                  | zero => exact absurd HA.out (by simp [laws_FnExactSwitchLine.j1])
                  | succ kj52 =>
                    have H := HA.out
                    clear HA
                    simp only [laws_FnExactSwitchLine.j1] at H
                    by_cases c71 : x88_52 = true
                    · subst c71
                      have H1 : (none) = some r := by rw [if_pos rfl] at H; exact H
                      clear H
                      have H := H1
                      clear H1
                      exact absurd H (by simp)
                    · replace c71 := Bool.eq_false_iff.mpr c71
                      subst c71
                      have H1 : ((laws_markBoolS.f kj52 t605 1).bind fun bt624 => ((laws_heldBoolS.f kj52 bt624.2 1).bind fun t626 => (if t626 < 0 then (none) else (if t626 = bt624.1 then ((laws_toNet.f kj52 a0_0 l0_1).bind fun bt627 => ((laws_toBoolS.f kj52 l1).bind fun t631 => ((impl_SwitchLine.f kj52 bt627.1 bt627.2 t631 a2 a3).bind fun bt634 => ((laws_eqBoolS.f kj52 bt634.1 t593).bind fun t638 => (if t638 = true then (laws_FnExactSwitchLine.j2 kj52 bt624.2 bt624.1 (bt634.2 != t596)) else (laws_FnExactSwitchLine.j2 kj52 bt624.2 bt624.1 true)))))) else (none))))) = some r := by rw [if_neg (show ¬ (false = true) by decide)] at H; exact H
                      clear H
                      have H := H1
                      clear H1
                      replace H := Option.bind_eq_some_iff.mp H
                      obtain ⟨⟨t624, t625⟩, A720, H⟩ := H
                      replace H : ((laws_heldBoolS.f kj52 t625 1).bind fun t626 => (if t626 < 0 then (none) else (if t626 = t624 then ((laws_toNet.f kj52 a0_0 l0_1).bind fun bt627 => ((laws_toBoolS.f kj52 l1).bind fun t631 => ((impl_SwitchLine.f kj52 bt627.1 bt627.2 t631 a2 a3).bind fun bt634 => ((laws_eqBoolS.f kj52 bt634.1 t593).bind fun t638 => (if t638 = true then (laws_FnExactSwitchLine.j2 kj52 t625 t624 (bt634.2 != t596)) else (laws_FnExactSwitchLine.j2 kj52 t625 t624 true)))))) else (none)))) = some r := H
                      have A72 := Aside0.mk A720
                      clear A720
                      replace H := Option.bind_eq_some_iff.mp H
                      obtain ⟨t626, A730, H⟩ := H
                      replace H : (if t626 < 0 then (none) else (if t626 = t624 then ((laws_toNet.f kj52 a0_0 l0_1).bind fun bt627 => ((laws_toBoolS.f kj52 l1).bind fun t631 => ((impl_SwitchLine.f kj52 bt627.1 bt627.2 t631 a2 a3).bind fun bt634 => ((laws_eqBoolS.f kj52 bt634.1 t593).bind fun t638 => (if t638 = true then (laws_FnExactSwitchLine.j2 kj52 t625 t624 (bt634.2 != t596)) else (laws_FnExactSwitchLine.j2 kj52 t625 t624 true)))))) else (none))) = some r := H
                      have A73 := Aside0.mk A730
                      clear A730
                      by_cases c74 : t626 < 0
                      · rw [if_pos c74] at H
                        exact absurd H (by simp)
                      · rw [if_neg c74] at H
                        have c74b0 : decide (t626 < 0) = false := decide_eq_false c74
                        clear c74
                        by_cases c75 : t626 = t624
                        · rw [if_pos c75] at H
                          have c75b0 : (t626 == t624) = true := beq_iff_eq.mpr c75
                          have c75b1 : (t626 != t624) = false := bne_eq_false_iff_eq.mpr c75
                          clear c75
                          replace H := Option.bind_eq_some_iff.mp H
                          obtain ⟨⟨t627, t628⟩, A760, H⟩ := H
                          replace H : ((laws_toBoolS.f kj52 l1).bind fun t631 => ((impl_SwitchLine.f kj52 t627 t628 t631 a2 a3).bind fun bt634 => ((laws_eqBoolS.f kj52 bt634.1 t593).bind fun t638 => (if t638 = true then (laws_FnExactSwitchLine.j2 kj52 t625 t624 (bt634.2 != t596)) else (laws_FnExactSwitchLine.j2 kj52 t625 t624 true))))) = some r := H
                          have A76 := Aside0.mk A760
                          clear A760
                          replace H := Option.bind_eq_some_iff.mp H
                          obtain ⟨t631, A770, H⟩ := H
                          replace H : ((impl_SwitchLine.f kj52 t627 t628 t631 a2 a3).bind fun bt634 => ((laws_eqBoolS.f kj52 bt634.1 t593).bind fun t638 => (if t638 = true then (laws_FnExactSwitchLine.j2 kj52 t625 t624 (bt634.2 != t596)) else (laws_FnExactSwitchLine.j2 kj52 t625 t624 true)))) = some r := H
                          have A77 := Aside0.mk A770
                          clear A770
                          replace H := Option.bind_eq_some_iff.mp H
                          obtain ⟨⟨t634, t637⟩, A780, H⟩ := H
                          replace H : ((laws_eqBoolS.f kj52 t634 t593).bind fun t638 => (if t638 = true then (laws_FnExactSwitchLine.j2 kj52 t625 t624 (t637 != t596)) else (laws_FnExactSwitchLine.j2 kj52 t625 t624 true))) = some r := H
                          have A78 := Aside0.mk A780
                          clear A780
                          have HC79 := Aside0.mk H
                          clear H
                          obtain ⟨Ao80, co80, eo80⟩ := Kd.R_slice HO_14.out
                          subst eo80
                          go_upto_region 31 with (first | ((with_reducible refine gate_callee (f := 21) rfl ?_); refine goesL_ (some 91) rfl rfl Try.func21 (by kernel_rfl) rfl #[.slice Ao80 t605.length co80, .int .i64 1] rfl (by (try simp only [List.map_toArray, List.map_cons, List.map_nil]); first | done | rfl | (simp only [List.length_drop, List.length_take]; rfl)) ?_; (with_reducible refine (laws_markBoolS.calls kj52 (fun k_ => some k_ = (.slice Ao80 t605.length co80 : Value).ownBlock) (.slice Ao80 t605.length co80) t605 1 t624 t625 w _ ?side1 ?side2 A72.out).mono ?_); (case side1 => repeat (first | (with_reducible first | exact HB.out | apply below_alloc | apply pw_below_drewN | apply below_drew1 | refine below_set ?_ GE584.out | refine below_set ?_ GE601.out) | exact HB.out)); (case side2 => exact Kd.R_tight rfl HO_14.out); rintro e w81 ⟨rfl, hy0, hb, hkp⟩; refine ⟨_, rfl, ?_⟩; have n0_ := Aside0.mk (Kd.R_mono (ok' := fun k_ => some k_ ≠ (.slice Ao80 t605.length co80 : Value).ownBlock) (Kd.R_keptB (HO_10.out) hkp (fun k_ hk_ hs_ => (hk_) hs_)) (fun k_ hk_ => hk_.1)); have n1_ := Aside0.mk (Kd.R_reok rfl hy0 (fun k_ e_ => HO_14.out.1 k_ e_)); have n2_ := Aside0.mk (Kd.R_mono (ok' := fun k_ => True) (Kd.R_keptB ((Kd.R_apart' HO_602001.out (Kd.R_typed HO_14.out) (by decide))) hkp (fun k_ hk_ hs_ => (hk_.2) hs_)) (fun k_ hk_ => trivial)); have n3_ := Aside0.mk (blk_kept (by (with_reducible repeat (first | refine blk_drewN ?_ _ | refine blk_drew ?_ | refine blk_alloc ?_ _)); exact BK584.out) hkp (fun hs_ => (fun e_ => (Kd.R_ne HO_14.out BK584.out (by decide)) e_) hs_)); have n4_ := Aside0.mk (blk_kept (by (with_reducible repeat (first | refine blk_drewN ?_ _ | refine blk_drew ?_ | refine blk_alloc ?_ _)); exact BK601.out) hkp (fun hs_ => (fun e_ => (Kd.R_ne HO_14.out BK601.out (by decide)) e_) hs_)); have n5_ := Aside0.mk (hb); clear HO_10; clear HO_14; clear HO_602001; clear BK584; clear BK601; clear HB; have HO_10 := n0_; have HO_14 := n1_; have HO_602001 := n2_; have BK584 := n3_; have BK601 := n4_; have HB := n5_; clear n0_ n1_ n2_ n3_ n4_ n5_; (try clear hb); (try clear hkp); (try clear hy0)) | ((with_reducible refine gate_callee (f := 22) rfl ?_); refine goesL_ (some 94) rfl rfl Try.func22 (by kernel_rfl) rfl #[.slice Ao80 t625.length co80, .int .i64 1] rfl (by (try simp only [List.map_toArray, List.map_cons, List.map_nil]); first | done | (rw [show t625.length = t605.length from (Kd.R_reads' HO_14.out).1.symm] <;> rfl) | rfl | (simp only [List.length_drop, List.length_take]; rfl)) ?_; (with_reducible refine (laws_heldBoolS.calls kj52 _ _ t625 1 t626 _ ?side1 ?side2 A73.out).mono ?_); (case side1 => repeat (first | exact (Kd.R_reads' HO_14.out).2.2 | (with_reducible refine Kd.C_alloc ?_ _) | (with_reducible refine Kd.C_drewN ?_ _) | (with_reducible refine Kd.C_drew ?_))); (case side2 => rw [show t625.length = t605.length from (Kd.R_reads' HO_14.out).1.symm]; exact (Kd.R_reads' HO_14.out).2.1); rintro e w' ⟨rfl, ⟨nd, rfl⟩⟩; refine ⟨_, rfl, ?_⟩; have hnb82 := NB584_601.out; have hnc82 := NB601_584.out; have hcz83_0 : w81.cell? ⟨gb584, 0, none⟩ = some (.int .i64 a0_0) := (blk_cell BK584.out 0).trans rfl; have hcz83_1 : w81.cell? ⟨gb584, 1, none⟩ = some (.slice A0_1 l0_1.length c0_1) := (blk_cell BK584.out 1).trans rfl; have hfz83_0 := blk_frozen BK584.out 0; have hfz83_1 := blk_frozen BK584.out 1) | ((with_reducible refine gate_callee (f := 33) rfl ?_); refine goesL_ (some 102) rfl rfl Try.func33 (by kernel_rfl) rfl #[.agg #[.int .i64 a0_0, .slice A0_1 l0_1.length c0_1]] rfl (by (try simp only [List.map_toArray, List.map_cons, List.map_nil]); first | done | rfl | (simp only [List.length_drop, List.length_take]; rfl)) ?_; (with_reducible refine (laws_toNet.calls kj52 a0_0 _ _ l0_1 t627 t628 _ ?side1 ?side2 A76.out).mono ?_); (case side1 => repeat (first | exact (Kd.C_below HR0_1.out (by repeat (first | (with_reducible first | exact HB.out | apply below_alloc | apply pw_below_drewN | apply below_drew1 | refine below_set ?_ GE584.out | refine below_set ?_ GE601.out) | exact HB.out))) | (with_reducible refine Kd.C_alloc ?_ _) | (with_reducible refine Kd.C_drewN ?_ _) | (with_reducible refine Kd.C_drew ?_))); (case side2 => exact HC0_1.out); rintro e w84 ⟨v629, rfl, ho0, hb⟩; refine ⟨_, rfl, ?_⟩; have n0_ := Aside0.mk (Kd.R_below (by (with_reducible repeat (first | apply Kd.R_alloc | apply Kd.R_drewN | apply Kd.R_drew)); exact HO_10.out) hb); have n1_ := Aside0.mk (Kd.R_below (by (with_reducible repeat (first | apply Kd.R_alloc | apply Kd.R_drewN | apply Kd.R_drew)); exact HO_14.out) hb); have n2_ := Aside0.mk (Kd.R_elder' (by (with_reducible repeat (first | apply Kd.R_alloc | apply Kd.R_drewN | apply Kd.R_drew)); exact HO_602001.out) (Kd.R_base ho0) hb); have n3_ := Aside0.mk (Kd.R_lower (Kd.R_new' ho0 (Kd.R_lt (by (with_reducible repeat (first | apply Kd.R_alloc | apply Kd.R_drewN | apply Kd.R_drew)); exact HO_602001.out))) (below_size (by repeat (first | (with_reducible first | exact HB.out | apply below_alloc | apply pw_below_drewN | apply below_drew1 | refine below_set ?_ GE584.out | refine below_set ?_ GE601.out) | exact HB.out)))); have n4_ := Aside0.mk (blk_below (g := gb584) (o := .cells #[.int .i64 a0_0, .slice A0_1 l0_1.length c0_1] 41 (0, 0)) (by (with_reducible repeat (first | refine blk_drewN ?_ _ | refine blk_drew ?_ | refine blk_alloc ?_ _)); exact BK584.out) hb); have n5_ := Aside0.mk (blk_below (g := gb601) (o := .cells #[.int .i64 t597, .slice Ao33 t620.length co33] 46 (0, 0)) (by (with_reducible repeat (first | refine blk_drewN ?_ _ | refine blk_drew ?_ | refine blk_alloc ?_ _)); exact BK601.out) hb); have n6_ := Aside0.mk (below_step (by repeat (first | (with_reducible first | exact HB.out | apply below_alloc | apply pw_below_drewN | apply below_drew1 | refine below_set ?_ GE584.out | refine below_set ?_ GE601.out) | exact HB.out)) hb); clear HO_10; clear HO_14; clear HO_602001; clear BK584; clear BK601; clear HB; have HO_10 := n0_; have HO_14 := n1_; have HO_602001 := n2_; have HO630 := n3_; have BK584 := n4_; have BK601 := n5_; have HB := n6_; clear n0_ n1_ n2_ n3_ n4_ n5_ n6_; (try clear hb); (try clear hb2); (try clear hk); (try clear hi); (try clear ho0)) | ((with_reducible refine gate_callee (f := 16) rfl ?_); refine goesL_ (some 104) rfl rfl Try.func16 (by kernel_rfl) rfl #[.slice A1 l1.length c1] rfl (by (try simp only [List.map_toArray, List.map_cons, List.map_nil]); first | done | rfl | (simp only [List.length_drop, List.length_take]; rfl)) ?_; (with_reducible refine (laws_toBoolS.calls kj52 _ _ l1 t631 _ ?side1 ?side2 A77.out).mono ?_); (case side1 => repeat (first | exact (Kd.C_below HR1.out HB.out) | (with_reducible refine Kd.C_alloc ?_ _) | (with_reducible refine Kd.C_drewN ?_ _) | (with_reducible refine Kd.C_drew ?_))); (case side2 => exact HC1.out); rintro e w85 ⟨v632, rfl, ho0, hb⟩; refine ⟨_, rfl, ?_⟩; have n0_ := Aside0.mk (Kd.R_elder' (by (with_reducible repeat (first | apply Kd.R_alloc | apply Kd.R_drewN | apply Kd.R_drew)); exact HO_10.out) (Kd.R_base ho0) hb); have n1_ := Aside0.mk (Kd.R_elder' (by (with_reducible repeat (first | apply Kd.R_alloc | apply Kd.R_drewN | apply Kd.R_drew)); exact HO_14.out) (Kd.R_base ho0) hb); have n2_ := Aside0.mk (Kd.R_below (by (with_reducible repeat (first | apply Kd.R_alloc | apply Kd.R_drewN | apply Kd.R_drew)); exact HO_602001.out) hb); have n3_ := Aside0.mk (Kd.R_below (by (with_reducible repeat (first | apply Kd.R_alloc | apply Kd.R_drewN | apply Kd.R_drew)); exact HO630.out) hb); have n4_ := Aside0.mk (Kd.R_lower (Kd.R_new' (Kd.R_new' ho0 (Kd.R_lt (by (with_reducible repeat (first | apply Kd.R_alloc | apply Kd.R_drewN | apply Kd.R_drew)); exact HO_10.out))) (Kd.R_lt (by (with_reducible repeat (first | apply Kd.R_alloc | apply Kd.R_drewN | apply Kd.R_drew)); exact HO_14.out))) (below_size (by repeat (first | (with_reducible first | exact HB.out | apply below_alloc | apply pw_below_drewN | apply below_drew1 | refine below_set ?_ GE584.out | refine below_set ?_ GE601.out) | exact HB.out)))); have n5_ := Aside0.mk (blk_below (g := gb584) (o := .cells #[.int .i64 a0_0, .slice A0_1 l0_1.length c0_1] 41 (0, 0)) (by (with_reducible repeat (first | refine blk_drewN ?_ _ | refine blk_drew ?_ | refine blk_alloc ?_ _)); exact BK584.out) hb); have n6_ := Aside0.mk (blk_below (g := gb601) (o := .cells #[.int .i64 t597, .slice Ao33 t620.length co33] 46 (0, 0)) (by (with_reducible repeat (first | refine blk_drewN ?_ _ | refine blk_drew ?_ | refine blk_alloc ?_ _)); exact BK601.out) hb); have n7_ := Aside0.mk (below_step (by repeat (first | (with_reducible first | exact HB.out | apply below_alloc | apply pw_below_drewN | apply below_drew1 | refine below_set ?_ GE584.out | refine below_set ?_ GE601.out) | exact HB.out)) hb); clear HO_10; clear HO_14; clear HO_602001; clear HO630; clear BK584; clear BK601; clear HB; have HO_10 := n0_; have HO_14 := n1_; have HO_602001 := n2_; have HO630 := n3_; have HO633 := n4_; have BK584 := n5_; have BK601 := n6_; have HB := n7_; clear n0_ n1_ n2_ n3_ n4_ n5_ n6_ n7_; (try clear hb); (try clear hb2); (try clear hk); (try clear hi); (try clear ho0); obtain ⟨Ao86, co86, eo86⟩ := Kd.R_slice HO630.out; subst eo86; obtain ⟨Ao87, co87, eo87⟩ := Kd.R_slice HO633.out; subst eo87) | ((with_reducible refine gate_callee (f := 51) rfl ?_); refine goesL_ (some 107) rfl rfl Try.func51 (by kernel_rfl) rfl #[.agg #[.int .i64 t627, .slice Ao86 t628.length co86], .slice Ao87 t631.length co87, .int .i64 a2, .bool a3] rfl (by (try simp only [List.map_toArray, List.map_cons, List.map_nil]); first | done | rfl | (simp only [List.length_drop, List.length_take]; rfl)) ?_; (with_reducible refine (impl_SwitchLine.calls kj52 t627 _ _ t628 _ _ t631 a2 a3 t634 t637 _ ?side1 ?side2 ?side3 ?side4 A78.out).mono ?_); (case side1 => repeat (first | exact (Kd.R_reads' HO630.out).2.2 | (with_reducible refine Kd.C_alloc ?_ _) | (with_reducible refine Kd.C_drewN ?_ _) | (with_reducible refine Kd.C_drew ?_))); (case side2 => exact (Kd.R_reads' HO630.out).2.1); (case side3 => repeat (first | exact (Kd.R_reads' HO633.out).2.2 | (with_reducible refine Kd.C_alloc ?_ _) | (with_reducible refine Kd.C_drewN ?_ _) | (with_reducible refine Kd.C_drew ?_))); (case side4 => exact (Kd.R_reads' HO633.out).2.1); rintro e w88 ⟨v635, rfl, ho0, hb⟩; refine ⟨_, rfl, ?_⟩; have n0_ := Aside0.mk (Kd.R_elder' (by (with_reducible repeat (first | apply Kd.R_alloc | apply Kd.R_drewN | apply Kd.R_drew)); exact HO_10.out) (Kd.R_base ho0) hb); have n1_ := Aside0.mk (Kd.R_elder' (by (with_reducible repeat (first | apply Kd.R_alloc | apply Kd.R_drewN | apply Kd.R_drew)); exact HO_14.out) (Kd.R_base ho0) hb); have n2_ := Aside0.mk (Kd.R_below (by (with_reducible repeat (first | apply Kd.R_alloc | apply Kd.R_drewN | apply Kd.R_drew)); exact HO_602001.out) hb); have n3_ := Aside0.mk (Kd.R_below (by (with_reducible repeat (first | apply Kd.R_alloc | apply Kd.R_drewN | apply Kd.R_drew)); exact HO630.out) hb); have n4_ := Aside0.mk (Kd.R_elder' (by (with_reducible repeat (first | apply Kd.R_alloc | apply Kd.R_drewN | apply Kd.R_drew)); exact HO633.out) (Kd.R_base ho0) hb); have n5_ := Aside0.mk (Kd.R_lower (Kd.R_new' (Kd.R_new' (Kd.R_new' ho0 (Kd.R_lt (by (with_reducible repeat (first | apply Kd.R_alloc | apply Kd.R_drewN | apply Kd.R_drew)); exact HO_10.out))) (Kd.R_lt (by (with_reducible repeat (first | apply Kd.R_alloc | apply Kd.R_drewN | apply Kd.R_drew)); exact HO_14.out))) (Kd.R_lt (by (with_reducible repeat (first | apply Kd.R_alloc | apply Kd.R_drewN | apply Kd.R_drew)); exact HO633.out))) (below_size (by repeat (first | (with_reducible first | exact HB.out | apply below_alloc | apply pw_below_drewN | apply below_drew1 | refine below_set ?_ GE584.out | refine below_set ?_ GE601.out) | exact HB.out)))); have n6_ := Aside0.mk (blk_below (g := gb584) (o := .cells #[.int .i64 a0_0, .slice A0_1 l0_1.length c0_1] 41 (0, 0)) (by (with_reducible repeat (first | refine blk_drewN ?_ _ | refine blk_drew ?_ | refine blk_alloc ?_ _)); exact BK584.out) hb); have n7_ := Aside0.mk (blk_below (g := gb601) (o := .cells #[.int .i64 t597, .slice Ao33 t620.length co33] 46 (0, 0)) (by (with_reducible repeat (first | refine blk_drewN ?_ _ | refine blk_drew ?_ | refine blk_alloc ?_ _)); exact BK601.out) hb); have n8_ := Aside0.mk (below_step (by repeat (first | (with_reducible first | exact HB.out | apply below_alloc | apply pw_below_drewN | apply below_drew1 | refine below_set ?_ GE584.out | refine below_set ?_ GE601.out) | exact HB.out)) hb); clear HO_10; clear HO_14; clear HO_602001; clear HO630; clear HO633; clear BK584; clear BK601; clear HB; have HO_10 := n0_; have HO_14 := n1_; have HO_602001 := n2_; have HO630 := n3_; have HO633 := n4_; have HO636 := n5_; have BK584 := n6_; have BK601 := n7_; have HB := n8_; clear n0_ n1_ n2_ n3_ n4_ n5_ n6_ n7_ n8_; (try clear hb); (try clear hb2); (try clear hk); (try clear hi); (try clear ho0)))
                          (try simp only [Act.put, List.setIfInBounds_toArray, List.set_cons_zero, List.set_cons_succ])
                          go_cut [118] (fun v118 wc => ∃ (kq : Nat) (x118_78 : Bool), v118 = .bool x118_78 ∧ Aside0 (laws_FnExactSwitchLine.j2 kq t625 t624 x118_78 = some r) ∧ Aside0 (kq ≤ kj52) ∧ Aside0 (Kd.R Kd.bool 4 wc w.heap.size (fun _ => True) (.slice Ao80 t605.length co80) t625) ∧ Aside0 (Kd.R k70 70 wc w.heap.size (fun _ => True) (.slice Ao33 t620.length co33) t620) ∧ Aside0 (wc.heap[gb584]? = some (.cells #[.int .i64 a0_0, (.slice A0_1 l0_1.length c0_1)] 41 (0, 0))) ∧ Aside0 (wc.heap[gb601]? = some (.cells #[.int .i64 t597, (.slice Ao33 t620.length co33)] 46 (0, 0))) ∧ Aside0 (Below w.heap.size w wc))
                          case first =>
                            have H := HC79.out
                            clear HC79
                            replace H := Option.bind_eq_some_iff.mp H
                            obtain ⟨t638, A890, H⟩ := H
                            replace H : (if t638 = true then (laws_FnExactSwitchLine.j2 kj52 t625 t624 (t637 != t596)) else (laws_FnExactSwitchLine.j2 kj52 t625 t624 true)) = some r := H
                            have A89 := Aside0.mk A890
                            clear A890
                            by_cases c90 : t638 = true
                            · subst c90
                              have H1 : (laws_FnExactSwitchLine.j2 kj52 t625 t624 (t637 != t596)) = some r := by rw [if_pos rfl] at H; exact H
                              clear H
                              have H := H1
                              clear H1
                              have H' := Aside0.mk H
                              clear H
                              obtain ⟨Ao91, co91, eo91⟩ := Kd.R_slice HO636.out
                              subst eo91
                              obtain ⟨Ao92, co92, eo92⟩ := Kd.R_slice HO_10.out
                              subst eo92
                              go_wp2_with (first | ((with_reducible refine gate_callee (f := 18) rfl ?_); refine goesL_ (some 112) rfl rfl Try.func18 (by kernel_rfl) rfl #[.slice Ao91 t634.length co91, .slice Ao92 t593.length co92] rfl (by (try simp only [List.map_toArray, List.map_cons, List.map_nil]); first | done | rfl | (simp only [List.length_drop, List.length_take]; rfl)) ?_; (with_reducible refine (laws_eqBoolS.calls kj52 _ _ t634 _ _ t593 true _ ?side1 ?side2 ?side3 ?side4 A89.out).mono ?_); (case side1 => repeat (first | exact (Kd.R_reads' HO636.out).2.2 | (with_reducible refine Kd.C_alloc ?_ _) | (with_reducible refine Kd.C_drewN ?_ _) | (with_reducible refine Kd.C_drew ?_))); (case side2 => exact (Kd.R_reads' HO636.out).2.1); (case side3 => repeat (first | exact (Kd.R_reads' HO_10.out).2.2 | (with_reducible refine Kd.C_alloc ?_ _) | (with_reducible refine Kd.C_drewN ?_ _) | (with_reducible refine Kd.C_drew ?_))); (case side4 => exact (Kd.R_reads' HO_10.out).2.1); rintro e w' ⟨rfl, ⟨nd, rfl⟩⟩; refine ⟨_, rfl, ?_⟩))
                              go_meet
                              case rel => exact ⟨_, ((t637 != t596)), (by first | rfl | (simp; done) | (simp [*]; done)), H', ⟨by have := HJ17.out; have := HJ52.out; first | omega | exact Nat.le_refl _⟩, ⟨by (try simp only [hl602001_52]); (with_reducible repeat (first | apply Kd.R_alloc | apply Kd.R_drewN | apply Kd.R_drew)); exact Kd.R_mono HO_14.out (fun _ hk => trivial)⟩, ⟨by (try simp only [hl602001_52]); (with_reducible repeat (first | apply Kd.R_alloc | apply Kd.R_drewN | apply Kd.R_drew)); exact Kd.R_mono HO_602001.out (fun _ hk => trivial)⟩, ⟨by (try simp only [hl602001_52]); (with_reducible repeat (first | refine blk_drewN ?_ _ | refine blk_drew ?_ | refine blk_alloc ?_ _)); exact BK584.out⟩, ⟨by (try simp only [hl602001_52]); (with_reducible repeat (first | refine blk_drewN ?_ _ | refine blk_drew ?_ | refine blk_alloc ?_ _)); exact BK601.out⟩, ⟨by repeat (first | (with_reducible first | exact HB.out | apply below_alloc | apply pw_below_drewN | apply below_drew1 | refine below_set ?_ GE584.out | refine below_set ?_ GE601.out) | exact HB.out)⟩⟩
                            · replace c90 := Bool.eq_false_iff.mpr c90
                              subst c90
                              have H1 : (laws_FnExactSwitchLine.j2 kj52 t625 t624 true) = some r := by rw [if_neg (show ¬ (false = true) by decide)] at H; exact H
                              clear H
                              have H := H1
                              clear H1
                              have H' := Aside0.mk H
                              clear H
                              obtain ⟨Ao93, co93, eo93⟩ := Kd.R_slice HO636.out
                              subst eo93
                              obtain ⟨Ao94, co94, eo94⟩ := Kd.R_slice HO_10.out
                              subst eo94
                              go_wp2_with (first | ((with_reducible refine gate_callee (f := 18) rfl ?_); refine goesL_ (some 112) rfl rfl Try.func18 (by kernel_rfl) rfl #[.slice Ao93 t634.length co93, .slice Ao94 t593.length co94] rfl (by (try simp only [List.map_toArray, List.map_cons, List.map_nil]); first | done | rfl | (simp only [List.length_drop, List.length_take]; rfl)) ?_; (with_reducible refine (laws_eqBoolS.calls kj52 _ _ t634 _ _ t593 false _ ?side1 ?side2 ?side3 ?side4 A89.out).mono ?_); (case side1 => repeat (first | exact (Kd.R_reads' HO636.out).2.2 | (with_reducible refine Kd.C_alloc ?_ _) | (with_reducible refine Kd.C_drewN ?_ _) | (with_reducible refine Kd.C_drew ?_))); (case side2 => exact (Kd.R_reads' HO636.out).2.1); (case side3 => repeat (first | exact (Kd.R_reads' HO_10.out).2.2 | (with_reducible refine Kd.C_alloc ?_ _) | (with_reducible refine Kd.C_drewN ?_ _) | (with_reducible refine Kd.C_drew ?_))); (case side4 => exact (Kd.R_reads' HO_10.out).2.1); rintro e w' ⟨rfl, ⟨nd, rfl⟩⟩; refine ⟨_, rfl, ?_⟩))
                              go_meet
                              case rel => exact ⟨_, (true), (by first | rfl | (simp; done) | (simp [*]; done)), H', ⟨by have := HJ17.out; have := HJ52.out; first | omega | exact Nat.le_refl _⟩, ⟨by (try simp only [hl602001_52]); (with_reducible repeat (first | apply Kd.R_alloc | apply Kd.R_drewN | apply Kd.R_drew)); exact Kd.R_mono HO_14.out (fun _ hk => trivial)⟩, ⟨by (try simp only [hl602001_52]); (with_reducible repeat (first | apply Kd.R_alloc | apply Kd.R_drewN | apply Kd.R_drew)); exact Kd.R_mono HO_602001.out (fun _ hk => trivial)⟩, ⟨by (try simp only [hl602001_52]); (with_reducible repeat (first | refine blk_drewN ?_ _ | refine blk_drew ?_ | refine blk_alloc ?_ _)); exact BK584.out⟩, ⟨by (try simp only [hl602001_52]); (with_reducible repeat (first | refine blk_drewN ?_ _ | refine blk_drew ?_ | refine blk_alloc ?_ _)); exact BK601.out⟩, ⟨by repeat (first | (with_reducible first | exact HB.out | apply below_alloc | apply pw_below_drewN | apply below_drew1 | refine below_set ?_ GE584.out | refine below_set ?_ GE601.out) | exact HB.out)⟩⟩
                          case rest =>
                            clear HC79
                            try clear c1
                            try clear c2
                            try clear p2
                            try clear c3
                            try clear c4
                            try clear c5
                            try clear c5b0
                            try clear c5b1
                            try clear c6
                            try clear c7
                            try clear c8
                            try clear c8b0
                            try clear c9
                            try clear c14
                            try clear c16
                            try clear c18
                            try clear c21
                            try clear c22
                            try clear c31
                            try clear c33
                            try clear c35
                            try clear c39
                            try clear c44
                            try clear c47
                            try clear c49
                            try clear c50
                            try clear c51
                            try clear c60
                            try clear c64
                            try clear c64b0
                            try clear c66
                            try clear c71
                            try clear c74
                            try clear c74b0
                            try clear c75
                            try clear c75b0
                            try clear c75b1
                            try clear c82
                            try clear c90
                            try clear hcz10_0
                            try clear hcz10_1
                            try clear hcz20_0
                            try clear hcz20_1
                            try clear hcz22_0
                            try clear hcz22_1
                            try clear hcz28_0
                            try clear hcz28_1
                            try clear hcz32_0
                            try clear hcz32_1
                            try clear hcz35_0
                            try clear hcz35_1
                            try clear hcz61_0
                            try clear hcz61_1
                            try clear hcz83_0
                            try clear hcz83_1
                            try clear hfz10_0
                            try clear hfz10_1
                            try clear hfz20_0
                            try clear hfz20_1
                            try clear hfz22_0
                            try clear hfz22_1
                            try clear hfz28_0
                            try clear hfz28_1
                            try clear hfz32_0
                            try clear hfz32_1
                            try clear hfz35_0
                            try clear hfz35_1
                            try clear hfz61_0
                            try clear hfz61_1
                            try clear hfz83_0
                            try clear hfz83_1
                            try clear p2
                            obtain ⟨kq, x118_78, rfl, HA, HJ78, HO_14, HO_602001, BK584, BK601, HB⟩ := hcut
                            have hl14_78 := (Kd.R_reads' HO_14.out).1
                            rw [hl14_78] at HO_14
                            (try simp only [hl14_78])
                            (try simp only [hl14_78] at BK584)
                            (try simp only [hl14_78] at BK601)
                            (try simp only [hl14_78] at HO_602001)
                            cases kq with
                            | zero => exact absurd HA.out (by simp [laws_FnExactSwitchLine.j2])
                            | succ kj78 =>
                              have H := HA.out
                              clear HA
                              simp only [laws_FnExactSwitchLine.j2] at H
                              by_cases c95 : x118_78 = true
                              · subst c95
                                have H1 : (none) = some r := by rw [if_pos rfl] at H; exact H
                                clear H
                                have H := H1
                                clear H1
                                exact absurd H (by simp)
                              · replace c95 := Bool.eq_false_iff.mpr c95
                                subst c95
                                have H1 : ((laws_heldBoolS.f kj78 t625 1).bind fun t639 => (if t639 < 0 then (none) else (if t639 = t624 then (some true) else (none)))) = some r := by rw [if_neg (show ¬ (false = true) by decide)] at H; exact H
                                clear H
                                have H := H1
                                clear H1
                                replace H := Option.bind_eq_some_iff.mp H
                                obtain ⟨t639, A960, H⟩ := H
                                replace H : (if t639 < 0 then (none) else (if t639 = t624 then (some true) else (none))) = some r := H
                                have A96 := Aside0.mk A960
                                clear A960
                                by_cases c97 : t639 < 0
                                · rw [if_pos c97] at H
                                  exact absurd H (by simp)
                                · rw [if_neg c97] at H
                                  have c97b0 : decide (t639 < 0) = false := decide_eq_false c97
                                  clear c97
                                  by_cases c98 : t639 = t624
                                  · rw [if_pos c98] at H
                                    have c98b0 : (t639 == t624) = true := beq_iff_eq.mpr c98
                                    have c98b1 : (t639 != t624) = false := bne_eq_false_iff_eq.mpr c98
                                    clear c98
                                    obtain rfl := Option.some.inj H
                                    go_wp2_with (first | ((with_reducible refine gate_callee (f := 22) rfl ?_); refine goesL_ (some 121) rfl rfl Try.func22 (by kernel_rfl) rfl #[.slice Ao80 t625.length co80, .int .i64 1] rfl (by (try simp only [List.map_toArray, List.map_cons, List.map_nil]); first | done | rfl | (simp only [List.length_drop, List.length_take]; rfl)) ?_; (with_reducible refine (laws_heldBoolS.calls kj78 _ _ t625 1 t639 _ ?side1 ?side2 A96.out).mono ?_); (case side1 => repeat (first | exact (Kd.R_reads' HO_14.out).2.2 | (with_reducible refine Kd.C_alloc ?_ _) | (with_reducible refine Kd.C_drewN ?_ _) | (with_reducible refine Kd.C_drew ?_))); (case side2 => exact (Kd.R_reads' HO_14.out).2.1); rintro e w' ⟨rfl, ⟨nd, rfl⟩⟩; refine ⟨_, rfl, ?_⟩))
                                    go_ret
                                    exact ⟨by first | rfl | (simp [errW_none, errW_some] <;> rfl) | (simp [*, errW_none, errW_some] <;> rfl), by repeat (first | (with_reducible first | exact HB.out | apply below_alloc | apply pw_below_drewN | apply below_drew1 | refine below_set ?_ GE584.out | refine below_set ?_ GE601.out) | exact HB.out)⟩
                                  · rw [if_neg c98] at H
                                    exact absurd H (by simp)
                        · rw [if_neg c75] at H
                          exact absurd H (by simp)
              · replace c50 := Bool.eq_false_iff.mpr c50
                subst c50
                have H1 : (none) = some r := by rw [if_neg (show ¬ (false = true) by decide)] at H; exact H
                clear H
                have H := H1
                clear H1
                exact absurd H (by simp)
            · replace c47 := Bool.eq_false_iff.mpr c47
              subst c47
              have H1 : (none) = some r := by rw [if_neg (show ¬ (false = true) by decide)] at H; exact H
              clear H
              have H := H1
              clear H1
              exact absurd H (by simp)

end Go.Proofs.Ytcchhgpdallpmaa.P

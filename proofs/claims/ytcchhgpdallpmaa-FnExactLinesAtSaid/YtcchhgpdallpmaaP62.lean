/- Contracts of Go functions of this seat's translation, written by this repo's wip/mk.py: it calls the kit's print.py with contracts typed by hand in place of functions that it does not take. Not trusted: Lean checks it. -/
import Derived.Test.YtcchhgpdallpmaaP0
import Derived.Test.YtcchhgpdallpmaaP16
import Derived.Test.YtcchhgpdallpmaaP17
import Derived.Test.YtcchhgpdallpmaaP18
import Derived.Test.YtcchhgpdallpmaaP27
import Derived.Test.YtcchhgpdallpmaaP31
import Derived.Test.YtcchhgpdallpmaaP36
import Derived.Test.YtcchhgpdallpmaaP58
import Derived.Test.YtcchhgpdallpmaaP59
import Derived.Test.YtcchhgpdallpmaaP61
namespace Go.Proofs.Ytcchhgpdallpmaa.P
open Go.RowKit Go.Proofs.YtcchhgpdallpmaaW.PrintWords Go.Proofs.YtcchhgpdallpmaaW.PrintLast Go.Proofs.YtcchhgpdallpmaaW.PrintMore
attribute [local go_sem] max2_int min2_int max_two min_two max_three min_three max_four min_four   -- for this text's walks alone
set_option linter.unusedVariables false
set_option linter.unusedSimpArgs false

/-! ### laws_FnExactLinesAt: function 13 -/
def laws_FnExactLinesAt.j0 : Nat → Int → List Int → List Int → Bool → Int → List (S82) → Option (Bool)
  | 0, _, _, _, _, _, _ => none
  | k + 1, x1, x6, x8, x46, x530000, x530001 => if x46 = true then (none) else ((laws_markIntS.f k x8 1).bind fun bt555 => ((laws_heldIntS.f k bt555.2 1).bind fun t557 => (if t557 < 0 then (none) else (if t557 = bt555.1 then ((laws_toNet.f k x530000 x530001).bind fun bt558 => ((impl_LinesAt.f k bt558.1 bt558.2 x1).bind fun t562 => ((laws_eqIntS.f k t562 x6).bind fun t565 => (if t565 = true then ((laws_heldIntS.f k bt555.2 1).bind fun t566 => (if t566 < 0 then (none) else (if t566 = bt555.1 then (some true) else (none)))) else (none))))) else (none)))))
def laws_FnExactLinesAt.f (k : Nat) (a0_0 : Int) (l0_1 : List (S82)) (a1 : Int) : Option (Bool) := (laws_szNet.f a0_0 l0_1 1048576).bind fun t530 => (if t530 < 0 then (some true) else ((laws_toNet.f k a0_0 l0_1).bind fun bt531 => ((spec_LinesAt.f k bt531.1 bt531.2 a1).bind fun t535 => ((laws_toNet.f k a0_0 l0_1).bind fun bt538 => ((impl_LinesAt.f k bt538.1 bt538.2 a1).bind fun t543 => ((laws_eqIntS.f k t543 t535).bind fun t546 => (if t546 = true then ((laws_toNet.f k a0_0 l0_1).bind fun bt547 => ((laws_eqNet.f k bt538.1 bt538.2 bt547.1 bt547.2).bind fun t551 => (if t551 = true then ((laws_markNet.f k bt538.1 bt538.2 1).bind fun bt552 => (if bt552.1 < 0 then (laws_FnExactLinesAt.j0 k a1 t535 t543 true a0_0 l0_1) else ((laws_eqIntS.f k t543 t535).bind fun t554 => (laws_FnExactLinesAt.j0 k a1 t535 t543 (!t554) a0_0 l0_1)))) else (none)))) else (none))))))))
theorem laws_FnExactLinesAt.mono_l : ∀ k, (∀ y0 y1 y2 y3 y4 y5, LeO (laws_FnExactLinesAt.j0 k y0 y1 y2 y3 y4 y5) (laws_FnExactLinesAt.j0 (k + 1) y0 y1 y2 y3 y4 y5))
  | 0 => fun _ _ _ _ _ _ r h => by simp [laws_FnExactLinesAt.j0] at h
  | k + 1 => by
    have ih0 := laws_FnExactLinesAt.mono_l k
    · intro y0 y1 y2 y3 y4 y5
      unfold laws_FnExactLinesAt.j0
      repeat' first
      | (with_reducible exact ih0 _ _ _ _ _ _)
      | (with_reducible exact impl_LinesAt.mono _ _ _ _)
      | (with_reducible exact laws_eqIntS.mono _ _ _)
      | (with_reducible exact laws_eqNet.mono _ _ _ _ _)
      | (with_reducible exact laws_heldIntS.mono _ _ _)
      | (with_reducible exact laws_markIntS.mono _ _ _)
      | (with_reducible exact laws_markNet.mono _ _ _ _)
      | (with_reducible exact laws_toNet.mono _ _ _)
      | (with_reducible exact spec_LinesAt.mono _ _ _ _)
      | (with_reducible exact LeO.refl _)
      | (with_reducible exact LeO.none _)
      | (with_reducible refine LeO.ite ?_ ?_)
      | (with_reducible refine LeO.bind ?_ (fun _ => ?_))
      | exact ih0 _ _ _ _ _ _
      | exact impl_LinesAt.mono _ _ _ _
      | exact laws_eqIntS.mono _ _ _
      | exact laws_eqNet.mono _ _ _ _ _
      | exact laws_heldIntS.mono _ _ _
      | exact laws_markIntS.mono _ _ _
      | exact laws_markNet.mono _ _ _ _
      | exact laws_toNet.mono _ _ _
      | exact spec_LinesAt.mono _ _ _ _
      | exact LeO.none _
      | refine LeO.ite ?_ ?_
      | refine LeO.bind ?_ (fun _ => ?_)
theorem laws_FnExactLinesAt.mono : ∀ a0 a1 a2 k, LeO (laws_FnExactLinesAt.f k a0 a1 a2) (laws_FnExactLinesAt.f (k + 1) a0 a1 a2) := by
  intro a0 a1 a2 k
  have ih0 := laws_FnExactLinesAt.mono_l k
  unfold laws_FnExactLinesAt.f
  repeat' first
      | (with_reducible exact ih0 _ _ _ _ _ _)
      | (with_reducible exact impl_LinesAt.mono _ _ _ _)
      | (with_reducible exact laws_eqIntS.mono _ _ _)
      | (with_reducible exact laws_eqNet.mono _ _ _ _ _)
      | (with_reducible exact laws_heldIntS.mono _ _ _)
      | (with_reducible exact laws_markIntS.mono _ _ _)
      | (with_reducible exact laws_markNet.mono _ _ _ _)
      | (with_reducible exact laws_toNet.mono _ _ _)
      | (with_reducible exact spec_LinesAt.mono _ _ _ _)
      | (with_reducible exact LeO.refl _)
      | (with_reducible exact LeO.none _)
      | (with_reducible refine LeO.ite ?_ ?_)
      | (with_reducible refine LeO.bind ?_ (fun _ => ?_))
      | exact ih0 _ _ _ _ _ _
      | exact impl_LinesAt.mono _ _ _ _
      | exact laws_eqIntS.mono _ _ _
      | exact laws_eqNet.mono _ _ _ _ _
      | exact laws_heldIntS.mono _ _ _
      | exact laws_markIntS.mono _ _ _
      | exact laws_markNet.mono _ _ _ _
      | exact laws_toNet.mono _ _ _
      | exact spec_LinesAt.mono _ _ _ _
      | exact LeO.none _
      | refine LeO.ite ?_ ?_
      | refine LeO.bind ?_ (fun _ => ?_)
set_option maxHeartbeats 8000000 in
set_option maxRecDepth 100000 in
theorem laws_FnExactLinesAt.calls (k : Nat) (a0_0 : Int) (A0_1 : Option Addr) (c0_1 : Nat) (l0_1 : List (S82)) (a1 : Int) (r : Bool) (w : World) (hr0_1 : Kd.C k82 w A0_1 l0_1.length l0_1) (hc0_1 : l0_1.length ≤ c0_1) (h : laws_FnExactLinesAt.f k a0_0 l0_1 a1 = some r) :
    Calls Try.prog 13 #[.agg #[.int .i64 a0_0, .slice A0_1 l0_1.length c0_1], .int .i64 a1] w fun e w' => e = .returned (.bool r) ∧ Below w.heap.size w w' := by
  have hu41 := Try.underlying41
  have hu46 := Try.underlying46
  have HR0_1 := Aside0.mk hr0_1
  have HC0_1 := Aside0.mk hc0_1
  clear hr0_1 hc0_1
  have HB := Aside0.mk (Below.refl w.heap.size w)
  have H : ((laws_szNet.f a0_0 l0_1 1048576).bind fun t530 => (if t530 < 0 then (some true) else ((laws_toNet.f k a0_0 l0_1).bind fun bt531 => ((spec_LinesAt.f k bt531.1 bt531.2 a1).bind fun t535 => ((laws_toNet.f k a0_0 l0_1).bind fun bt538 => ((impl_LinesAt.f k bt538.1 bt538.2 a1).bind fun t543 => ((laws_eqIntS.f k t543 t535).bind fun t546 => (if t546 = true then ((laws_toNet.f k a0_0 l0_1).bind fun bt547 => ((laws_eqNet.f k bt538.1 bt538.2 bt547.1 bt547.2).bind fun t551 => (if t551 = true then ((laws_markNet.f k bt538.1 bt538.2 1).bind fun bt552 => (if bt552.1 < 0 then (laws_FnExactLinesAt.j0 k a1 t535 t543 true a0_0 l0_1) else ((laws_eqIntS.f k t543 t535).bind fun t554 => (laws_FnExactLinesAt.j0 k a1 t535 t543 (!t554) a0_0 l0_1)))) else (none)))) else (none))))))))) = some r := h
  clear h
  replace H := Option.bind_eq_some_iff.mp H
  obtain ⟨t530, A30, H⟩ := H
  replace H : (if t530 < 0 then (some true) else ((laws_toNet.f k a0_0 l0_1).bind fun bt531 => ((spec_LinesAt.f k bt531.1 bt531.2 a1).bind fun t535 => ((laws_toNet.f k a0_0 l0_1).bind fun bt538 => ((impl_LinesAt.f k bt538.1 bt538.2 a1).bind fun t543 => ((laws_eqIntS.f k t543 t535).bind fun t546 => (if t546 = true then ((laws_toNet.f k a0_0 l0_1).bind fun bt547 => ((laws_eqNet.f k bt538.1 bt538.2 bt547.1 bt547.2).bind fun t551 => (if t551 = true then ((laws_markNet.f k bt538.1 bt538.2 1).bind fun bt552 => (if bt552.1 < 0 then (laws_FnExactLinesAt.j0 k a1 t535 t543 true a0_0 l0_1) else ((laws_eqIntS.f k t543 t535).bind fun t554 => (laws_FnExactLinesAt.j0 k a1 t535 t543 (!t554) a0_0 l0_1)))) else (none)))) else (none)))))))) = some r := H
  have A3 := Aside0.mk A30
  clear A30
  by_cases c4 : t530 < 0
  · rw [if_pos c4] at H
    have c4b0 : decide (t530 < 0) = true := decide_eq_true c4
    clear c4
    obtain rfl := Option.some.inj H
    go_enter Try.func13, Try.ntmps13
    go_wp2_with (first | ((with_reducible refine gate_dst (N := 2) rfl ?_); refine box_event ?hg (N := 2) ?hd (cs := #[.int .i64 a0_0, .slice A0_1 l0_1.length c0_1]) (t := 41) ?hr ?_; (case hd => rfl); (case hg => rfl); (case hr => first | (go_simp; done) | (go_simp; rfl)); intro gb529 hg w5 hbox hb; have n0_ := Aside0.mk (below_step (by repeat (first | (with_reducible first | exact HB.out | apply below_alloc | apply pw_below_drewN | apply below_drew1) | exact HB.out)) hb); have n1_ := Aside0.mk (hbox); have n2_ := Aside0.mk ((by rw [hg]; exact (below_size (by repeat (first | (with_reducible first | exact HB.out | apply below_alloc | apply pw_below_drewN | apply below_drew1) | exact HB.out))) : w.heap.size ≤ gb529)); have n3_ := Aside0.mk ((by rw [hg]; exact (below_size (by repeat (first | (with_reducible first | exact HB.out | apply below_alloc | apply pw_below_drewN | apply below_drew1) | exact HB.out))) : w.heap.size ≤ gb529)); clear HB; have HB := n0_; have BK529 := n1_; have GW529 := n2_; have GE529 := n3_; clear n0_ n1_ n2_ n3_; clear hb hbox hg; have hcz6_0 : w5.cell? ⟨gb529, 0, none⟩ = some (.int .i64 a0_0) := (blk_cell BK529.out 0).trans rfl; have hcz6_1 : w5.cell? ⟨gb529, 1, none⟩ = some (.slice A0_1 l0_1.length c0_1) := (blk_cell BK529.out 1).trans rfl; have hfz6_0 := blk_frozen BK529.out 0; have hfz6_1 := blk_frozen BK529.out 1) | ((with_reducible refine gate_callee (f := 31) rfl ?_); refine goesL_ (some 15) rfl rfl Try.func31 (by kernel_rfl) rfl #[.agg #[.int .i64 a0_0, .slice A0_1 l0_1.length c0_1], .int .i64 1048576] rfl (by (try simp only [List.map_toArray, List.map_cons, List.map_nil]); first | done | rfl | (simp only [List.length_drop, List.length_take]; rfl)) ?_; (with_reducible refine (laws_szNet.calls a0_0 _ _ l0_1 1048576 t530 _ ?side1 ?side2 A3.out).mono ?_); (case side1 => repeat (first | exact (Kd.C_below HR0_1.out HB.out) | (with_reducible refine Kd.C_alloc ?_ _) | (with_reducible refine Kd.C_drewN ?_ _) | (with_reducible refine Kd.C_drew ?_))); (case side2 => exact HC0_1.out); rintro e w7 ⟨rfl, hb⟩; refine ⟨_, rfl, ?_⟩; have n0_ := Aside0.mk (blk_below (g := gb529) (o := .cells #[.int .i64 a0_0, .slice A0_1 l0_1.length c0_1] 41 (0, 0)) (by (with_reducible repeat (first | refine blk_drewN ?_ _ | refine blk_drew ?_ | refine blk_alloc ?_ _)); exact BK529.out) hb); have n1_ := Aside0.mk (below_step (by repeat (first | (with_reducible first | exact HB.out | apply below_alloc | apply pw_below_drewN | apply below_drew1 | refine below_set ?_ GE529.out) | exact HB.out)) hb); clear BK529; clear HB; have BK529 := n0_; have HB := n1_; clear n0_ n1_; (try clear hb); (try clear hb2); (try clear hk); (try clear hi)))
    go_ret
    exact ⟨by first | rfl | (simp [errW_none, errW_some] <;> rfl) | (simp [*, errW_none, errW_some] <;> rfl), by repeat (first | (with_reducible first | exact HB.out | apply below_alloc | apply pw_below_drewN | apply below_drew1 | refine below_set ?_ GE529.out) | exact HB.out)⟩
  · rw [if_neg c4] at H
    have c4b0 : decide (t530 < 0) = false := decide_eq_false c4
    clear c4
    replace H := Option.bind_eq_some_iff.mp H
    obtain ⟨⟨t531, t532⟩, A80, H⟩ := H
    replace H : ((spec_LinesAt.f k t531 t532 a1).bind fun t535 => ((laws_toNet.f k a0_0 l0_1).bind fun bt538 => ((impl_LinesAt.f k bt538.1 bt538.2 a1).bind fun t543 => ((laws_eqIntS.f k t543 t535).bind fun t546 => (if t546 = true then ((laws_toNet.f k a0_0 l0_1).bind fun bt547 => ((laws_eqNet.f k bt538.1 bt538.2 bt547.1 bt547.2).bind fun t551 => (if t551 = true then ((laws_markNet.f k bt538.1 bt538.2 1).bind fun bt552 => (if bt552.1 < 0 then (laws_FnExactLinesAt.j0 k a1 t535 t543 true a0_0 l0_1) else ((laws_eqIntS.f k t543 t535).bind fun t554 => (laws_FnExactLinesAt.j0 k a1 t535 t543 (!t554) a0_0 l0_1)))) else (none)))) else (none)))))) = some r := H
    have A8 := Aside0.mk A80
    clear A80
    replace H := Option.bind_eq_some_iff.mp H
    obtain ⟨t535, A90, H⟩ := H
    replace H : ((laws_toNet.f k a0_0 l0_1).bind fun bt538 => ((impl_LinesAt.f k bt538.1 bt538.2 a1).bind fun t543 => ((laws_eqIntS.f k t543 t535).bind fun t546 => (if t546 = true then ((laws_toNet.f k a0_0 l0_1).bind fun bt547 => ((laws_eqNet.f k bt538.1 bt538.2 bt547.1 bt547.2).bind fun t551 => (if t551 = true then ((laws_markNet.f k bt538.1 bt538.2 1).bind fun bt552 => (if bt552.1 < 0 then (laws_FnExactLinesAt.j0 k a1 t535 t543 true a0_0 l0_1) else ((laws_eqIntS.f k t543 t535).bind fun t554 => (laws_FnExactLinesAt.j0 k a1 t535 t543 (!t554) a0_0 l0_1)))) else (none)))) else (none))))) = some r := H
    have A9 := Aside0.mk A90
    clear A90
    replace H := Option.bind_eq_some_iff.mp H
    obtain ⟨⟨t538, t539⟩, A100, H⟩ := H
    replace H : ((impl_LinesAt.f k t538 t539 a1).bind fun t543 => ((laws_eqIntS.f k t543 t535).bind fun t546 => (if t546 = true then ((laws_toNet.f k a0_0 l0_1).bind fun bt547 => ((laws_eqNet.f k t538 t539 bt547.1 bt547.2).bind fun t551 => (if t551 = true then ((laws_markNet.f k t538 t539 1).bind fun bt552 => (if bt552.1 < 0 then (laws_FnExactLinesAt.j0 k a1 t535 t543 true a0_0 l0_1) else ((laws_eqIntS.f k t543 t535).bind fun t554 => (laws_FnExactLinesAt.j0 k a1 t535 t543 (!t554) a0_0 l0_1)))) else (none)))) else (none)))) = some r := H
    have A10 := Aside0.mk A100
    clear A100
    replace H := Option.bind_eq_some_iff.mp H
    obtain ⟨t543, A110, H⟩ := H
    replace H : ((laws_eqIntS.f k t543 t535).bind fun t546 => (if t546 = true then ((laws_toNet.f k a0_0 l0_1).bind fun bt547 => ((laws_eqNet.f k t538 t539 bt547.1 bt547.2).bind fun t551 => (if t551 = true then ((laws_markNet.f k t538 t539 1).bind fun bt552 => (if bt552.1 < 0 then (laws_FnExactLinesAt.j0 k a1 t535 t543 true a0_0 l0_1) else ((laws_eqIntS.f k t543 t535).bind fun t554 => (laws_FnExactLinesAt.j0 k a1 t535 t543 (!t554) a0_0 l0_1)))) else (none)))) else (none))) = some r := H
    have A11 := Aside0.mk A110
    clear A110
    replace H := Option.bind_eq_some_iff.mp H
    obtain ⟨t546, A120, H⟩ := H
    replace H : (if t546 = true then ((laws_toNet.f k a0_0 l0_1).bind fun bt547 => ((laws_eqNet.f k t538 t539 bt547.1 bt547.2).bind fun t551 => (if t551 = true then ((laws_markNet.f k t538 t539 1).bind fun bt552 => (if bt552.1 < 0 then (laws_FnExactLinesAt.j0 k a1 t535 t543 true a0_0 l0_1) else ((laws_eqIntS.f k t543 t535).bind fun t554 => (laws_FnExactLinesAt.j0 k a1 t535 t543 (!t554) a0_0 l0_1)))) else (none)))) else (none)) = some r := H
    have A12 := Aside0.mk A120
    clear A120
    by_cases c13 : t546 = true
    · subst c13
      have H1 : ((laws_toNet.f k a0_0 l0_1).bind fun bt547 => ((laws_eqNet.f k t538 t539 bt547.1 bt547.2).bind fun t551 => (if t551 = true then ((laws_markNet.f k t538 t539 1).bind fun bt552 => (if bt552.1 < 0 then (laws_FnExactLinesAt.j0 k a1 t535 t543 true a0_0 l0_1) else ((laws_eqIntS.f k t543 t535).bind fun t554 => (laws_FnExactLinesAt.j0 k a1 t535 t543 (!t554) a0_0 l0_1)))) else (none)))) = some r := by rw [if_pos rfl] at H; exact H
      clear H
      have H := H1
      clear H1
      replace H := Option.bind_eq_some_iff.mp H
      obtain ⟨⟨t547, t548⟩, A140, H⟩ := H
      replace H : ((laws_eqNet.f k t538 t539 t547 t548).bind fun t551 => (if t551 = true then ((laws_markNet.f k t538 t539 1).bind fun bt552 => (if bt552.1 < 0 then (laws_FnExactLinesAt.j0 k a1 t535 t543 true a0_0 l0_1) else ((laws_eqIntS.f k t543 t535).bind fun t554 => (laws_FnExactLinesAt.j0 k a1 t535 t543 (!t554) a0_0 l0_1)))) else (none))) = some r := H
      have A14 := Aside0.mk A140
      clear A140
      replace H := Option.bind_eq_some_iff.mp H
      obtain ⟨t551, A150, H⟩ := H
      replace H : (if t551 = true then ((laws_markNet.f k t538 t539 1).bind fun bt552 => (if bt552.1 < 0 then (laws_FnExactLinesAt.j0 k a1 t535 t543 true a0_0 l0_1) else ((laws_eqIntS.f k t543 t535).bind fun t554 => (laws_FnExactLinesAt.j0 k a1 t535 t543 (!t554) a0_0 l0_1)))) else (none)) = some r := H
      have A15 := Aside0.mk A150
      clear A150
      by_cases c16 : t551 = true
      · subst c16
        have H1 : ((laws_markNet.f k t538 t539 1).bind fun bt552 => (if bt552.1 < 0 then (laws_FnExactLinesAt.j0 k a1 t535 t543 true a0_0 l0_1) else ((laws_eqIntS.f k t543 t535).bind fun t554 => (laws_FnExactLinesAt.j0 k a1 t535 t543 (!t554) a0_0 l0_1)))) = some r := by rw [if_pos rfl] at H; exact H
        clear H
        have H := H1
        clear H1
        replace H := Option.bind_eq_some_iff.mp H
        obtain ⟨⟨t552, t553⟩, A170, H⟩ := H
        replace H : (if t552 < 0 then (laws_FnExactLinesAt.j0 k a1 t535 t543 true a0_0 l0_1) else ((laws_eqIntS.f k t543 t535).bind fun t554 => (laws_FnExactLinesAt.j0 k a1 t535 t543 (!t554) a0_0 l0_1))) = some r := H
        have A17 := Aside0.mk A170
        clear A170
        have HC18 := Aside0.mk H
        clear H
        go_enter Try.func13, Try.ntmps13
        try go_wp2_with (first | ((with_reducible refine gate_dst (N := 2) rfl ?_); refine box_event ?hg (N := 2) ?hd (cs := #[.int .i64 a0_0, .slice A0_1 l0_1.length c0_1]) (t := 41) ?hr ?_; (case hd => rfl); (case hg => rfl); (case hr => first | (go_simp; done) | (go_simp; rfl)); intro gb529 hg w19 hbox hb; have n0_ := Aside0.mk (below_step (by repeat (first | (with_reducible first | exact HB.out | apply below_alloc | apply pw_below_drewN | apply below_drew1) | exact HB.out)) hb); have n1_ := Aside0.mk (hbox); have n2_ := Aside0.mk ((by rw [hg]; exact (below_size (by repeat (first | (with_reducible first | exact HB.out | apply below_alloc | apply pw_below_drewN | apply below_drew1) | exact HB.out))) : w.heap.size ≤ gb529)); have n3_ := Aside0.mk ((by rw [hg]; exact (below_size (by repeat (first | (with_reducible first | exact HB.out | apply below_alloc | apply pw_below_drewN | apply below_drew1) | exact HB.out))) : w.heap.size ≤ gb529)); clear HB; have HB := n0_; have BK529 := n1_; have GW529 := n2_; have GE529 := n3_; clear n0_ n1_ n2_ n3_; clear hb hbox hg; have hcz20_0 : w19.cell? ⟨gb529, 0, none⟩ = some (.int .i64 a0_0) := (blk_cell BK529.out 0).trans rfl; have hcz20_1 : w19.cell? ⟨gb529, 1, none⟩ = some (.slice A0_1 l0_1.length c0_1) := (blk_cell BK529.out 1).trans rfl; have hfz20_0 := blk_frozen BK529.out 0; have hfz20_1 := blk_frozen BK529.out 1) | ((with_reducible refine gate_callee (f := 31) rfl ?_); refine goesL_ (some 15) rfl rfl Try.func31 (by kernel_rfl) rfl #[.agg #[.int .i64 a0_0, .slice A0_1 l0_1.length c0_1], .int .i64 1048576] rfl (by (try simp only [List.map_toArray, List.map_cons, List.map_nil]); first | done | rfl | (simp only [List.length_drop, List.length_take]; rfl)) ?_; (with_reducible refine (laws_szNet.calls a0_0 _ _ l0_1 1048576 t530 _ ?side1 ?side2 A3.out).mono ?_); (case side1 => repeat (first | exact (Kd.C_below HR0_1.out HB.out) | (with_reducible refine Kd.C_alloc ?_ _) | (with_reducible refine Kd.C_drewN ?_ _) | (with_reducible refine Kd.C_drew ?_))); (case side2 => exact HC0_1.out); rintro e w21 ⟨rfl, hb⟩; refine ⟨_, rfl, ?_⟩; have n0_ := Aside0.mk (blk_below (g := gb529) (o := .cells #[.int .i64 a0_0, .slice A0_1 l0_1.length c0_1] 41 (0, 0)) (by (with_reducible repeat (first | refine blk_drewN ?_ _ | refine blk_drew ?_ | refine blk_alloc ?_ _)); exact BK529.out) hb); have n1_ := Aside0.mk (below_step (by repeat (first | (with_reducible first | exact HB.out | apply below_alloc | apply pw_below_drewN | apply below_drew1 | refine below_set ?_ GE529.out) | exact HB.out)) hb); clear BK529; clear HB; have BK529 := n0_; have HB := n1_; clear n0_ n1_; (try clear hb); (try clear hb2); (try clear hk); (try clear hi); have hcz22_0 : w21.cell? ⟨gb529, 0, none⟩ = some (.int .i64 a0_0) := (blk_cell BK529.out 0).trans rfl; have hcz22_1 : w21.cell? ⟨gb529, 1, none⟩ = some (.slice A0_1 l0_1.length c0_1) := (blk_cell BK529.out 1).trans rfl; have hfz22_0 := blk_frozen BK529.out 0; have hfz22_1 := blk_frozen BK529.out 1) | ((with_reducible refine gate_callee (f := 33) rfl ?_); refine goesL_ (some 19) rfl rfl Try.func33 (by kernel_rfl) rfl #[.agg #[.int .i64 a0_0, .slice A0_1 l0_1.length c0_1]] rfl (by (try simp only [List.map_toArray, List.map_cons, List.map_nil]); first | done | rfl | (simp only [List.length_drop, List.length_take]; rfl)) ?_; (with_reducible refine (laws_toNet.calls k a0_0 _ _ l0_1 t531 t532 _ ?side1 ?side2 A8.out).mono ?_); (case side1 => repeat (first | exact (Kd.C_below HR0_1.out HB.out) | (with_reducible refine Kd.C_alloc ?_ _) | (with_reducible refine Kd.C_drewN ?_ _) | (with_reducible refine Kd.C_drew ?_))); (case side2 => exact HC0_1.out); rintro e w23 ⟨v533, rfl, ho0, hb⟩; refine ⟨_, rfl, ?_⟩; have n0_ := Aside0.mk (Kd.R_lower ho0 (below_size (by repeat (first | (with_reducible first | exact HB.out | apply below_alloc | apply pw_below_drewN | apply below_drew1 | refine below_set ?_ GE529.out) | exact HB.out)))); have n1_ := Aside0.mk (blk_below (g := gb529) (o := .cells #[.int .i64 a0_0, .slice A0_1 l0_1.length c0_1] 41 (0, 0)) (by (with_reducible repeat (first | refine blk_drewN ?_ _ | refine blk_drew ?_ | refine blk_alloc ?_ _)); exact BK529.out) hb); have n2_ := Aside0.mk (below_step (by repeat (first | (with_reducible first | exact HB.out | apply below_alloc | apply pw_below_drewN | apply below_drew1 | refine below_set ?_ GE529.out) | exact HB.out)) hb); clear BK529; clear HB; have HO534 := n0_; have BK529 := n1_; have HB := n2_; clear n0_ n1_ n2_; (try clear hb); (try clear hb2); (try clear hk); (try clear hi); (try clear ho0); obtain ⟨Ao24, co24, eo24⟩ := Kd.R_slice HO534.out; subst eo24) | ((with_reducible refine gate_callee (f := 47) rfl ?_); refine goesL_ (some 21) rfl rfl Try.func47 (by kernel_rfl) rfl #[.agg #[.int .i64 t531, .slice Ao24 t532.length co24], .int .i64 a1] rfl (by (try simp only [List.map_toArray, List.map_cons, List.map_nil]); first | done | rfl | (simp only [List.length_drop, List.length_take]; rfl)) ?_; (with_reducible refine (spec_LinesAt.calls k t531 _ _ t532 a1 t535 _ ?side1 ?side2 A9.out).mono ?_); (case side1 => repeat (first | exact (Kd.R_reads' HO534.out).2.2 | (with_reducible refine Kd.C_alloc ?_ _) | (with_reducible refine Kd.C_drewN ?_ _) | (with_reducible refine Kd.C_drew ?_))); (case side2 => exact (Kd.R_reads' HO534.out).2.1); rintro e w25 ⟨v536, rfl, ho0, hb⟩; refine ⟨_, rfl, ?_⟩; have n0_ := Aside0.mk (Kd.R_below (by (with_reducible repeat (first | apply Kd.R_alloc | apply Kd.R_drewN | apply Kd.R_drew)); exact HO534.out) hb); have n1_ := Aside0.mk (Kd.R_lower ho0 (below_size (by repeat (first | (with_reducible first | exact HB.out | apply below_alloc | apply pw_below_drewN | apply below_drew1 | refine below_set ?_ GE529.out) | exact HB.out)))); have n2_ := Aside0.mk (blk_below (g := gb529) (o := .cells #[.int .i64 a0_0, .slice A0_1 l0_1.length c0_1] 41 (0, 0)) (by (with_reducible repeat (first | refine blk_drewN ?_ _ | refine blk_drew ?_ | refine blk_alloc ?_ _)); exact BK529.out) hb); have n3_ := Aside0.mk (below_step (by repeat (first | (with_reducible first | exact HB.out | apply below_alloc | apply pw_below_drewN | apply below_drew1 | refine below_set ?_ GE529.out) | exact HB.out)) hb); clear HO534; clear BK529; clear HB; have HO534 := n0_; have HO537 := n1_; have BK529 := n2_; have HB := n3_; clear n0_ n1_ n2_ n3_; (try clear hb); (try clear hb2); (try clear hk); (try clear hi); (try clear ho0); have hcz26_0 : w25.cell? ⟨gb529, 0, none⟩ = some (.int .i64 a0_0) := (blk_cell BK529.out 0).trans rfl; have hcz26_1 : w25.cell? ⟨gb529, 1, none⟩ = some (.slice A0_1 l0_1.length c0_1) := (blk_cell BK529.out 1).trans rfl; have hfz26_0 := blk_frozen BK529.out 0; have hfz26_1 := blk_frozen BK529.out 1) | ((with_reducible refine gate_callee (f := 33) rfl ?_); refine goesL_ (some 23) rfl rfl Try.func33 (by kernel_rfl) rfl #[.agg #[.int .i64 a0_0, .slice A0_1 l0_1.length c0_1]] rfl (by (try simp only [List.map_toArray, List.map_cons, List.map_nil]); first | done | rfl | (simp only [List.length_drop, List.length_take]; rfl)) ?_; (with_reducible refine (laws_toNet.calls k a0_0 _ _ l0_1 t538 t539 _ ?side1 ?side2 A10.out).mono ?_); (case side1 => repeat (first | exact (Kd.C_below HR0_1.out HB.out) | (with_reducible refine Kd.C_alloc ?_ _) | (with_reducible refine Kd.C_drewN ?_ _) | (with_reducible refine Kd.C_drew ?_))); (case side2 => exact HC0_1.out); rintro e w27 ⟨v540, rfl, ho0, hb⟩; refine ⟨_, rfl, ?_⟩; have n0_ := Aside0.mk (Kd.R_elder' (by (with_reducible repeat (first | apply Kd.R_alloc | apply Kd.R_drewN | apply Kd.R_drew)); exact HO534.out) (Kd.R_base ho0) hb); have n1_ := Aside0.mk (Kd.R_below (by (with_reducible repeat (first | apply Kd.R_alloc | apply Kd.R_drewN | apply Kd.R_drew)); exact HO537.out) hb); have n2_ := Aside0.mk (Kd.R_lower (Kd.R_new' ho0 (Kd.R_lt (by (with_reducible repeat (first | apply Kd.R_alloc | apply Kd.R_drewN | apply Kd.R_drew)); exact HO534.out))) (below_size (by repeat (first | (with_reducible first | exact HB.out | apply below_alloc | apply pw_below_drewN | apply below_drew1 | refine below_set ?_ GE529.out) | exact HB.out)))); have n3_ := Aside0.mk (blk_below (g := gb529) (o := .cells #[.int .i64 a0_0, .slice A0_1 l0_1.length c0_1] 41 (0, 0)) (by (with_reducible repeat (first | refine blk_drewN ?_ _ | refine blk_drew ?_ | refine blk_alloc ?_ _)); exact BK529.out) hb); have n4_ := Aside0.mk (below_step (by repeat (first | (with_reducible first | exact HB.out | apply below_alloc | apply pw_below_drewN | apply below_drew1 | refine below_set ?_ GE529.out) | exact HB.out)) hb); clear HO534; clear HO537; clear BK529; clear HB; have HO534 := n0_; have HO537 := n1_; have HO541 := n2_; have BK529 := n3_; have HB := n4_; clear n0_ n1_ n2_ n3_ n4_; (try clear hb); (try clear hb2); (try clear hk); (try clear hi); (try clear ho0)) | ((with_reducible refine gate_dst (N := 7) rfl ?_); refine box_event ?hg (N := 7) ?hd (cs := #[.int .i64 0, .slice none 0 0]) (t := 46) ?hr ?_; (case hd => rfl); (case hg => rfl); (case hr => first | (go_simp; done) | (go_simp; rfl)); intro gb542 hg w28 hbox hb; have n0_ := Aside0.mk (Kd.R_below (by (with_reducible repeat (first | apply Kd.R_alloc | apply Kd.R_drewN | apply Kd.R_drew)); exact HO534.out) hb); have n1_ := Aside0.mk (Kd.R_below (by (with_reducible repeat (first | apply Kd.R_alloc | apply Kd.R_drewN | apply Kd.R_drew)); exact HO537.out) hb); have n2_ := Aside0.mk (Kd.R_below (by (with_reducible repeat (first | apply Kd.R_alloc | apply Kd.R_drewN | apply Kd.R_drew)); exact HO541.out) hb); have n3_ := Aside0.mk (blk_below (g := gb529) (o := .cells #[.int .i64 a0_0, .slice A0_1 l0_1.length c0_1] 41 (0, 0)) (by (with_reducible repeat (first | refine blk_drewN ?_ _ | refine blk_drew ?_ | refine blk_alloc ?_ _)); exact BK529.out) hb); have n4_ := Aside0.mk (below_step (by repeat (first | (with_reducible first | exact HB.out | apply below_alloc | apply pw_below_drewN | apply below_drew1 | refine below_set ?_ GE529.out) | exact HB.out)) hb); have n5_ := Aside0.mk (hbox); have n6_ := Aside0.mk ((by rw [hg]; exact (below_size (by repeat (first | (with_reducible first | exact HB.out | apply below_alloc | apply pw_below_drewN | apply below_drew1 | refine below_set ?_ GE529.out) | exact HB.out))) : w.heap.size ≤ gb542)); have n7_ := Aside0.mk ((by rw [hg]; exact (below_size (by repeat (first | (with_reducible first | exact HB.out | apply below_alloc | apply pw_below_drewN | apply below_drew1 | refine below_set ?_ GE529.out) | exact HB.out))) : w.heap.size ≤ gb542)); have n8_ := Aside0.mk ((by rw [hg]; exact Nat.ne_of_lt (blk_lt (g := gb529) (o := .cells #[.int .i64 a0_0, .slice A0_1 l0_1.length c0_1] 41 (0, 0)) (by (with_reducible repeat (first | refine blk_drewN ?_ _ | refine blk_drew ?_ | refine blk_alloc ?_ _)); exact BK529.out)) : gb529 ≠ gb542)); have n9_ := Aside0.mk ((by rw [hg]; exact Nat.ne_of_gt (blk_lt (g := gb529) (o := .cells #[.int .i64 a0_0, .slice A0_1 l0_1.length c0_1] 41 (0, 0)) (by (with_reducible repeat (first | refine blk_drewN ?_ _ | refine blk_drew ?_ | refine blk_alloc ?_ _)); exact BK529.out)) : gb542 ≠ gb529)); clear HO534; clear HO537; clear HO541; clear BK529; clear HB; have HO534 := n0_; have HO537 := n1_; have HO541 := n2_; have BK529 := n3_; have HB := n4_; have BK542 := n5_; have GW542 := n6_; have GE542 := n7_; have NB529_542 := n8_; have NB542_529 := n9_; clear n0_ n1_ n2_ n3_ n4_ n5_ n6_ n7_ n8_ n9_; clear hb hbox hg; have hnb29 := NB542_529.out; have hnc29 := NB529_542.out; have hcz30_0 : w28.cell? ⟨gb542, 0, none⟩ = some (.int .i64 0) := (blk_cell BK542.out 0).trans rfl; have hcz30_1 : w28.cell? ⟨gb542, 1, none⟩ = some (.slice none 0 0) := (blk_cell BK542.out 1).trans rfl; have hfz30_0 := blk_frozen BK542.out 0; have hfz30_1 := blk_frozen BK542.out 1; obtain ⟨Ao31, co31, eo31⟩ := Kd.R_slice HO541.out; subst eo31) | ((with_reducible refine gate_callee (f := 48) rfl ?_); refine goesL_ (some 26) rfl rfl Try.func48 (by kernel_rfl) rfl #[.agg #[.int .i64 t538, .slice Ao31 t539.length co31], .int .i64 a1] rfl (by (try simp only [List.map_toArray, List.map_cons, List.map_nil]); first | done | rfl | (simp only [List.length_drop, List.length_take]; rfl)) ?_; (with_reducible refine (impl_LinesAt.calls k t538 _ _ t539 a1 t543 _ ?side1 ?side2 A11.out).mono ?_); (case side1 => refine (Kd.R_reads' (e := 70) (base := w.heap.size) (ok := fun k_ => (True ∧ some k_ ≠ (.slice Ao24 t532.length co24 : Value).ownBlock)) (n := t539.length) (c := co31) ?_).2.2; exact (by (with_reducible repeat (first | apply Kd.R_alloc | apply Kd.R_drewN | apply Kd.R_drew)); exact (Kd.R_mono (Kd.R_far (p := ⟨gb542, 1, none⟩) (Kd.R_far (p := ⟨gb542, 0, none⟩) (Kd.R_types HO541.out BK542.out (by decide)) (fun _ hk => hk.2) (.int .i64 t538)) (fun _ hk => hk.2) (.slice Ao31 t539.length co31)) (fun _ h_ => h_.1)))); (case side2 => exact (Kd.R_reads' HO541.out).2.1); rintro e w32 ⟨v544, rfl, ho0, hb⟩; refine ⟨_, rfl, ?_⟩; have n0_ := Aside0.mk (Kd.R_below (by (with_reducible repeat (first | apply Kd.R_alloc | apply Kd.R_drewN | apply Kd.R_drew)); exact (Kd.R_mono (Kd.R_far (p := ⟨gb542, 1, none⟩) (Kd.R_far (p := ⟨gb542, 0, none⟩) (Kd.R_types HO534.out BK542.out (by decide)) (fun _ hk => hk.2) (.int .i64 t538)) (fun _ hk => hk.2) (.slice Ao31 t539.length co31)) (fun _ h_ => h_.1))) hb); have n1_ := Aside0.mk (Kd.R_elder' (by (with_reducible repeat (first | apply Kd.R_alloc | apply Kd.R_drewN | apply Kd.R_drew)); exact (Kd.R_mono (Kd.R_far (p := ⟨gb542, 1, none⟩) (Kd.R_far (p := ⟨gb542, 0, none⟩) (Kd.R_types HO537.out BK542.out (by decide)) (fun _ hk => hk.2) (.int .i64 t538)) (fun _ hk => hk.2) (.slice Ao31 t539.length co31)) (fun _ h_ => h_.1))) (Kd.R_base ho0) hb); have n2_ := Aside0.mk (Kd.R_below (by (with_reducible repeat (first | apply Kd.R_alloc | apply Kd.R_drewN | apply Kd.R_drew)); exact (Kd.R_mono (Kd.R_far (p := ⟨gb542, 1, none⟩) (Kd.R_far (p := ⟨gb542, 0, none⟩) (Kd.R_types HO541.out BK542.out (by decide)) (fun _ hk => hk.2) (.int .i64 t538)) (fun _ hk => hk.2) (.slice Ao31 t539.length co31)) (fun _ h_ => h_.1))) hb); have n3_ := Aside0.mk (Kd.R_lower (Kd.R_new' ho0 (Kd.R_lt (by (with_reducible repeat (first | apply Kd.R_alloc | apply Kd.R_drewN | apply Kd.R_drew)); exact (Kd.R_mono (Kd.R_far (p := ⟨gb542, 1, none⟩) (Kd.R_far (p := ⟨gb542, 0, none⟩) (Kd.R_types HO537.out BK542.out (by decide)) (fun _ hk => hk.2) (.int .i64 t538)) (fun _ hk => hk.2) (.slice Ao31 t539.length co31)) (fun _ h_ => h_.1))))) (below_size (by repeat (first | (with_reducible first | exact HB.out | apply below_alloc | apply pw_below_drewN | apply below_drew1 | refine below_set ?_ GE529.out | refine below_set ?_ GE542.out) | exact HB.out)))); have n4_ := Aside0.mk (blk_below (g := gb529) (o := .cells #[.int .i64 a0_0, .slice A0_1 l0_1.length c0_1] 41 (0, 0)) (by (with_reducible repeat (first | refine blk_drewN ?_ _ | refine blk_drew ?_ | refine blk_alloc ?_ _)); refine blk_far ?_ NB529_542.out _; (with_reducible repeat (first | refine blk_drewN ?_ _ | refine blk_drew ?_ | refine blk_alloc ?_ _)); refine blk_far ?_ NB529_542.out _; (with_reducible repeat (first | refine blk_drewN ?_ _ | refine blk_drew ?_ | refine blk_alloc ?_ _)); exact BK529.out) hb); have n5_ := Aside0.mk (blk_below (g := gb542) (o := .cells #[.int .i64 t538, .slice Ao31 t539.length co31] 46 (0, 0)) (by (with_reducible repeat (first | refine blk_drewN ?_ _ | refine blk_drew ?_ | refine blk_alloc ?_ _)); refine blk_put (cs := #[.int .i64 t538, .slice none 0 0]) ?_ 1 _ rfl; (with_reducible repeat (first | refine blk_drewN ?_ _ | refine blk_drew ?_ | refine blk_alloc ?_ _)); refine blk_put (cs := #[.int .i64 0, .slice none 0 0]) ?_ 0 _ rfl; (with_reducible repeat (first | refine blk_drewN ?_ _ | refine blk_drew ?_ | refine blk_alloc ?_ _)); exact BK542.out) hb); have n6_ := Aside0.mk (below_step (by repeat (first | (with_reducible first | exact HB.out | apply below_alloc | apply pw_below_drewN | apply below_drew1 | refine below_set ?_ GE529.out | refine below_set ?_ GE542.out) | exact HB.out)) hb); clear HO534; clear HO537; clear HO541; clear BK529; clear BK542; clear HB; have HO534 := n0_; have HO537 := n1_; have HO541 := n2_; have HO545 := n3_; have BK529 := n4_; have BK542 := n5_; have HB := n6_; clear n0_ n1_ n2_ n3_ n4_ n5_ n6_; (try clear hb); (try clear hb2); (try clear hk); (try clear hi); (try clear ho0); obtain ⟨Ao33, co33, eo33⟩ := Kd.R_slice HO545.out; subst eo33; obtain ⟨Ao34, co34, eo34⟩ := Kd.R_slice HO537.out; subst eo34) | ((with_reducible refine gate_callee (f := 25) rfl ?_); refine goesL_ (some 29) rfl rfl Try.func25 (by kernel_rfl) rfl #[.slice Ao33 t543.length co33, .slice Ao34 t535.length co34] rfl (by (try simp only [List.map_toArray, List.map_cons, List.map_nil]); first | done | rfl | (simp only [List.length_drop, List.length_take]; rfl)) ?_; (with_reducible refine (laws_eqIntS.calls k _ _ t543 _ _ t535 true _ ?side1 ?side2 ?side3 ?side4 A12.out).mono ?_); (case side1 => repeat (first | exact (Kd.R_reads' HO545.out).2.2 | (with_reducible refine Kd.C_alloc ?_ _) | (with_reducible refine Kd.C_drewN ?_ _) | (with_reducible refine Kd.C_drew ?_))); (case side2 => exact (Kd.R_reads' HO545.out).2.1); (case side3 => repeat (first | exact (Kd.R_reads' HO537.out).2.2 | (with_reducible refine Kd.C_alloc ?_ _) | (with_reducible refine Kd.C_drewN ?_ _) | (with_reducible refine Kd.C_drew ?_))); (case side4 => exact (Kd.R_reads' HO537.out).2.1); rintro e w' ⟨rfl, ⟨nd, rfl⟩⟩; refine ⟨_, rfl, ?_⟩))
        (try (rw [drewN_self w32]; generalize hq_ : World.drewN w32 _ = w32; have n0_ : Aside0 (Kd.R k70 70 w32 w.heap.size (fun k_ => (True ∧ some k_ ≠ (.slice Ao31 t539.length co31 : Value).ownBlock)) (.slice Ao24 t532.length co24) t532) := ⟨by rw [← hq_]; exact (by (with_reducible repeat (first | apply Kd.R_alloc | apply Kd.R_drewN | apply Kd.R_drew)); exact HO534.out)⟩; have n1_ : Aside0 (Kd.R (Kd.int .i64) 3 w32 w.heap.size (fun k_ => (True ∧ some k_ ≠ (.slice Ao33 t543.length co33 : Value).ownBlock)) (.slice Ao34 t535.length co34) t535) := ⟨by rw [← hq_]; exact (by (with_reducible repeat (first | apply Kd.R_alloc | apply Kd.R_drewN | apply Kd.R_drew)); exact HO537.out)⟩; have n2_ : Aside0 (Kd.R k70 70 w32 w.heap.size (fun k_ => (True ∧ some k_ ≠ (.slice Ao24 t532.length co24 : Value).ownBlock)) (.slice Ao31 t539.length co31) t539) := ⟨by rw [← hq_]; exact (by (with_reducible repeat (first | apply Kd.R_alloc | apply Kd.R_drewN | apply Kd.R_drew)); exact HO541.out)⟩; have n3_ : Aside0 (Kd.R (Kd.int .i64) 3 w32 w.heap.size (fun k_ => (True ∧ some k_ ≠ (.slice Ao34 t535.length co34 : Value).ownBlock)) (.slice Ao33 t543.length co33) t543) := ⟨by rw [← hq_]; exact (by (with_reducible repeat (first | apply Kd.R_alloc | apply Kd.R_drewN | apply Kd.R_drew)); exact HO545.out)⟩; have n4_ : Aside0 (w32.heap[gb529]? = some (.cells #[.int .i64 a0_0, .slice A0_1 l0_1.length c0_1] 41 (0, 0))) := ⟨by rw [← hq_]; exact (by (with_reducible repeat (first | refine blk_drewN ?_ _ | refine blk_drew ?_ | refine blk_alloc ?_ _)); exact BK529.out)⟩; have n5_ : Aside0 (w32.heap[gb542]? = some (.cells #[.int .i64 t538, .slice Ao31 t539.length co31] 46 (0, 0))) := ⟨by rw [← hq_]; exact (by (with_reducible repeat (first | refine blk_drewN ?_ _ | refine blk_drew ?_ | refine blk_alloc ?_ _)); exact BK542.out)⟩; have n6_ : Aside0 (Below w.heap.size w w32) := ⟨by rw [← hq_]; exact (by repeat (first | (with_reducible first | exact HB.out | apply below_alloc | apply pw_below_drewN | apply below_drew1 | refine below_set ?_ GE529.out | refine below_set ?_ GE542.out) | exact HB.out))⟩; clear HO534 HO537 HO541 HO545 BK529 BK542 HB hq_; have HO534 := n0_; have HO537 := n1_; have HO541 := n2_; have HO545 := n3_; have BK529 := n4_; have BK542 := n5_; have HB := n6_; clear n0_ n1_ n2_ n3_ n4_ n5_ n6_))
        have n0_ := Aside0.mk (Kd.R_drew HO534.out)
        have n1_ := Aside0.mk (Kd.R_drew HO537.out)
        have n2_ := Aside0.mk (Kd.R_drew HO541.out)
        have n3_ := Aside0.mk (Kd.R_drew HO545.out)
        have n4_ := Aside0.mk (blk_drew BK529.out)
        have n5_ := Aside0.mk (blk_drew BK542.out)
        have n6_ := Aside0.mk (below_drew1 HB.out)
        clear HO534
        clear HO537
        clear HO541
        clear HO545
        clear BK529
        clear BK542
        clear HB
        have HO534 := n0_
        have HO537 := n1_
        have HO541 := n2_
        have HO545 := n3_
        have BK529 := n4_
        have BK542 := n5_
        have HB := n6_
        clear n0_ n1_ n2_ n3_ n4_ n5_ n6_
        refine start_ (n := 5) (S := fun w' => w'.cell? ⟨gb542, 0, none⟩ = some (.int .i64 t538) ∧ w'.cell? ⟨gb542, 1, none⟩ = some (.slice Ao31 t539.length co31) ∧ w'.cell? ⟨gb529, 0, none⟩ = some (.int .i64 a0_0) ∧ w'.cell? ⟨gb529, 1, none⟩ = some (.slice A0_1 l0_1.length c0_1)) (ds := []) #[false, false, false, false, false] (by kernel_rfl) rfl rfl ⟨(blk_cell BK542.out 0).trans rfl, (blk_cell BK542.out 1).trans rfl, (blk_cell BK529.out 0).trans rfl, (blk_cell BK529.out 1).trans rfl⟩ (fun hHeld => ?_)
        generalize w32.drew = w35 at HO534 HO537 HO541 HO545 BK529 BK542 HB hHeld ⊢
        refine take_ (i := 0) (N := some 31) (v := ?_) (a' := ?_) #[true, false, false, false, false] rfl rfl (by kernel_rfl) (fun _ _ _ h => h) (Or.inl ⟨by rfl, ?_⟩) hHeld ?_ ?_
        rotate_left
        · rintro w' ⟨s0, s1, s2, s3⟩
          go_simp
          with_reducible rfl
        rotate_left
        · simp only [Act.put, List.setIfInBounds_toArray, List.set_cons_zero, List.set_cons_succ, i64_w, i32_w]
          rfl
        refine take_ (i := 1) (N := some 32) (v := ?_) (a' := ?_) #[true, true, false, false, false] rfl rfl (by kernel_rfl) (fun _ _ _ h => h) (Or.inl ⟨by rfl, ?_⟩) hHeld ?_ ?_
        rotate_left
        · rintro w' ⟨s0, s1, s2, s3⟩
          go_simp
          with_reducible rfl
        rotate_left
        · simp only [Act.put, List.setIfInBounds_toArray, List.set_cons_zero, List.set_cons_succ, i64_w, i32_w]
          rfl
        refine one_ (i := 2) (N := some 33) #[true, true, true, false, false] rfl rfl (by kernel_rfl) (by decide) (fun K hK => ?_)
        refine goes_ Try.func33 (by kernel_rfl) rfl #[.agg #[.int .i64 a0_0, .slice A0_1 l0_1.length c0_1]] (by rfl) rfl rfl (by (try simp only [List.map_toArray, List.map_cons, List.map_nil]); first | done | rfl | (simp only [List.length_drop, List.length_take]; rfl)) ?_
        with_reducible refine (laws_toNet.calls k a0_0 _ _ l0_1 t547 t548 _ ?side1 ?side2 A14.out).mono ?_
        (case side1 => repeat (first | exact (Kd.C_below HR0_1.out HB.out) | (with_reducible refine Kd.C_alloc ?_ _) | (with_reducible refine Kd.C_drewN ?_ _) | (with_reducible refine Kd.C_drew ?_)))
        (case side2 => exact HC0_1.out)
        rintro e w36 ⟨v549, rfl, ho0, hb⟩
        refine ⟨_, rfl, ?_⟩
        have n0_ := Aside0.mk (Kd.R_elder' (by (with_reducible repeat (first | apply Kd.R_alloc | apply Kd.R_drewN | apply Kd.R_drew)); exact HO534.out) (Kd.R_base ho0) hb)
        have n1_ := Aside0.mk (Kd.R_below (by (with_reducible repeat (first | apply Kd.R_alloc | apply Kd.R_drewN | apply Kd.R_drew)); exact HO537.out) hb)
        have n2_ := Aside0.mk (Kd.R_elder' (by (with_reducible repeat (first | apply Kd.R_alloc | apply Kd.R_drewN | apply Kd.R_drew)); exact HO541.out) (Kd.R_base ho0) hb)
        have n3_ := Aside0.mk (Kd.R_below (by (with_reducible repeat (first | apply Kd.R_alloc | apply Kd.R_drewN | apply Kd.R_drew)); exact HO545.out) hb)
        have n4_ := Aside0.mk (Kd.R_lower (Kd.R_new' (Kd.R_new' ho0 (Kd.R_lt (by (with_reducible repeat (first | apply Kd.R_alloc | apply Kd.R_drewN | apply Kd.R_drew)); exact HO534.out))) (Kd.R_lt (by (with_reducible repeat (first | apply Kd.R_alloc | apply Kd.R_drewN | apply Kd.R_drew)); exact HO541.out))) (below_size (by repeat (first | (with_reducible first | exact HB.out | apply below_alloc | apply pw_below_drewN | apply below_drew1 | refine below_set ?_ GE529.out | refine below_set ?_ GE542.out) | exact HB.out))))
        have n5_ := Aside0.mk (blk_below (g := gb529) (o := .cells #[.int .i64 a0_0, .slice A0_1 l0_1.length c0_1] 41 (0, 0)) (by (with_reducible repeat (first | refine blk_drewN ?_ _ | refine blk_drew ?_ | refine blk_alloc ?_ _)); exact BK529.out) hb)
        have n6_ := Aside0.mk (blk_below (g := gb542) (o := .cells #[.int .i64 t538, .slice Ao31 t539.length co31] 46 (0, 0)) (by (with_reducible repeat (first | refine blk_drewN ?_ _ | refine blk_drew ?_ | refine blk_alloc ?_ _)); exact BK542.out) hb)
        have n7_ := Aside0.mk (below_step (by repeat (first | (with_reducible first | exact HB.out | apply below_alloc | apply pw_below_drewN | apply below_drew1 | refine below_set ?_ GE529.out | refine below_set ?_ GE542.out) | exact HB.out)) hb)
        clear HO534
        clear HO537
        clear HO541
        clear HO545
        clear BK529
        clear BK542
        clear HB
        have HO534 := n0_
        have HO537 := n1_
        have HO541 := n2_
        have HO545 := n3_
        have HO550 := n4_
        have BK529 := n5_
        have BK542 := n6_
        have HB := n7_
        clear n0_ n1_ n2_ n3_ n4_ n5_ n6_ n7_
        (try clear hb)
        (try clear hb2)
        (try clear hk)
        (try clear hi)
        (try clear ho0)
        obtain ⟨Ao37, co37, eo37⟩ := Kd.R_slice HO550.out
        (first | subst eo37 | (injection eo37 with f1_ f2_ f3_; have f4_ := f1_.symm; have f5_ := f3_.symm; clear f1_ f2_ f3_; subst f4_; subst f5_))
        refine hK.out _ _ ⟨(blk_cell BK542.out 0).trans rfl, (blk_cell BK542.out 1).trans rfl, (blk_cell BK529.out 0).trans rfl, (blk_cell BK529.out 1).trans rfl⟩ (fun hHeld => ?_)
        clear hK K
        refine norm_ (a' := ?_) ?_ ?_
        rotate_left
        · show Act.put _ (some 33) _ = _
          simp only [Act.put, List.setIfInBounds_toArray, List.set_cons_zero, List.set_cons_succ, i64_w, i32_w]
          rfl
        refine one_ (i := 3) (N := some 34) #[true, true, true, true, false] rfl rfl (by kernel_rfl) (by decide) (fun K hK => ?_)
        refine goes_ Try.func35 (by kernel_rfl) rfl #[.agg #[.int .i64 t538, .slice Ao31 t539.length co31], .agg #[.int .i64 t547, .slice Ao37 t548.length co37]] (by rfl) rfl rfl (by (try simp only [List.map_toArray, List.map_cons, List.map_nil]); first | done | rfl | (simp only [List.length_drop, List.length_take]; rfl)) ?_
        with_reducible refine (laws_eqNet.calls k t538 _ _ t539 t547 _ _ t548 true _ ?side1 ?side2 ?side3 ?side4 A15.out).mono ?_
        (case side1 => repeat (first | exact (Kd.R_reads' HO541.out).2.2 | (with_reducible refine Kd.C_alloc ?_ _) | (with_reducible refine Kd.C_drewN ?_ _) | (with_reducible refine Kd.C_drew ?_)))
        (case side2 => exact (Kd.R_reads' HO541.out).2.1)
        (case side3 => repeat (first | exact (Kd.R_reads' HO550.out).2.2 | (with_reducible refine Kd.C_alloc ?_ _) | (with_reducible refine Kd.C_drewN ?_ _) | (with_reducible refine Kd.C_drew ?_)))
        (case side4 => exact (Kd.R_reads' HO550.out).2.1)
        rintro e w38 ⟨rfl, hb⟩
        refine ⟨_, rfl, ?_⟩
        have n0_ := Aside0.mk (Kd.R_below (by (with_reducible repeat (first | apply Kd.R_alloc | apply Kd.R_drewN | apply Kd.R_drew)); exact HO534.out) hb)
        have n1_ := Aside0.mk (Kd.R_below (by (with_reducible repeat (first | apply Kd.R_alloc | apply Kd.R_drewN | apply Kd.R_drew)); exact HO537.out) hb)
        have n2_ := Aside0.mk (Kd.R_below (by (with_reducible repeat (first | apply Kd.R_alloc | apply Kd.R_drewN | apply Kd.R_drew)); exact HO541.out) hb)
        have n3_ := Aside0.mk (Kd.R_below (by (with_reducible repeat (first | apply Kd.R_alloc | apply Kd.R_drewN | apply Kd.R_drew)); exact HO545.out) hb)
        have n4_ := Aside0.mk (Kd.R_below (by (with_reducible repeat (first | apply Kd.R_alloc | apply Kd.R_drewN | apply Kd.R_drew)); exact HO550.out) hb)
        have n5_ := Aside0.mk (blk_below (g := gb529) (o := .cells #[.int .i64 a0_0, .slice A0_1 l0_1.length c0_1] 41 (0, 0)) (by (with_reducible repeat (first | refine blk_drewN ?_ _ | refine blk_drew ?_ | refine blk_alloc ?_ _)); exact BK529.out) hb)
        have n6_ := Aside0.mk (blk_below (g := gb542) (o := .cells #[.int .i64 t538, .slice Ao31 t539.length co31] 46 (0, 0)) (by (with_reducible repeat (first | refine blk_drewN ?_ _ | refine blk_drew ?_ | refine blk_alloc ?_ _)); exact BK542.out) hb)
        have n7_ := Aside0.mk (below_step (by repeat (first | (with_reducible first | exact HB.out | apply below_alloc | apply pw_below_drewN | apply below_drew1 | refine below_set ?_ GE529.out | refine below_set ?_ GE542.out) | exact HB.out)) hb)
        clear HO534
        clear HO537
        clear HO541
        clear HO545
        clear HO550
        clear BK529
        clear BK542
        clear HB
        have HO534 := n0_
        have HO537 := n1_
        have HO541 := n2_
        have HO545 := n3_
        have HO550 := n4_
        have BK529 := n5_
        have BK542 := n6_
        have HB := n7_
        clear n0_ n1_ n2_ n3_ n4_ n5_ n6_ n7_
        (try clear hb)
        (try clear hb2)
        (try clear hk)
        (try clear hi)
        refine hK.out _ _ ⟨(blk_cell BK542.out 0).trans rfl, (blk_cell BK542.out 1).trans rfl, (blk_cell BK529.out 0).trans rfl, (blk_cell BK529.out 1).trans rfl⟩ (fun hHeld => ?_)
        clear hK K
        refine norm_ (a' := ?_) ?_ ?_
        rotate_left
        · show Act.put _ (some 34) _ = _
          simp only [Act.put, List.setIfInBounds_toArray, List.set_cons_zero, List.set_cons_succ, i64_w, i32_w]
          rfl
        refine pure_ (i := 4) (N := some 35) (v := ?_) (a' := ?_) #[true, true, true, true, true] rfl rfl (by kernel_rfl) (fun _ _ _ h => h) (Or.inl ⟨by rfl, ?_⟩) ?_ ?_
        rotate_left
        · intro w'
          go_simp
          with_reducible rfl
        rotate_left
        · simp only [Act.put, List.setIfInBounds_toArray, List.set_cons_zero, List.set_cons_succ, i64_w, i32_w]
          rfl
        refine done_ (by kernel_rfl) ?_
        have hcz39_0 : w38.cell? ⟨gb542, 0, none⟩ = some (.int .i64 t538) := (blk_cell BK542.out 0).trans rfl
        have hcz39_1 : w38.cell? ⟨gb542, 1, none⟩ = some (.slice Ao31 t539.length co31) := (blk_cell BK542.out 1).trans rfl
        have hfz39_0 := blk_frozen BK542.out 0
        have hfz39_1 := blk_frozen BK542.out 1
        go_upto_region 14 with (first | ((with_reducible refine gate_callee (f := 49) rfl ?_); refine goesL_ (some 38) rfl rfl Try.func49 (by kernel_rfl) rfl #[.agg #[.int .i64 t538, .slice Ao31 t539.length co31], .int .i64 1] rfl (by (try simp only [List.map_toArray, List.map_cons, List.map_nil]); first | done | rfl | (simp only [List.length_drop, List.length_take]; rfl)) ?_; (with_reducible refine (laws_markNet.calls k t538 (fun k_ => some k_ = (.slice Ao31 t539.length co31 : Value).ownBlock) (.slice Ao31 t539.length co31) t539 1 t552 t553 w _ ?side1 ?side2 A17.out).mono ?_); (case side1 => repeat (first | (with_reducible first | exact HB.out | apply below_alloc | apply pw_below_drewN | apply below_drew1 | refine below_set ?_ GE529.out | refine below_set ?_ GE542.out) | exact HB.out)); (case side2 => exact Kd.R_tight rfl HO541.out); rintro e w40 ⟨rfl, hy0, hb, hkp⟩; refine ⟨_, rfl, ?_⟩; have n0_ := Aside0.mk (blk_kept (by (with_reducible repeat (first | refine blk_drewN ?_ _ | refine blk_drew ?_ | refine blk_alloc ?_ _)); exact BK529.out) hkp (fun hs_ => (fun e_ => (Kd.R_ne HO541.out BK529.out (by decide)) e_) hs_)); have n1_ := Aside0.mk (Kd.R_mono (ok' := fun k_ => some k_ ≠ (.slice Ao31 t539.length co31 : Value).ownBlock ∧ some k_ ≠ (.slice Ao37 t548.length co37 : Value).ownBlock) (Kd.R_keptB (HO534.out) hkp (fun k_ hk_ hs_ => (hk_.1.2) hs_)) (fun k_ hk_ => ⟨hk_.1.1.2, hk_.1.2⟩)); have n2_ := Aside0.mk (Kd.R_mono (ok' := fun k_ => some k_ ≠ (.slice Ao33 t543.length co33 : Value).ownBlock) (Kd.R_keptB ((Kd.R_apart' HO537.out (Kd.R_typed HO541.out) (by decide))) hkp (fun k_ hk_ hs_ => (hk_.2) hs_)) (fun k_ hk_ => hk_.1.1.2)); have n3_ := Aside0.mk (Kd.R_reok rfl hy0 (fun k_ e_ => HO541.out.1 k_ e_)); have n4_ := Aside0.mk (blk_kept (by (with_reducible repeat (first | refine blk_drewN ?_ _ | refine blk_drew ?_ | refine blk_alloc ?_ _)); exact BK542.out) hkp (fun hs_ => (fun e_ => (Kd.R_ne HO541.out BK542.out (by decide)) e_) hs_)); have n5_ := Aside0.mk (Kd.R_mono (ok' := fun k_ => some k_ ≠ (.slice Ao34 t535.length co34 : Value).ownBlock) (Kd.R_keptB ((Kd.R_apart' HO545.out (Kd.R_typed HO541.out) (by decide))) hkp (fun k_ hk_ hs_ => (hk_.2) hs_)) (fun k_ hk_ => hk_.1.1.2)); have n6_ := Aside0.mk (Kd.R_mono (ok' := fun k_ => some k_ ≠ (.slice Ao24 t532.length co24 : Value).ownBlock ∧ some k_ ≠ (.slice Ao31 t539.length co31 : Value).ownBlock) (Kd.R_keptB (HO550.out) hkp (fun k_ hk_ hs_ => (hk_.2) hs_)) (fun k_ hk_ => ⟨hk_.1.1.2, hk_.1.2⟩)); have n7_ := Aside0.mk (hb); clear BK529; clear HO534; clear HO537; clear HO541; clear BK542; clear HO545; clear HO550; clear HB; have BK529 := n0_; have HO534 := n1_; have HO537 := n2_; have HO541 := n3_; have BK542 := n4_; have HO545 := n5_; have HO550 := n6_; have HB := n7_; clear n0_ n1_ n2_ n3_ n4_ n5_ n6_ n7_; (try clear hb); (try clear hkp); (try clear hy0)))
        (try simp only [Act.put, List.setIfInBounds_toArray, List.set_cons_zero, List.set_cons_succ])
        go_cut [46] (fun v46 wc => ∃ (kq : Nat) (x46_17 : Bool), v46 = .bool x46_17 ∧ Aside0 (laws_FnExactLinesAt.j0 kq a1 t535 t543 x46_17 a0_0 l0_1 = some r) ∧ Aside0 (kq ≤ k) ∧ Aside0 (Kd.R (Kd.int .i64) 3 wc w.heap.size (fun k_ => some k_ ≠ ((.slice Ao33 t543.length co33) : Value).ownBlock) (.slice Ao34 t535.length co34) t535) ∧ Aside0 (Kd.R (Kd.int .i64) 3 wc w.heap.size (fun k_ => some k_ ≠ ((.slice Ao34 t535.length co34) : Value).ownBlock) (.slice Ao33 t543.length co33) t543) ∧ Aside0 (Kd.R k70 70 wc w.heap.size (fun _ => True) (.slice Ao31 t539.length co31) t553) ∧ Aside0 (wc.heap[gb529]? = some (.cells #[.int .i64 a0_0, (.slice A0_1 l0_1.length c0_1)] 41 (0, 0))) ∧ Aside0 (wc.heap[gb542]? = some (.cells #[.int .i64 t538, (.slice Ao31 t539.length co31)] 46 (0, 0))) ∧ Aside0 (Below w.heap.size w wc))
        case first =>
          have H := HC18.out
          clear HC18
          by_cases c41 : t552 < 0
          · rw [if_pos c41] at H
            have c41b0 : decide (t552 < 0) = true := decide_eq_true c41
            clear c41
            (first | rw [c41b0] | (simp only [i64_w, i32_w]; rw [c41b0]) | skip)
            have H' := Aside0.mk H
            clear H
            go_wp2
            go_meet
            case rel => exact ⟨_, (true), (by first | rfl | (simp; done) | (simp [*]; done)), H', ⟨by first | omega | exact Nat.le_refl _⟩, ⟨by (with_reducible repeat (first | apply Kd.R_alloc | apply Kd.R_drewN | apply Kd.R_drew)); exact HO537.out⟩, ⟨by (with_reducible repeat (first | apply Kd.R_alloc | apply Kd.R_drewN | apply Kd.R_drew)); exact HO545.out⟩, ⟨by (with_reducible repeat (first | apply Kd.R_alloc | apply Kd.R_drewN | apply Kd.R_drew)); exact Kd.R_mono HO541.out (fun _ hk => trivial)⟩, ⟨by (with_reducible repeat (first | refine blk_drewN ?_ _ | refine blk_drew ?_ | refine blk_alloc ?_ _)); exact BK529.out⟩, ⟨by (with_reducible repeat (first | refine blk_drewN ?_ _ | refine blk_drew ?_ | refine blk_alloc ?_ _)); exact BK542.out⟩, ⟨by repeat (first | (with_reducible first | exact HB.out | apply below_alloc | apply pw_below_drewN | apply below_drew1 | refine below_set ?_ GE529.out | refine below_set ?_ GE542.out) | exact HB.out)⟩⟩
          · rw [if_neg c41] at H
            have c41b0 : decide (t552 < 0) = false := decide_eq_false c41
            clear c41
            (first | rw [c41b0] | (simp only [i64_w, i32_w]; rw [c41b0]) | skip)
            replace H := Option.bind_eq_some_iff.mp H
            obtain ⟨t554, A420, H⟩ := H
            replace H : (laws_FnExactLinesAt.j0 k a1 t535 t543 (!t554) a0_0 l0_1) = some r := H
            have A42 := Aside0.mk A420
            clear A420
            have H' := Aside0.mk H
            clear H
            go_wp2_with (first | (go_at_call 25; (with_reducible refine (laws_eqIntS.calls k _ _ t543 _ _ t535 t554 _ ?side1 ?side2 ?side3 ?side4 A42.out).mono ?_); (case side1 => repeat (first | exact (Kd.R_reads' HO545.out).2.2 | (with_reducible refine Kd.C_alloc ?_ _) | (with_reducible refine Kd.C_drewN ?_ _) | (with_reducible refine Kd.C_drew ?_))); (case side2 => exact (Kd.R_reads' HO545.out).2.1); (case side3 => repeat (first | exact (Kd.R_reads' HO537.out).2.2 | (with_reducible refine Kd.C_alloc ?_ _) | (with_reducible refine Kd.C_drewN ?_ _) | (with_reducible refine Kd.C_drew ?_))); (case side4 => exact (Kd.R_reads' HO537.out).2.1); rintro e w' ⟨rfl, ⟨nd, rfl⟩⟩))
            go_meet
            case rel => exact ⟨_, (!t554), (by first | rfl | (simp; done) | (simp [*]; done)), H', ⟨by first | omega | exact Nat.le_refl _⟩, ⟨by (with_reducible repeat (first | apply Kd.R_alloc | apply Kd.R_drewN | apply Kd.R_drew)); exact HO537.out⟩, ⟨by (with_reducible repeat (first | apply Kd.R_alloc | apply Kd.R_drewN | apply Kd.R_drew)); exact HO545.out⟩, ⟨by (with_reducible repeat (first | apply Kd.R_alloc | apply Kd.R_drewN | apply Kd.R_drew)); exact Kd.R_mono HO541.out (fun _ hk => trivial)⟩, ⟨by (with_reducible repeat (first | refine blk_drewN ?_ _ | refine blk_drew ?_ | refine blk_alloc ?_ _)); exact BK529.out⟩, ⟨by (with_reducible repeat (first | refine blk_drewN ?_ _ | refine blk_drew ?_ | refine blk_alloc ?_ _)); exact BK542.out⟩, ⟨by repeat (first | (with_reducible first | exact HB.out | apply below_alloc | apply pw_below_drewN | apply below_drew1 | refine below_set ?_ GE529.out | refine below_set ?_ GE542.out) | exact HB.out)⟩⟩
        case rest =>
          clear HC18
          try clear c1
          try clear c2
          try clear p2
          try clear c3
          try clear c4
          try clear c4b0
          try clear c13
          try clear c16
          try clear c25
          try clear c29
          try clear c31
          try clear c33
          try clear c35
          try clear c41
          try clear c41b0
          try clear hcz20_0
          try clear hcz20_1
          try clear hcz22_0
          try clear hcz22_1
          try clear hcz26_0
          try clear hcz26_1
          try clear hcz30_0
          try clear hcz30_1
          try clear hcz39_0
          try clear hcz39_1
          try clear hcz6_0
          try clear hcz6_1
          try clear hfz20_0
          try clear hfz20_1
          try clear hfz22_0
          try clear hfz22_1
          try clear hfz26_0
          try clear hfz26_1
          try clear hfz30_0
          try clear hfz30_1
          try clear hfz39_0
          try clear hfz39_1
          try clear hfz6_0
          try clear hfz6_1
          obtain ⟨kq, x46_17, rfl, HA, HJ17, HO_6, HO_8, HO_543001, BK529, BK542, HB⟩ := hcut
          have hl543001_17 := (Kd.R_reads' HO_543001.out).1
          rw [hl543001_17] at HO_543001
          (try simp only [hl543001_17])
          (try simp only [hl543001_17] at BK529)
          (try simp only [hl543001_17] at BK542)
          (try simp only [hl543001_17] at HO_6)
          (try simp only [hl543001_17] at HO_8)
          cases kq with
          | zero => exact absurd HA.out (by simp [laws_FnExactLinesAt.j0])
          | succ kj17 =>
            have H := HA.out
            clear HA
            simp only [laws_FnExactLinesAt.j0] at H
            by_cases c43 : x46_17 = true
            · subst c43
              have H1 : (none) = some r := by rw [if_pos rfl] at H; exact H
              clear H
              have H := H1
              clear H1
              exact absurd H (by simp)
            · replace c43 := Bool.eq_false_iff.mpr c43
              subst c43
              have H1 : ((laws_markIntS.f kj17 t543 1).bind fun bt555 => ((laws_heldIntS.f kj17 bt555.2 1).bind fun t557 => (if t557 < 0 then (none) else (if t557 = bt555.1 then ((laws_toNet.f kj17 a0_0 l0_1).bind fun bt558 => ((impl_LinesAt.f kj17 bt558.1 bt558.2 a1).bind fun t562 => ((laws_eqIntS.f kj17 t562 t535).bind fun t565 => (if t565 = true then ((laws_heldIntS.f kj17 bt555.2 1).bind fun t566 => (if t566 < 0 then (none) else (if t566 = bt555.1 then (some true) else (none)))) else (none))))) else (none))))) = some r := by rw [if_neg (show ¬ (false = true) by decide)] at H; exact H
              clear H
              have H := H1
              clear H1
              replace H := Option.bind_eq_some_iff.mp H
              obtain ⟨⟨t555, t556⟩, A440, H⟩ := H
              replace H : ((laws_heldIntS.f kj17 t556 1).bind fun t557 => (if t557 < 0 then (none) else (if t557 = t555 then ((laws_toNet.f kj17 a0_0 l0_1).bind fun bt558 => ((impl_LinesAt.f kj17 bt558.1 bt558.2 a1).bind fun t562 => ((laws_eqIntS.f kj17 t562 t535).bind fun t565 => (if t565 = true then ((laws_heldIntS.f kj17 t556 1).bind fun t566 => (if t566 < 0 then (none) else (if t566 = t555 then (some true) else (none)))) else (none))))) else (none)))) = some r := H
              have A44 := Aside0.mk A440
              clear A440
              replace H := Option.bind_eq_some_iff.mp H
              obtain ⟨t557, A450, H⟩ := H
              replace H : (if t557 < 0 then (none) else (if t557 = t555 then ((laws_toNet.f kj17 a0_0 l0_1).bind fun bt558 => ((impl_LinesAt.f kj17 bt558.1 bt558.2 a1).bind fun t562 => ((laws_eqIntS.f kj17 t562 t535).bind fun t565 => (if t565 = true then ((laws_heldIntS.f kj17 t556 1).bind fun t566 => (if t566 < 0 then (none) else (if t566 = t555 then (some true) else (none)))) else (none))))) else (none))) = some r := H
              have A45 := Aside0.mk A450
              clear A450
              by_cases c46 : t557 < 0
              · rw [if_pos c46] at H
                exact absurd H (by simp)
              · rw [if_neg c46] at H
                have c46b0 : decide (t557 < 0) = false := decide_eq_false c46
                clear c46
                by_cases c47 : t557 = t555
                · rw [if_pos c47] at H
                  have c47b0 : (t557 == t555) = true := beq_iff_eq.mpr c47
                  have c47b1 : (t557 != t555) = false := bne_eq_false_iff_eq.mpr c47
                  clear c47
                  replace H := Option.bind_eq_some_iff.mp H
                  obtain ⟨⟨t558, t559⟩, A480, H⟩ := H
                  replace H : ((impl_LinesAt.f kj17 t558 t559 a1).bind fun t562 => ((laws_eqIntS.f kj17 t562 t535).bind fun t565 => (if t565 = true then ((laws_heldIntS.f kj17 t556 1).bind fun t566 => (if t566 < 0 then (none) else (if t566 = t555 then (some true) else (none)))) else (none)))) = some r := H
                  have A48 := Aside0.mk A480
                  clear A480
                  replace H := Option.bind_eq_some_iff.mp H
                  obtain ⟨t562, A490, H⟩ := H
                  replace H : ((laws_eqIntS.f kj17 t562 t535).bind fun t565 => (if t565 = true then ((laws_heldIntS.f kj17 t556 1).bind fun t566 => (if t566 < 0 then (none) else (if t566 = t555 then (some true) else (none)))) else (none))) = some r := H
                  have A49 := Aside0.mk A490
                  clear A490
                  replace H := Option.bind_eq_some_iff.mp H
                  obtain ⟨t565, A500, H⟩ := H
                  replace H : (if t565 = true then ((laws_heldIntS.f kj17 t556 1).bind fun t566 => (if t566 < 0 then (none) else (if t566 = t555 then (some true) else (none)))) else (none)) = some r := H
                  have A50 := Aside0.mk A500
                  clear A500
                  by_cases c51 : t565 = true
                  · subst c51
                    have H1 : ((laws_heldIntS.f kj17 t556 1).bind fun t566 => (if t566 < 0 then (none) else (if t566 = t555 then (some true) else (none)))) = some r := by rw [if_pos rfl] at H; exact H
                    clear H
                    have H := H1
                    clear H1
                    replace H := Option.bind_eq_some_iff.mp H
                    obtain ⟨t566, A520, H⟩ := H
                    replace H : (if t566 < 0 then (none) else (if t566 = t555 then (some true) else (none))) = some r := H
                    have A52 := Aside0.mk A520
                    clear A520
                    by_cases c53 : t566 < 0
                    · rw [if_pos c53] at H
                      exact absurd H (by simp)
                    · rw [if_neg c53] at H
                      have c53b0 : decide (t566 < 0) = false := decide_eq_false c53
                      clear c53
                      by_cases c54 : t566 = t555
                      · rw [if_pos c54] at H
                        have c54b0 : (t566 == t555) = true := beq_iff_eq.mpr c54
                        have c54b1 : (t566 != t555) = false := bne_eq_false_iff_eq.mpr c54
                        clear c54
                        obtain rfl := Option.some.inj H
                        go_wp2_with (first | ((with_reducible refine gate_callee (f := 26) rfl ?_); refine goesL_ (some 49) rfl rfl Try.func26 (by kernel_rfl) rfl #[.slice Ao33 t543.length co33, .int .i64 1] rfl (by (try simp only [List.map_toArray, List.map_cons, List.map_nil]); first | done | rfl | (simp only [List.length_drop, List.length_take]; rfl)) ?_; (with_reducible refine (laws_markIntS.calls kj17 (fun k_ => some k_ = (.slice Ao33 t543.length co33 : Value).ownBlock) (.slice Ao33 t543.length co33) t543 1 t555 t556 w _ ?side1 ?side2 A44.out).mono ?_); (case side1 => repeat (first | (with_reducible first | exact HB.out | apply below_alloc | apply pw_below_drewN | apply below_drew1 | refine below_set ?_ GE529.out | refine below_set ?_ GE542.out) | exact HB.out)); (case side2 => exact Kd.R_tight rfl HO_8.out); rintro e w55 ⟨rfl, hy0, hb, hkp⟩; refine ⟨_, rfl, ?_⟩; have n0_ := Aside0.mk (Kd.R_mono (ok' := fun k_ => some k_ ≠ (.slice Ao33 t543.length co33 : Value).ownBlock) (Kd.R_keptB (HO_6.out) hkp (fun k_ hk_ hs_ => (hk_) hs_)) (fun k_ hk_ => hk_.1)); have n1_ := Aside0.mk (Kd.R_reok rfl hy0 (fun k_ e_ => HO_8.out.1 k_ e_)); have n2_ := Aside0.mk (Kd.R_mono (ok' := fun k_ => True) (Kd.R_keptB ((Kd.R_apart' HO_543001.out (Kd.R_typed HO_8.out) (by decide))) hkp (fun k_ hk_ hs_ => (hk_.2) hs_)) (fun k_ hk_ => trivial)); have n3_ := Aside0.mk (blk_kept (by (with_reducible repeat (first | refine blk_drewN ?_ _ | refine blk_drew ?_ | refine blk_alloc ?_ _)); exact BK529.out) hkp (fun hs_ => (fun e_ => (Kd.R_ne HO_8.out BK529.out (by decide)) e_) hs_)); have n4_ := Aside0.mk (blk_kept (by (with_reducible repeat (first | refine blk_drewN ?_ _ | refine blk_drew ?_ | refine blk_alloc ?_ _)); exact BK542.out) hkp (fun hs_ => (fun e_ => (Kd.R_ne HO_8.out BK542.out (by decide)) e_) hs_)); have n5_ := Aside0.mk (hb); clear HO_6; clear HO_8; clear HO_543001; clear BK529; clear BK542; clear HB; have HO_6 := n0_; have HO_8 := n1_; have HO_543001 := n2_; have BK529 := n3_; have BK542 := n4_; have HB := n5_; clear n0_ n1_ n2_ n3_ n4_ n5_; (try clear hb); (try clear hkp); (try clear hy0)) | ((with_reducible refine gate_callee (f := 27) rfl ?_); refine goesL_ (some 52) rfl rfl Try.func27 (by kernel_rfl) rfl #[.slice Ao33 t556.length co33, .int .i64 1] rfl (by (try simp only [List.map_toArray, List.map_cons, List.map_nil]); first | done | (rw [show t556.length = t543.length from (Kd.R_reads' HO_8.out).1.symm] <;> rfl) | rfl | (simp only [List.length_drop, List.length_take]; rfl)) ?_; (with_reducible refine (laws_heldIntS.calls kj17 _ _ t556 1 t557 _ ?side1 ?side2 A45.out).mono ?_); (case side1 => repeat (first | exact (Kd.R_reads' HO_8.out).2.2 | (with_reducible refine Kd.C_alloc ?_ _) | (with_reducible refine Kd.C_drewN ?_ _) | (with_reducible refine Kd.C_drew ?_))); (case side2 => rw [show t556.length = t543.length from (Kd.R_reads' HO_8.out).1.symm]; exact (Kd.R_reads' HO_8.out).2.1); rintro e w' ⟨rfl, ⟨nd, rfl⟩⟩; refine ⟨_, rfl, ?_⟩; have hnb56 := NB529_542.out; have hnc56 := NB542_529.out; have hcz57_0 : w55.cell? ⟨gb529, 0, none⟩ = some (.int .i64 a0_0) := (blk_cell BK529.out 0).trans rfl; have hcz57_1 : w55.cell? ⟨gb529, 1, none⟩ = some (.slice A0_1 l0_1.length c0_1) := (blk_cell BK529.out 1).trans rfl; have hfz57_0 := blk_frozen BK529.out 0; have hfz57_1 := blk_frozen BK529.out 1) | ((with_reducible refine gate_callee (f := 33) rfl ?_); refine goesL_ (some 59) rfl rfl Try.func33 (by kernel_rfl) rfl #[.agg #[.int .i64 a0_0, .slice A0_1 l0_1.length c0_1]] rfl (by (try simp only [List.map_toArray, List.map_cons, List.map_nil]); first | done | rfl | (simp only [List.length_drop, List.length_take]; rfl)) ?_; (with_reducible refine (laws_toNet.calls kj17 a0_0 _ _ l0_1 t558 t559 _ ?side1 ?side2 A48.out).mono ?_); (case side1 => repeat (first | exact (Kd.C_below HR0_1.out (by repeat (first | (with_reducible first | exact HB.out | apply below_alloc | apply pw_below_drewN | apply below_drew1 | refine below_set ?_ GE529.out | refine below_set ?_ GE542.out) | exact HB.out))) | (with_reducible refine Kd.C_alloc ?_ _) | (with_reducible refine Kd.C_drewN ?_ _) | (with_reducible refine Kd.C_drew ?_))); (case side2 => exact HC0_1.out); rintro e w58 ⟨v560, rfl, ho0, hb⟩; refine ⟨_, rfl, ?_⟩; have n0_ := Aside0.mk (Kd.R_below (by (with_reducible repeat (first | apply Kd.R_alloc | apply Kd.R_drewN | apply Kd.R_drew)); exact HO_6.out) hb); have n1_ := Aside0.mk (Kd.R_below (by (with_reducible repeat (first | apply Kd.R_alloc | apply Kd.R_drewN | apply Kd.R_drew)); exact HO_8.out) hb); have n2_ := Aside0.mk (Kd.R_elder' (by (with_reducible repeat (first | apply Kd.R_alloc | apply Kd.R_drewN | apply Kd.R_drew)); exact HO_543001.out) (Kd.R_base ho0) hb); have n3_ := Aside0.mk (Kd.R_lower (Kd.R_new' ho0 (Kd.R_lt (by (with_reducible repeat (first | apply Kd.R_alloc | apply Kd.R_drewN | apply Kd.R_drew)); exact HO_543001.out))) (below_size (by repeat (first | (with_reducible first | exact HB.out | apply below_alloc | apply pw_below_drewN | apply below_drew1 | refine below_set ?_ GE529.out | refine below_set ?_ GE542.out) | exact HB.out)))); have n4_ := Aside0.mk (blk_below (g := gb529) (o := .cells #[.int .i64 a0_0, .slice A0_1 l0_1.length c0_1] 41 (0, 0)) (by (with_reducible repeat (first | refine blk_drewN ?_ _ | refine blk_drew ?_ | refine blk_alloc ?_ _)); exact BK529.out) hb); have n5_ := Aside0.mk (blk_below (g := gb542) (o := .cells #[.int .i64 t538, .slice Ao31 t553.length co31] 46 (0, 0)) (by (with_reducible repeat (first | refine blk_drewN ?_ _ | refine blk_drew ?_ | refine blk_alloc ?_ _)); exact BK542.out) hb); have n6_ := Aside0.mk (below_step (by repeat (first | (with_reducible first | exact HB.out | apply below_alloc | apply pw_below_drewN | apply below_drew1 | refine below_set ?_ GE529.out | refine below_set ?_ GE542.out) | exact HB.out)) hb); clear HO_6; clear HO_8; clear HO_543001; clear BK529; clear BK542; clear HB; have HO_6 := n0_; have HO_8 := n1_; have HO_543001 := n2_; have HO561 := n3_; have BK529 := n4_; have BK542 := n5_; have HB := n6_; clear n0_ n1_ n2_ n3_ n4_ n5_ n6_; (try clear hb); (try clear hb2); (try clear hk); (try clear hi); (try clear ho0); obtain ⟨Ao59, co59, eo59⟩ := Kd.R_slice HO561.out; subst eo59) | ((with_reducible refine gate_callee (f := 48) rfl ?_); refine goesL_ (some 61) rfl rfl Try.func48 (by kernel_rfl) rfl #[.agg #[.int .i64 t558, .slice Ao59 t559.length co59], .int .i64 a1] rfl (by (try simp only [List.map_toArray, List.map_cons, List.map_nil]); first | done | rfl | (simp only [List.length_drop, List.length_take]; rfl)) ?_; (with_reducible refine (impl_LinesAt.calls kj17 t558 _ _ t559 a1 t562 _ ?side1 ?side2 A49.out).mono ?_); (case side1 => repeat (first | exact (Kd.R_reads' HO561.out).2.2 | (with_reducible refine Kd.C_alloc ?_ _) | (with_reducible refine Kd.C_drewN ?_ _) | (with_reducible refine Kd.C_drew ?_))); (case side2 => exact (Kd.R_reads' HO561.out).2.1); rintro e w60 ⟨v563, rfl, ho0, hb⟩; refine ⟨_, rfl, ?_⟩; have n0_ := Aside0.mk (Kd.R_elder' (by (with_reducible repeat (first | apply Kd.R_alloc | apply Kd.R_drewN | apply Kd.R_drew)); exact HO_6.out) (Kd.R_base ho0) hb); have n1_ := Aside0.mk (Kd.R_elder' (by (with_reducible repeat (first | apply Kd.R_alloc | apply Kd.R_drewN | apply Kd.R_drew)); exact HO_8.out) (Kd.R_base ho0) hb); have n2_ := Aside0.mk (Kd.R_below (by (with_reducible repeat (first | apply Kd.R_alloc | apply Kd.R_drewN | apply Kd.R_drew)); exact HO_543001.out) hb); have n3_ := Aside0.mk (Kd.R_below (by (with_reducible repeat (first | apply Kd.R_alloc | apply Kd.R_drewN | apply Kd.R_drew)); exact HO561.out) hb); have n4_ := Aside0.mk (Kd.R_lower (Kd.R_new' (Kd.R_new' ho0 (Kd.R_lt (by (with_reducible repeat (first | apply Kd.R_alloc | apply Kd.R_drewN | apply Kd.R_drew)); exact HO_6.out))) (Kd.R_lt (by (with_reducible repeat (first | apply Kd.R_alloc | apply Kd.R_drewN | apply Kd.R_drew)); exact HO_8.out))) (below_size (by repeat (first | (with_reducible first | exact HB.out | apply below_alloc | apply pw_below_drewN | apply below_drew1 | refine below_set ?_ GE529.out | refine below_set ?_ GE542.out) | exact HB.out)))); have n5_ := Aside0.mk (blk_below (g := gb529) (o := .cells #[.int .i64 a0_0, .slice A0_1 l0_1.length c0_1] 41 (0, 0)) (by (with_reducible repeat (first | refine blk_drewN ?_ _ | refine blk_drew ?_ | refine blk_alloc ?_ _)); exact BK529.out) hb); have n6_ := Aside0.mk (blk_below (g := gb542) (o := .cells #[.int .i64 t538, .slice Ao31 t553.length co31] 46 (0, 0)) (by (with_reducible repeat (first | refine blk_drewN ?_ _ | refine blk_drew ?_ | refine blk_alloc ?_ _)); exact BK542.out) hb); have n7_ := Aside0.mk (below_step (by repeat (first | (with_reducible first | exact HB.out | apply below_alloc | apply pw_below_drewN | apply below_drew1 | refine below_set ?_ GE529.out | refine below_set ?_ GE542.out) | exact HB.out)) hb); clear HO_6; clear HO_8; clear HO_543001; clear HO561; clear BK529; clear BK542; clear HB; have HO_6 := n0_; have HO_8 := n1_; have HO_543001 := n2_; have HO561 := n3_; have HO564 := n4_; have BK529 := n5_; have BK542 := n6_; have HB := n7_; clear n0_ n1_ n2_ n3_ n4_ n5_ n6_ n7_; (try clear hb); (try clear hb2); (try clear hk); (try clear hi); (try clear ho0); obtain ⟨Ao61, co61, eo61⟩ := Kd.R_slice HO564.out; subst eo61) | ((with_reducible refine gate_callee (f := 25) rfl ?_); refine goesL_ (some 64) rfl rfl Try.func25 (by kernel_rfl) rfl #[.slice Ao61 t562.length co61, .slice Ao34 t535.length co34] rfl (by (try simp only [List.map_toArray, List.map_cons, List.map_nil]); first | done | rfl | (simp only [List.length_drop, List.length_take]; rfl)) ?_; (with_reducible refine (laws_eqIntS.calls kj17 _ _ t562 _ _ t535 true _ ?side1 ?side2 ?side3 ?side4 A50.out).mono ?_); (case side1 => repeat (first | exact (Kd.R_reads' HO564.out).2.2 | (with_reducible refine Kd.C_alloc ?_ _) | (with_reducible refine Kd.C_drewN ?_ _) | (with_reducible refine Kd.C_drew ?_))); (case side2 => exact (Kd.R_reads' HO564.out).2.1); (case side3 => repeat (first | exact (Kd.R_reads' HO_6.out).2.2 | (with_reducible refine Kd.C_alloc ?_ _) | (with_reducible refine Kd.C_drewN ?_ _) | (with_reducible refine Kd.C_drew ?_))); (case side4 => exact (Kd.R_reads' HO_6.out).2.1); rintro e w' ⟨rfl, ⟨nd, rfl⟩⟩; refine ⟨_, rfl, ?_⟩) | ((with_reducible refine gate_callee (f := 27) rfl ?_); refine goesL_ (some 68) rfl rfl Try.func27 (by kernel_rfl) rfl #[.slice Ao33 t556.length co33, .int .i64 1] rfl (by (try simp only [List.map_toArray, List.map_cons, List.map_nil]); first | done | (rw [show t556.length = t543.length from (Kd.R_reads' HO_8.out).1.symm] <;> rfl) | rfl | (simp only [List.length_drop, List.length_take]; rfl)) ?_; (with_reducible refine (laws_heldIntS.calls kj17 _ _ t556 1 t566 _ ?side1 ?side2 A52.out).mono ?_); (case side1 => repeat (first | exact (Kd.R_reads' HO_8.out).2.2 | (with_reducible refine Kd.C_alloc ?_ _) | (with_reducible refine Kd.C_drewN ?_ _) | (with_reducible refine Kd.C_drew ?_))); (case side2 => rw [show t556.length = t543.length from (Kd.R_reads' HO_8.out).1.symm]; exact (Kd.R_reads' HO_8.out).2.1); rintro e w' ⟨rfl, ⟨nd, rfl⟩⟩; refine ⟨_, rfl, ?_⟩))
                        go_ret
                        exact ⟨by first | rfl | (simp [errW_none, errW_some] <;> rfl) | (simp [*, errW_none, errW_some] <;> rfl), by repeat (first | (with_reducible first | exact HB.out | apply below_alloc | apply pw_below_drewN | apply below_drew1 | refine below_set ?_ GE529.out | refine below_set ?_ GE542.out) | exact HB.out)⟩
                      · rw [if_neg c54] at H
                        exact absurd H (by simp)
                  · replace c51 := Bool.eq_false_iff.mpr c51
                    subst c51
                    have H1 : (none) = some r := by rw [if_neg (show ¬ (false = true) by decide)] at H; exact H
                    clear H
                    have H := H1
                    clear H1
                    exact absurd H (by simp)
                · rw [if_neg c47] at H
                  exact absurd H (by simp)
      · replace c16 := Bool.eq_false_iff.mpr c16
        subst c16
        have H1 : (none) = some r := by rw [if_neg (show ¬ (false = true) by decide)] at H; exact H
        clear H
        have H := H1
        clear H1
        exact absurd H (by simp)
    · replace c13 := Bool.eq_false_iff.mpr c13
      subst c13
      have H1 : (none) = some r := by rw [if_neg (show ¬ (false = true) by decide)] at H; exact H
      clear H
      have H := H1
      clear H1
      exact absurd H (by simp)

end Go.Proofs.Ytcchhgpdallpmaa.P

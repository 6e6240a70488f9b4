/- Contracts of Go functions of this seat's translation, written by this repo's wip/mk.py: it calls the kit's print.py with contracts typed by hand in place of functions that it does not take. Not trusted: Lean checks it. -/
import Derived.Test.YtknddipjabkfbaaP0
import Derived.Test.YtknddipjabkfbaaP8
import Derived.Test.YtknddipjabkfbaaP17
import Derived.Test.YtknddipjabkfbaaP19
import Derived.Test.YtknddipjabkfbaaP27
import Derived.Test.YtknddipjabkfbaaP31
import Derived.Test.YtknddipjabkfbaaP38
import Derived.Test.YtknddipjabkfbaaP41
import Derived.Test.YtknddipjabkfbaaP43
import Derived.Test.YtknddipjabkfbaaP69
namespace Go.Proofs.Ytknddipjabkfbaa.P
open Go.RowKit Go.Proofs.YtknddipjabkfbaaW.PrintWords Go.Proofs.YtknddipjabkfbaaW.PrintLast Go.Proofs.YtknddipjabkfbaaW.PrintMore
attribute [local go_sem] max2_int min2_int max_two min_two max_three min_three max_four min_four   -- for this text's walks alone
set_option linter.unusedVariables false
set_option linter.unusedSimpArgs false

/-! ### laws_FnExactCycleLines: function 10 -/
def laws_FnExactCycleLines.j0 : Nat → List Bool → List Int → List Int → Bool → Int → List (S91) → Option (Bool)
 | 0, _, _, _, _, _, _ => none
 | k + 1, x1, x6, x9, x61, x747000, x747001 => if x61 = true then (none) else ((laws_markIntS.f k x9 1).bind fun bt784 => ((laws_heldIntS.f k bt784.2 1).bind fun t786 => (if t786 < 0 then (none) else (if t786 = bt784.1 then ((laws_toNet.f k x747000 x747001).bind fun bt787 => ((laws_toBoolS.f k x1).bind fun t791 => ((impl_CycleLines.f k bt787.1 bt787.2 t791).bind fun t794 => ((laws_eqIntS.f k t794 x6).bind fun t797 => (if t797 = true then ((laws_heldIntS.f k bt784.2 1).bind fun t798 => (if t798 < 0 then (none) else (if t798 = bt784.1 then (some true) else (none)))) else (none)))))) else (none)))))
def laws_FnExactCycleLines.f (k : Nat) (a0_0 : Int) (l0_1 : List (S91)) (l1 : List Bool) : Option (Bool) := if (l1.length : Int) > 1048576 then (some true) else ((laws_szNet.f a0_0 l0_1 1048576).bind fun t747 => (if t747 < 0 then (some true) else ((laws_toNet.f k a0_0 l0_1).bind fun bt748 => ((laws_toBoolS.f k l1).bind fun t752 => ((spec_CycleLines.f k bt748.1 bt748.2 t752).bind fun t755 => ((laws_toNet.f k a0_0 l0_1).bind fun bt758 => ((laws_toBoolS.f k l1).bind fun t763 => ((impl_CycleLines.f k bt758.1 bt758.2 t763).bind fun t766 => ((laws_eqIntS.f k t766 t755).bind fun t769 => (if t769 = true then ((laws_toNet.f k a0_0 l0_1).bind fun bt770 => ((laws_eqNet.f k bt758.1 bt758.2 bt770.1 bt770.2).bind fun t774 => (if t774 = true then ((laws_toBoolS.f k l1).bind fun t775 => ((laws_eqBoolS.f k t763 t775).bind fun t778 => (if t778 = true then ((laws_markNet.f k bt758.1 bt758.2 1).bind fun bt779 => ((laws_markBoolS.f k t763 bt779.1).bind fun bt781 => (if bt781.1 < 0 then (laws_FnExactCycleLines.j0 k l1 t755 t766 true a0_0 l0_1) else ((laws_eqIntS.f k t766 t755).bind fun t783 => (laws_FnExactCycleLines.j0 k l1 t755 t766 (!t783) a0_0 l0_1))))) else (none)))) else (none)))) else (none)))))))))))
theorem laws_FnExactCycleLines.mono_l : ∀ k, (∀ y0 y1 y2 y3 y4 y5, LeO (laws_FnExactCycleLines.j0 k y0 y1 y2 y3 y4 y5) (laws_FnExactCycleLines.j0 (k + 1) y0 y1 y2 y3 y4 y5))
 | 0 => fun _ _ _ _ _ _ r h => by simp [laws_FnExactCycleLines.j0] at h
 | k + 1 => by
  have ih0 := laws_FnExactCycleLines.mono_l k
  ·
   intro y0 y1 y2 y3 y4 y5
   unfold laws_FnExactCycleLines.j0
   repeat' first
   | (with_reducible exact ih0 _ _ _ _ _ _)
   | (with_reducible exact impl_CycleLines.mono _ _ _ _)
   | (with_reducible exact laws_eqBoolS.mono _ _ _)
   | (with_reducible exact laws_eqIntS.mono _ _ _)
   | (with_reducible exact laws_eqNet.mono _ _ _ _ _)
   | (with_reducible exact laws_heldIntS.mono _ _ _)
   | (with_reducible exact laws_markBoolS.mono _ _ _)
   | (with_reducible exact laws_markIntS.mono _ _ _)
   | (with_reducible exact laws_markNet.mono _ _ _ _)
   | (with_reducible exact laws_toBoolS.mono _ _)
   | (with_reducible exact laws_toNet.mono _ _ _)
   | (with_reducible exact spec_CycleLines.mono _ _ _ _)
   | (with_reducible exact LeO.refl _)
   | (with_reducible exact LeO.none _)
   | (with_reducible refine LeO.ite ?_ ?_)
   | (with_reducible refine LeO.bind ?_ (fun _ => ?_))
   | exact ih0 _ _ _ _ _ _
   | exact impl_CycleLines.mono _ _ _ _
   | exact laws_eqBoolS.mono _ _ _
   | exact laws_eqIntS.mono _ _ _
   | exact laws_eqNet.mono _ _ _ _ _
   | exact laws_heldIntS.mono _ _ _
   | exact laws_markBoolS.mono _ _ _
   | exact laws_markIntS.mono _ _ _
   | exact laws_markNet.mono _ _ _ _
   | exact laws_toBoolS.mono _ _
   | exact laws_toNet.mono _ _ _
   | exact spec_CycleLines.mono _ _ _ _
   | exact LeO.none _
   | refine LeO.ite ?_ ?_
   | refine LeO.bind ?_ (fun _ => ?_)
theorem laws_FnExactCycleLines.mono : ∀ a0 a1 a2 k, LeO (laws_FnExactCycleLines.f k a0 a1 a2) (laws_FnExactCycleLines.f (k + 1) a0 a1 a2) := by
 intro a0 a1 a2 k
 have ih0 := laws_FnExactCycleLines.mono_l k
 unfold laws_FnExactCycleLines.f
 repeat' first
   | (with_reducible exact ih0 _ _ _ _ _ _)
   | (with_reducible exact impl_CycleLines.mono _ _ _ _)
   | (with_reducible exact laws_eqBoolS.mono _ _ _)
   | (with_reducible exact laws_eqIntS.mono _ _ _)
   | (with_reducible exact laws_eqNet.mono _ _ _ _ _)
   | (with_reducible exact laws_heldIntS.mono _ _ _)
   | (with_reducible exact laws_markBoolS.mono _ _ _)
   | (with_reducible exact laws_markIntS.mono _ _ _)
   | (with_reducible exact laws_markNet.mono _ _ _ _)
   | (with_reducible exact laws_toBoolS.mono _ _)
   | (with_reducible exact laws_toNet.mono _ _ _)
   | (with_reducible exact spec_CycleLines.mono _ _ _ _)
   | (with_reducible exact LeO.refl _)
   | (with_reducible exact LeO.none _)
   | (with_reducible refine LeO.ite ?_ ?_)
   | (with_reducible refine LeO.bind ?_ (fun _ => ?_))
   | exact ih0 _ _ _ _ _ _
   | exact impl_CycleLines.mono _ _ _ _
   | exact laws_eqBoolS.mono _ _ _
   | exact laws_eqIntS.mono _ _ _
   | exact laws_eqNet.mono _ _ _ _ _
   | exact laws_heldIntS.mono _ _ _
   | exact laws_markBoolS.mono _ _ _
   | exact laws_markIntS.mono _ _ _
   | exact laws_markNet.mono _ _ _ _
   | exact laws_toBoolS.mono _ _
   | exact laws_toNet.mono _ _ _
   | exact spec_CycleLines.mono _ _ _ _
   | exact LeO.none _
   | refine LeO.ite ?_ ?_
   | refine LeO.bind ?_ (fun _ => ?_)
set_option maxHeartbeats 8000000 in
set_option maxRecDepth 100000 in
theorem laws_FnExactCycleLines.calls (k : Nat) (a0_0 : Int) (A0_1 : Option Addr) (c0_1 : Nat) (l0_1 : List (S91)) (A1 : Option Addr) (c1 : Nat) (l1 : List Bool) (r : Bool) (w : World) (hr0_1 : Kd.C k91 w A0_1 l0_1.length l0_1) (hc0_1 : l0_1.length ≤ c0_1) (hr1 : Kd.C Kd.bool w A1 l1.length l1) (hc1 : l1.length ≤ c1) (h : laws_FnExactCycleLines.f k a0_0 l0_1 l1 = some r) :
  Calls Try.prog 10 #[.agg #[.int .i64 a0_0, .slice A0_1 l0_1.length c0_1], .slice A1 l1.length c1] w fun e w' => e = .returned (.bool r) ∧ Below w.heap.size w w' := by
 have hu24 := Try.underlying24
 have hu30 := Try.underlying30
 have HR0_1 := Aside0.mk hr0_1
 have HC0_1 := Aside0.mk hc0_1
 clear hr0_1 hc0_1
 have HR1 := Aside0.mk hr1
 have HC1 := Aside0.mk hc1
 clear hr1 hc1
 have HB := Aside0.mk (Below.refl w.heap.size w)
 have H : (if (l1.length : Int) > 1048576 then (some true) else ((laws_szNet.f a0_0 l0_1 1048576).bind fun t747 => (if t747 < 0 then (some true) else ((laws_toNet.f k a0_0 l0_1).bind fun bt748 => ((laws_toBoolS.f k l1).bind fun t752 => ((spec_CycleLines.f k bt748.1 bt748.2 t752).bind fun t755 => ((laws_toNet.f k a0_0 l0_1).bind fun bt758 => ((laws_toBoolS.f k l1).bind fun t763 => ((impl_CycleLines.f k bt758.1 bt758.2 t763).bind fun t766 => ((laws_eqIntS.f k t766 t755).bind fun t769 => (if t769 = true then ((laws_toNet.f k a0_0 l0_1).bind fun bt770 => ((laws_eqNet.f k bt758.1 bt758.2 bt770.1 bt770.2).bind fun t774 => (if t774 = true then ((laws_toBoolS.f k l1).bind fun t775 => ((laws_eqBoolS.f k t763 t775).bind fun t778 => (if t778 = true then ((laws_markNet.f k bt758.1 bt758.2 1).bind fun bt779 => ((laws_markBoolS.f k t763 bt779.1).bind fun bt781 => (if bt781.1 < 0 then (laws_FnExactCycleLines.j0 k l1 t755 t766 true a0_0 l0_1) else ((laws_eqIntS.f k t766 t755).bind fun t783 => (laws_FnExactCycleLines.j0 k l1 t755 t766 (!t783) a0_0 l0_1))))) else (none)))) else (none)))) else (none)))))))))))) = some r := h
 clear h
 by_cases c3 : (l1.length : Int) > 1048576
 ·
  rw [if_pos c3] at H
  have c3b0 : decide (1048576 < (l1.length : Int)) = true := decide_eq_true c3
  have c3b1 : decide (1048576 < l1.length) = true := decide_eq_true (by omega)
  clear c3
  obtain rfl := Option.some.inj H
  go_enter Try.func10, Try.ntmps10
  go_wp2_with (first | ((with_reducible refine gate_dst (N := 2) rfl ?_); refine box_event ?hg (N := 2) ?hd (cs := #[.int .i64 a0_0, .slice A0_1 l0_1.length c0_1]) (t := 24) ?hr ?_; (case hd => rfl); (case hg => rfl); (case hr => first | (go_simp; done) | (go_simp; rfl)); intro gb746 hg w4 hbox hb; have n0_ := Aside0.mk (below_step (by repeat (first | (with_reducible first | exact HB.out | apply below_alloc | apply pw_below_drewN | apply below_drew1) | exact HB.out)) hb); have n1_ := Aside0.mk (hbox); have n2_ := Aside0.mk ((by rw [hg]; exact (below_size (by repeat (first | (with_reducible first | exact HB.out | apply below_alloc | apply pw_below_drewN | apply below_drew1) | exact HB.out))) : w.heap.size ≤ gb746)); have n3_ := Aside0.mk ((by rw [hg]; exact (below_size (by repeat (first | (with_reducible first | exact HB.out | apply below_alloc | apply pw_below_drewN | apply below_drew1) | exact HB.out))) : w.heap.size ≤ gb746)); clear HB; have HB := n0_; have BK746 := n1_; have GW746 := n2_; have GE746 := n3_; clear n0_ n1_ n2_ n3_; clear hb hbox hg))
  go_ret
  exact ⟨by first | rfl | (simp [errW_none, errW_some] <;> rfl) | (simp [*, errW_none, errW_some] <;> rfl), by repeat (first | (with_reducible first | exact HB.out | apply below_alloc | apply pw_below_drewN | apply below_drew1 | refine below_set ?_ GE746.out) | exact HB.out)⟩
 rw [if_neg c3] at H
 have c3b0 : decide (1048576 < (l1.length : Int)) = false := decide_eq_false c3
 have c3b1 : decide (1048576 < l1.length) = false := decide_eq_false (by omega)
 clear c3
 replace H := Option.bind_eq_some_iff.mp H
 obtain ⟨t747, A50, H⟩ := H
 replace H : (if t747 < 0 then (some true) else ((laws_toNet.f k a0_0 l0_1).bind fun bt748 => ((laws_toBoolS.f k l1).bind fun t752 => ((spec_CycleLines.f k bt748.1 bt748.2 t752).bind fun t755 => ((laws_toNet.f k a0_0 l0_1).bind fun bt758 => ((laws_toBoolS.f k l1).bind fun t763 => ((impl_CycleLines.f k bt758.1 bt758.2 t763).bind fun t766 => ((laws_eqIntS.f k t766 t755).bind fun t769 => (if t769 = true then ((laws_toNet.f k a0_0 l0_1).bind fun bt770 => ((laws_eqNet.f k bt758.1 bt758.2 bt770.1 bt770.2).bind fun t774 => (if t774 = true then ((laws_toBoolS.f k l1).bind fun t775 => ((laws_eqBoolS.f k t763 t775).bind fun t778 => (if t778 = true then ((laws_markNet.f k bt758.1 bt758.2 1).bind fun bt779 => ((laws_markBoolS.f k t763 bt779.1).bind fun bt781 => (if bt781.1 < 0 then (laws_FnExactCycleLines.j0 k l1 t755 t766 true a0_0 l0_1) else ((laws_eqIntS.f k t766 t755).bind fun t783 => (laws_FnExactCycleLines.j0 k l1 t755 t766 (!t783) a0_0 l0_1))))) else (none)))) else (none)))) else (none)))))))))) = some r := H
 have A5 := Aside0.mk A50
 clear A50
 by_cases c6 : t747 < 0
 ·
  rw [if_pos c6] at H
  have c6b0 : decide (t747 < 0) = true := decide_eq_true c6
  clear c6
  obtain rfl := Option.some.inj H
  go_enter Try.func10, Try.ntmps10
  go_wp2_with (first | ((with_reducible refine gate_dst (N := 2) rfl ?_); refine box_event ?hg (N := 2) ?hd (cs := #[.int .i64 a0_0, .slice A0_1 l0_1.length c0_1]) (t := 24) ?hr ?_; (case hd => rfl); (case hg => rfl); (case hr => first | (go_simp; done) | (go_simp; rfl)); intro gb746 hg w7 hbox hb; have n0_ := Aside0.mk (below_step (by repeat (first | (with_reducible first | exact HB.out | apply below_alloc | apply pw_below_drewN | apply below_drew1) | exact HB.out)) hb); have n1_ := Aside0.mk (hbox); have n2_ := Aside0.mk ((by rw [hg]; exact (below_size (by repeat (first | (with_reducible first | exact HB.out | apply below_alloc | apply pw_below_drewN | apply below_drew1) | exact HB.out))) : w.heap.size ≤ gb746)); have n3_ := Aside0.mk ((by rw [hg]; exact (below_size (by repeat (first | (with_reducible first | exact HB.out | apply below_alloc | apply pw_below_drewN | apply below_drew1) | exact HB.out))) : w.heap.size ≤ gb746)); clear HB; have HB := n0_; have BK746 := n1_; have GW746 := n2_; have GE746 := n3_; clear n0_ n1_ n2_ n3_; clear hb hbox hg; have hcz8_0 : w7.cell? ⟨gb746, 0, none⟩ = some (.int .i64 a0_0) := (blk_cell BK746.out 0).trans rfl; have hcz8_1 : w7.cell? ⟨gb746, 1, none⟩ = some (.slice A0_1 l0_1.length c0_1) := (blk_cell BK746.out 1).trans rfl; have hfz8_0 := blk_frozen BK746.out 0; have hfz8_1 := blk_frozen BK746.out 1) | ((with_reducible refine gate_callee (f := 14) rfl ?_); refine goesL_ (some 19) rfl rfl Try.func14 (by kernel_rfl) rfl #[.agg #[.int .i64 a0_0, .slice A0_1 l0_1.length c0_1], .int .i64 1048576] rfl (by (try simp only [List.map_toArray, List.map_cons, List.map_nil]); first | done | rfl | (simp only [List.length_drop, List.length_take]; rfl)) ?_; (with_reducible refine (laws_szNet.calls a0_0 _ _ l0_1 1048576 t747 _ ?side1 ?side2 A5.out).mono ?_); (case side1 => repeat (first | exact (Kd.C_below HR0_1.out HB.out) | (with_reducible refine Kd.C_alloc ?_ _) | (with_reducible refine Kd.C_drewN ?_ _) | (with_reducible refine Kd.C_drew ?_))); (case side2 => exact HC0_1.out); rintro e w9 ⟨rfl, hb⟩; refine ⟨_, rfl, ?_⟩; have n0_ := Aside0.mk (blk_below (g := gb746) (o := .cells #[.int .i64 a0_0, .slice A0_1 l0_1.length c0_1] 24 (0, 0)) (by (with_reducible repeat (first | refine blk_drewN ?_ _ | refine blk_drew ?_ | refine blk_alloc ?_ _)); exact BK746.out) hb); have n1_ := Aside0.mk (below_step (by repeat (first | (with_reducible first | exact HB.out | apply below_alloc | apply pw_below_drewN | apply below_drew1 | refine below_set ?_ GE746.out) | exact HB.out)) hb); clear BK746; clear HB; have BK746 := n0_; have HB := n1_; clear n0_ n1_; (try clear hb); (try clear hb2); (try clear hk); (try clear hi)))
  go_ret
  exact ⟨by first | rfl | (simp [errW_none, errW_some] <;> rfl) | (simp [*, errW_none, errW_some] <;> rfl), by repeat (first | (with_reducible first | exact HB.out | apply below_alloc | apply pw_below_drewN | apply below_drew1 | refine below_set ?_ GE746.out) | exact HB.out)⟩
 rw [if_neg c6] at H
 have c6b0 : decide (t747 < 0) = false := decide_eq_false c6
 clear c6
 replace H := Option.bind_eq_some_iff.mp H
 obtain ⟨⟨t748, t749⟩, A100, H⟩ := H
 replace H : ((laws_toBoolS.f k l1).bind fun t752 => ((spec_CycleLines.f k t748 t749 t752).bind fun t755 => ((laws_toNet.f k a0_0 l0_1).bind fun bt758 => ((laws_toBoolS.f k l1).bind fun t763 => ((impl_CycleLines.f k bt758.1 bt758.2 t763).bind fun t766 => ((laws_eqIntS.f k t766 t755).bind fun t769 => (if t769 = true then ((laws_toNet.f k a0_0 l0_1).bind fun bt770 => ((laws_eqNet.f k bt758.1 bt758.2 bt770.1 bt770.2).bind fun t774 => (if t774 = true then ((laws_toBoolS.f k l1).bind fun t775 => ((laws_eqBoolS.f k t763 t775).bind fun t778 => (if t778 = true then ((laws_markNet.f k bt758.1 bt758.2 1).bind fun bt779 => ((laws_markBoolS.f k t763 bt779.1).bind fun bt781 => (if bt781.1 < 0 then (laws_FnExactCycleLines.j0 k l1 t755 t766 true a0_0 l0_1) else ((laws_eqIntS.f k t766 t755).bind fun t783 => (laws_FnExactCycleLines.j0 k l1 t755 t766 (!t783) a0_0 l0_1))))) else (none)))) else (none)))) else (none)))))))) = some r := H
 have A10 := Aside0.mk A100
 clear A100
 replace H := Option.bind_eq_some_iff.mp H
 obtain ⟨t752, A110, H⟩ := H
 replace H : ((spec_CycleLines.f k t748 t749 t752).bind fun t755 => ((laws_toNet.f k a0_0 l0_1).bind fun bt758 => ((laws_toBoolS.f k l1).bind fun t763 => ((impl_CycleLines.f k bt758.1 bt758.2 t763).bind fun t766 => ((laws_eqIntS.f k t766 t755).bind fun t769 => (if t769 = true then ((laws_toNet.f k a0_0 l0_1).bind fun bt770 => ((laws_eqNet.f k bt758.1 bt758.2 bt770.1 bt770.2).bind fun t774 => (if t774 = true then ((laws_toBoolS.f k l1).bind fun t775 => ((laws_eqBoolS.f k t763 t775).bind fun t778 => (if t778 = true then ((laws_markNet.f k bt758.1 bt758.2 1).bind fun bt779 => ((laws_markBoolS.f k t763 bt779.1).bind fun bt781 => (if bt781.1 < 0 then (laws_FnExactCycleLines.j0 k l1 t755 t766 true a0_0 l0_1) else ((laws_eqIntS.f k t766 t755).bind fun t783 => (laws_FnExactCycleLines.j0 k l1 t755 t766 (!t783) a0_0 l0_1))))) else (none)))) else (none)))) else (none))))))) = some r := H
 have A11 := Aside0.mk A110
 clear A110
 replace H := Option.bind_eq_some_iff.mp H
 obtain ⟨t755, A120, H⟩ := H
 replace H : ((laws_toNet.f k a0_0 l0_1).bind fun bt758 => ((laws_toBoolS.f k l1).bind fun t763 => ((impl_CycleLines.f k bt758.1 bt758.2 t763).bind fun t766 => ((laws_eqIntS.f k t766 t755).bind fun t769 => (if t769 = true then ((laws_toNet.f k a0_0 l0_1).bind fun bt770 => ((laws_eqNet.f k bt758.1 bt758.2 bt770.1 bt770.2).bind fun t774 => (if t774 = true then ((laws_toBoolS.f k l1).bind fun t775 => ((laws_eqBoolS.f k t763 t775).bind fun t778 => (if t778 = true then ((laws_markNet.f k bt758.1 bt758.2 1).bind fun bt779 => ((laws_markBoolS.f k t763 bt779.1).bind fun bt781 => (if bt781.1 < 0 then (laws_FnExactCycleLines.j0 k l1 t755 t766 true a0_0 l0_1) else ((laws_eqIntS.f k t766 t755).bind fun t783 => (laws_FnExactCycleLines.j0 k l1 t755 t766 (!t783) a0_0 l0_1))))) else (none)))) else (none)))) else (none)))))) = some r := H
 have A12 := Aside0.mk A120
 clear A120
 replace H := Option.bind_eq_some_iff.mp H
 obtain ⟨⟨t758, t759⟩, A130, H⟩ := H
 replace H : ((laws_toBoolS.f k l1).bind fun t763 => ((impl_CycleLines.f k t758 t759 t763).bind fun t766 => ((laws_eqIntS.f k t766 t755).bind fun t769 => (if t769 = true then ((laws_toNet.f k a0_0 l0_1).bind fun bt770 => ((laws_eqNet.f k t758 t759 bt770.1 bt770.2).bind fun t774 => (if t774 = true then ((laws_toBoolS.f k l1).bind fun t775 => ((laws_eqBoolS.f k t763 t775).bind fun t778 => (if t778 = true then ((laws_markNet.f k t758 t759 1).bind fun bt779 => ((laws_markBoolS.f k t763 bt779.1).bind fun bt781 => (if bt781.1 < 0 then (laws_FnExactCycleLines.j0 k l1 t755 t766 true a0_0 l0_1) else ((laws_eqIntS.f k t766 t755).bind fun t783 => (laws_FnExactCycleLines.j0 k l1 t755 t766 (!t783) a0_0 l0_1))))) else (none)))) else (none)))) else (none))))) = some r := H
 have A13 := Aside0.mk A130
 clear A130
 replace H := Option.bind_eq_some_iff.mp H
 obtain ⟨t763, A140, H⟩ := H
 replace H : ((impl_CycleLines.f k t758 t759 t763).bind fun t766 => ((laws_eqIntS.f k t766 t755).bind fun t769 => (if t769 = true then ((laws_toNet.f k a0_0 l0_1).bind fun bt770 => ((laws_eqNet.f k t758 t759 bt770.1 bt770.2).bind fun t774 => (if t774 = true then ((laws_toBoolS.f k l1).bind fun t775 => ((laws_eqBoolS.f k t763 t775).bind fun t778 => (if t778 = true then ((laws_markNet.f k t758 t759 1).bind fun bt779 => ((laws_markBoolS.f k t763 bt779.1).bind fun bt781 => (if bt781.1 < 0 then (laws_FnExactCycleLines.j0 k l1 t755 t766 true a0_0 l0_1) else ((laws_eqIntS.f k t766 t755).bind fun t783 => (laws_FnExactCycleLines.j0 k l1 t755 t766 (!t783) a0_0 l0_1))))) else (none)))) else (none)))) else (none)))) = some r := H
 have A14 := Aside0.mk A140
 clear A140
 replace H := Option.bind_eq_some_iff.mp H
 obtain ⟨t766, A150, H⟩ := H
 replace H : ((laws_eqIntS.f k t766 t755).bind fun t769 => (if t769 = true then ((laws_toNet.f k a0_0 l0_1).bind fun bt770 => ((laws_eqNet.f k t758 t759 bt770.1 bt770.2).bind fun t774 => (if t774 = true then ((laws_toBoolS.f k l1).bind fun t775 => ((laws_eqBoolS.f k t763 t775).bind fun t778 => (if t778 = true then ((laws_markNet.f k t758 t759 1).bind fun bt779 => ((laws_markBoolS.f k t763 bt779.1).bind fun bt781 => (if bt781.1 < 0 then (laws_FnExactCycleLines.j0 k l1 t755 t766 true a0_0 l0_1) else ((laws_eqIntS.f k t766 t755).bind fun t783 => (laws_FnExactCycleLines.j0 k l1 t755 t766 (!t783) a0_0 l0_1))))) else (none)))) else (none)))) else (none))) = some r := H
 have A15 := Aside0.mk A150
 clear A150
 replace H := Option.bind_eq_some_iff.mp H
 obtain ⟨t769, A160, H⟩ := H
 replace H : (if t769 = true then ((laws_toNet.f k a0_0 l0_1).bind fun bt770 => ((laws_eqNet.f k t758 t759 bt770.1 bt770.2).bind fun t774 => (if t774 = true then ((laws_toBoolS.f k l1).bind fun t775 => ((laws_eqBoolS.f k t763 t775).bind fun t778 => (if t778 = true then ((laws_markNet.f k t758 t759 1).bind fun bt779 => ((laws_markBoolS.f k t763 bt779.1).bind fun bt781 => (if bt781.1 < 0 then (laws_FnExactCycleLines.j0 k l1 t755 t766 true a0_0 l0_1) else ((laws_eqIntS.f k t766 t755).bind fun t783 => (laws_FnExactCycleLines.j0 k l1 t755 t766 (!t783) a0_0 l0_1))))) else (none)))) else (none)))) else (none)) = some r := H
 have A16 := Aside0.mk A160
 clear A160
 by_cases c17 : t769 = true
 rotate_left
 ·
  replace c17 := Bool.eq_false_iff.mpr c17
  subst c17
  have H1 : (none) = some r := by rw [if_neg (show ¬ (false = true) by decide)] at H; exact H
  clear H
  have H := H1
  clear H1
  exact absurd H (by simp)
 subst c17
 have H1 : ((laws_toNet.f k a0_0 l0_1).bind fun bt770 => ((laws_eqNet.f k t758 t759 bt770.1 bt770.2).bind fun t774 => (if t774 = true then ((laws_toBoolS.f k l1).bind fun t775 => ((laws_eqBoolS.f k t763 t775).bind fun t778 => (if t778 = true then ((laws_markNet.f k t758 t759 1).bind fun bt779 => ((laws_markBoolS.f k t763 bt779.1).bind fun bt781 => (if bt781.1 < 0 then (laws_FnExactCycleLines.j0 k l1 t755 t766 true a0_0 l0_1) else ((laws_eqIntS.f k t766 t755).bind fun t783 => (laws_FnExactCycleLines.j0 k l1 t755 t766 (!t783) a0_0 l0_1))))) else (none)))) else (none)))) = some r := by rw [if_pos rfl] at H; exact H
 clear H
 have H := H1
 clear H1
 replace H := Option.bind_eq_some_iff.mp H
 obtain ⟨⟨t770, t771⟩, A180, H⟩ := H
 replace H : ((laws_eqNet.f k t758 t759 t770 t771).bind fun t774 => (if t774 = true then ((laws_toBoolS.f k l1).bind fun t775 => ((laws_eqBoolS.f k t763 t775).bind fun t778 => (if t778 = true then ((laws_markNet.f k t758 t759 1).bind fun bt779 => ((laws_markBoolS.f k t763 bt779.1).bind fun bt781 => (if bt781.1 < 0 then (laws_FnExactCycleLines.j0 k l1 t755 t766 true a0_0 l0_1) else ((laws_eqIntS.f k t766 t755).bind fun t783 => (laws_FnExactCycleLines.j0 k l1 t755 t766 (!t783) a0_0 l0_1))))) else (none)))) else (none))) = some r := H
 have A18 := Aside0.mk A180
 clear A180
 replace H := Option.bind_eq_some_iff.mp H
 obtain ⟨t774, A190, H⟩ := H
 replace H : (if t774 = true then ((laws_toBoolS.f k l1).bind fun t775 => ((laws_eqBoolS.f k t763 t775).bind fun t778 => (if t778 = true then ((laws_markNet.f k t758 t759 1).bind fun bt779 => ((laws_markBoolS.f k t763 bt779.1).bind fun bt781 => (if bt781.1 < 0 then (laws_FnExactCycleLines.j0 k l1 t755 t766 true a0_0 l0_1) else ((laws_eqIntS.f k t766 t755).bind fun t783 => (laws_FnExactCycleLines.j0 k l1 t755 t766 (!t783) a0_0 l0_1))))) else (none)))) else (none)) = some r := H
 have A19 := Aside0.mk A190
 clear A190
 by_cases c20 : t774 = true
 rotate_left
 ·
  replace c20 := Bool.eq_false_iff.mpr c20
  subst c20
  have H1 : (none) = some r := by rw [if_neg (show ¬ (false = true) by decide)] at H; exact H
  clear H
  have H := H1
  clear H1
  exact absurd H (by simp)
 subst c20
 have H1 : ((laws_toBoolS.f k l1).bind fun t775 => ((laws_eqBoolS.f k t763 t775).bind fun t778 => (if t778 = true then ((laws_markNet.f k t758 t759 1).bind fun bt779 => ((laws_markBoolS.f k t763 bt779.1).bind fun bt781 => (if bt781.1 < 0 then (laws_FnExactCycleLines.j0 k l1 t755 t766 true a0_0 l0_1) else ((laws_eqIntS.f k t766 t755).bind fun t783 => (laws_FnExactCycleLines.j0 k l1 t755 t766 (!t783) a0_0 l0_1))))) else (none)))) = some r := by rw [if_pos rfl] at H; exact H
 clear H
 have H := H1
 clear H1
 replace H := Option.bind_eq_some_iff.mp H
 obtain ⟨t775, A210, H⟩ := H
 replace H : ((laws_eqBoolS.f k t763 t775).bind fun t778 => (if t778 = true then ((laws_markNet.f k t758 t759 1).bind fun bt779 => ((laws_markBoolS.f k t763 bt779.1).bind fun bt781 => (if bt781.1 < 0 then (laws_FnExactCycleLines.j0 k l1 t755 t766 true a0_0 l0_1) else ((laws_eqIntS.f k t766 t755).bind fun t783 => (laws_FnExactCycleLines.j0 k l1 t755 t766 (!t783) a0_0 l0_1))))) else (none))) = some r := H
 have A21 := Aside0.mk A210
 clear A210
 replace H := Option.bind_eq_some_iff.mp H
 obtain ⟨t778, A220, H⟩ := H
 replace H : (if t778 = true then ((laws_markNet.f k t758 t759 1).bind fun bt779 => ((laws_markBoolS.f k t763 bt779.1).bind fun bt781 => (if bt781.1 < 0 then (laws_FnExactCycleLines.j0 k l1 t755 t766 true a0_0 l0_1) else ((laws_eqIntS.f k t766 t755).bind fun t783 => (laws_FnExactCycleLines.j0 k l1 t755 t766 (!t783) a0_0 l0_1))))) else (none)) = some r := H
 have A22 := Aside0.mk A220
 clear A220
 by_cases c23 : t778 = true
 rotate_left
 ·
  replace c23 := Bool.eq_false_iff.mpr c23
  subst c23
  have H1 : (none) = some r := by rw [if_neg (show ¬ (false = true) by decide)] at H; exact H
  clear H
  have H := H1
  clear H1
  exact absurd H (by simp)
 subst c23
 have H1 : ((laws_markNet.f k t758 t759 1).bind fun bt779 => ((laws_markBoolS.f k t763 bt779.1).bind fun bt781 => (if bt781.1 < 0 then (laws_FnExactCycleLines.j0 k l1 t755 t766 true a0_0 l0_1) else ((laws_eqIntS.f k t766 t755).bind fun t783 => (laws_FnExactCycleLines.j0 k l1 t755 t766 (!t783) a0_0 l0_1))))) = some r := by rw [if_pos rfl] at H; exact H
 clear H
 have H := H1
 clear H1
 replace H := Option.bind_eq_some_iff.mp H
 obtain ⟨⟨t779, t780⟩, A240, H⟩ := H
 replace H : ((laws_markBoolS.f k t763 t779).bind fun bt781 => (if bt781.1 < 0 then (laws_FnExactCycleLines.j0 k l1 t755 t766 true a0_0 l0_1) else ((laws_eqIntS.f k t766 t755).bind fun t783 => (laws_FnExactCycleLines.j0 k l1 t755 t766 (!t783) a0_0 l0_1)))) = some r := H
 have A24 := Aside0.mk A240
 clear A240
 replace H := Option.bind_eq_some_iff.mp H
 obtain ⟨⟨t781, t782⟩, A250, H⟩ := H
 replace H : (if t781 < 0 then (laws_FnExactCycleLines.j0 k l1 t755 t766 true a0_0 l0_1) else ((laws_eqIntS.f k t766 t755).bind fun t783 => (laws_FnExactCycleLines.j0 k l1 t755 t766 (!t783) a0_0 l0_1))) = some r := H
 have A25 := Aside0.mk A250
 clear A250
 have HC26 := Aside0.mk H
 clear H
 go_enter Try.func10, Try.ntmps10
 try go_wp2_with (first | ((with_reducible refine gate_dst (N := 2) rfl ?_); refine box_event ?hg (N := 2) ?hd (cs := #[.int .i64 a0_0, .slice A0_1 l0_1.length c0_1]) (t := 24) ?hr ?_; (case hd => rfl); (case hg => rfl); (case hr => first | (go_simp; done) | (go_simp; rfl)); intro gb746 hg w27 hbox hb; have n0_ := Aside0.mk (below_step (by repeat (first | (with_reducible first | exact HB.out | apply below_alloc | apply pw_below_drewN | apply below_drew1) | exact HB.out)) hb); have n1_ := Aside0.mk (hbox); have n2_ := Aside0.mk ((by rw [hg]; exact (below_size (by repeat (first | (with_reducible first | exact HB.out | apply below_alloc | apply pw_below_drewN | apply below_drew1) | exact HB.out))) : w.heap.size ≤ gb746)); have n3_ := Aside0.mk ((by rw [hg]; exact (below_size (by repeat (first | (with_reducible first | exact HB.out | apply below_alloc | apply pw_below_drewN | apply below_drew1) | exact HB.out))) : w.heap.size ≤ gb746)); clear HB; have HB := n0_; have BK746 := n1_; have GW746 := n2_; have GE746 := n3_; clear n0_ n1_ n2_ n3_; clear hb hbox hg; have hcz28_0 : w27.cell? ⟨gb746, 0, none⟩ = some (.int .i64 a0_0) := (blk_cell BK746.out 0).trans rfl; have hcz28_1 : w27.cell? ⟨gb746, 1, none⟩ = some (.slice A0_1 l0_1.length c0_1) := (blk_cell BK746.out 1).trans rfl; have hfz28_0 := blk_frozen BK746.out 0; have hfz28_1 := blk_frozen BK746.out 1) | ((with_reducible refine gate_callee (f := 14) rfl ?_); refine goesL_ (some 19) rfl rfl Try.func14 (by kernel_rfl) rfl #[.agg #[.int .i64 a0_0, .slice A0_1 l0_1.length c0_1], .int .i64 1048576] rfl (by (try simp only [List.map_toArray, List.map_cons, List.map_nil]); first | done | rfl | (simp only [List.length_drop, List.length_take]; rfl)) ?_; (with_reducible refine (laws_szNet.calls a0_0 _ _ l0_1 1048576 t747 _ ?side1 ?side2 A5.out).mono ?_); (case side1 => repeat (first | exact (Kd.C_below HR0_1.out HB.out) | (with_reducible refine Kd.C_alloc ?_ _) | (with_reducible refine Kd.C_drewN ?_ _) | (with_reducible refine Kd.C_drew ?_))); (case side2 => exact HC0_1.out); rintro e w29 ⟨rfl, hb⟩; refine ⟨_, rfl, ?_⟩; have n0_ := Aside0.mk (blk_below (g := gb746) (o := .cells #[.int .i64 a0_0, .slice A0_1 l0_1.length c0_1] 24 (0, 0)) (by (with_reducible repeat (first | refine blk_drewN ?_ _ | refine blk_drew ?_ | refine blk_alloc ?_ _)); exact BK746.out) hb); have n1_ := Aside0.mk (below_step (by repeat (first | (with_reducible first | exact HB.out | apply below_alloc | apply pw_below_drewN | apply below_drew1 | refine below_set ?_ GE746.out) | exact HB.out)) hb); clear BK746; clear HB; have BK746 := n0_; have HB := n1_; clear n0_ n1_; (try clear hb); (try clear hb2); (try clear hk); (try clear hi); have hcz30_0 : w29.cell? ⟨gb746, 0, none⟩ = some (.int .i64 a0_0) := (blk_cell BK746.out 0).trans rfl; have hcz30_1 : w29.cell? ⟨gb746, 1, none⟩ = some (.slice A0_1 l0_1.length c0_1) := (blk_cell BK746.out 1).trans rfl; have hfz30_0 := blk_frozen BK746.out 0; have hfz30_1 := blk_frozen BK746.out 1) | ((with_reducible refine gate_callee (f := 16) rfl ?_); refine goesL_ (some 23) rfl rfl Try.func16 (by kernel_rfl) rfl #[.agg #[.int .i64 a0_0, .slice A0_1 l0_1.length c0_1]] rfl (by (try simp only [List.map_toArray, List.map_cons, List.map_nil]); first | done | rfl | (simp only [List.length_drop, List.length_take]; rfl)) ?_; (with_reducible refine (laws_toNet.calls k a0_0 _ _ l0_1 t748 t749 _ ?side1 ?side2 A10.out).mono ?_); (case side1 => repeat (first | exact (Kd.C_below HR0_1.out HB.out) | (with_reducible refine Kd.C_alloc ?_ _) | (with_reducible refine Kd.C_drewN ?_ _) | (with_reducible refine Kd.C_drew ?_))); (case side2 => exact HC0_1.out); rintro e w31 ⟨v750, rfl, ho0, hb⟩; refine ⟨_, rfl, ?_⟩; have n0_ := Aside0.mk (Kd.R_lower ho0 (below_size (by repeat (first | (with_reducible first | exact HB.out | apply below_alloc | apply pw_below_drewN | apply below_drew1 | refine below_set ?_ GE746.out) | exact HB.out)))); have n1_ := Aside0.mk (blk_below (g := gb746) (o := .cells #[.int .i64 a0_0, .slice A0_1 l0_1.length c0_1] 24 (0, 0)) (by (with_reducible repeat (first | refine blk_drewN ?_ _ | refine blk_drew ?_ | refine blk_alloc ?_ _)); exact BK746.out) hb); have n2_ := Aside0.mk (below_step (by repeat (first | (with_reducible first | exact HB.out | apply below_alloc | apply pw_below_drewN | apply below_drew1 | refine below_set ?_ GE746.out) | exact HB.out)) hb); clear BK746; clear HB; have HO751 := n0_; have BK746 := n1_; have HB := n2_; clear n0_ n1_ n2_; (try clear hb); (try clear hb2); (try clear hk); (try clear hi); (try clear ho0)) | ((with_reducible refine gate_callee (f := 17) rfl ?_); refine goesL_ (some 25) rfl rfl Try.func17 (by kernel_rfl) rfl #[.slice A1 l1.length c1] rfl (by (try simp only [List.map_toArray, List.map_cons, List.map_nil]); first | done | rfl | (simp only [List.length_drop, List.length_take]; rfl)) ?_; (with_reducible refine (laws_toBoolS.calls k _ _ l1 t752 _ ?side1 ?side2 A11.out).mono ?_); (case side1 => repeat (first | exact (Kd.C_below HR1.out HB.out) | (with_reducible refine Kd.C_alloc ?_ _) | (with_reducible refine Kd.C_drewN ?_ _) | (with_reducible refine Kd.C_drew ?_))); (case side2 => exact HC1.out); rintro e w32 ⟨v753, rfl, ho0, hb⟩; refine ⟨_, rfl, ?_⟩; have n0_ := Aside0.mk (Kd.R_below (by (with_reducible repeat (first | apply Kd.R_alloc | apply Kd.R_drewN | apply Kd.R_drew)); exact HO751.out) hb); have n1_ := Aside0.mk (Kd.R_lower ho0 (below_size (by repeat (first | (with_reducible first | exact HB.out | apply below_alloc | apply pw_below_drewN | apply below_drew1 | refine below_set ?_ GE746.out) | exact HB.out)))); have n2_ := Aside0.mk (blk_below (g := gb746) (o := .cells #[.int .i64 a0_0, .slice A0_1 l0_1.length c0_1] 24 (0, 0)) (by (with_reducible repeat (first | refine blk_drewN ?_ _ | refine blk_drew ?_ | refine blk_alloc ?_ _)); exact BK746.out) hb); have n3_ := Aside0.mk (below_step (by repeat (first | (with_reducible first | exact HB.out | apply below_alloc | apply pw_below_drewN | apply below_drew1 | refine below_set ?_ GE746.out) | exact HB.out)) hb); clear HO751; clear BK746; clear HB; have HO751 := n0_; have HO754 := n1_; have BK746 := n2_; have HB := n3_; clear n0_ n1_ n2_ n3_; (try clear hb); (try clear hb2); (try clear hk); (try clear hi); (try clear ho0); obtain ⟨Ao33, co33, eo33⟩ := Kd.R_slice HO751.out; subst eo33; obtain ⟨Ao34, co34, eo34⟩ := Kd.R_slice HO754.out; subst eo34) | ((with_reducible refine gate_callee (f := 41) rfl ?_); refine goesL_ (some 26) rfl rfl Try.func41 (by kernel_rfl) rfl #[.agg #[.int .i64 t748, .slice Ao33 t749.length co33], .slice Ao34 t752.length co34] rfl (by (try simp only [List.map_toArray, List.map_cons, List.map_nil]); first | done | rfl | (simp only [List.length_drop, List.length_take]; rfl)) ?_; (with_reducible refine (spec_CycleLines.calls k t748 _ _ t749 _ _ t752 t755 _ ?side1 ?side2 ?side3 ?side4 A12.out).mono ?_); (case side1 => repeat (first | exact (Kd.R_reads' HO751.out).2.2 | (with_reducible refine Kd.C_alloc ?_ _) | (with_reducible refine Kd.C_drewN ?_ _) | (with_reducible refine Kd.C_drew ?_))); (case side2 => exact (Kd.R_reads' HO751.out).2.1); (case side3 => repeat (first | exact (Kd.R_reads' HO754.out).2.2 | (with_reducible refine Kd.C_alloc ?_ _) | (with_reducible refine Kd.C_drewN ?_ _) | (with_reducible refine Kd.C_drew ?_))); (case side4 => exact (Kd.R_reads' HO754.out).2.1); rintro e w35 ⟨v756, rfl, ho0, hb⟩; refine ⟨_, rfl, ?_⟩; have n0_ := Aside0.mk (Kd.R_below (by (with_reducible repeat (first | apply Kd.R_alloc | apply Kd.R_drewN | apply Kd.R_drew)); exact HO751.out) hb); have n1_ := Aside0.mk (Kd.R_below (by (with_reducible repeat (first | apply Kd.R_alloc | apply Kd.R_drewN | apply Kd.R_drew)); exact HO754.out) hb); have n2_ := Aside0.mk (Kd.R_lower ho0 (below_size (by repeat (first | (with_reducible first | exact HB.out | apply below_alloc | apply pw_below_drewN | apply below_drew1 | refine below_set ?_ GE746.out) | exact HB.out)))); have n3_ := Aside0.mk (blk_below (g := gb746) (o := .cells #[.int .i64 a0_0, .slice A0_1 l0_1.length c0_1] 24 (0, 0)) (by (with_reducible repeat (first | refine blk_drewN ?_ _ | refine blk_drew ?_ | refine blk_alloc ?_ _)); exact BK746.out) hb); have n4_ := Aside0.mk (below_step (by repeat (first | (with_reducible first | exact HB.out | apply below_alloc | apply pw_below_drewN | apply below_drew1 | refine below_set ?_ GE746.out) | exact HB.out)) hb); clear HO751; clear HO754; clear BK746; clear HB; have HO751 := n0_; have HO754 := n1_; have HO757 := n2_; have BK746 := n3_; have HB := n4_; clear n0_ n1_ n2_ n3_ n4_; (try clear hb); (try clear hb2); (try clear hk); (try clear hi); (try clear ho0); have hcz36_0 : w35.cell? ⟨gb746, 0, none⟩ = some (.int .i64 a0_0) := (blk_cell BK746.out 0).trans rfl; have hcz36_1 : w35.cell? ⟨gb746, 1, none⟩ = some (.slice A0_1 l0_1.length c0_1) := (blk_cell BK746.out 1).trans rfl; have hfz36_0 := blk_frozen BK746.out 0; have hfz36_1 := blk_frozen BK746.out 1) | ((with_reducible refine gate_callee (f := 16) rfl ?_); refine goesL_ (some 28) rfl rfl Try.func16 (by kernel_rfl) rfl #[.agg #[.int .i64 a0_0, .slice A0_1 l0_1.length c0_1]] rfl (by (try simp only [List.map_toArray, List.map_cons, List.map_nil]); first | done | rfl | (simp only [List.length_drop, List.length_take]; rfl)) ?_; (with_reducible refine (laws_toNet.calls k a0_0 _ _ l0_1 t758 t759 _ ?side1 ?side2 A13.out).mono ?_); (case side1 => repeat (first | exact (Kd.C_below HR0_1.out HB.out) | (with_reducible refine Kd.C_alloc ?_ _) | (with_reducible refine Kd.C_drewN ?_ _) | (with_reducible refine Kd.C_drew ?_))); (case side2 => exact HC0_1.out); rintro e w37 ⟨v760, rfl, ho0, hb⟩; refine ⟨_, rfl, ?_⟩; have n0_ := Aside0.mk (Kd.R_elder' (by (with_reducible repeat (first | apply Kd.R_alloc | apply Kd.R_drewN | apply Kd.R_drew)); exact HO751.out) (Kd.R_base ho0) hb); have n1_ := Aside0.mk (Kd.R_below (by (with_reducible repeat (first | apply Kd.R_alloc | apply Kd.R_drewN | apply Kd.R_drew)); exact HO754.out) hb); have n2_ := Aside0.mk (Kd.R_below (by (with_reducible repeat (first | apply Kd.R_alloc | apply Kd.R_drewN | apply Kd.R_drew)); exact HO757.out) hb); have n3_ := Aside0.mk (Kd.R_lower (Kd.R_new' ho0 (Kd.R_lt (by (with_reducible repeat (first | apply Kd.R_alloc | apply Kd.R_drewN | apply Kd.R_drew)); exact HO751.out))) (below_size (by repeat (first | (with_reducible first | exact HB.out | apply below_alloc | apply pw_below_drewN | apply below_drew1 | refine below_set ?_ GE746.out) | exact HB.out)))); have n4_ := Aside0.mk (blk_below (g := gb746) (o := .cells #[.int .i64 a0_0, .slice A0_1 l0_1.length c0_1] 24 (0, 0)) (by (with_reducible repeat (first | refine blk_drewN ?_ _ | refine blk_drew ?_ | refine blk_alloc ?_ _)); exact BK746.out) hb); have n5_ := Aside0.mk (below_step (by repeat (first | (with_reducible first | exact HB.out | apply below_alloc | apply pw_below_drewN | apply below_drew1 | refine below_set ?_ GE746.out) | exact HB.out)) hb); clear HO751; clear HO754; clear HO757; clear BK746; clear HB; have HO751 := n0_; have HO754 := n1_; have HO757 := n2_; have HO761 := n3_; have BK746 := n4_; have HB := n5_; clear n0_ n1_ n2_ n3_ n4_ n5_; (try clear hb); (try clear hb2); (try clear hk); (try clear hi); (try clear ho0)) | ((with_reducible refine gate_dst (N := 7) rfl ?_); refine box_event ?hg (N := 7) ?hd (cs := #[.int .i64 0, .slice none 0 0]) (t := 30) ?hr ?_; (case hd => rfl); (case hg => rfl); (case hr => first | (go_simp; done) | (go_simp; rfl)); intro gb762 hg w38 hbox hb; have n0_ := Aside0.mk (Kd.R_below (by (with_reducible repeat (first | apply Kd.R_alloc | apply Kd.R_drewN | apply Kd.R_drew)); exact HO751.out) hb); have n1_ := Aside0.mk (Kd.R_below (by (with_reducible repeat (first | apply Kd.R_alloc | apply Kd.R_drewN | apply Kd.R_drew)); exact HO754.out) hb); have n2_ := Aside0.mk (Kd.R_below (by (with_reducible repeat (first | apply Kd.R_alloc | apply Kd.R_drewN | apply Kd.R_drew)); exact HO757.out) hb); have n3_ := Aside0.mk (Kd.R_below (by (with_reducible repeat (first | apply Kd.R_alloc | apply Kd.R_drewN | apply Kd.R_drew)); exact HO761.out) hb); have n4_ := Aside0.mk (blk_below (g := gb746) (o := .cells #[.int .i64 a0_0, .slice A0_1 l0_1.length c0_1] 24 (0, 0)) (by (with_reducible repeat (first | refine blk_drewN ?_ _ | refine blk_drew ?_ | refine blk_alloc ?_ _)); exact BK746.out) hb); have n5_ := Aside0.mk (below_step (by repeat (first | (with_reducible first | exact HB.out | apply below_alloc | apply pw_below_drewN | apply below_drew1 | refine below_set ?_ GE746.out) | exact HB.out)) hb); have n6_ := Aside0.mk (hbox); have n7_ := Aside0.mk ((by rw [hg]; exact (below_size (by repeat (first | (with_reducible first | exact HB.out | apply below_alloc | apply pw_below_drewN | apply below_drew1 | refine below_set ?_ GE746.out) | exact HB.out))) : w.heap.size ≤ gb762)); have n8_ := Aside0.mk ((by rw [hg]; exact (below_size (by repeat (first | (with_reducible first | exact HB.out | apply below_alloc | apply pw_below_drewN | apply below_drew1 | refine below_set ?_ GE746.out) | exact HB.out))) : w.heap.size ≤ gb762)); have n9_ := Aside0.mk ((by rw [hg]; exact Nat.ne_of_lt (blk_lt (g := gb746) (o := .cells #[.int .i64 a0_0, .slice A0_1 l0_1.length c0_1] 24 (0, 0)) (by (with_reducible repeat (first | refine blk_drewN ?_ _ | refine blk_drew ?_ | refine blk_alloc ?_ _)); exact BK746.out)) : gb746 ≠ gb762)); have n10_ := Aside0.mk ((by rw [hg]; exact Nat.ne_of_gt (blk_lt (g := gb746) (o := .cells #[.int .i64 a0_0, .slice A0_1 l0_1.length c0_1] 24 (0, 0)) (by (with_reducible repeat (first | refine blk_drewN ?_ _ | refine blk_drew ?_ | refine blk_alloc ?_ _)); exact BK746.out)) : gb762 ≠ gb746)); clear HO751; clear HO754; clear HO757; clear HO761; clear BK746; clear HB; have HO751 := n0_; have HO754 := n1_; have HO757 := n2_; have HO761 := n3_; have BK746 := n4_; have HB := n5_; have BK762 := n6_; have GW762 := n7_; have GE762 := n8_; have NB746_762 := n9_; have NB762_746 := n10_; clear n0_ n1_ n2_ n3_ n4_ n5_ n6_ n7_ n8_ n9_ n10_; clear hb hbox hg; have hnb39 := NB762_746.out; have hnc39 := NB746_762.out; have hcz40_0 : w38.cell? ⟨gb762, 0, none⟩ = some (.int .i64 0) := (blk_cell BK762.out 0).trans rfl; have hcz40_1 : w38.cell? ⟨gb762, 1, none⟩ = some (.slice none 0 0) := (blk_cell BK762.out 1).trans rfl; have hfz40_0 := blk_frozen BK762.out 0; have hfz40_1 := blk_frozen BK762.out 1; obtain ⟨Ao41, co41, eo41⟩ := Kd.R_slice HO761.out; subst eo41) | ((with_reducible refine gate_callee (f := 17) rfl ?_); refine goesL_ (some 30) rfl rfl Try.func17 (by kernel_rfl) rfl #[.slice A1 l1.length c1] rfl (by (try simp only [List.map_toArray, List.map_cons, List.map_nil]); first | done | rfl | (simp only [List.length_drop, List.length_take]; rfl)) ?_; (with_reducible refine (laws_toBoolS.calls k _ _ l1 t763 _ ?side1 ?side2 A14.out).mono ?_); (case side1 => exact Kd.C_below HR1.out (by repeat (first | (with_reducible first | exact HB.out | apply below_alloc | apply pw_below_drewN | apply below_drew1 | refine below_set ?_ GE746.out | refine below_set ?_ GE762.out) | exact HB.out))); (case side2 => exact HC1.out); rintro e w42 ⟨v764, rfl, ho0, hb⟩; refine ⟨_, rfl, ?_⟩; have n0_ := Aside0.mk (Kd.R_below (by (with_reducible repeat (first | apply Kd.R_alloc | apply Kd.R_drewN | apply Kd.R_drew)); exact (Kd.R_mono (Kd.R_far (p := ⟨gb762, 1, none⟩) (Kd.R_far (p := ⟨gb762, 0, none⟩) (Kd.R_types HO751.out BK762.out (by decide)) (fun _ hk => hk.2) (.int .i64 t758)) (fun _ hk => hk.2) (.slice Ao41 t759.length co41)) (fun _ h_ => h_.1))) hb); have n1_ := Aside0.mk (Kd.R_elder' (by (with_reducible repeat (first | apply Kd.R_alloc | apply Kd.R_drewN | apply Kd.R_drew)); exact (Kd.R_mono (Kd.R_far (p := ⟨gb762, 1, none⟩) (Kd.R_far (p := ⟨gb762, 0, none⟩) (Kd.R_types HO754.out BK762.out (by decide)) (fun _ hk => hk.2) (.int .i64 t758)) (fun _ hk => hk.2) (.slice Ao41 t759.length co41)) (fun _ h_ => h_.1))) (Kd.R_base ho0) hb); have n2_ := Aside0.mk (Kd.R_below (by (with_reducible repeat (first | apply Kd.R_alloc | apply Kd.R_drewN | apply Kd.R_drew)); exact (Kd.R_mono (Kd.R_far (p := ⟨gb762, 1, none⟩) (Kd.R_far (p := ⟨gb762, 0, none⟩) (Kd.R_types HO757.out BK762.out (by decide)) (fun _ hk => hk.2) (.int .i64 t758)) (fun _ hk => hk.2) (.slice Ao41 t759.length co41)) (fun _ h_ => h_.1))) hb); have n3_ := Aside0.mk (Kd.R_below (by (with_reducible repeat (first | apply Kd.R_alloc | apply Kd.R_drewN | apply Kd.R_drew)); exact (Kd.R_mono (Kd.R_far (p := ⟨gb762, 1, none⟩) (Kd.R_far (p := ⟨gb762, 0, none⟩) (Kd.R_types HO761.out BK762.out (by decide)) (fun _ hk => hk.2) (.int .i64 t758)) (fun _ hk => hk.2) (.slice Ao41 t759.length co41)) (fun _ h_ => h_.1))) hb); have n4_ := Aside0.mk (Kd.R_lower (Kd.R_new' ho0 (Kd.R_lt (by (with_reducible repeat (first | apply Kd.R_alloc | apply Kd.R_drewN | apply Kd.R_drew)); exact (Kd.R_mono (Kd.R_far (p := ⟨gb762, 1, none⟩) (Kd.R_far (p := ⟨gb762, 0, none⟩) (Kd.R_types HO754.out BK762.out (by decide)) (fun _ hk => hk.2) (.int .i64 t758)) (fun _ hk => hk.2) (.slice Ao41 t759.length co41)) (fun _ h_ => h_.1))))) (below_size (by repeat (first | (with_reducible first | exact HB.out | apply below_alloc | apply pw_below_drewN | apply below_drew1 | refine below_set ?_ GE746.out | refine below_set ?_ GE762.out) | exact HB.out)))); have n5_ := Aside0.mk (blk_below (g := gb746) (o := .cells #[.int .i64 a0_0, .slice A0_1 l0_1.length c0_1] 24 (0, 0)) (by (with_reducible repeat (first | refine blk_drewN ?_ _ | refine blk_drew ?_ | refine blk_alloc ?_ _)); refine blk_far ?_ NB746_762.out _; (with_reducible repeat (first | refine blk_drewN ?_ _ | refine blk_drew ?_ | refine blk_alloc ?_ _)); refine blk_far ?_ NB746_762.out _; (with_reducible repeat (first | refine blk_drewN ?_ _ | refine blk_drew ?_ | refine blk_alloc ?_ _)); exact BK746.out) hb); have n6_ := Aside0.mk (blk_below (g := gb762) (o := .cells #[.int .i64 t758, .slice Ao41 t759.length co41] 30 (0, 0)) (by (with_reducible repeat (first | refine blk_drewN ?_ _ | refine blk_drew ?_ | refine blk_alloc ?_ _)); refine blk_put (cs := #[.int .i64 t758, .slice none 0 0]) ?_ 1 _ rfl; (with_reducible repeat (first | refine blk_drewN ?_ _ | refine blk_drew ?_ | refine blk_alloc ?_ _)); refine blk_put (cs := #[.int .i64 0, .slice none 0 0]) ?_ 0 _ rfl; (with_reducible repeat (first | refine blk_drewN ?_ _ | refine blk_drew ?_ | refine blk_alloc ?_ _)); exact BK762.out) hb); have n7_ := Aside0.mk (below_step (by repeat (first | (with_reducible first | exact HB.out | apply below_alloc | apply pw_below_drewN | apply below_drew1 | refine below_set ?_ GE746.out | refine below_set ?_ GE762.out) | exact HB.out)) hb); clear HO751; clear HO754; clear HO757; clear HO761; clear BK746; clear BK762; clear HB; have HO751 := n0_; have HO754 := n1_; have HO757 := n2_; have HO761 := n3_; have HO765 := n4_; have BK746 := n5_; have BK762 := n6_; have HB := n7_; clear n0_ n1_ n2_ n3_ n4_ n5_ n6_ n7_; (try clear hb); (try clear hb2); (try clear hk); (try clear hi); (try clear ho0); have hcz43_0 : w42.cell? ⟨gb762, 0, none⟩ = some (.int .i64 t758) := (blk_cell BK762.out 0).trans rfl; have hcz43_1 : w42.cell? ⟨gb762, 1, none⟩ = some (.slice Ao41 t759.length co41) := (blk_cell BK762.out 1).trans rfl; have hfz43_0 := blk_frozen BK762.out 0; have hfz43_1 := blk_frozen BK762.out 1; obtain ⟨Ao44, co44, eo44⟩ := Kd.R_slice HO765.out; subst eo44) | ((with_reducible refine gate_callee (f := 42) rfl ?_); refine goesL_ (some 33) rfl rfl Try.func42 (by kernel_rfl) rfl #[.agg #[.int .i64 t758, .slice Ao41 t759.length co41], .slice Ao44 t763.length co44] rfl (by (try simp only [List.map_toArray, List.map_cons, List.map_nil]); first | done | rfl | (simp only [List.length_drop, List.length_take]; rfl)) ?_; (with_reducible refine (impl_CycleLines.calls k t758 _ _ t759 _ _ t763 t766 _ ?side1 ?side2 ?side3 ?side4 A15.out).mono ?_); (case side1 => repeat (first | exact (Kd.R_reads' HO761.out).2.2 | (with_reducible refine Kd.C_alloc ?_ _) | (with_reducible refine Kd.C_drewN ?_ _) | (with_reducible refine Kd.C_drew ?_))); (case side2 => exact (Kd.R_reads' HO761.out).2.1); (case side3 => repeat (first | exact (Kd.R_reads' HO765.out).2.2 | (with_reducible refine Kd.C_alloc ?_ _) | (with_reducible refine Kd.C_drewN ?_ _) | (with_reducible refine Kd.C_drew ?_))); (case side4 => exact (Kd.R_reads' HO765.out).2.1); rintro e w45 ⟨v767, rfl, ho0, hb⟩; refine ⟨_, rfl, ?_⟩; have n0_ := Aside0.mk (Kd.R_below (by (with_reducible repeat (first | apply Kd.R_alloc | apply Kd.R_drewN | apply Kd.R_drew)); exact HO751.out) hb); have n1_ := Aside0.mk (Kd.R_below (by (with_reducible repeat (first | apply Kd.R_alloc | apply Kd.R_drewN | apply Kd.R_drew)); exact HO754.out) hb); have n2_ := Aside0.mk (Kd.R_elder' (by (with_reducible repeat (first | apply Kd.R_alloc | apply Kd.R_drewN | apply Kd.R_drew)); exact HO757.out) (Kd.R_base ho0) hb); have n3_ := Aside0.mk (Kd.R_below (by (with_reducible repeat (first | apply Kd.R_alloc | apply Kd.R_drewN | apply Kd.R_drew)); exact HO761.out) hb); have n4_ := Aside0.mk (Kd.R_below (by (with_reducible repeat (first | apply Kd.R_alloc | apply Kd.R_drewN | apply Kd.R_drew)); exact HO765.out) hb); have n5_ := Aside0.mk (Kd.R_lower (Kd.R_new' ho0 (Kd.R_lt (by (with_reducible repeat (first | apply Kd.R_alloc | apply Kd.R_drewN | apply Kd.R_drew)); exact HO757.out))) (below_size (by repeat (first | (with_reducible first | exact HB.out | apply below_alloc | apply pw_below_drewN | apply below_drew1 | refine below_set ?_ GE746.out | refine below_set ?_ GE762.out) | exact HB.out)))); have n6_ := Aside0.mk (blk_below (g := gb746) (o := .cells #[.int .i64 a0_0, .slice A0_1 l0_1.length c0_1] 24 (0, 0)) (by (with_reducible repeat (first | refine blk_drewN ?_ _ | refine blk_drew ?_ | refine blk_alloc ?_ _)); exact BK746.out) hb); have n7_ := Aside0.mk (blk_below (g := gb762) (o := .cells #[.int .i64 t758, .slice Ao41 t759.length co41] 30 (0, 0)) (by (with_reducible repeat (first | refine blk_drewN ?_ _ | refine blk_drew ?_ | refine blk_alloc ?_ _)); exact BK762.out) hb); have n8_ := Aside0.mk (below_step (by repeat (first | (with_reducible first | exact HB.out | apply below_alloc | apply pw_below_drewN | apply below_drew1 | refine below_set ?_ GE746.out | refine below_set ?_ GE762.out) | exact HB.out)) hb); clear HO751; clear HO754; clear HO757; clear HO761; clear HO765; clear BK746; clear BK762; clear HB; have HO751 := n0_; have HO754 := n1_; have HO757 := n2_; have HO761 := n3_; have HO765 := n4_; have HO768 := n5_; have BK746 := n6_; have BK762 := n7_; have HB := n8_; clear n0_ n1_ n2_ n3_ n4_ n5_ n6_ n7_ n8_; (try clear hb); (try clear hb2); (try clear hk); (try clear hi); (try clear ho0); obtain ⟨Ao46, co46, eo46⟩ := Kd.R_slice HO768.out; subst eo46; obtain ⟨Ao47, co47, eo47⟩ := Kd.R_slice HO757.out; subst eo47) | ((with_reducible refine gate_callee (f := 25) rfl ?_); refine goesL_ (some 36) rfl rfl Try.func25 (by kernel_rfl) rfl #[.slice Ao46 t766.length co46, .slice Ao47 t755.length co47] rfl (by (try simp only [List.map_toArray, List.map_cons, List.map_nil]); first | done | rfl | (simp only [List.length_drop, List.length_take]; rfl)) ?_; (with_reducible refine (laws_eqIntS.calls k _ _ t766 _ _ t755 true _ ?side1 ?side2 ?side3 ?side4 A16.out).mono ?_); (case side1 => repeat (first | exact (Kd.R_reads' HO768.out).2.2 | (with_reducible refine Kd.C_alloc ?_ _) | (with_reducible refine Kd.C_drewN ?_ _) | (with_reducible refine Kd.C_drew ?_))); (case side2 => exact (Kd.R_reads' HO768.out).2.1); (case side3 => repeat (first | exact (Kd.R_reads' HO757.out).2.2 | (with_reducible refine Kd.C_alloc ?_ _) | (with_reducible refine Kd.C_drewN ?_ _) | (with_reducible refine Kd.C_drew ?_))); (case side4 => exact (Kd.R_reads' HO757.out).2.1); rintro e w' ⟨rfl, ⟨nd, rfl⟩⟩; refine ⟨_, rfl, ?_⟩))
 (try (rw [drewN_self w45]; generalize hq_ : World.drewN w45 _ = w45; have n0_ : Aside0 (Kd.R k73 73 w45 w.heap.size (fun k_ => (True ∧ some k_ ≠ (.slice Ao41 t759.length co41 : Value).ownBlock)) (.slice Ao33 t749.length co33) t749) := ⟨by rw [← hq_]; exact (by (with_reducible repeat (first | apply Kd.R_alloc | apply Kd.R_drewN | apply Kd.R_drew)); exact HO751.out)⟩; have n1_ : Aside0 (Kd.R Kd.bool 4 w45 w.heap.size (fun k_ => (True ∧ some k_ ≠ (.slice Ao44 t763.length co44 : Value).ownBlock)) (.slice Ao34 t752.length co34) t752) := ⟨by rw [← hq_]; exact (by (with_reducible repeat (first | apply Kd.R_alloc | apply Kd.R_drewN | apply Kd.R_drew)); exact HO754.out)⟩; have n2_ : Aside0 (Kd.R (Kd.int .i64) 3 w45 w.heap.size (fun k_ => (True ∧ some k_ ≠ (.slice Ao46 t766.length co46 : Value).ownBlock)) (.slice Ao47 t755.length co47) t755) := ⟨by rw [← hq_]; exact (by (with_reducible repeat (first | apply Kd.R_alloc | apply Kd.R_drewN | apply Kd.R_drew)); exact HO757.out)⟩; have n3_ : Aside0 (Kd.R k73 73 w45 w.heap.size (fun k_ => (True ∧ some k_ ≠ (.slice Ao33 t749.length co33 : Value).ownBlock)) (.slice Ao41 t759.length co41) t759) := ⟨by rw [← hq_]; exact (by (with_reducible repeat (first | apply Kd.R_alloc | apply Kd.R_drewN | apply Kd.R_drew)); exact HO761.out)⟩; have n4_ : Aside0 (Kd.R Kd.bool 4 w45 w.heap.size (fun k_ => (True ∧ some k_ ≠ (.slice Ao34 t752.length co34 : Value).ownBlock)) (.slice Ao44 t763.length co44) t763) := ⟨by rw [← hq_]; exact (by (with_reducible repeat (first | apply Kd.R_alloc | apply Kd.R_drewN | apply Kd.R_drew)); exact HO765.out)⟩; have n5_ : Aside0 (Kd.R (Kd.int .i64) 3 w45 w.heap.size (fun k_ => (True ∧ some k_ ≠ (.slice Ao47 t755.length co47 : Value).ownBlock)) (.slice Ao46 t766.length co46) t766) := ⟨by rw [← hq_]; exact (by (with_reducible repeat (first | apply Kd.R_alloc | apply Kd.R_drewN | apply Kd.R_drew)); exact HO768.out)⟩; have n6_ : Aside0 (w45.heap[gb746]? = some (.cells #[.int .i64 a0_0, .slice A0_1 l0_1.length c0_1] 24 (0, 0))) := ⟨by rw [← hq_]; exact (by (with_reducible repeat (first | refine blk_drewN ?_ _ | refine blk_drew ?_ | refine blk_alloc ?_ _)); exact BK746.out)⟩; have n7_ : Aside0 (w45.heap[gb762]? = some (.cells #[.int .i64 t758, .slice Ao41 t759.length co41] 30 (0, 0))) := ⟨by rw [← hq_]; exact (by (with_reducible repeat (first | refine blk_drewN ?_ _ | refine blk_drew ?_ | refine blk_alloc ?_ _)); exact BK762.out)⟩; have n8_ : Aside0 (Below w.heap.size w w45) := ⟨by rw [← hq_]; exact (by repeat (first | (with_reducible first | exact HB.out | apply below_alloc | apply pw_below_drewN | apply below_drew1 | refine below_set ?_ GE746.out | refine below_set ?_ GE762.out) | exact HB.out))⟩; clear HO751 HO754 HO757 HO761 HO765 HO768 BK746 BK762 HB hq_; have HO751 := n0_; have HO754 := n1_; have HO757 := n2_; have HO761 := n3_; have HO765 := n4_; have HO768 := n5_; have BK746 := n6_; have BK762 := n7_; have HB := n8_; clear n0_ n1_ n2_ n3_ n4_ n5_ n6_ n7_ n8_))
 have n0_ := Aside0.mk (Kd.R_drew HO751.out)
 have n1_ := Aside0.mk (Kd.R_drew HO754.out)
 have n2_ := Aside0.mk (Kd.R_drew HO757.out)
 have n3_ := Aside0.mk (Kd.R_drew HO761.out)
 have n4_ := Aside0.mk (Kd.R_drew HO765.out)
 have n5_ := Aside0.mk (Kd.R_drew HO768.out)
 have n6_ := Aside0.mk (blk_drew BK746.out)
 have n7_ := Aside0.mk (blk_drew BK762.out)
 have n8_ := Aside0.mk (below_drew1 HB.out)
 clear HO751
 clear HO754
 clear HO757
 clear HO761
 clear HO765
 clear HO768
 clear BK746
 clear BK762
 clear HB
 have HO751 := n0_
 have HO754 := n1_
 have HO757 := n2_
 have HO761 := n3_
 have HO765 := n4_
 have HO768 := n5_
 have BK746 := n6_
 have BK762 := n7_
 have HB := n8_
 clear n0_ n1_ n2_ n3_ n4_ n5_ n6_ n7_ n8_
 refine start_ (n := 5) (S := fun w' => w'.cell? ⟨gb762, 0, none⟩ = some (.int .i64 t758) ∧ w'.cell? ⟨gb762, 1, none⟩ = some (.slice Ao41 t759.length co41) ∧ w'.cell? ⟨gb746, 0, none⟩ = some (.int .i64 a0_0) ∧ w'.cell? ⟨gb746, 1, none⟩ = some (.slice A0_1 l0_1.length c0_1)) (ds := []) #[false, false, false, false, false] (by kernel_rfl) rfl rfl ⟨(blk_cell BK762.out 0).trans rfl, (blk_cell BK762.out 1).trans rfl, (blk_cell BK746.out 0).trans rfl, (blk_cell BK746.out 1).trans rfl⟩ (fun hHeld => ?_)
 generalize w45.drew = w48 at HO751 HO754 HO757 HO761 HO765 HO768 BK746 BK762 HB hHeld ⊢
 refine take_ (i := 0) (N := some 38) (v := ?_) (a' := ?_) #[true, false, false, false, false] rfl rfl (by kernel_rfl) (fun _ _ _ h => h) (Or.inl ⟨by rfl, ?_⟩) hHeld ?_ ?_
 rotate_left
 ·
  rintro w' ⟨s0, s1, s2, s3⟩
  go_simp
  with_reducible rfl
 rotate_left
 ·
  simp only [Act.put, List.setIfInBounds_toArray, List.set_cons_zero, List.set_cons_succ, i64_w, i32_w]
  rfl
 refine take_ (i := 1) (N := some 39) (v := ?_) (a' := ?_) #[true, true, false, false, false] rfl rfl (by kernel_rfl) (fun _ _ _ h => h) (Or.inl ⟨by rfl, ?_⟩) hHeld ?_ ?_
 rotate_left
 ·
  rintro w' ⟨s0, s1, s2, s3⟩
  go_simp
  with_reducible rfl
 rotate_left
 ·
  simp only [Act.put, List.setIfInBounds_toArray, List.set_cons_zero, List.set_cons_succ, i64_w, i32_w]
  rfl
 refine one_ (i := 2) (N := some 40) #[true, true, true, false, false] rfl rfl (by kernel_rfl) (by decide) (fun K hK => ?_)
 refine goes_ Try.func16 (by kernel_rfl) rfl #[.agg #[.int .i64 a0_0, .slice A0_1 l0_1.length c0_1]] (by rfl) rfl rfl (by (try simp only [List.map_toArray, List.map_cons, List.map_nil]); first | done | rfl | (simp only [List.length_drop, List.length_take]; rfl)) ?_
 with_reducible refine (laws_toNet.calls k a0_0 _ _ l0_1 t770 t771 _ ?side1 ?side2 A18.out).mono ?_
 (case side1 => repeat (first | exact (Kd.C_below HR0_1.out HB.out) | (with_reducible refine Kd.C_alloc ?_ _) | (with_reducible refine Kd.C_drewN ?_ _) | (with_reducible refine Kd.C_drew ?_)))
 (case side2 => exact HC0_1.out)
 rintro e w49 ⟨v772, rfl, ho0, hb⟩
 refine ⟨_, rfl, ?_⟩
 have n0_ := Aside0.mk (Kd.R_elder' (by (with_reducible repeat (first | apply Kd.R_alloc | apply Kd.R_drewN | apply Kd.R_drew)); exact HO751.out) (Kd.R_base ho0) hb)
 have n1_ := Aside0.mk (Kd.R_below (by (with_reducible repeat (first | apply Kd.R_alloc | apply Kd.R_drewN | apply Kd.R_drew)); exact HO754.out) hb)
 have n2_ := Aside0.mk (Kd.R_below (by (with_reducible repeat (first | apply Kd.R_alloc | apply Kd.R_drewN | apply Kd.R_drew)); exact HO757.out) hb)
 have n3_ := Aside0.mk (Kd.R_elder' (by (with_reducible repeat (first | apply Kd.R_alloc | apply Kd.R_drewN | apply Kd.R_drew)); exact HO761.out) (Kd.R_base ho0) hb)
 have n4_ := Aside0.mk (Kd.R_below (by (with_reducible repeat (first | apply Kd.R_alloc | apply Kd.R_drewN | apply Kd.R_drew)); exact HO765.out) hb)
 have n5_ := Aside0.mk (Kd.R_below (by (with_reducible repeat (first | apply Kd.R_alloc | apply Kd.R_drewN | apply Kd.R_drew)); exact HO768.out) hb)
 have n6_ := Aside0.mk (Kd.R_lower (Kd.R_new' (Kd.R_new' ho0 (Kd.R_lt (by (with_reducible repeat (first | apply Kd.R_alloc | apply Kd.R_drewN | apply Kd.R_drew)); exact HO751.out))) (Kd.R_lt (by (with_reducible repeat (first | apply Kd.R_alloc | apply Kd.R_drewN | apply Kd.R_drew)); exact HO761.out))) (below_size (by repeat (first | (with_reducible first | exact HB.out | apply below_alloc | apply pw_below_drewN | apply below_drew1 | refine below_set ?_ GE746.out | refine below_set ?_ GE762.out) | exact HB.out))))
 have n7_ := Aside0.mk (blk_below (g := gb746) (o := .cells #[.int .i64 a0_0, .slice A0_1 l0_1.length c0_1] 24 (0, 0)) (by (with_reducible repeat (first | refine blk_drewN ?_ _ | refine blk_drew ?_ | refine blk_alloc ?_ _)); exact BK746.out) hb)
 have n8_ := Aside0.mk (blk_below (g := gb762) (o := .cells #[.int .i64 t758, .slice Ao41 t759.length co41] 30 (0, 0)) (by (with_reducible repeat (first | refine blk_drewN ?_ _ | refine blk_drew ?_ | refine blk_alloc ?_ _)); exact BK762.out) hb)
 have n9_ := Aside0.mk (below_step (by repeat (first | (with_reducible first | exact HB.out | apply below_alloc | apply pw_below_drewN | apply below_drew1 | refine below_set ?_ GE746.out | refine below_set ?_ GE762.out) | exact HB.out)) hb)
 clear HO751
 clear HO754
 clear HO757
 clear HO761
 clear HO765
 clear HO768
 clear BK746
 clear BK762
 clear HB
 have HO751 := n0_
 have HO754 := n1_
 have HO757 := n2_
 have HO761 := n3_
 have HO765 := n4_
 have HO768 := n5_
 have HO773 := n6_
 have BK746 := n7_
 have BK762 := n8_
 have HB := n9_
 clear n0_ n1_ n2_ n3_ n4_ n5_ n6_ n7_ n8_ n9_
 (try clear hb)
 (try clear hb2)
 (try clear hk)
 (try clear hi)
 (try clear ho0)
 obtain ⟨Ao50, co50, eo50⟩ := Kd.R_slice HO773.out
 (first | subst eo50 | (injection eo50 with f1_ f2_ f3_; have f4_ := f1_.symm; have f5_ := f3_.symm; clear f1_ f2_ f3_; subst f4_; subst f5_))
 refine hK.out _ _ ⟨(blk_cell BK762.out 0).trans rfl, (blk_cell BK762.out 1).trans rfl, (blk_cell BK746.out 0).trans rfl, (blk_cell BK746.out 1).trans rfl⟩ (fun hHeld => ?_)
 clear hK K
 refine norm_ (a' := ?_) ?_ ?_
 rotate_left
 ·
  show Act.put _ (some 40) _ = _
  simp only [Act.put, List.setIfInBounds_toArray, List.set_cons_zero, List.set_cons_succ, i64_w, i32_w]
  rfl
 refine one_ (i := 3) (N := some 41) #[true, true, true, true, false] rfl rfl (by kernel_rfl) (by decide) (fun K hK => ?_)
 refine goes_ Try.func19 (by kernel_rfl) rfl #[.agg #[.int .i64 t758, .slice Ao41 t759.length co41], .agg #[.int .i64 t770, .slice Ao50 t771.length co50]] (by rfl) rfl rfl (by (try simp only [List.map_toArray, List.map_cons, List.map_nil]); first | done | rfl | (simp only [List.length_drop, List.length_take]; rfl)) ?_
 with_reducible refine (laws_eqNet.calls k t758 _ _ t759 t770 _ _ t771 true _ ?side1 ?side2 ?side3 ?side4 A19.out).mono ?_
 (case side1 => repeat (first | exact (Kd.R_reads' HO761.out).2.2 | (with_reducible refine Kd.C_alloc ?_ _) | (with_reducible refine Kd.C_drewN ?_ _) | (with_reducible refine Kd.C_drew ?_)))
 (case side2 => exact (Kd.R_reads' HO761.out).2.1)
 (case side3 => repeat (first | exact (Kd.R_reads' HO773.out).2.2 | (with_reducible refine Kd.C_alloc ?_ _) | (with_reducible refine Kd.C_drewN ?_ _) | (with_reducible refine Kd.C_drew ?_)))
 (case side4 => exact (Kd.R_reads' HO773.out).2.1)
 rintro e w51 ⟨rfl, hb⟩
 refine ⟨_, rfl, ?_⟩
 have n0_ := Aside0.mk (Kd.R_below (by (with_reducible repeat (first | apply Kd.R_alloc | apply Kd.R_drewN | apply Kd.R_drew)); exact HO751.out) hb)
 have n1_ := Aside0.mk (Kd.R_below (by (with_reducible repeat (first | apply Kd.R_alloc | apply Kd.R_drewN | apply Kd.R_drew)); exact HO754.out) hb)
 have n2_ := Aside0.mk (Kd.R_below (by (with_reducible repeat (first | apply Kd.R_alloc | apply Kd.R_drewN | apply Kd.R_drew)); exact HO757.out) hb)
 have n3_ := Aside0.mk (Kd.R_below (by (with_reducible repeat (first | apply Kd.R_alloc | apply Kd.R_drewN | apply Kd.R_drew)); exact HO761.out) hb)
 have n4_ := Aside0.mk (Kd.R_below (by (with_reducible repeat (first | apply Kd.R_alloc | apply Kd.R_drewN | apply Kd.R_drew)); exact HO765.out) hb)
 have n5_ := Aside0.mk (Kd.R_below (by (with_reducible repeat (first | apply Kd.R_alloc | apply Kd.R_drewN | apply Kd.R_drew)); exact HO768.out) hb)
 have n6_ := Aside0.mk (Kd.R_below (by (with_reducible repeat (first | apply Kd.R_alloc | apply Kd.R_drewN | apply Kd.R_drew)); exact HO773.out) hb)
 have n7_ := Aside0.mk (blk_below (g := gb746) (o := .cells #[.int .i64 a0_0, .slice A0_1 l0_1.length c0_1] 24 (0, 0)) (by (with_reducible repeat (first | refine blk_drewN ?_ _ | refine blk_drew ?_ | refine blk_alloc ?_ _)); exact BK746.out) hb)
 have n8_ := Aside0.mk (blk_below (g := gb762) (o := .cells #[.int .i64 t758, .slice Ao41 t759.length co41] 30 (0, 0)) (by (with_reducible repeat (first | refine blk_drewN ?_ _ | refine blk_drew ?_ | refine blk_alloc ?_ _)); exact BK762.out) hb)
 have n9_ := Aside0.mk (below_step (by repeat (first | (with_reducible first | exact HB.out | apply below_alloc | apply pw_below_drewN | apply below_drew1 | refine below_set ?_ GE746.out | refine below_set ?_ GE762.out) | exact HB.out)) hb)
 clear HO751
 clear HO754
 clear HO757
 clear HO761
 clear HO765
 clear HO768
 clear HO773
 clear BK746
 clear BK762
 clear HB
 have HO751 := n0_
 have HO754 := n1_
 have HO757 := n2_
 have HO761 := n3_
 have HO765 := n4_
 have HO768 := n5_
 have HO773 := n6_
 have BK746 := n7_
 have BK762 := n8_
 have HB := n9_
 clear n0_ n1_ n2_ n3_ n4_ n5_ n6_ n7_ n8_ n9_
 (try clear hb)
 (try clear hb2)
 (try clear hk)
 (try clear hi)
 refine hK.out _ _ ⟨(blk_cell BK762.out 0).trans rfl, (blk_cell BK762.out 1).trans rfl, (blk_cell BK746.out 0).trans rfl, (blk_cell BK746.out 1).trans rfl⟩ (fun hHeld => ?_)
 clear hK K
 refine norm_ (a' := ?_) ?_ ?_
 rotate_left
 ·
  show Act.put _ (some 41) _ = _
  simp only [Act.put, List.setIfInBounds_toArray, List.set_cons_zero, List.set_cons_succ, i64_w, i32_w]
  rfl
 refine pure_ (i := 4) (N := some 42) (v := ?_) (a' := ?_) #[true, true, true, true, true] rfl rfl (by kernel_rfl) (fun _ _ _ h => h) (Or.inl ⟨by rfl, ?_⟩) ?_ ?_
 rotate_left
 ·
  intro w'
  go_simp
  with_reducible rfl
 rotate_left
 ·
  simp only [Act.put, List.setIfInBounds_toArray, List.set_cons_zero, List.set_cons_succ, i64_w, i32_w]
  rfl
 refine done_ (by kernel_rfl) ?_
 go_upto_region 20 with (first | ((with_reducible refine gate_callee (f := 17) rfl ?_); refine goesL_ (some 45) rfl rfl Try.func17 (by kernel_rfl) rfl #[.slice A1 l1.length c1] rfl (by (try simp only [List.map_toArray, List.map_cons, List.map_nil]); first | done | rfl | (simp only [List.length_drop, List.length_take]; rfl)) ?_; (with_reducible refine (laws_toBoolS.calls k _ _ l1 t775 _ ?side1 ?side2 A21.out).mono ?_); (case side1 => repeat (first | exact (Kd.C_below HR1.out HB.out) | (with_reducible refine Kd.C_alloc ?_ _) | (with_reducible refine Kd.C_drewN ?_ _) | (with_reducible refine Kd.C_drew ?_))); (case side2 => exact HC1.out); rintro e w52 ⟨v776, rfl, ho0, hb⟩; refine ⟨_, rfl, ?_⟩; have n0_ := Aside0.mk (Kd.R_below (by (with_reducible repeat (first | apply Kd.R_alloc | apply Kd.R_drewN | apply Kd.R_drew)); exact HO751.out) hb); have n1_ := Aside0.mk (Kd.R_elder' (by (with_reducible repeat (first | apply Kd.R_alloc | apply Kd.R_drewN | apply Kd.R_drew)); exact HO754.out) (Kd.R_base ho0) hb); have n2_ := Aside0.mk (Kd.R_below (by (with_reducible repeat (first | apply Kd.R_alloc | apply Kd.R_drewN | apply Kd.R_drew)); exact HO757.out) hb); have n3_ := Aside0.mk (Kd.R_below (by (with_reducible repeat (first | apply Kd.R_alloc | apply Kd.R_drewN | apply Kd.R_drew)); exact HO761.out) hb); have n4_ := Aside0.mk (Kd.R_elder' (by (with_reducible repeat (first | apply Kd.R_alloc | apply Kd.R_drewN | apply Kd.R_drew)); exact HO765.out) (Kd.R_base ho0) hb); have n5_ := Aside0.mk (Kd.R_below (by (with_reducible repeat (first | apply Kd.R_alloc | apply Kd.R_drewN | apply Kd.R_drew)); exact HO768.out) hb); have n6_ := Aside0.mk (Kd.R_below (by (with_reducible repeat (first | apply Kd.R_alloc | apply Kd.R_drewN | apply Kd.R_drew)); exact HO773.out) hb); have n7_ := Aside0.mk (Kd.R_lower (Kd.R_new' (Kd.R_new' ho0 (Kd.R_lt (by (with_reducible repeat (first | apply Kd.R_alloc | apply Kd.R_drewN | apply Kd.R_drew)); exact HO754.out))) (Kd.R_lt (by (with_reducible repeat (first | apply Kd.R_alloc | apply Kd.R_drewN | apply Kd.R_drew)); exact HO765.out))) (below_size (by repeat (first | (with_reducible first | exact HB.out | apply below_alloc | apply pw_below_drewN | apply below_drew1 | refine below_set ?_ GE746.out | refine below_set ?_ GE762.out) | exact HB.out)))); have n8_ := Aside0.mk (blk_below (g := gb746) (o := .cells #[.int .i64 a0_0, .slice A0_1 l0_1.length c0_1] 24 (0, 0)) (by (with_reducible repeat (first | refine blk_drewN ?_ _ | refine blk_drew ?_ | refine blk_alloc ?_ _)); exact BK746.out) hb); have n9_ := Aside0.mk (blk_below (g := gb762) (o := .cells #[.int .i64 t758, .slice Ao41 t759.length co41] 30 (0, 0)) (by (with_reducible repeat (first | refine blk_drewN ?_ _ | refine blk_drew ?_ | refine blk_alloc ?_ _)); exact BK762.out) hb); have n10_ := Aside0.mk (below_step (by repeat (first | (with_reducible first | exact HB.out | apply below_alloc | apply pw_below_drewN | apply below_drew1 | refine below_set ?_ GE746.out | refine below_set ?_ GE762.out) | exact HB.out)) hb); clear HO751; clear HO754; clear HO757; clear HO761; clear HO765; clear HO768; clear HO773; clear BK746; clear BK762; clear HB; have HO751 := n0_; have HO754 := n1_; have HO757 := n2_; have HO761 := n3_; have HO765 := n4_; have HO768 := n5_; have HO773 := n6_; have HO777 := n7_; have BK746 := n8_; have BK762 := n9_; have HB := n10_; clear n0_ n1_ n2_ n3_ n4_ n5_ n6_ n7_ n8_ n9_ n10_; (try clear hb); (try clear hb2); (try clear hk); (try clear hi); (try clear ho0); obtain ⟨Ao53, co53, eo53⟩ := Kd.R_slice HO777.out; subst eo53) | ((with_reducible refine gate_callee (f := 20) rfl ?_); refine goesL_ (some 46) rfl rfl Try.func20 (by kernel_rfl) rfl #[.slice Ao44 t763.length co44, .slice Ao53 t775.length co53] rfl (by (try simp only [List.map_toArray, List.map_cons, List.map_nil]); first | done | rfl | (simp only [List.length_drop, List.length_take]; rfl)) ?_; (with_reducible refine (laws_eqBoolS.calls k _ _ t763 _ _ t775 true _ ?side1 ?side2 ?side3 ?side4 A22.out).mono ?_); (case side1 => repeat (first | exact (Kd.R_reads' HO765.out).2.2 | (with_reducible refine Kd.C_alloc ?_ _) | (with_reducible refine Kd.C_drewN ?_ _) | (with_reducible refine Kd.C_drew ?_))); (case side2 => exact (Kd.R_reads' HO765.out).2.1); (case side3 => repeat (first | exact (Kd.R_reads' HO777.out).2.2 | (with_reducible refine Kd.C_alloc ?_ _) | (with_reducible refine Kd.C_drewN ?_ _) | (with_reducible refine Kd.C_drew ?_))); (case side4 => exact (Kd.R_reads' HO777.out).2.1); rintro e w' ⟨rfl, ⟨nd, rfl⟩⟩; refine ⟨_, rfl, ?_⟩; have hcz54_0 : w52.cell? ⟨gb762, 0, none⟩ = some (.int .i64 t758) := (blk_cell BK762.out 0).trans rfl; have hcz54_1 : w52.cell? ⟨gb762, 1, none⟩ = some (.slice Ao41 t759.length co41) := (blk_cell BK762.out 1).trans rfl; have hfz54_0 := blk_frozen BK762.out 0; have hfz54_1 := blk_frozen BK762.out 1) | ((with_reducible refine gate_callee (f := 26) rfl ?_); refine goesL_ (some 50) rfl rfl Try.func26 (by kernel_rfl) rfl #[.agg #[.int .i64 t758, .slice Ao41 t759.length co41], .int .i64 1] rfl (by (try simp only [List.map_toArray, List.map_cons, List.map_nil]); first | done | rfl | (simp only [List.length_drop, List.length_take]; rfl)) ?_; (with_reducible refine (laws_markNet.calls k t758 (fun k_ => some k_ = (.slice Ao41 t759.length co41 : Value).ownBlock) (.slice Ao41 t759.length co41) t759 1 t779 t780 w _ ?side1 ?side2 A24.out).mono ?_); (case side1 => repeat (first | (with_reducible first | exact HB.out | apply below_alloc | apply pw_below_drewN | apply below_drew1 | refine below_set ?_ GE746.out | refine below_set ?_ GE762.out) | exact HB.out)); (case side2 => exact Kd.R_tight rfl HO761.out); rintro e w55 ⟨rfl, hy0, hb, hkp⟩; refine ⟨_, rfl, ?_⟩; have n0_ := Aside0.mk (blk_kept (by (with_reducible repeat (first | refine blk_drewN ?_ _ | refine blk_drew ?_ | refine blk_alloc ?_ _)); exact BK746.out) hkp (fun hs_ => (fun e_ => (Kd.R_ne HO761.out BK746.out (by decide)) e_) hs_)); have n1_ := Aside0.mk (Kd.R_mono (ok' := fun k_ => some k_ ≠ (.slice Ao41 t759.length co41 : Value).ownBlock ∧ some k_ ≠ (.slice Ao50 t771.length co50 : Value).ownBlock) (Kd.R_keptB (HO751.out) hkp (fun k_ hk_ hs_ => (hk_.1.2) hs_)) (fun k_ hk_ => ⟨hk_.1.1.2, hk_.1.2⟩)); have n2_ := Aside0.mk (Kd.R_mono (ok' := fun k_ => some k_ ≠ (.slice Ao44 t763.length co44 : Value).ownBlock ∧ some k_ ≠ (.slice Ao53 t775.length co53 : Value).ownBlock) (Kd.R_keptB ((Kd.R_apart' HO754.out (Kd.R_typed HO761.out) (by decide))) hkp (fun k_ hk_ hs_ => (hk_.2) hs_)) (fun k_ hk_ => ⟨hk_.1.1.1.2, hk_.1.1.2⟩)); have n3_ := Aside0.mk (Kd.R_mono (ok' := fun k_ => some k_ ≠ (.slice Ao46 t766.length co46 : Value).ownBlock) (Kd.R_keptB ((Kd.R_apart' HO757.out (Kd.R_typed HO761.out) (by decide))) hkp (fun k_ hk_ hs_ => (hk_.2) hs_)) (fun k_ hk_ => hk_.1.1.2)); have n4_ := Aside0.mk (Kd.R_reok rfl hy0 (fun k_ e_ => HO761.out.1 k_ e_)); have n5_ := Aside0.mk (blk_kept (by (with_reducible repeat (first | refine blk_drewN ?_ _ | refine blk_drew ?_ | refine blk_alloc ?_ _)); exact BK762.out) hkp (fun hs_ => (fun e_ => (Kd.R_ne HO761.out BK762.out (by decide)) e_) hs_)); have n6_ := Aside0.mk (Kd.R_mono (ok' := fun k_ => some k_ ≠ (.slice Ao34 t752.length co34 : Value).ownBlock ∧ some k_ ≠ (.slice Ao53 t775.length co53 : Value).ownBlock) (Kd.R_keptB ((Kd.R_apart' HO765.out (Kd.R_typed HO761.out) (by decide))) hkp (fun k_ hk_ hs_ => (hk_.2) hs_)) (fun k_ hk_ => ⟨hk_.1.1.1.2, hk_.1.1.2⟩)); have n7_ := Aside0.mk (Kd.R_mono (ok' := fun k_ => some k_ ≠ (.slice Ao47 t755.length co47 : Value).ownBlock) (Kd.R_keptB ((Kd.R_apart' HO768.out (Kd.R_typed HO761.out) (by decide))) hkp (fun k_ hk_ hs_ => (hk_.2) hs_)) (fun k_ hk_ => hk_.1.1.2)); have n8_ := Aside0.mk (Kd.R_mono (ok' := fun k_ => some k_ ≠ (.slice Ao33 t749.length co33 : Value).ownBlock ∧ some k_ ≠ (.slice Ao41 t759.length co41 : Value).ownBlock) (Kd.R_keptB (HO773.out) hkp (fun k_ hk_ hs_ => (hk_.2) hs_)) (fun k_ hk_ => ⟨hk_.1.1.2, hk_.1.2⟩)); have n9_ := Aside0.mk (Kd.R_mono (ok' := fun k_ => some k_ ≠ (.slice Ao34 t752.length co34 : Value).ownBlock ∧ some k_ ≠ (.slice Ao44 t763.length co44 : Value).ownBlock) (Kd.R_keptB ((Kd.R_apart' HO777.out (Kd.R_typed HO761.out) (by decide))) hkp (fun k_ hk_ hs_ => (hk_.2) hs_)) (fun k_ hk_ => ⟨hk_.1.1.1.2, hk_.1.1.2⟩)); have n10_ := Aside0.mk (hb); clear BK746; clear HO751; clear HO754; clear HO757; clear HO761; clear BK762; clear HO765; clear HO768; clear HO773; clear HO777; clear HB; have BK746 := n0_; have HO751 := n1_; have HO754 := n2_; have HO757 := n3_; have HO761 := n4_; have BK762 := n5_; have HO765 := n6_; have HO768 := n7_; have HO773 := n8_; have HO777 := n9_; have HB := n10_; clear n0_ n1_ n2_ n3_ n4_ n5_ n6_ n7_ n8_ n9_ n10_; (try clear hb); (try clear hkp); (try clear hy0)) | ((with_reducible refine gate_callee (f := 27) rfl ?_); refine goesL_ (some 53) rfl rfl Try.func27 (by kernel_rfl) rfl #[.slice Ao44 t763.length co44, .int .i64 t779] rfl (by (try simp only [List.map_toArray, List.map_cons, List.map_nil]); first | done | rfl | (simp only [List.length_drop, List.length_take]; rfl)) ?_; (with_reducible refine (laws_markBoolS.calls k (fun k_ => some k_ = (.slice Ao44 t763.length co44 : Value).ownBlock) (.slice Ao44 t763.length co44) t763 t779 t781 t782 w _ ?side1 ?side2 A25.out).mono ?_); (case side1 => repeat (first | (with_reducible first | exact HB.out | apply below_alloc | apply pw_below_drewN | apply below_drew1 | refine below_set ?_ GE746.out | refine below_set ?_ GE762.out) | exact HB.out)); (case side2 => exact Kd.R_tight rfl HO765.out); rintro e w56 ⟨rfl, hy0, hb, hkp⟩; refine ⟨_, rfl, ?_⟩; have n0_ := Aside0.mk (blk_kept (by (with_reducible repeat (first | refine blk_drewN ?_ _ | refine blk_drew ?_ | refine blk_alloc ?_ _)); exact BK746.out) hkp (fun hs_ => (fun e_ => (Kd.R_ne HO765.out BK746.out (by decide)) e_) hs_)); have n1_ := Aside0.mk (Kd.R_mono (ok' := fun k_ => some k_ ≠ (.slice Ao41 t759.length co41 : Value).ownBlock ∧ some k_ ≠ (.slice Ao50 t771.length co50 : Value).ownBlock) (Kd.R_keptB ((Kd.R_apart' HO751.out (Kd.R_typed HO765.out) (by decide))) hkp (fun k_ hk_ hs_ => (hk_.2) hs_)) (fun k_ hk_ => ⟨hk_.1.1.1, hk_.1.1.2⟩)); have n2_ := Aside0.mk (Kd.R_mono (ok' := fun k_ => some k_ ≠ (.slice Ao44 t763.length co44 : Value).ownBlock ∧ some k_ ≠ (.slice Ao53 t775.length co53 : Value).ownBlock) (Kd.R_keptB (HO754.out) hkp (fun k_ hk_ hs_ => (hk_.1) hs_)) (fun k_ hk_ => ⟨hk_.1.1, hk_.1.2⟩)); have n3_ := Aside0.mk (Kd.R_mono (ok' := fun k_ => some k_ ≠ (.slice Ao46 t766.length co46 : Value).ownBlock) (Kd.R_keptB ((Kd.R_apart' HO757.out (Kd.R_typed HO765.out) (by decide))) hkp (fun k_ hk_ hs_ => (hk_.2) hs_)) (fun k_ hk_ => hk_.1.1)); have n4_ := Aside0.mk (Kd.R_mono (ok' := fun k_ => some k_ ≠ (.slice Ao33 t749.length co33 : Value).ownBlock ∧ some k_ ≠ (.slice Ao50 t771.length co50 : Value).ownBlock) (Kd.R_keptB ((Kd.R_apart' HO761.out (Kd.R_typed HO765.out) (by decide))) hkp (fun k_ hk_ hs_ => (hk_.2) hs_)) (fun k_ hk_ => ⟨hk_.1.1.1.2, hk_.1.1.2⟩)); have n5_ := Aside0.mk (blk_kept (by (with_reducible repeat (first | refine blk_drewN ?_ _ | refine blk_drew ?_ | refine blk_alloc ?_ _)); exact BK762.out) hkp (fun hs_ => (fun e_ => (Kd.R_ne HO765.out BK762.out (by decide)) e_) hs_)); have n6_ := Aside0.mk (Kd.R_reok rfl hy0 (fun k_ e_ => HO765.out.1 k_ e_)); have n7_ := Aside0.mk (Kd.R_mono (ok' := fun k_ => some k_ ≠ (.slice Ao47 t755.length co47 : Value).ownBlock) (Kd.R_keptB ((Kd.R_apart' HO768.out (Kd.R_typed HO765.out) (by decide))) hkp (fun k_ hk_ hs_ => (hk_.2) hs_)) (fun k_ hk_ => hk_.1.1)); have n8_ := Aside0.mk (Kd.R_mono (ok' := fun k_ => some k_ ≠ (.slice Ao33 t749.length co33 : Value).ownBlock ∧ some k_ ≠ (.slice Ao41 t759.length co41 : Value).ownBlock) (Kd.R_keptB ((Kd.R_apart' HO773.out (Kd.R_typed HO765.out) (by decide))) hkp (fun k_ hk_ hs_ => (hk_.2) hs_)) (fun k_ hk_ => ⟨hk_.1.1.1, hk_.1.1.2⟩)); have n9_ := Aside0.mk (Kd.R_mono (ok' := fun k_ => some k_ ≠ (.slice Ao34 t752.length co34 : Value).ownBlock ∧ some k_ ≠ (.slice Ao44 t763.length co44 : Value).ownBlock) (Kd.R_keptB (HO777.out) hkp (fun k_ hk_ hs_ => (hk_.2) hs_)) (fun k_ hk_ => ⟨hk_.1.1, hk_.1.2⟩)); have n10_ := Aside0.mk (hb); clear BK746; clear HO751; clear HO754; clear HO757; clear HO761; clear BK762; clear HO765; clear HO768; clear HO773; clear HO777; clear HB; have BK746 := n0_; have HO751 := n1_; have HO754 := n2_; have HO757 := n3_; have HO761 := n4_; have BK762 := n5_; have HO765 := n6_; have HO768 := n7_; have HO773 := n8_; have HO777 := n9_; have HB := n10_; clear n0_ n1_ n2_ n3_ n4_ n5_ n6_ n7_ n8_ n9_ n10_; (try clear hb); (try clear hkp); (try clear hy0)))
 (try simp only [Act.put, List.setIfInBounds_toArray, List.set_cons_zero, List.set_cons_succ])
 go_cut [61] (fun v61 wc => ∃ (kq : Nat) (x61_25 : Bool), v61 = .bool x61_25 ∧ Aside0 (laws_FnExactCycleLines.j0 kq l1 t755 t766 x61_25 a0_0 l0_1 = some r) ∧ Aside0 (kq ≤ k) ∧ Aside0 (Kd.R (Kd.int .i64) 3 wc w.heap.size (fun k_ => some k_ ≠ ((.slice Ao46 t766.length co46) : Value).ownBlock) (.slice Ao47 t755.length co47) t755) ∧ Aside0 (Kd.R (Kd.int .i64) 3 wc w.heap.size (fun k_ => some k_ ≠ ((.slice Ao47 t755.length co47) : Value).ownBlock) (.slice Ao46 t766.length co46) t766) ∧ Aside0 (Kd.R k73 73 wc w.heap.size (fun _ => True) (.slice Ao41 t759.length co41) t780) ∧ Aside0 (wc.heap[gb746]? = some (.cells #[.int .i64 a0_0, (.slice A0_1 l0_1.length c0_1)] 24 (0, 0))) ∧ Aside0 (wc.heap[gb762]? = some (.cells #[.int .i64 t758, (.slice Ao41 t759.length co41)] 30 (0, 0))) ∧ Aside0 (Below w.heap.size w wc))
 case first =>
  have H := HC26.out
  clear HC26
  by_cases c57 : t781 < 0
  ·
   rw [if_pos c57] at H
   have c57b0 : decide (t781 < 0) = true := decide_eq_true c57
   clear c57
   (first | rw [c57b0] | (simp only [i64_w, i32_w]; rw [c57b0]) | skip)
   have H' := Aside0.mk H
   clear H
   go_wp2
   go_meet
   case rel => exact ⟨_, (true), (by first | rfl | (simp; done) | (simp [*]; done)), H', ⟨by first | omega | exact Nat.le_refl _⟩, ⟨by (with_reducible repeat (first | apply Kd.R_alloc | apply Kd.R_drewN | apply Kd.R_drew)); exact HO757.out⟩, ⟨by (with_reducible repeat (first | apply Kd.R_alloc | apply Kd.R_drewN | apply Kd.R_drew)); exact HO768.out⟩, ⟨by (with_reducible repeat (first | apply Kd.R_alloc | apply Kd.R_drewN | apply Kd.R_drew)); exact Kd.R_mono HO761.out (fun _ hk => trivial)⟩, ⟨by (with_reducible repeat (first | refine blk_drewN ?_ _ | refine blk_drew ?_ | refine blk_alloc ?_ _)); exact BK746.out⟩, ⟨by (with_reducible repeat (first | refine blk_drewN ?_ _ | refine blk_drew ?_ | refine blk_alloc ?_ _)); exact BK762.out⟩, ⟨by repeat (first | (with_reducible first | exact HB.out | apply below_alloc | apply pw_below_drewN | apply below_drew1 | refine below_set ?_ GE746.out | refine below_set ?_ GE762.out) | exact HB.out)⟩⟩
  rw [if_neg c57] at H
  have c57b0 : decide (t781 < 0) = false := decide_eq_false c57
  clear c57
  (first | rw [c57b0] | (simp only [i64_w, i32_w]; rw [c57b0]) | skip)
  replace H := Option.bind_eq_some_iff.mp H
  obtain ⟨t783, A580, H⟩ := H
  replace H : (laws_FnExactCycleLines.j0 k l1 t755 t766 (!t783) a0_0 l0_1) = some r := H
  have A58 := Aside0.mk A580
  clear A580
  have H' := Aside0.mk H
  clear H
  go_wp2_with (first | (go_at_call 25; (with_reducible refine (laws_eqIntS.calls k _ _ t766 _ _ t755 t783 _ ?side1 ?side2 ?side3 ?side4 A58.out).mono ?_); (case side1 => repeat (first | exact (Kd.R_reads' HO768.out).2.2 | (with_reducible refine Kd.C_alloc ?_ _) | (with_reducible refine Kd.C_drewN ?_ _) | (with_reducible refine Kd.C_drew ?_))); (case side2 => exact (Kd.R_reads' HO768.out).2.1); (case side3 => repeat (first | exact (Kd.R_reads' HO757.out).2.2 | (with_reducible refine Kd.C_alloc ?_ _) | (with_reducible refine Kd.C_drewN ?_ _) | (with_reducible refine Kd.C_drew ?_))); (case side4 => exact (Kd.R_reads' HO757.out).2.1); rintro e w' ⟨rfl, ⟨nd, rfl⟩⟩))
  go_meet
  case rel => exact ⟨_, (!t783), (by first | rfl | (simp; done) | (simp [*]; done)), H', ⟨by first | omega | exact Nat.le_refl _⟩, ⟨by (with_reducible repeat (first | apply Kd.R_alloc | apply Kd.R_drewN | apply Kd.R_drew)); exact HO757.out⟩, ⟨by (with_reducible repeat (first | apply Kd.R_alloc | apply Kd.R_drewN | apply Kd.R_drew)); exact HO768.out⟩, ⟨by (with_reducible repeat (first | apply Kd.R_alloc | apply Kd.R_drewN | apply Kd.R_drew)); exact Kd.R_mono HO761.out (fun _ hk => trivial)⟩, ⟨by (with_reducible repeat (first | refine blk_drewN ?_ _ | refine blk_drew ?_ | refine blk_alloc ?_ _)); exact BK746.out⟩, ⟨by (with_reducible repeat (first | refine blk_drewN ?_ _ | refine blk_drew ?_ | refine blk_alloc ?_ _)); exact BK762.out⟩, ⟨by repeat (first | (with_reducible first | exact HB.out | apply below_alloc | apply pw_below_drewN | apply below_drew1 | refine below_set ?_ GE746.out | refine below_set ?_ GE762.out) | exact HB.out)⟩⟩
 case rest =>
  clear HC26
  try clear c1
  try clear c2
  try clear p2
  try clear c3
  try clear c3b0
  try clear c3b1
  try clear c4
  try clear c5
  try clear c6
  try clear c6b0
  try clear c10
  try clear c14
  try clear c16
  try clear c17
  try clear c19
  try clear c20
  try clear c23
  try clear c25
  try clear c26
  try clear c27
  try clear c39
  try clear c41
  try clear c42
  try clear c57
  try clear c57b0
  try clear hcz28_0
  try clear hcz28_1
  try clear hcz30_0
  try clear hcz30_1
  try clear hcz36_0
  try clear hcz36_1
  try clear hcz40_0
  try clear hcz40_1
  try clear hcz43_0
  try clear hcz43_1
  try clear hcz54_0
  try clear hcz54_1
  try clear hcz8_0
  try clear hcz8_1
  try clear hfz28_0
  try clear hfz28_1
  try clear hfz30_0
  try clear hfz30_1
  try clear hfz36_0
  try clear hfz36_1
  try clear hfz40_0
  try clear hfz40_1
  try clear hfz43_0
  try clear hfz43_1
  try clear hfz54_0
  try clear hfz54_1
  try clear hfz8_0
  try clear hfz8_1
  obtain ⟨kq, x61_25, rfl, HA, HJ25, HO_6, HO_9, HO_763001, BK746, BK762, HB⟩ := hcut
  have hl763001_25 := (Kd.R_reads' HO_763001.out).1
  rw [hl763001_25] at HO_763001
  (try simp only [hl763001_25])
  (try simp only [hl763001_25] at BK746)
  (try simp only [hl763001_25] at BK762)
  (try simp only [hl763001_25] at HO_6)
  (try simp only [hl763001_25] at HO_9)
  cases kq with
  | zero => exact absurd HA.out (by simp [laws_FnExactCycleLines.j0])
  | succ kj25 =>
   have H := HA.out
   clear HA
   simp only [laws_FnExactCycleLines.j0] at H
   by_cases c59 : x61_25 = true
   ·
    subst c59
    have H1 : (none) = some r := by rw [if_pos rfl] at H; exact H
    clear H
    have H := H1
    clear H1
    exact absurd H (by simp)
   replace c59 := Bool.eq_false_iff.mpr c59
   subst c59
   have H1 : ((laws_markIntS.f kj25 t766 1).bind fun bt784 => ((laws_heldIntS.f kj25 bt784.2 1).bind fun t786 => (if t786 < 0 then (none) else (if t786 = bt784.1 then ((laws_toNet.f kj25 a0_0 l0_1).bind fun bt787 => ((laws_toBoolS.f kj25 l1).bind fun t791 => ((impl_CycleLines.f kj25 bt787.1 bt787.2 t791).bind fun t794 => ((laws_eqIntS.f kj25 t794 t755).bind fun t797 => (if t797 = true then ((laws_heldIntS.f kj25 bt784.2 1).bind fun t798 => (if t798 < 0 then (none) else (if t798 = bt784.1 then (some true) else (none)))) else (none)))))) else (none))))) = some r := by rw [if_neg (show ¬ (false = true) by decide)] at H; exact H
   clear H
   have H := H1
   clear H1
   replace H := Option.bind_eq_some_iff.mp H
   obtain ⟨⟨t784, t785⟩, A600, H⟩ := H
   replace H : ((laws_heldIntS.f kj25 t785 1).bind fun t786 => (if t786 < 0 then (none) else (if t786 = t784 then ((laws_toNet.f kj25 a0_0 l0_1).bind fun bt787 => ((laws_toBoolS.f kj25 l1).bind fun t791 => ((impl_CycleLines.f kj25 bt787.1 bt787.2 t791).bind fun t794 => ((laws_eqIntS.f kj25 t794 t755).bind fun t797 => (if t797 = true then ((laws_heldIntS.f kj25 t785 1).bind fun t798 => (if t798 < 0 then (none) else (if t798 = t784 then (some true) else (none)))) else (none)))))) else (none)))) = some r := H
   have A60 := Aside0.mk A600
   clear A600
   replace H := Option.bind_eq_some_iff.mp H
   obtain ⟨t786, A610, H⟩ := H
   replace H : (if t786 < 0 then (none) else (if t786 = t784 then ((laws_toNet.f kj25 a0_0 l0_1).bind fun bt787 => ((laws_toBoolS.f kj25 l1).bind fun t791 => ((impl_CycleLines.f kj25 bt787.1 bt787.2 t791).bind fun t794 => ((laws_eqIntS.f kj25 t794 t755).bind fun t797 => (if t797 = true then ((laws_heldIntS.f kj25 t785 1).bind fun t798 => (if t798 < 0 then (none) else (if t798 = t784 then (some true) else (none)))) else (none)))))) else (none))) = some r := H
   have A61 := Aside0.mk A610
   clear A610
   by_cases c62 : t786 < 0
   ·
    rw [if_pos c62] at H
    exact absurd H (by simp)
   rw [if_neg c62] at H
   have c62b0 : decide (t786 < 0) = false := decide_eq_false c62
   clear c62
   by_cases c63 : t786 = t784
   rotate_left
   ·
    rw [if_neg c63] at H
    exact absurd H (by simp)
   rw [if_pos c63] at H
   have c63b0 : (t786 == t784) = true := beq_iff_eq.mpr c63
   have c63b1 : (t786 != t784) = false := bne_eq_false_iff_eq.mpr c63
   clear c63
   replace H := Option.bind_eq_some_iff.mp H
   obtain ⟨⟨t787, t788⟩, A640, H⟩ := H
   replace H : ((laws_toBoolS.f kj25 l1).bind fun t791 => ((impl_CycleLines.f kj25 t787 t788 t791).bind fun t794 => ((laws_eqIntS.f kj25 t794 t755).bind fun t797 => (if t797 = true then ((laws_heldIntS.f kj25 t785 1).bind fun t798 => (if t798 < 0 then (none) else (if t798 = t784 then (some true) else (none)))) else (none))))) = some r := H
   have A64 := Aside0.mk A640
   clear A640
   replace H := Option.bind_eq_some_iff.mp H
   obtain ⟨t791, A650, H⟩ := H
   replace H : ((impl_CycleLines.f kj25 t787 t788 t791).bind fun t794 => ((laws_eqIntS.f kj25 t794 t755).bind fun t797 => (if t797 = true then ((laws_heldIntS.f kj25 t785 1).bind fun t798 => (if t798 < 0 then (none) else (if t798 = t784 then (some true) else (none)))) else (none)))) = some r := H
   have A65 := Aside0.mk A650
   clear A650
   replace H := Option.bind_eq_some_iff.mp H
   obtain ⟨t794, A660, H⟩ := H
   replace H : ((laws_eqIntS.f kj25 t794 t755).bind fun t797 => (if t797 = true then ((laws_heldIntS.f kj25 t785 1).bind fun t798 => (if t798 < 0 then (none) else (if t798 = t784 then (some true) else (none)))) else (none))) = some r := H
   have A66 := Aside0.mk A660
   clear A660
   replace H := Option.bind_eq_some_iff.mp H
   obtain ⟨t797, A670, H⟩ := H
   replace H : (if t797 = true then ((laws_heldIntS.f kj25 t785 1).bind fun t798 => (if t798 < 0 then (none) else (if t798 = t784 then (some true) else (none)))) else (none)) = some r := H
   have A67 := Aside0.mk A670
   clear A670
   by_cases c68 : t797 = true
   rotate_left
   ·
    replace c68 := Bool.eq_false_iff.mpr c68
    subst c68
    have H1 : (none) = some r := by rw [if_neg (show ¬ (false = true) by decide)] at H; exact H
    clear H
    have H := H1
    clear H1
    exact absurd H (by simp)
   subst c68
   have H1 : ((laws_heldIntS.f kj25 t785 1).bind fun t798 => (if t798 < 0 then (none) else (if t798 = t784 then (some true) else (none)))) = some r := by rw [if_pos rfl] at H; exact H
   clear H
   have H := H1
   clear H1
   replace H := Option.bind_eq_some_iff.mp H
   obtain ⟨t798, A690, H⟩ := H
   replace H : (if t798 < 0 then (none) else (if t798 = t784 then (some true) else (none))) = some r := H
   have A69 := Aside0.mk A690
   clear A690
   by_cases c70 : t798 < 0
   ·
    rw [if_pos c70] at H
    exact absurd H (by simp)
   rw [if_neg c70] at H
   have c70b0 : decide (t798 < 0) = false := decide_eq_false c70
   clear c70
   by_cases c71 : t798 = t784
   rotate_left
   ·
    rw [if_neg c71] at H
    exact absurd H (by simp)
   rw [if_pos c71] at H
   have c71b0 : (t798 == t784) = true := beq_iff_eq.mpr c71
   have c71b1 : (t798 != t784) = false := bne_eq_false_iff_eq.mpr c71
   clear c71
   obtain rfl := Option.some.inj H
   go_wp2_with (first | ((with_reducible refine gate_callee (f := 28) rfl ?_); refine goesL_ (some 64) rfl rfl Try.func28 (by kernel_rfl) rfl #[.slice Ao46 t766.length co46, .int .i64 1] rfl (by (try simp only [List.map_toArray, List.map_cons, List.map_nil]); first | done | rfl | (simp only [List.length_drop, List.length_take]; rfl)) ?_; (with_reducible refine (laws_markIntS.calls kj25 (fun k_ => some k_ = (.slice Ao46 t766.length co46 : Value).ownBlock) (.slice Ao46 t766.length co46) t766 1 t784 t785 w _ ?side1 ?side2 A60.out).mono ?_); (case side1 => repeat (first | (with_reducible first | exact HB.out | apply below_alloc | apply pw_below_drewN | apply below_drew1 | refine below_set ?_ GE746.out | refine below_set ?_ GE762.out) | exact HB.out)); (case side2 => exact Kd.R_tight rfl HO_9.out); rintro e w72 ⟨rfl, hy0, hb, hkp⟩; refine ⟨_, rfl, ?_⟩; have n0_ := Aside0.mk (Kd.R_mono (ok' := fun k_ => some k_ ≠ (.slice Ao46 t766.length co46 : Value).ownBlock) (Kd.R_keptB (HO_6.out) hkp (fun k_ hk_ hs_ => (hk_) hs_)) (fun k_ hk_ => hk_.1)); have n1_ := Aside0.mk (Kd.R_reok rfl hy0 (fun k_ e_ => HO_9.out.1 k_ e_)); have n2_ := Aside0.mk (Kd.R_mono (ok' := fun k_ => True) (Kd.R_keptB ((Kd.R_apart' HO_763001.out (Kd.R_typed HO_9.out) (by decide))) hkp (fun k_ hk_ hs_ => (hk_.2) hs_)) (fun k_ hk_ => trivial)); have n3_ := Aside0.mk (blk_kept (by (with_reducible repeat (first | refine blk_drewN ?_ _ | refine blk_drew ?_ | refine blk_alloc ?_ _)); exact BK746.out) hkp (fun hs_ => (fun e_ => (Kd.R_ne HO_9.out BK746.out (by decide)) e_) hs_)); have n4_ := Aside0.mk (blk_kept (by (with_reducible repeat (first | refine blk_drewN ?_ _ | refine blk_drew ?_ | refine blk_alloc ?_ _)); exact BK762.out) hkp (fun hs_ => (fun e_ => (Kd.R_ne HO_9.out BK762.out (by decide)) e_) hs_)); have n5_ := Aside0.mk (hb); clear HO_6; clear HO_9; clear HO_763001; clear BK746; clear BK762; clear HB; have HO_6 := n0_; have HO_9 := n1_; have HO_763001 := n2_; have BK746 := n3_; have BK762 := n4_; have HB := n5_; clear n0_ n1_ n2_ n3_ n4_ n5_; (try clear hb); (try clear hkp); (try clear hy0)) | ((with_reducible refine gate_callee (f := 29) rfl ?_); refine goesL_ (some 67) rfl rfl Try.func29 (by kernel_rfl) rfl #[.slice Ao46 t785.length co46, .int .i64 1] rfl (by (try simp only [List.map_toArray, List.map_cons, List.map_nil]); first | done | (rw [show t785.length = t766.length from (Kd.R_reads' HO_9.out).1.symm] <;> rfl) | rfl | (simp only [List.length_drop, List.length_take]; rfl)) ?_; (with_reducible refine (laws_heldIntS.calls kj25 _ _ t785 1 t786 _ ?side1 ?side2 A61.out).mono ?_); (case side1 => repeat (first | exact (Kd.R_reads' HO_9.out).2.2 | (with_reducible refine Kd.C_alloc ?_ _) | (with_reducible refine Kd.C_drewN ?_ _) | (with_reducible refine Kd.C_drew ?_))); (case side2 => rw [show t785.length = t766.length from (Kd.R_reads' HO_9.out).1.symm]; exact (Kd.R_reads' HO_9.out).2.1); rintro e w' ⟨rfl, ⟨nd, rfl⟩⟩; refine ⟨_, rfl, ?_⟩; have hnb73 := NB746_762.out; have hnc73 := NB762_746.out; have hcz74_0 : w72.cell? ⟨gb746, 0, none⟩ = some (.int .i64 a0_0) := (blk_cell BK746.out 0).trans rfl; have hcz74_1 : w72.cell? ⟨gb746, 1, none⟩ = some (.slice A0_1 l0_1.length c0_1) := (blk_cell BK746.out 1).trans rfl; have hfz74_0 := blk_frozen BK746.out 0; have hfz74_1 := blk_frozen BK746.out 1) | ((with_reducible refine gate_callee (f := 16) rfl ?_); refine goesL_ (some 74) rfl rfl Try.func16 (by kernel_rfl) rfl #[.agg #[.int .i64 a0_0, .slice A0_1 l0_1.length c0_1]] rfl (by (try simp only [List.map_toArray, List.map_cons, List.map_nil]); first | done | rfl | (simp only [List.length_drop, List.length_take]; rfl)) ?_; (with_reducible refine (laws_toNet.calls kj25 a0_0 _ _ l0_1 t787 t788 _ ?side1 ?side2 A64.out).mono ?_); (case side1 => repeat (first | exact (Kd.C_below HR0_1.out (by repeat (first | (with_reducible first | exact HB.out | apply below_alloc | apply pw_below_drewN | apply below_drew1 | refine below_set ?_ GE746.out | refine below_set ?_ GE762.out) | exact HB.out))) | (with_reducible refine Kd.C_alloc ?_ _) | (with_reducible refine Kd.C_drewN ?_ _) | (with_reducible refine Kd.C_drew ?_))); (case side2 => exact HC0_1.out); rintro e w75 ⟨v789, rfl, ho0, hb⟩; refine ⟨_, rfl, ?_⟩; have n0_ := Aside0.mk (Kd.R_below (by (with_reducible repeat (first | apply Kd.R_alloc | apply Kd.R_drewN | apply Kd.R_drew)); exact HO_6.out) hb); have n1_ := Aside0.mk (Kd.R_below (by (with_reducible repeat (first | apply Kd.R_alloc | apply Kd.R_drewN | apply Kd.R_drew)); exact HO_9.out) hb); have n2_ := Aside0.mk (Kd.R_elder' (by (with_reducible repeat (first | apply Kd.R_alloc | apply Kd.R_drewN | apply Kd.R_drew)); exact HO_763001.out) (Kd.R_base ho0) hb); have n3_ := Aside0.mk (Kd.R_lower (Kd.R_new' ho0 (Kd.R_lt (by (with_reducible repeat (first | apply Kd.R_alloc | apply Kd.R_drewN | apply Kd.R_drew)); exact HO_763001.out))) (below_size (by repeat (first | (with_reducible first | exact HB.out | apply below_alloc | apply pw_below_drewN | apply below_drew1 | refine below_set ?_ GE746.out | refine below_set ?_ GE762.out) | exact HB.out)))); have n4_ := Aside0.mk (blk_below (g := gb746) (o := .cells #[.int .i64 a0_0, .slice A0_1 l0_1.length c0_1] 24 (0, 0)) (by (with_reducible repeat (first | refine blk_drewN ?_ _ | refine blk_drew ?_ | refine blk_alloc ?_ _)); exact BK746.out) hb); have n5_ := Aside0.mk (blk_below (g := gb762) (o := .cells #[.int .i64 t758, .slice Ao41 t780.length co41] 30 (0, 0)) (by (with_reducible repeat (first | refine blk_drewN ?_ _ | refine blk_drew ?_ | refine blk_alloc ?_ _)); exact BK762.out) hb); have n6_ := Aside0.mk (below_step (by repeat (first | (with_reducible first | exact HB.out | apply below_alloc | apply pw_below_drewN | apply below_drew1 | refine below_set ?_ GE746.out | refine below_set ?_ GE762.out) | exact HB.out)) hb); clear HO_6; clear HO_9; clear HO_763001; clear BK746; clear BK762; clear HB; have HO_6 := n0_; have HO_9 := n1_; have HO_763001 := n2_; have HO790 := n3_; have BK746 := n4_; have BK762 := n5_; have HB := n6_; clear n0_ n1_ n2_ n3_ n4_ n5_ n6_; (try clear hb); (try clear hb2); (try clear hk); (try clear hi); (try clear ho0)) | ((with_reducible refine gate_callee (f := 17) rfl ?_); refine goesL_ (some 76) rfl rfl Try.func17 (by kernel_rfl) rfl #[.slice A1 l1.length c1] rfl (by (try simp only [List.map_toArray, List.map_cons, List.map_nil]); first | done | rfl | (simp only [List.length_drop, List.length_take]; rfl)) ?_; (with_reducible refine (laws_toBoolS.calls kj25 _ _ l1 t791 _ ?side1 ?side2 A65.out).mono ?_); (case side1 => repeat (first | exact (Kd.C_below HR1.out HB.out) | (with_reducible refine Kd.C_alloc ?_ _) | (with_reducible refine Kd.C_drewN ?_ _) | (with_reducible refine Kd.C_drew ?_))); (case side2 => exact HC1.out); rintro e w76 ⟨v792, rfl, ho0, hb⟩; refine ⟨_, rfl, ?_⟩; have n0_ := Aside0.mk (Kd.R_below (by (with_reducible repeat (first | apply Kd.R_alloc | apply Kd.R_drewN | apply Kd.R_drew)); exact HO_6.out) hb); have n1_ := Aside0.mk (Kd.R_below (by (with_reducible repeat (first | apply Kd.R_alloc | apply Kd.R_drewN | apply Kd.R_drew)); exact HO_9.out) hb); have n2_ := Aside0.mk (Kd.R_below (by (with_reducible repeat (first | apply Kd.R_alloc | apply Kd.R_drewN | apply Kd.R_drew)); exact HO_763001.out) hb); have n3_ := Aside0.mk (Kd.R_below (by (with_reducible repeat (first | apply Kd.R_alloc | apply Kd.R_drewN | apply Kd.R_drew)); exact HO790.out) hb); have n4_ := Aside0.mk (Kd.R_lower ho0 (below_size (by repeat (first | (with_reducible first | exact HB.out | apply below_alloc | apply pw_below_drewN | apply below_drew1 | refine below_set ?_ GE746.out | refine below_set ?_ GE762.out) | exact HB.out)))); have n5_ := Aside0.mk (blk_below (g := gb746) (o := .cells #[.int .i64 a0_0, .slice A0_1 l0_1.length c0_1] 24 (0, 0)) (by (with_reducible repeat (first | refine blk_drewN ?_ _ | refine blk_drew ?_ | refine blk_alloc ?_ _)); exact BK746.out) hb); have n6_ := Aside0.mk (blk_below (g := gb762) (o := .cells #[.int .i64 t758, .slice Ao41 t780.length co41] 30 (0, 0)) (by (with_reducible repeat (first | refine blk_drewN ?_ _ | refine blk_drew ?_ | refine blk_alloc ?_ _)); exact BK762.out) hb); have n7_ := Aside0.mk (below_step (by repeat (first | (with_reducible first | exact HB.out | apply below_alloc | apply pw_below_drewN | apply below_drew1 | refine below_set ?_ GE746.out | refine below_set ?_ GE762.out) | exact HB.out)) hb); clear HO_6; clear HO_9; clear HO_763001; clear HO790; clear BK746; clear BK762; clear HB; have HO_6 := n0_; have HO_9 := n1_; have HO_763001 := n2_; have HO790 := n3_; have HO793 := n4_; have BK746 := n5_; have BK762 := n6_; have HB := n7_; clear n0_ n1_ n2_ n3_ n4_ n5_ n6_ n7_; (try clear hb); (try clear hb2); (try clear hk); (try clear hi); (try clear ho0); obtain ⟨Ao77, co77, eo77⟩ := Kd.R_slice HO790.out; subst eo77; obtain ⟨Ao78, co78, eo78⟩ := Kd.R_slice HO793.out; subst eo78) | ((with_reducible refine gate_callee (f := 42) rfl ?_); refine goesL_ (some 77) rfl rfl Try.func42 (by kernel_rfl) rfl #[.agg #[.int .i64 t787, .slice Ao77 t788.length co77], .slice Ao78 t791.length co78] rfl (by (try simp only [List.map_toArray, List.map_cons, List.map_nil]); first | done | rfl | (simp only [List.length_drop, List.length_take]; rfl)) ?_; (with_reducible refine (impl_CycleLines.calls kj25 t787 _ _ t788 _ _ t791 t794 _ ?side1 ?side2 ?side3 ?side4 A66.out).mono ?_); (case side1 => repeat (first | exact (Kd.R_reads' HO790.out).2.2 | (with_reducible refine Kd.C_alloc ?_ _) | (with_reducible refine Kd.C_drewN ?_ _) | (with_reducible refine Kd.C_drew ?_))); (case side2 => exact (Kd.R_reads' HO790.out).2.1); (case side3 => repeat (first | exact (Kd.R_reads' HO793.out).2.2 | (with_reducible refine Kd.C_alloc ?_ _) | (with_reducible refine Kd.C_drewN ?_ _) | (with_reducible refine Kd.C_drew ?_))); (case side4 => exact (Kd.R_reads' HO793.out).2.1); rintro e w79 ⟨v795, rfl, ho0, hb⟩; refine ⟨_, rfl, ?_⟩; have n0_ := Aside0.mk (Kd.R_elder' (by (with_reducible repeat (first | apply Kd.R_alloc | apply Kd.R_drewN | apply Kd.R_drew)); exact HO_6.out) (Kd.R_base ho0) hb); have n1_ := Aside0.mk (Kd.R_elder' (by (with_reducible repeat (first | apply Kd.R_alloc | apply Kd.R_drewN | apply Kd.R_drew)); exact HO_9.out) (Kd.R_base ho0) hb); have n2_ := Aside0.mk (Kd.R_below (by (with_reducible repeat (first | apply Kd.R_alloc | apply Kd.R_drewN | apply Kd.R_drew)); exact HO_763001.out) hb); have n3_ := Aside0.mk (Kd.R_below (by (with_reducible repeat (first | apply Kd.R_alloc | apply Kd.R_drewN | apply Kd.R_drew)); exact HO790.out) hb); have n4_ := Aside0.mk (Kd.R_below (by (with_reducible repeat (first | apply Kd.R_alloc | apply Kd.R_drewN | apply Kd.R_drew)); exact HO793.out) hb); have n5_ := Aside0.mk (Kd.R_lower (Kd.R_new' (Kd.R_new' ho0 (Kd.R_lt (by (with_reducible repeat (first | apply Kd.R_alloc | apply Kd.R_drewN | apply Kd.R_drew)); exact HO_6.out))) (Kd.R_lt (by (with_reducible repeat (first | apply Kd.R_alloc | apply Kd.R_drewN | apply Kd.R_drew)); exact HO_9.out))) (below_size (by repeat (first | (with_reducible first | exact HB.out | apply below_alloc | apply pw_below_drewN | apply below_drew1 | refine below_set ?_ GE746.out | refine below_set ?_ GE762.out) | exact HB.out)))); have n6_ := Aside0.mk (blk_below (g := gb746) (o := .cells #[.int .i64 a0_0, .slice A0_1 l0_1.length c0_1] 24 (0, 0)) (by (with_reducible repeat (first | refine blk_drewN ?_ _ | refine blk_drew ?_ | refine blk_alloc ?_ _)); exact BK746.out) hb); have n7_ := Aside0.mk (blk_below (g := gb762) (o := .cells #[.int .i64 t758, .slice Ao41 t780.length co41] 30 (0, 0)) (by (with_reducible repeat (first | refine blk_drewN ?_ _ | refine blk_drew ?_ | refine blk_alloc ?_ _)); exact BK762.out) hb); have n8_ := Aside0.mk (below_step (by repeat (first | (with_reducible first | exact HB.out | apply below_alloc | apply pw_below_drewN | apply below_drew1 | refine below_set ?_ GE746.out | refine below_set ?_ GE762.out) | exact HB.out)) hb); clear HO_6; clear HO_9; clear HO_763001; clear HO790; clear HO793; clear BK746; clear BK762; clear HB; have HO_6 := n0_; have HO_9 := n1_; have HO_763001 := n2_; have HO790 := n3_; have HO793 := n4_; have HO796 := n5_; have BK746 := n6_; have BK762 := n7_; have HB := n8_; clear n0_ n1_ n2_ n3_ n4_ n5_ n6_ n7_ n8_; (try clear hb); (try clear hb2); (try clear hk); (try clear hi); (try clear ho0); obtain ⟨Ao80, co80, eo80⟩ := Kd.R_slice HO796.out; subst eo80) | ((with_reducible refine gate_callee (f := 25) rfl ?_); refine goesL_ (some 80) rfl rfl Try.func25 (by kernel_rfl) rfl #[.slice Ao80 t794.length co80, .slice Ao47 t755.length co47] rfl (by (try simp only [List.map_toArray, List.map_cons, List.map_nil]); first | done | rfl | (simp only [List.length_drop, List.length_take]; rfl)) ?_; (with_reducible refine (laws_eqIntS.calls kj25 _ _ t794 _ _ t755 true _ ?side1 ?side2 ?side3 ?side4 A67.out).mono ?_); (case side1 => repeat (first | exact (Kd.R_reads' HO796.out).2.2 | (with_reducible refine Kd.C_alloc ?_ _) | (with_reducible refine Kd.C_drewN ?_ _) | (with_reducible refine Kd.C_drew ?_))); (case side2 => exact (Kd.R_reads' HO796.out).2.1); (case side3 => repeat (first | exact (Kd.R_reads' HO_6.out).2.2 | (with_reducible refine Kd.C_alloc ?_ _) | (with_reducible refine Kd.C_drewN ?_ _) | (with_reducible refine Kd.C_drew ?_))); (case side4 => exact (Kd.R_reads' HO_6.out).2.1); rintro e w' ⟨rfl, ⟨nd, rfl⟩⟩; refine ⟨_, rfl, ?_⟩) | ((with_reducible refine gate_callee (f := 29) rfl ?_); refine goesL_ (some 84) rfl rfl Try.func29 (by kernel_rfl) rfl #[.slice Ao46 t785.length co46, .int .i64 1] rfl (by (try simp only [List.map_toArray, List.map_cons, List.map_nil]); first | done | (rw [show t785.length = t766.length from (Kd.R_reads' HO_9.out).1.symm] <;> rfl) | rfl | (simp only [List.length_drop, List.length_take]; rfl)) ?_; (with_reducible refine (laws_heldIntS.calls kj25 _ _ t785 1 t798 _ ?side1 ?side2 A69.out).mono ?_); (case side1 => repeat (first | exact (Kd.R_reads' HO_9.out).2.2 | (with_reducible refine Kd.C_alloc ?_ _) | (with_reducible refine Kd.C_drewN ?_ _) | (with_reducible refine Kd.C_drew ?_))); (case side2 => rw [show t785.length = t766.length from (Kd.R_reads' HO_9.out).1.symm]; exact (Kd.R_reads' HO_9.out).2.1); rintro e w' ⟨rfl, ⟨nd, rfl⟩⟩; refine ⟨_, rfl, ?_⟩))
   go_ret
   exact ⟨by first | rfl | (simp [errW_none, errW_some] <;> rfl) | (simp [*, errW_none, errW_some] <;> rfl), by repeat (first | (with_reducible first | exact HB.out | apply below_alloc | apply pw_below_drewN | apply below_drew1 | refine below_set ?_ GE746.out | refine below_set ?_ GE762.out) | exact HB.out)⟩

end Go.Proofs.Ytknddipjabkfbaa.P

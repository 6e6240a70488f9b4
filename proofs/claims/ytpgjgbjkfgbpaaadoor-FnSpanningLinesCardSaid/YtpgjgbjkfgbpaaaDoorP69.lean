/- Contracts of Go functions of this seat's translation, written by this repo's wip/mk.py: it calls the kit's print.py with contracts typed by hand in place of functions that it does not take. Not trusted: Lean checks it. -/
import Derived.Test.YtpgjgbjkfgbpaaaDoorP0
import Derived.Test.YtpgjgbjkfgbpaaaDoorP27
import Derived.Test.YtpgjgbjkfgbpaaaDoorP39
import Derived.Test.YtpgjgbjkfgbpaaaDoorP49
import Derived.Test.YtpgjgbjkfgbpaaaDoorP53
import Derived.Test.YtpgjgbjkfgbpaaaDoorP62
import Derived.Test.YtpgjgbjkfgbpaaaDoorP63
import Derived.Test.YtpgjgbjkfgbpaaaDoorP64
import Derived.Test.YtpgjgbjkfgbpaaaDoorP65
import Derived.Test.YtpgjgbjkfgbpaaaDoorP67
import Derived.Test.YtpgjgbjkfgbpaaaDoorP68
namespace Go.Proofs.YtpgjgbjkfgbpaaaDoor.P
open Go.RowKit Go.Proofs.YtpgjgbjkfgbpaaaDoorW.PrintWords Go.Proofs.YtpgjgbjkfgbpaaaDoorW.PrintLast Go.Proofs.YtpgjgbjkfgbpaaaDoorW.PrintMore
attribute [local go_sem] max2_int min2_int max_two min_two max_three min_three max_four min_four   -- for this text's walks alone
set_option linter.unusedVariables false
set_option linter.unusedSimpArgs false

/-! ### laws_FnSpanningLines: function 6 -/
def laws_FnSpanningLines.f (k : Nat) (l0 : List Int) : Option (Bool) := if (l0.length : Int) > 1048576 then (some true) else ((spec_DrawSpanningLines.f k l0).bind fun bt638 => ((impl_SpanningLines.f k bt638.1 bt638.2.1 bt638.2.2).bind fun t646 => ((spec_SpanningLines.f k bt638.1 bt638.2.1 bt638.2.2).bind fun t649 => ((laws_sameInts.f k t646 t649).bind fun t652 => (if t652 = true then ((spec_StateValid.f k bt638.1 bt638.2.1 bt638.2.2).bind fun t653 => (if t653 = true then ((laws_onOnly.f k (bt638.2.2.length : Int) t646).bind fun t655 => ((impl_IslandNumbers.f k bt638.1 bt638.2.1 t655).bind fun t658 => ((impl_IslandNumbers.f k bt638.1 bt638.2.1 bt638.2.2).bind fun t661 => ((laws_sameInts.f k t658 t661).bind fun t664 => (if t664 = true then ((impl_HasCycle.f k bt638.1 bt638.2.1 t655).bind fun t665 => (if t665 = true then (none) else ((laws_islands.f k bt638.1 bt638.2.1 bt638.2.2).bind fun t666 => (if (t646.length : Int) = (wrap64 (bt638.1 - t666)) then ((laws_ascend.f k t646).bind fun t667 => (some t667)) else (none))))) else (none)))))) else (if (t646.length : Int) = 0 then ((laws_alive.f k).bind fun t654 => (some t654)) else (none)))) else (none))))))
theorem laws_FnSpanningLines.mono : ∀ a0 k, LeO (laws_FnSpanningLines.f k a0) (laws_FnSpanningLines.f (k + 1) a0) := by
 intro a0 k
 unfold laws_FnSpanningLines.f
 repeat' first
   | (with_reducible exact impl_HasCycle.mono _ _ _ _)
   | (with_reducible exact impl_IslandNumbers.mono _ _ _ _)
   | (with_reducible exact impl_SpanningLines.mono _ _ _ _)
   | (with_reducible exact laws_alive.mono _)
   | (with_reducible exact laws_ascend.mono _ _)
   | (with_reducible exact laws_islands.mono _ _ _ _)
   | (with_reducible exact laws_onOnly.mono _ _ _)
   | (with_reducible exact laws_sameInts.mono _ _ _)
   | (with_reducible exact spec_DrawSpanningLines.mono _ _)
   | (with_reducible exact spec_SpanningLines.mono _ _ _ _)
   | (with_reducible exact spec_StateValid.mono _ _ _ _)
   | (with_reducible exact LeO.refl _)
   | (with_reducible exact LeO.none _)
   | (with_reducible refine LeO.ite ?_ ?_)
   | (with_reducible refine LeO.bind ?_ (fun _ => ?_))
   | exact impl_HasCycle.mono _ _ _ _
   | exact impl_IslandNumbers.mono _ _ _ _
   | exact impl_SpanningLines.mono _ _ _ _
   | exact laws_alive.mono _
   | exact laws_ascend.mono _ _
   | exact laws_islands.mono _ _ _ _
   | exact laws_onOnly.mono _ _ _
   | exact laws_sameInts.mono _ _ _
   | exact spec_DrawSpanningLines.mono _ _
   | exact spec_SpanningLines.mono _ _ _ _
   | exact spec_StateValid.mono _ _ _ _
   | exact LeO.none _
   | refine LeO.ite ?_ ?_
   | refine LeO.bind ?_ (fun _ => ?_)
def laws_FnSpanningLines.T10 : Bool × List (List Nat × List Nat) := (true, [([], []), ([], []), ([0, 1], [0, 1]), ([], []), ([], []), ([3, 4, 2], [3, 4]), ([2, 5, 5], [2, 5]), ([6, 6], [6]), ([7], [7]), ([7], [7]), ([8, 9, 7, 7], [7, 8, 9]), ([10, 7], [7, 10]), ([7, 11], [7, 11]), ([12, 10], [12]), ([13], [13]), ([14, 13], [13, 14]), ([13], [13]), ([16, 13], [13, 16]), ([13], [13]), ([13], [13]), ([18, 19, 13, 13], [13, 18, 19]), ([17, 20, 13], [13, 17, 20]), ([15, 21, 13], [13, 15, 21]), ([13, 22], [13, 22]), ([23, 20], [23]), ([24], [24]), ([25, 24, 24], [24, 25]), ([24, 26], [24, 26]), ([27, 26, 0, 1, 2, 3, 4, 5, 6, 7, 8, 9, 10, 11, 12, 13, 14, 15, 16, 17, 18, 19, 20, 21, 22, 23, 24, 25, 26, 27], [27])])
def laws_FnSpanningLines.B10 : List Nat := [0, 0, 3, 0, 0, 31, 63, 127, 255, 255, 1023, 2047, 4095, 8191, 16383, 32767, 16383, 81919, 16383, 16383, 802815, 2047999, 4194303, 8388607, 16777215, 33554431, 67108863, 134217727, 268435455]
theorem laws_FnSpanningLines.tab10 : rtab .any (opsOf Tryd.f6 10) = laws_FnSpanningLines.T10 := by kernel_rfl
theorem laws_FnSpanningLines.bits10 : waitsOk laws_FnSpanningLines.T10.2 laws_FnSpanningLines.B10 = true := by kernel_rfl
set_option maxHeartbeats 8000000 in
set_option maxRecDepth 100000 in
theorem laws_FnSpanningLines.calls (k : Nat) (A0 : Option Addr) (c0 : Nat) (l0 : List Int) (r : Bool) (w : World) (hr0 : Kd.C (Kd.int .u8) w A0 l0.length l0) (hc0 : l0.length ≤ c0) (h : laws_FnSpanningLines.f k l0 = some r) :
  Calls Tryd.prog 6 #[.slice A0 l0.length c0] w fun e w' => e = .returned (.bool r) ∧ Below w.heap.size w w' := by
 have hu25 := Tryd.underlying25
 have HR0 := Aside0.mk hr0
 have HC0 := Aside0.mk hc0
 clear hr0 hc0
 have HB := aM (Below.refl w.heap.size w)
 have H : (if (l0.length : Int) > 1048576 then (some true) else ((spec_DrawSpanningLines.f k l0).bind fun bt638 => ((impl_SpanningLines.f k bt638.1 bt638.2.1 bt638.2.2).bind fun t646 => ((spec_SpanningLines.f k bt638.1 bt638.2.1 bt638.2.2).bind fun t649 => ((laws_sameInts.f k t646 t649).bind fun t652 => (if t652 = true then ((spec_StateValid.f k bt638.1 bt638.2.1 bt638.2.2).bind fun t653 => (if t653 = true then ((laws_onOnly.f k (bt638.2.2.length : Int) t646).bind fun t655 => ((impl_IslandNumbers.f k bt638.1 bt638.2.1 t655).bind fun t658 => ((impl_IslandNumbers.f k bt638.1 bt638.2.1 bt638.2.2).bind fun t661 => ((laws_sameInts.f k t658 t661).bind fun t664 => (if t664 = true then ((impl_HasCycle.f k bt638.1 bt638.2.1 t655).bind fun t665 => (if t665 = true then (none) else ((laws_islands.f k bt638.1 bt638.2.1 bt638.2.2).bind fun t666 => (if (t646.length : Int) = (wrap64 (bt638.1 - t666)) then ((laws_ascend.f k t646).bind fun t667 => (some t667)) else (none))))) else (none)))))) else (if (t646.length : Int) = 0 then ((laws_alive.f k).bind fun t654 => (some t654)) else (none)))) else (none))))))) = some r := h
 clear h
 by_cases c2 : (l0.length : Int) > 1048576
 ·
  rw [if_pos c2] at H
  have c2b0 : decide (1048576 < (l0.length : Int)) = true := decide_eq_true c2
  have c2b1 : decide (1048576 < l0.length) = true := decide_eq_true (by omega)
  clear c2
  obtain rfl := Option.some.inj H
  go_enter Tryd.func6, Tryd.ntmps6
  go_wp2
  go_ret
  exact ⟨fR, bl0 HB⟩
 rw [if_neg c2] at H
 have c2b0 : decide (1048576 < (l0.length : Int)) = false := decide_eq_false c2
 have c2b1 : decide (1048576 < l0.length) = false := decide_eq_false (by omega)
 clear c2
 replace H := Option.bind_eq_some_iff.mp H
 obtain ⟨⟨t638, t639, t642⟩, A30, H⟩ := H
 replace H : ((impl_SpanningLines.f k t638 t639 t642).bind fun t646 => ((spec_SpanningLines.f k t638 t639 t642).bind fun t649 => ((laws_sameInts.f k t646 t649).bind fun t652 => (if t652 = true then ((spec_StateValid.f k t638 t639 t642).bind fun t653 => (if t653 = true then ((laws_onOnly.f k (t642.length : Int) t646).bind fun t655 => ((impl_IslandNumbers.f k t638 t639 t655).bind fun t658 => ((impl_IslandNumbers.f k t638 t639 t642).bind fun t661 => ((laws_sameInts.f k t658 t661).bind fun t664 => (if t664 = true then ((impl_HasCycle.f k t638 t639 t655).bind fun t665 => (if t665 = true then (none) else ((laws_islands.f k t638 t639 t642).bind fun t666 => (if (t646.length : Int) = (wrap64 (t638 - t666)) then ((laws_ascend.f k t646).bind fun t667 => (some t667)) else (none))))) else (none)))))) else (if (t646.length : Int) = 0 then ((laws_alive.f k).bind fun t654 => (some t654)) else (none)))) else (none))))) = some r := H
 have A3 := Aside0.mk A30
 clear A30
 replace H := Option.bind_eq_some_iff.mp H
 obtain ⟨t646, A40, H⟩ := H
 replace H : ((spec_SpanningLines.f k t638 t639 t642).bind fun t649 => ((laws_sameInts.f k t646 t649).bind fun t652 => (if t652 = true then ((spec_StateValid.f k t638 t639 t642).bind fun t653 => (if t653 = true then ((laws_onOnly.f k (t642.length : Int) t646).bind fun t655 => ((impl_IslandNumbers.f k t638 t639 t655).bind fun t658 => ((impl_IslandNumbers.f k t638 t639 t642).bind fun t661 => ((laws_sameInts.f k t658 t661).bind fun t664 => (if t664 = true then ((impl_HasCycle.f k t638 t639 t655).bind fun t665 => (if t665 = true then (none) else ((laws_islands.f k t638 t639 t642).bind fun t666 => (if (t646.length : Int) = (wrap64 (t638 - t666)) then ((laws_ascend.f k t646).bind fun t667 => (some t667)) else (none))))) else (none)))))) else (if (t646.length : Int) = 0 then ((laws_alive.f k).bind fun t654 => (some t654)) else (none)))) else (none)))) = some r := H
 have A4 := Aside0.mk A40
 clear A40
 replace H := Option.bind_eq_some_iff.mp H
 obtain ⟨t649, A50, H⟩ := H
 replace H : ((laws_sameInts.f k t646 t649).bind fun t652 => (if t652 = true then ((spec_StateValid.f k t638 t639 t642).bind fun t653 => (if t653 = true then ((laws_onOnly.f k (t642.length : Int) t646).bind fun t655 => ((impl_IslandNumbers.f k t638 t639 t655).bind fun t658 => ((impl_IslandNumbers.f k t638 t639 t642).bind fun t661 => ((laws_sameInts.f k t658 t661).bind fun t664 => (if t664 = true then ((impl_HasCycle.f k t638 t639 t655).bind fun t665 => (if t665 = true then (none) else ((laws_islands.f k t638 t639 t642).bind fun t666 => (if (t646.length : Int) = (wrap64 (t638 - t666)) then ((laws_ascend.f k t646).bind fun t667 => (some t667)) else (none))))) else (none)))))) else (if (t646.length : Int) = 0 then ((laws_alive.f k).bind fun t654 => (some t654)) else (none)))) else (none))) = some r := H
 have A5 := Aside0.mk A50
 clear A50
 replace H := Option.bind_eq_some_iff.mp H
 obtain ⟨t652, A60, H⟩ := H
 replace H : (if t652 = true then ((spec_StateValid.f k t638 t639 t642).bind fun t653 => (if t653 = true then ((laws_onOnly.f k (t642.length : Int) t646).bind fun t655 => ((impl_IslandNumbers.f k t638 t639 t655).bind fun t658 => ((impl_IslandNumbers.f k t638 t639 t642).bind fun t661 => ((laws_sameInts.f k t658 t661).bind fun t664 => (if t664 = true then ((impl_HasCycle.f k t638 t639 t655).bind fun t665 => (if t665 = true then (none) else ((laws_islands.f k t638 t639 t642).bind fun t666 => (if (t646.length : Int) = (wrap64 (t638 - t666)) then ((laws_ascend.f k t646).bind fun t667 => (some t667)) else (none))))) else (none)))))) else (if (t646.length : Int) = 0 then ((laws_alive.f k).bind fun t654 => (some t654)) else (none)))) else (none)) = some r := H
 have A6 := Aside0.mk A60
 clear A60
 by_cases c7 : t652 = true
 rotate_left
 ·
  replace c7 := Bool.eq_false_iff.mpr c7
  subst c7
  have H1 : (none) = some r := by rw [if_neg (show ¬ (false = true) by decide)] at H; exact H
  clear H
  have H := H1
  clear H1
  exact absurd H (by simp)
 subst c7
 have H1 : ((spec_StateValid.f k t638 t639 t642).bind fun t653 => (if t653 = true then ((laws_onOnly.f k (t642.length : Int) t646).bind fun t655 => ((impl_IslandNumbers.f k t638 t639 t655).bind fun t658 => ((impl_IslandNumbers.f k t638 t639 t642).bind fun t661 => ((laws_sameInts.f k t658 t661).bind fun t664 => (if t664 = true then ((impl_HasCycle.f k t638 t639 t655).bind fun t665 => (if t665 = true then (none) else ((laws_islands.f k t638 t639 t642).bind fun t666 => (if (t646.length : Int) = (wrap64 (t638 - t666)) then ((laws_ascend.f k t646).bind fun t667 => (some t667)) else (none))))) else (none)))))) else (if (t646.length : Int) = 0 then ((laws_alive.f k).bind fun t654 => (some t654)) else (none)))) = some r := by rw [if_pos rfl] at H; exact H
 clear H
 have H := H1
 clear H1
 replace H := Option.bind_eq_some_iff.mp H
 obtain ⟨t653, A80, H⟩ := H
 replace H : (if t653 = true then ((laws_onOnly.f k (t642.length : Int) t646).bind fun t655 => ((impl_IslandNumbers.f k t638 t639 t655).bind fun t658 => ((impl_IslandNumbers.f k t638 t639 t642).bind fun t661 => ((laws_sameInts.f k t658 t661).bind fun t664 => (if t664 = true then ((impl_HasCycle.f k t638 t639 t655).bind fun t665 => (if t665 = true then (none) else ((laws_islands.f k t638 t639 t642).bind fun t666 => (if (t646.length : Int) = (wrap64 (t638 - t666)) then ((laws_ascend.f k t646).bind fun t667 => (some t667)) else (none))))) else (none)))))) else (if (t646.length : Int) = 0 then ((laws_alive.f k).bind fun t654 => (some t654)) else (none))) = some r := H
 have A8 := Aside0.mk A80
 clear A80
 by_cases c9 : t653 = true
 rotate_left
 ·
  replace c9 := Bool.eq_false_iff.mpr c9
  subst c9
  have H1 : (if (t646.length : Int) = 0 then ((laws_alive.f k).bind fun t654 => (some t654)) else (none)) = some r := by rw [if_neg (show ¬ (false = true) by decide)] at H; exact H
  clear H
  have H := H1
  clear H1
  by_cases c41 : (t646.length : Int) = 0
  rotate_left
  ·
   rw [if_neg c41] at H
   exact absurd H (by simp)
  rw [if_pos c41] at H
  have c41b0 : ((t646.length : Int) == 0) = true := beq_iff_eq.mpr c41
  have c41b1 : ((t646.length : Int) != 0) = false := bne_eq_false_iff_eq.mpr c41
  clear c41
  replace H := Option.bind_eq_some_iff.mp H
  obtain ⟨t654, A420, H⟩ := H
  replace H : (some t654) = some r := H
  have A42 := Aside0.mk A420
  clear A420
  obtain rfl := Option.some.inj H
  go_enter Tryd.func6, Tryd.ntmps6
  go_wp2_with (first | ((with_reducible refine gate_callee (f := 31) rfl ?_); refine goesL_ (some 12) rfl rfl Tryd.func31 (by kernel_rfl) rfl #[.slice A0 l0.length c0] rfl mP ?_; (with_reducible refine (spec_DrawSpanningLines.calls k _ _ l0 t638 t639 t642 _ ?side1 ?side2 A3.out).mono ?_); (case side1 => exact gC (HR0.out)); (case side2 => exact HC0.out); rintro e w43 ⟨v640, v643, rfl, ho0, ho1, hb⟩; refine ⟨_, rfl, ?_⟩; have n0_ := aM (Kd.R_lower ho0 (below_size (bl0 HB))); have n1_ := aM (Kd.R_lower ho1 (below_size (bl0 HB))); have n2_ := aM (below_step (bl0 HB) hb); clear HB; have HO641 := n0_; have HO644 := n1_; have HB := n2_; clear n0_ n1_ n2_; (try clear hb); (try clear hb2); (try clear hk); (try clear hi); (try clear ho0); (try clear ho1)) | ((with_reducible refine gate_dst (N := 3) rfl ?_); refine box_event ?hg (N := 3) ?hd (cs := #[.int .i64 0, .slice none 0 0]) (t := 25) ?hr ?_; (case hd => rfl); (case hg => rfl); (case hr => exact hR); intro gb645 hg w44 hbox hb; have n0_ := aM (Kd.R_below (gR (HO641.out)) hb); have n1_ := aM (Kd.R_below (gR (HO644.out)) hb); have n2_ := aM (below_step (bl0 HB) hb); have n3_ := aM (hbox); have n4_ := aM ((by rw [hg]; exact (below_size (bl0 HB)) : w.heap.size ≤ gb645)); have n5_ := aM ((by rw [hg]; exact (below_size (bl0 HB)) : w.heap.size ≤ gb645)); clear HO641; clear HO644; clear HB; have HO641 := n0_; have HO644 := n1_; have HB := n2_; have BK645 := n3_; have GW645 := n4_; have GE645 := n5_; clear n0_ n1_ n2_ n3_ n4_ n5_; clear hb hbox hg; have hcz45_0 : w44.cell? ⟨gb645, 0, none⟩ = some (.int .i64 0) := (blk_cell BK645.out 0).trans rfl; have hcz45_1 : w44.cell? ⟨gb645, 1, none⟩ = some (.slice none 0 0) := (blk_cell BK645.out 1).trans rfl; have hfz45_0 := blk_frozen BK645.out 0; have hfz45_1 := blk_frozen BK645.out 1; obtain ⟨Ao46, co46, eo46⟩ := Kd.R_slice HO641.out; subst eo46; obtain ⟨Ao47, co47, eo47⟩ := Kd.R_slice HO644.out; subst eo47) | ((with_reducible refine gate_callee (f := 32) rfl ?_); refine goesL_ (some 17) rfl rfl Tryd.func32 (by kernel_rfl) rfl #[.agg #[.int .i64 t638, .slice Ao46 t639.length co46], .slice Ao47 t642.length co47] rfl mP ?_; (with_reducible refine (impl_SpanningLines.calls k t638 _ _ t639 _ _ t642 t646 _ ?side1 ?side2 ?side3 ?side4 A4.out).mono ?_); (case side1 => refine (Kd.R_reads' (e := 79) (base := w.heap.size) (ok := fun k_ => True) (n := t639.length) (c := co46) ?_).2.2; exact (by (with_reducible repeat (first | apply Kd.R_alloc | apply Kd.R_drewN | apply Kd.R_drew)); exact (Kd.R_mono (Kd.R_far (p := ⟨gb645, 1, none⟩) (Kd.R_far (p := ⟨gb645, 0, none⟩) (Kd.R_types HO641.out BK645.out (by decide)) (fun _ hk => hk.2) (.int .i64 t638)) (fun _ hk => hk.2) (.slice Ao46 t639.length co46)) (fun _ h_ => h_.1)))); (case side2 => exact (Kd.R_reads' HO641.out).2.1); (case side3 => refine (Kd.R_reads' (e := 4) (base := w.heap.size) (ok := fun k_ => True) (n := t642.length) (c := co47) ?_).2.2; exact (by (with_reducible repeat (first | apply Kd.R_alloc | apply Kd.R_drewN | apply Kd.R_drew)); exact (Kd.R_mono (Kd.R_far (p := ⟨gb645, 1, none⟩) (Kd.R_far (p := ⟨gb645, 0, none⟩) (Kd.R_types HO644.out BK645.out (by decide)) (fun _ hk => hk.2) (.int .i64 t638)) (fun _ hk => hk.2) (.slice Ao46 t639.length co46)) (fun _ h_ => h_.1)))); (case side4 => exact (Kd.R_reads' HO644.out).2.1); rintro e w48 ⟨v647, rfl, ho0, hb⟩; refine ⟨_, rfl, ?_⟩; have n0_ := aM (Kd.R_below (by (with_reducible repeat (first | apply Kd.R_alloc | apply Kd.R_drewN | apply Kd.R_drew)); exact (Kd.R_mono (Kd.R_far (p := ⟨gb645, 1, none⟩) (Kd.R_far (p := ⟨gb645, 0, none⟩) (Kd.R_types HO641.out BK645.out (by decide)) (fun _ hk => hk.2) (.int .i64 t638)) (fun _ hk => hk.2) (.slice Ao46 t639.length co46)) (fun _ h_ => h_.1))) hb); have n1_ := aM (Kd.R_below (by (with_reducible repeat (first | apply Kd.R_alloc | apply Kd.R_drewN | apply Kd.R_drew)); exact (Kd.R_mono (Kd.R_far (p := ⟨gb645, 1, none⟩) (Kd.R_far (p := ⟨gb645, 0, none⟩) (Kd.R_types HO644.out BK645.out (by decide)) (fun _ hk => hk.2) (.int .i64 t638)) (fun _ hk => hk.2) (.slice Ao46 t639.length co46)) (fun _ h_ => h_.1))) hb); have n2_ := aM (Kd.R_lower ho0 (below_size (bl1 HB GE645))); have n3_ := aM (blk_below (g := gb645) (o := .cells #[.int .i64 t638, .slice Ao46 t639.length co46] 25 (0, 0)) (by (with_reducible repeat (first | refine blk_drewN ?_ _ | refine blk_drew ?_ | refine blk_alloc ?_ _)); refine blk_put (cs := #[.int .i64 t638, .slice none 0 0]) ?_ 1 _ rfl; (with_reducible repeat (first | refine blk_drewN ?_ _ | refine blk_drew ?_ | refine blk_alloc ?_ _)); refine blk_put (cs := #[.int .i64 0, .slice none 0 0]) ?_ 0 _ rfl; (with_reducible repeat (first | refine blk_drewN ?_ _ | refine blk_drew ?_ | refine blk_alloc ?_ _)); exact BK645.out) hb); have n4_ := aM (below_step (bl1 HB GE645) hb); clear HO641; clear HO644; clear BK645; clear HB; have HO641 := n0_; have HO644 := n1_; have HO648 := n2_; have BK645 := n3_; have HB := n4_; clear n0_ n1_ n2_ n3_ n4_; (try clear hb); (try clear hb2); (try clear hk); (try clear hi); (try clear ho0); have hcz49_0 : w48.cell? ⟨gb645, 0, none⟩ = some (.int .i64 t638) := (blk_cell BK645.out 0).trans rfl; have hcz49_1 : w48.cell? ⟨gb645, 1, none⟩ = some (.slice Ao46 t639.length co46) := (blk_cell BK645.out 1).trans rfl; have hfz49_0 := blk_frozen BK645.out 0; have hfz49_1 := blk_frozen BK645.out 1) | ((with_reducible refine gate_callee (f := 33) rfl ?_); refine goesL_ (some 21) rfl rfl Tryd.func33 (by kernel_rfl) rfl #[.agg #[.int .i64 t638, .slice Ao46 t639.length co46], .slice Ao47 t642.length co47] rfl mP ?_; (with_reducible refine (spec_SpanningLines.calls k t638 _ _ t639 _ _ t642 t649 _ ?side1 ?side2 ?side3 ?side4 A5.out).mono ?_); (case side1 => exact gC ((Kd.R_reads' HO641.out).2.2)); (case side2 => exact (Kd.R_reads' HO641.out).2.1); (case side3 => exact gC ((Kd.R_reads' HO644.out).2.2)); (case side4 => exact (Kd.R_reads' HO644.out).2.1); rintro e w50 ⟨v650, rfl, ho0, hb⟩; refine ⟨_, rfl, ?_⟩; have n0_ := aM (Kd.R_below (gR (HO641.out)) hb); have n1_ := aM (Kd.R_below (gR (HO644.out)) hb); have n2_ := aM (Kd.R_elder' (gR (HO648.out)) (Kd.R_base ho0) hb); have n3_ := aM (Kd.R_lower (Kd.R_new' ho0 (Kd.R_lt (gR (HO648.out)))) (below_size (bl1 HB GE645))); have n4_ := aM (blk_below (g := gb645) (o := .cells #[.int .i64 t638, .slice Ao46 t639.length co46] 25 (0, 0)) (gB (BK645.out)) hb); have n5_ := aM (below_step (bl1 HB GE645) hb); clear HO641; clear HO644; clear HO648; clear BK645; clear HB; have HO641 := n0_; have HO644 := n1_; have HO648 := n2_; have HO651 := n3_; have BK645 := n4_; have HB := n5_; clear n0_ n1_ n2_ n3_ n4_ n5_; (try clear hb); (try clear hb2); (try clear hk); (try clear hi); (try clear ho0); obtain ⟨Ao51, co51, eo51⟩ := Kd.R_slice HO648.out; subst eo51; obtain ⟨Ao52, co52, eo52⟩ := Kd.R_slice HO651.out; subst eo52) | ((with_reducible refine gate_callee (f := 22) rfl ?_); refine goesL_ (some 22) rfl rfl Tryd.func22 (by kernel_rfl) rfl #[.slice Ao51 t646.length co51, .slice Ao52 t649.length co52] rfl mP ?_; (with_reducible refine (laws_sameInts.calls k _ _ t646 _ _ t649 true _ ?side1 ?side2 ?side3 ?side4 A6.out).mono ?_); (case side1 => exact gC ((Kd.R_reads' HO648.out).2.2)); (case side2 => exact (Kd.R_reads' HO648.out).2.1); (case side3 => exact gC ((Kd.R_reads' HO651.out).2.2)); (case side4 => exact (Kd.R_reads' HO651.out).2.1); rintro e w' ⟨rfl, ⟨nd, rfl⟩⟩; refine ⟨_, rfl, ?_⟩; have hcz53_0 : w50.cell? ⟨gb645, 0, none⟩ = some (.int .i64 t638) := (blk_cell BK645.out 0).trans rfl; have hcz53_1 : w50.cell? ⟨gb645, 1, none⟩ = some (.slice Ao46 t639.length co46) := (blk_cell BK645.out 1).trans rfl; have hfz53_0 := blk_frozen BK645.out 0; have hfz53_1 := blk_frozen BK645.out 1) | ((with_reducible refine gate_callee (f := 34) rfl ?_); refine goesL_ (some 26) rfl rfl Tryd.func34 (by kernel_rfl) rfl #[.agg #[.int .i64 t638, .slice Ao46 t639.length co46], .slice Ao47 t642.length co47] rfl mP ?_; (with_reducible refine (spec_StateValid.calls k t638 _ _ t639 _ _ t642 false _ ?side1 ?side2 ?side3 ?side4 A8.out).mono ?_); (case side1 => exact gC ((Kd.R_reads' HO641.out).2.2)); (case side2 => exact (Kd.R_reads' HO641.out).2.1); (case side3 => exact gC ((Kd.R_reads' HO644.out).2.2)); (case side4 => exact (Kd.R_reads' HO644.out).2.1); rintro e w54 ⟨rfl, hb⟩; refine ⟨_, rfl, ?_⟩; have n0_ := aM (Kd.R_below (gR (HO641.out)) hb); have n1_ := aM (Kd.R_below (gR (HO644.out)) hb); have n2_ := aM (Kd.R_below (gR (HO648.out)) hb); have n3_ := aM (Kd.R_below (gR (HO651.out)) hb); have n4_ := aM (blk_below (g := gb645) (o := .cells #[.int .i64 t638, .slice Ao46 t639.length co46] 25 (0, 0)) (gB (BK645.out)) hb); have n5_ := aM (below_step (bl1 HB GE645) hb); clear HO641; clear HO644; clear HO648; clear HO651; clear BK645; clear HB; have HO641 := n0_; have HO644 := n1_; have HO648 := n2_; have HO651 := n3_; have BK645 := n4_; have HB := n5_; clear n0_ n1_ n2_ n3_ n4_ n5_; (try clear hb); (try clear hb2); (try clear hk); (try clear hi)) | (go_at_call 17; (with_reducible refine (laws_alive.calls k  t654 _ A42.out).mono ?_); rintro e w55 ⟨rfl, hb⟩; have n0_ := aM (Kd.R_below (gR (HO641.out)) hb); have n1_ := aM (Kd.R_below (gR (HO644.out)) hb); have n2_ := aM (Kd.R_below (gR (HO648.out)) hb); have n3_ := aM (Kd.R_below (gR (HO651.out)) hb); have n4_ := aM (blk_below (g := gb645) (o := .cells #[.int .i64 t638, .slice Ao46 t639.length co46] 25 (0, 0)) (gB (BK645.out)) hb); have n5_ := aM (below_step (bl1 HB GE645) hb); clear HO641; clear HO644; clear HO648; clear HO651; clear BK645; clear HB; have HO641 := n0_; have HO644 := n1_; have HO648 := n2_; have HO651 := n3_; have BK645 := n4_; have HB := n5_; clear n0_ n1_ n2_ n3_ n4_ n5_; (try clear hb); (try clear hb2); (try clear hk); (try clear hi)))
  go_ret
  exact ⟨fR, bl1 HB GE645⟩
 subst c9
 have H1 : ((laws_onOnly.f k (t642.length : Int) t646).bind fun t655 => ((impl_IslandNumbers.f k t638 t639 t655).bind fun t658 => ((impl_IslandNumbers.f k t638 t639 t642).bind fun t661 => ((laws_sameInts.f k t658 t661).bind fun t664 => (if t664 = true then ((impl_HasCycle.f k t638 t639 t655).bind fun t665 => (if t665 = true then (none) else ((laws_islands.f k t638 t639 t642).bind fun t666 => (if (t646.length : Int) = (wrap64 (t638 - t666)) then ((laws_ascend.f k t646).bind fun t667 => (some t667)) else (none))))) else (none)))))) = some r := by rw [if_pos rfl] at H; exact H
 clear H
 have H := H1
 clear H1
 replace H := Option.bind_eq_some_iff.mp H
 obtain ⟨t655, A100, H⟩ := H
 replace H : ((impl_IslandNumbers.f k t638 t639 t655).bind fun t658 => ((impl_IslandNumbers.f k t638 t639 t642).bind fun t661 => ((laws_sameInts.f k t658 t661).bind fun t664 => (if t664 = true then ((impl_HasCycle.f k t638 t639 t655).bind fun t665 => (if t665 = true then (none) else ((laws_islands.f k t638 t639 t642).bind fun t666 => (if (t646.length : Int) = (wrap64 (t638 - t666)) then ((laws_ascend.f k t646).bind fun t667 => (some t667)) else (none))))) else (none))))) = some r := H
 have A10 := Aside0.mk A100
 clear A100
 replace H := Option.bind_eq_some_iff.mp H
 obtain ⟨t658, A110, H⟩ := H
 replace H : ((impl_IslandNumbers.f k t638 t639 t642).bind fun t661 => ((laws_sameInts.f k t658 t661).bind fun t664 => (if t664 = true then ((impl_HasCycle.f k t638 t639 t655).bind fun t665 => (if t665 = true then (none) else ((laws_islands.f k t638 t639 t642).bind fun t666 => (if (t646.length : Int) = (wrap64 (t638 - t666)) then ((laws_ascend.f k t646).bind fun t667 => (some t667)) else (none))))) else (none)))) = some r := H
 have A11 := Aside0.mk A110
 clear A110
 replace H := Option.bind_eq_some_iff.mp H
 obtain ⟨t661, A120, H⟩ := H
 replace H : ((laws_sameInts.f k t658 t661).bind fun t664 => (if t664 = true then ((impl_HasCycle.f k t638 t639 t655).bind fun t665 => (if t665 = true then (none) else ((laws_islands.f k t638 t639 t642).bind fun t666 => (if (t646.length : Int) = (wrap64 (t638 - t666)) then ((laws_ascend.f k t646).bind fun t667 => (some t667)) else (none))))) else (none))) = some r := H
 have A12 := Aside0.mk A120
 clear A120
 replace H := Option.bind_eq_some_iff.mp H
 obtain ⟨t664, A130, H⟩ := H
 replace H : (if t664 = true then ((impl_HasCycle.f k t638 t639 t655).bind fun t665 => (if t665 = true then (none) else ((laws_islands.f k t638 t639 t642).bind fun t666 => (if (t646.length : Int) = (wrap64 (t638 - t666)) then ((laws_ascend.f k t646).bind fun t667 => (some t667)) else (none))))) else (none)) = some r := H
 have A13 := Aside0.mk A130
 clear A130
 by_cases c14 : t664 = true
 rotate_left
 ·
  replace c14 := Bool.eq_false_iff.mpr c14
  subst c14
  have H1 : (none) = some r := by rw [if_neg (show ¬ (false = true) by decide)] at H; exact H
  clear H
  have H := H1
  clear H1
  exact absurd H (by simp)
 subst c14
 have H1 : ((impl_HasCycle.f k t638 t639 t655).bind fun t665 => (if t665 = true then (none) else ((laws_islands.f k t638 t639 t642).bind fun t666 => (if (t646.length : Int) = (wrap64 (t638 - t666)) then ((laws_ascend.f k t646).bind fun t667 => (some t667)) else (none))))) = some r := by rw [if_pos rfl] at H; exact H
 clear H
 have H := H1
 clear H1
 replace H := Option.bind_eq_some_iff.mp H
 obtain ⟨t665, A150, H⟩ := H
 replace H : (if t665 = true then (none) else ((laws_islands.f k t638 t639 t642).bind fun t666 => (if (t646.length : Int) = (wrap64 (t638 - t666)) then ((laws_ascend.f k t646).bind fun t667 => (some t667)) else (none)))) = some r := H
 have A15 := Aside0.mk A150
 clear A150
 by_cases c16 : t665 = true
 ·
  subst c16
  have H1 : (none) = some r := by rw [if_pos rfl] at H; exact H
  clear H
  have H := H1
  clear H1
  exact absurd H (by simp)
 replace c16 := Bool.eq_false_iff.mpr c16
 subst c16
 have H1 : ((laws_islands.f k t638 t639 t642).bind fun t666 => (if (t646.length : Int) = (wrap64 (t638 - t666)) then ((laws_ascend.f k t646).bind fun t667 => (some t667)) else (none))) = some r := by rw [if_neg (show ¬ (false = true) by decide)] at H; exact H
 clear H
 have H := H1
 clear H1
 replace H := Option.bind_eq_some_iff.mp H
 obtain ⟨t666, A170, H⟩ := H
 replace H : (if (t646.length : Int) = (wrap64 (t638 - t666)) then ((laws_ascend.f k t646).bind fun t667 => (some t667)) else (none)) = some r := H
 have A17 := Aside0.mk A170
 clear A170
 by_cases c18 : (t646.length : Int) = (wrap64 (t638 - t666))
 rotate_left
 ·
  rw [if_neg c18] at H
  have c18b0 : ((t646.length : Int) == (wrap64 (t638 - t666))) = false := beq_eq_false_iff_ne.mpr c18
  have c18b1 : ((t646.length : Int) != (wrap64 (t638 - t666))) = true := bne_iff_ne.mpr c18
  exact absurd H (by simp)
 rw [if_pos c18] at H
 have c18b0 : ((t646.length : Int) == (wrap64 (t638 - t666))) = true := beq_iff_eq.mpr c18
 have c18b1 : ((t646.length : Int) != (wrap64 (t638 - t666))) = false := bne_eq_false_iff_eq.mpr c18
 clear c18
 replace H := Option.bind_eq_some_iff.mp H
 obtain ⟨t667, A190, H⟩ := H
 replace H : (some t667) = some r := H
 have A19 := Aside0.mk A190
 clear A190
 obtain rfl := Option.some.inj H
 go_enter Tryd.func6, Tryd.ntmps6
 try go_wp2_with (first | ((with_reducible refine gate_callee (f := 31) rfl ?_); refine goesL_ (some 12) rfl rfl Tryd.func31 (by kernel_rfl) rfl #[.slice A0 l0.length c0] rfl mP ?_; (with_reducible refine (spec_DrawSpanningLines.calls k _ _ l0 t638 t639 t642 _ ?side1 ?side2 A3.out).mono ?_); (case side1 => exact gC (HR0.out)); (case side2 => exact HC0.out); rintro e w20 ⟨v640, v643, rfl, ho0, ho1, hb⟩; refine ⟨_, rfl, ?_⟩; have n0_ := aM (Kd.R_lower ho0 (below_size (bl0 HB))); have n1_ := aM (Kd.R_lower ho1 (below_size (bl0 HB))); have n2_ := aM (below_step (bl0 HB) hb); clear HB; have HO641 := n0_; have HO644 := n1_; have HB := n2_; clear n0_ n1_ n2_; (try clear hb); (try clear hb2); (try clear hk); (try clear hi); (try clear ho0); (try clear ho1)) | ((with_reducible refine gate_dst (N := 3) rfl ?_); refine box_event ?hg (N := 3) ?hd (cs := #[.int .i64 0, .slice none 0 0]) (t := 25) ?hr ?_; (case hd => rfl); (case hg => rfl); (case hr => exact hR); intro gb645 hg w21 hbox hb; have n0_ := aM (Kd.R_below (gR (HO641.out)) hb); have n1_ := aM (Kd.R_below (gR (HO644.out)) hb); have n2_ := aM (below_step (bl0 HB) hb); have n3_ := aM (hbox); have n4_ := aM ((by rw [hg]; exact (below_size (bl0 HB)) : w.heap.size ≤ gb645)); have n5_ := aM ((by rw [hg]; exact (below_size (bl0 HB)) : w.heap.size ≤ gb645)); clear HO641; clear HO644; clear HB; have HO641 := n0_; have HO644 := n1_; have HB := n2_; have BK645 := n3_; have GW645 := n4_; have GE645 := n5_; clear n0_ n1_ n2_ n3_ n4_ n5_; clear hb hbox hg; have hcz22_0 : w21.cell? ⟨gb645, 0, none⟩ = some (.int .i64 0) := (blk_cell BK645.out 0).trans rfl; have hcz22_1 : w21.cell? ⟨gb645, 1, none⟩ = some (.slice none 0 0) := (blk_cell BK645.out 1).trans rfl; have hfz22_0 := blk_frozen BK645.out 0; have hfz22_1 := blk_frozen BK645.out 1; obtain ⟨Ao23, co23, eo23⟩ := Kd.R_slice HO641.out; subst eo23; obtain ⟨Ao24, co24, eo24⟩ := Kd.R_slice HO644.out; subst eo24) | ((with_reducible refine gate_callee (f := 32) rfl ?_); refine goesL_ (some 17) rfl rfl Tryd.func32 (by kernel_rfl) rfl #[.agg #[.int .i64 t638, .slice Ao23 t639.length co23], .slice Ao24 t642.length co24] rfl mP ?_; (with_reducible refine (impl_SpanningLines.calls k t638 _ _ t639 _ _ t642 t646 _ ?side1 ?side2 ?side3 ?side4 A4.out).mono ?_); (case side1 => refine (Kd.R_reads' (e := 79) (base := w.heap.size) (ok := fun k_ => True) (n := t639.length) (c := co23) ?_).2.2; exact (by (with_reducible repeat (first | apply Kd.R_alloc | apply Kd.R_drewN | apply Kd.R_drew)); exact (Kd.R_mono (Kd.R_far (p := ⟨gb645, 1, none⟩) (Kd.R_far (p := ⟨gb645, 0, none⟩) (Kd.R_types HO641.out BK645.out (by decide)) (fun _ hk => hk.2) (.int .i64 t638)) (fun _ hk => hk.2) (.slice Ao23 t639.length co23)) (fun _ h_ => h_.1)))); (case side2 => exact (Kd.R_reads' HO641.out).2.1); (case side3 => refine (Kd.R_reads' (e := 4) (base := w.heap.size) (ok := fun k_ => True) (n := t642.length) (c := co24) ?_).2.2; exact (by (with_reducible repeat (first | apply Kd.R_alloc | apply Kd.R_drewN | apply Kd.R_drew)); exact (Kd.R_mono (Kd.R_far (p := ⟨gb645, 1, none⟩) (Kd.R_far (p := ⟨gb645, 0, none⟩) (Kd.R_types HO644.out BK645.out (by decide)) (fun _ hk => hk.2) (.int .i64 t638)) (fun _ hk => hk.2) (.slice Ao23 t639.length co23)) (fun _ h_ => h_.1)))); (case side4 => exact (Kd.R_reads' HO644.out).2.1); rintro e w25 ⟨v647, rfl, ho0, hb⟩; refine ⟨_, rfl, ?_⟩; have n0_ := aM (Kd.R_below (by (with_reducible repeat (first | apply Kd.R_alloc | apply Kd.R_drewN | apply Kd.R_drew)); exact (Kd.R_mono (Kd.R_far (p := ⟨gb645, 1, none⟩) (Kd.R_far (p := ⟨gb645, 0, none⟩) (Kd.R_types HO641.out BK645.out (by decide)) (fun _ hk => hk.2) (.int .i64 t638)) (fun _ hk => hk.2) (.slice Ao23 t639.length co23)) (fun _ h_ => h_.1))) hb); have n1_ := aM (Kd.R_below (by (with_reducible repeat (first | apply Kd.R_alloc | apply Kd.R_drewN | apply Kd.R_drew)); exact (Kd.R_mono (Kd.R_far (p := ⟨gb645, 1, none⟩) (Kd.R_far (p := ⟨gb645, 0, none⟩) (Kd.R_types HO644.out BK645.out (by decide)) (fun _ hk => hk.2) (.int .i64 t638)) (fun _ hk => hk.2) (.slice Ao23 t639.length co23)) (fun _ h_ => h_.1))) hb); have n2_ := aM (Kd.R_lower ho0 (below_size (bl1 HB GE645))); have n3_ := aM (blk_below (g := gb645) (o := .cells #[.int .i64 t638, .slice Ao23 t639.length co23] 25 (0, 0)) (by (with_reducible repeat (first | refine blk_drewN ?_ _ | refine blk_drew ?_ | refine blk_alloc ?_ _)); refine blk_put (cs := #[.int .i64 t638, .slice none 0 0]) ?_ 1 _ rfl; (with_reducible repeat (first | refine blk_drewN ?_ _ | refine blk_drew ?_ | refine blk_alloc ?_ _)); refine blk_put (cs := #[.int .i64 0, .slice none 0 0]) ?_ 0 _ rfl; (with_reducible repeat (first | refine blk_drewN ?_ _ | refine blk_drew ?_ | refine blk_alloc ?_ _)); exact BK645.out) hb); have n4_ := aM (below_step (bl1 HB GE645) hb); clear HO641; clear HO644; clear BK645; clear HB; have HO641 := n0_; have HO644 := n1_; have HO648 := n2_; have BK645 := n3_; have HB := n4_; clear n0_ n1_ n2_ n3_ n4_; (try clear hb); (try clear hb2); (try clear hk); (try clear hi); (try clear ho0); have hcz26_0 : w25.cell? ⟨gb645, 0, none⟩ = some (.int .i64 t638) := (blk_cell BK645.out 0).trans rfl; have hcz26_1 : w25.cell? ⟨gb645, 1, none⟩ = some (.slice Ao23 t639.length co23) := (blk_cell BK645.out 1).trans rfl; have hfz26_0 := blk_frozen BK645.out 0; have hfz26_1 := blk_frozen BK645.out 1) | ((with_reducible refine gate_callee (f := 33) rfl ?_); refine goesL_ (some 21) rfl rfl Tryd.func33 (by kernel_rfl) rfl #[.agg #[.int .i64 t638, .slice Ao23 t639.length co23], .slice Ao24 t642.length co24] rfl mP ?_; (with_reducible refine (spec_SpanningLines.calls k t638 _ _ t639 _ _ t642 t649 _ ?side1 ?side2 ?side3 ?side4 A5.out).mono ?_); (case side1 => exact gC ((Kd.R_reads' HO641.out).2.2)); (case side2 => exact (Kd.R_reads' HO641.out).2.1); (case side3 => exact gC ((Kd.R_reads' HO644.out).2.2)); (case side4 => exact (Kd.R_reads' HO644.out).2.1); rintro e w27 ⟨v650, rfl, ho0, hb⟩; refine ⟨_, rfl, ?_⟩; have n0_ := aM (Kd.R_below (gR (HO641.out)) hb); have n1_ := aM (Kd.R_below (gR (HO644.out)) hb); have n2_ := aM (Kd.R_elder' (gR (HO648.out)) (Kd.R_base ho0) hb); have n3_ := aM (Kd.R_lower (Kd.R_new' ho0 (Kd.R_lt (gR (HO648.out)))) (below_size (bl1 HB GE645))); have n4_ := aM (blk_below (g := gb645) (o := .cells #[.int .i64 t638, .slice Ao23 t639.length co23] 25 (0, 0)) (gB (BK645.out)) hb); have n5_ := aM (below_step (bl1 HB GE645) hb); clear HO641; clear HO644; clear HO648; clear BK645; clear HB; have HO641 := n0_; have HO644 := n1_; have HO648 := n2_; have HO651 := n3_; have BK645 := n4_; have HB := n5_; clear n0_ n1_ n2_ n3_ n4_ n5_; (try clear hb); (try clear hb2); (try clear hk); (try clear hi); (try clear ho0); obtain ⟨Ao28, co28, eo28⟩ := Kd.R_slice HO648.out; subst eo28; obtain ⟨Ao29, co29, eo29⟩ := Kd.R_slice HO651.out; subst eo29) | ((with_reducible refine gate_callee (f := 22) rfl ?_); refine goesL_ (some 22) rfl rfl Tryd.func22 (by kernel_rfl) rfl #[.slice Ao28 t646.length co28, .slice Ao29 t649.length co29] rfl mP ?_; (with_reducible refine (laws_sameInts.calls k _ _ t646 _ _ t649 true _ ?side1 ?side2 ?side3 ?side4 A6.out).mono ?_); (case side1 => exact gC ((Kd.R_reads' HO648.out).2.2)); (case side2 => exact (Kd.R_reads' HO648.out).2.1); (case side3 => exact gC ((Kd.R_reads' HO651.out).2.2)); (case side4 => exact (Kd.R_reads' HO651.out).2.1); rintro e w' ⟨rfl, ⟨nd, rfl⟩⟩; refine ⟨_, rfl, ?_⟩; have hcz30_0 : w27.cell? ⟨gb645, 0, none⟩ = some (.int .i64 t638) := (blk_cell BK645.out 0).trans rfl; have hcz30_1 : w27.cell? ⟨gb645, 1, none⟩ = some (.slice Ao23 t639.length co23) := (blk_cell BK645.out 1).trans rfl; have hfz30_0 := blk_frozen BK645.out 0; have hfz30_1 := blk_frozen BK645.out 1) | ((with_reducible refine gate_callee (f := 34) rfl ?_); refine goesL_ (some 26) rfl rfl Tryd.func34 (by kernel_rfl) rfl #[.agg #[.int .i64 t638, .slice Ao23 t639.length co23], .slice Ao24 t642.length co24] rfl mP ?_; (with_reducible refine (spec_StateValid.calls k t638 _ _ t639 _ _ t642 true _ ?side1 ?side2 ?side3 ?side4 A8.out).mono ?_); (case side1 => exact gC ((Kd.R_reads' HO641.out).2.2)); (case side2 => exact (Kd.R_reads' HO641.out).2.1); (case side3 => exact gC ((Kd.R_reads' HO644.out).2.2)); (case side4 => exact (Kd.R_reads' HO644.out).2.1); rintro e w31 ⟨rfl, hb⟩; refine ⟨_, rfl, ?_⟩; have n0_ := aM (Kd.R_below (gR (HO641.out)) hb); have n1_ := aM (Kd.R_below (gR (HO644.out)) hb); have n2_ := aM (Kd.R_below (gR (HO648.out)) hb); have n3_ := aM (Kd.R_below (gR (HO651.out)) hb); have n4_ := aM (blk_below (g := gb645) (o := .cells #[.int .i64 t638, .slice Ao23 t639.length co23] 25 (0, 0)) (gB (BK645.out)) hb); have n5_ := aM (below_step (bl1 HB GE645) hb); clear HO641; clear HO644; clear HO648; clear HO651; clear BK645; clear HB; have HO641 := n0_; have HO644 := n1_; have HO648 := n2_; have HO651 := n3_; have BK645 := n4_; have HB := n5_; clear n0_ n1_ n2_ n3_ n4_ n5_; (try clear hb); (try clear hb2); (try clear hk); (try clear hi)) | ((with_reducible refine gate_callee (f := 35) rfl ?_); refine goesL_ (some 37) rfl rfl Tryd.func35 (by kernel_rfl) rfl #[.int .i64 (t642.length : Int), .slice Ao28 t646.length co28] rfl mP ?_; (with_reducible refine (laws_onOnly.calls k (t642.length : Int) _ _ t646 t655 _ ?side1 ?side2 A10.out).mono ?_); (case side1 => exact gC ((Kd.R_reads' HO648.out).2.2)); (case side2 => exact (Kd.R_reads' HO648.out).2.1); rintro e w32 ⟨v656, rfl, ho0, hb⟩; refine ⟨_, rfl, ?_⟩; have n0_ := aM (Kd.R_below (gR (HO641.out)) hb); have n1_ := aM (Kd.R_elder' (gR (HO644.out)) (Kd.R_base ho0) hb); have n2_ := aM (Kd.R_below (gR (HO648.out)) hb); have n3_ := aM (Kd.R_below (gR (HO651.out)) hb); have n4_ := aM (Kd.R_lower (Kd.R_new' ho0 (Kd.R_lt (gR (HO644.out)))) (below_size (bl1 HB GE645))); have n5_ := aM (blk_below (g := gb645) (o := .cells #[.int .i64 t638, .slice Ao23 t639.length co23] 25 (0, 0)) (gB (BK645.out)) hb); have n6_ := aM (below_step (bl1 HB GE645) hb); clear HO641; clear HO644; clear HO648; clear HO651; clear BK645; clear HB; have HO641 := n0_; have HO644 := n1_; have HO648 := n2_; have HO651 := n3_; have HO657 := n4_; have BK645 := n5_; have HB := n6_; clear n0_ n1_ n2_ n3_ n4_ n5_ n6_; (try clear hb); (try clear hb2); (try clear hk); (try clear hi); (try clear ho0)))
 have n0_ := aM (Kd.R_drew HO641.out)
 have n1_ := aM (Kd.R_drew HO644.out)
 have n2_ := aM (Kd.R_drew HO648.out)
 have n3_ := aM (Kd.R_drew HO651.out)
 have n4_ := aM (Kd.R_drew HO657.out)
 have n5_ := aM (blk_drew BK645.out)
 have n6_ := aM (below_drew1 HB.out)
 clear HO641
 clear HO644
 clear HO648
 clear HO651
 clear HO657
 clear BK645
 clear HB
 have HO641 := n0_
 have HO644 := n1_
 have HO648 := n2_
 have HO651 := n3_
 have HO657 := n4_
 have BK645 := n5_
 have HB := n6_
 clear n0_ n1_ n2_ n3_ n4_ n5_ n6_
 obtain ⟨Ao34, co34, eo34⟩ := Kd.R_slice HO657.out
 (first | subst eo34 | (injection eo34 with f1_ f2_ f3_; have f4_ := f1_.symm; have f5_ := f3_.symm; clear f1_ f2_ f3_; subst f4_; subst f5_))
 refine start_ (n := 29) (S := fun w' => w'.cell? ⟨gb645, 0, none⟩ = some (.int .i64 t638) ∧ w'.cell? ⟨gb645, 1, none⟩ = some (.slice Ao23 t639.length co23)) (ds := []) #[zz,zz,zz,zz,zz,zz,zz,zz,zz,zz,zz,zz,zz,zz,zz,zz,zz,zz,zz,zz,zz,zz,zz,zz,zz,zz,zz,zz,zz] (by kernel_rfl) rfl rfl ⟨(blk_cell BK645.out 0).trans rfl, (blk_cell BK645.out 1).trans rfl⟩ (fun hHeld => ?_); refine with_tabW laws_FnSpanningLines.tab10 laws_FnSpanningLines.bits10 (fun HT_ HW_ => ?_)
 generalize w32.drew = w33 at HO641 HO644 HO648 HO651 HO657 BK645 HB hHeld ⊢
 refine pure_ (i := 1) (N := some 39) (v := ?_) (a' := ?_) #[zz,oo,zz,zz,zz,zz,zz,zz,zz,zz,zz,zz,zz,zz,zz,zz,zz,zz,zz,zz,zz,zz,zz,zz,zz,zz,zz,zz,zz] rfl rfl (any_of HT_.out (by kernel_rfl)) (fun _ _ _ h => h) (Or.inl ⟨by rfl, ?_⟩) ?_ ?_
 rotate_left
 ·
  intro w'
  go_simp
  with_reducible rfl
 rotate_left
 ·
  simp only [Act.put, List.setIfInBounds_toArray, List.set_cons_zero, List.set_cons_succ, i64_w, i32_w]
  rfl
 refine pure_ (i := 4) (N := some 42) (v := ?_) (a' := ?_) #[zz,oo,zz,zz,oo,zz,zz,zz,zz,zz,zz,zz,zz,zz,zz,zz,zz,zz,zz,zz,zz,zz,zz,zz,zz,zz,zz,zz,zz] rfl rfl (any_of HT_.out (by kernel_rfl)) (fun _ _ _ h => h) (Or.inl ⟨by rfl, ?_⟩) ?_ ?_
 rotate_left
 ·
  intro w'
  go_simp
  with_reducible rfl
 rotate_left
 ·
  simp only [Act.put, List.setIfInBounds_toArray, List.set_cons_zero, List.set_cons_succ, i64_w, i32_w]
  rfl
 refine take_ (i := 0) (N := some 38) (v := ?_) (a' := ?_) #[oo,oo,zz,zz,oo,zz,zz,zz,zz,zz,zz,zz,zz,zz,zz,zz,zz,zz,zz,zz,zz,zz,zz,zz,zz,zz,zz,zz,zz] rfl rfl (take_ofW HT_.out HW_.out (by kernel_rfl)) (fun _ _ _ h => h) (Or.inl ⟨by rfl, ?_⟩) hHeld ?_ ?_
 rotate_left
 ·
  rintro w' ⟨s0, s1⟩
  go_simp
  with_reducible rfl
 rotate_left
 ·
  simp only [Act.put, List.setIfInBounds_toArray, List.set_cons_zero, List.set_cons_succ, i64_w, i32_w]
  rfl
 refine take_ (i := 3) (N := some 41) (v := ?_) (a' := ?_) #[oo,oo,zz,oo,oo,zz,zz,zz,zz,zz,zz,zz,zz,zz,zz,zz,zz,zz,zz,zz,zz,zz,zz,zz,zz,zz,zz,zz,zz] rfl rfl (take_ofW HT_.out HW_.out (by kernel_rfl)) (fun _ _ _ h => h) (Or.inl ⟨by rfl, ?_⟩) hHeld ?_ ?_
 rotate_left
 ·
  rintro w' ⟨s0, s1⟩
  go_simp
  with_reducible rfl
 rotate_left
 ·
  simp only [Act.put, List.setIfInBounds_toArray, List.set_cons_zero, List.set_cons_succ, i64_w, i32_w]
  rfl
 refine one_ (i := 2) (N := some 40) #[oo,oo,oo,oo,oo,zz,zz,zz,zz,zz,zz,zz,zz,zz,zz,zz,zz,zz,zz,zz,zz,zz,zz,zz,zz,zz,zz,zz,zz] rfl rfl (one_of HT_.out (by kernel_rfl)) (by decide) (fun K hK => ?_)
 refine goes_ Tryd.func24 (by kernel_rfl) rfl #[.agg #[.int .i64 t638, .slice Ao23 t639.length co23], .slice Ao34 t655.length co34] (by rfl) rfl rfl mP ?_
 with_reducible refine (impl_IslandNumbers.calls k t638 _ _ t639 _ _ t655 t658 _ ?side1 ?side2 ?side3 ?side4 A11.out).mono ?_
 (case side1 => exact gC ((Kd.R_reads' HO641.out).2.2))
 (case side2 => exact (Kd.R_reads' HO641.out).2.1)
 (case side3 => exact gC ((Kd.R_reads' HO657.out).2.2))
 (case side4 => exact (Kd.R_reads' HO657.out).2.1)
 rintro e w35 ⟨v659, rfl, ho0, hb⟩
 refine ⟨_, rfl, ?_⟩
 have n0_ := aM (Kd.R_below (gR (HO641.out)) hb)
 have n1_ := aM (Kd.R_below (gR (HO644.out)) hb)
 have n2_ := aM (Kd.R_elder' (gR (HO648.out)) (Kd.R_base ho0) hb)
 have n3_ := aM (Kd.R_elder' (gR (HO651.out)) (Kd.R_base ho0) hb)
 have n4_ := aM (Kd.R_below (gR (HO657.out)) hb)
 have n5_ := aM (Kd.R_lower (Kd.R_new' (Kd.R_new' ho0 (Kd.R_lt (gR (HO648.out)))) (Kd.R_lt (gR (HO651.out)))) (below_size (bl1 HB GE645)))
 have n6_ := aM (blk_below (g := gb645) (o := .cells #[.int .i64 t638, .slice Ao23 t639.length co23] 25 (0, 0)) (gB (BK645.out)) hb)
 have n7_ := aM (below_step (bl1 HB GE645) hb)
 clear HO641
 clear HO644
 clear HO648
 clear HO651
 clear HO657
 clear BK645
 clear HB
 have HO641 := n0_
 have HO644 := n1_
 have HO648 := n2_
 have HO651 := n3_
 have HO657 := n4_
 have HO660 := n5_
 have BK645 := n6_
 have HB := n7_
 clear n0_ n1_ n2_ n3_ n4_ n5_ n6_ n7_
 (try clear hb)
 (try clear hb2)
 (try clear hk)
 (try clear hi)
 (try clear ho0)
 refine hK.out _ _ ⟨(blk_cell BK645.out 0).trans rfl, (blk_cell BK645.out 1).trans rfl⟩ (fun hHeld => ?_)
 clear hK K
 refine norm_ (a' := ?_) ?_ ?_
 rotate_left
 ·
  show Act.put _ (some 40) _ = _
  simp only [Act.put, List.setIfInBounds_toArray, List.set_cons_zero, List.set_cons_succ, i64_w, i32_w]
  rfl
 refine one_ (i := 5) (N := some 43) #[oo,oo,oo,oo,oo,oo,zz,zz,zz,zz,zz,zz,zz,zz,zz,zz,zz,zz,zz,zz,zz,zz,zz,zz,zz,zz,zz,zz,zz] rfl rfl (one_of HT_.out (by kernel_rfl)) (by decide) (fun K hK => ?_)
 refine goes_ Tryd.func24 (by kernel_rfl) rfl #[.agg #[.int .i64 t638, .slice Ao23 t639.length co23], .slice Ao24 t642.length co24] (by rfl) rfl rfl mP ?_
 with_reducible refine (impl_IslandNumbers.calls k t638 _ _ t639 _ _ t642 t661 _ ?side1 ?side2 ?side3 ?side4 A12.out).mono ?_
 (case side1 => exact gC ((Kd.R_reads' HO641.out).2.2))
 (case side2 => exact (Kd.R_reads' HO641.out).2.1)
 (case side3 => exact gC ((Kd.R_reads' HO644.out).2.2))
 (case side4 => exact (Kd.R_reads' HO644.out).2.1)
 rintro e w36 ⟨v662, rfl, ho0, hb⟩
 refine ⟨_, rfl, ?_⟩
 have n0_ := aM (Kd.R_below (gR (HO641.out)) hb)
 have n1_ := aM (Kd.R_below (gR (HO644.out)) hb)
 have n2_ := aM (Kd.R_elder' (gR (HO648.out)) (Kd.R_base ho0) hb)
 have n3_ := aM (Kd.R_elder' (gR (HO651.out)) (Kd.R_base ho0) hb)
 have n4_ := aM (Kd.R_below (gR (HO657.out)) hb)
 have n5_ := aM (Kd.R_elder' (gR (HO660.out)) (Kd.R_base ho0) hb)
 have n6_ := aM (Kd.R_lower (Kd.R_new' (Kd.R_new' (Kd.R_new' ho0 (Kd.R_lt (gR (HO648.out)))) (Kd.R_lt (gR (HO651.out)))) (Kd.R_lt (gR (HO660.out)))) (below_size (bl1 HB GE645)))
 have n7_ := aM (blk_below (g := gb645) (o := .cells #[.int .i64 t638, .slice Ao23 t639.length co23] 25 (0, 0)) (gB (BK645.out)) hb)
 have n8_ := aM (below_step (bl1 HB GE645) hb)
 clear HO641
 clear HO644
 clear HO648
 clear HO651
 clear HO657
 clear HO660
 clear BK645
 clear HB
 have HO641 := n0_
 have HO644 := n1_
 have HO648 := n2_
 have HO651 := n3_
 have HO657 := n4_
 have HO660 := n5_
 have HO663 := n6_
 have BK645 := n7_
 have HB := n8_
 clear n0_ n1_ n2_ n3_ n4_ n5_ n6_ n7_ n8_
 (try clear hb)
 (try clear hb2)
 (try clear hk)
 (try clear hi)
 (try clear ho0)
 obtain ⟨Ao37, co37, eo37⟩ := Kd.R_slice HO660.out
 (first | subst eo37 | (injection eo37 with f1_ f2_ f3_; have f4_ := f1_.symm; have f5_ := f3_.symm; clear f1_ f2_ f3_; subst f4_; subst f5_))
 obtain ⟨Ao38, co38, eo38⟩ := Kd.R_slice HO663.out
 (first | subst eo38 | (injection eo38 with f1_ f2_ f3_; have f4_ := f1_.symm; have f5_ := f3_.symm; clear f1_ f2_ f3_; subst f4_; subst f5_))
 refine hK.out _ _ ⟨(blk_cell BK645.out 0).trans rfl, (blk_cell BK645.out 1).trans rfl⟩ (fun hHeld => ?_)
 clear hK K
 refine norm_ (a' := ?_) ?_ ?_
 rotate_left
 ·
  show Act.put _ (some 43) _ = _
  simp only [Act.put, List.setIfInBounds_toArray, List.set_cons_zero, List.set_cons_succ, i64_w, i32_w]
  rfl
 refine one_ (i := 6) (N := some 44) #[oo,oo,oo,oo,oo,oo,oo,zz,zz,zz,zz,zz,zz,zz,zz,zz,zz,zz,zz,zz,zz,zz,zz,zz,zz,zz,zz,zz,zz] rfl rfl (one_of HT_.out (by kernel_rfl)) (by decide) (fun K hK => ?_)
 refine goes_ Tryd.func22 (by kernel_rfl) rfl #[.slice Ao37 t658.length co37, .slice Ao38 t661.length co38] (by rfl) rfl rfl mP ?_
 with_reducible refine (laws_sameInts.calls k _ _ t658 _ _ t661 true _ ?side1 ?side2 ?side3 ?side4 A13.out).mono ?_
 (case side1 => exact gC ((Kd.R_reads' HO660.out).2.2))
 (case side2 => exact (Kd.R_reads' HO660.out).2.1)
 (case side3 => exact gC ((Kd.R_reads' HO663.out).2.2))
 (case side4 => exact (Kd.R_reads' HO663.out).2.1)
 rintro e w' ⟨rfl, ⟨nd, rfl⟩⟩
 refine ⟨_, rfl, ?_⟩
 refine hK.out _ _ ⟨(blk_cell BK645.out 0).trans rfl, (blk_cell BK645.out 1).trans rfl⟩ (fun hHeld => ?_)
 clear hK K
 refine norm_ (a' := ?_) ?_ ?_
 rotate_left
 ·
  show Act.put _ (some 44) _ = _
  simp only [Act.put, List.setIfInBounds_toArray, List.set_cons_zero, List.set_cons_succ, i64_w, i32_w]
  rfl
 refine pure_ (i := 7) (N := some 45) (v := ?_) (a' := ?_) #[oo,oo,oo,oo,oo,oo,oo,oo,zz,zz,zz,zz,zz,zz,zz,zz,zz,zz,zz,zz,zz,zz,zz,zz,zz,zz,zz,zz,zz] rfl rfl (any_of HT_.out (by kernel_rfl)) (fun _ _ _ h => h) (Or.inl ⟨by rfl, ?_⟩) ?_ ?_
 rotate_left
 ·
  intro w'
  go_simp
  with_reducible rfl
 rotate_left
 ·
  simp only [Act.put, List.setIfInBounds_toArray, List.set_cons_zero, List.set_cons_succ, i64_w, i32_w]
  rfl
 refine pure_ (i := 9) (N := some 47) (v := ?_) (a' := ?_) #[oo,oo,oo,oo,oo,oo,oo,oo,zz,oo,zz,zz,zz,zz,zz,zz,zz,zz,zz,zz,zz,zz,zz,zz,zz,zz,zz,zz,zz] rfl rfl (any_of HT_.out (by kernel_rfl)) (fun _ _ _ h => h) (Or.inl ⟨by rfl, ?_⟩) ?_ ?_
 rotate_left
 ·
  intro w'
  go_simp
  with_reducible rfl
 rotate_left
 ·
  simp only [Act.put, List.setIfInBounds_toArray, List.set_cons_zero, List.set_cons_succ, i64_w, i32_w]
  rfl
 refine take_ (i := 8) (N := some 46) (v := ?_) (a' := ?_) #[oo,oo,oo,oo,oo,oo,oo,oo,oo,oo,zz,zz,zz,zz,zz,zz,zz,zz,zz,zz,zz,zz,zz,zz,zz,zz,zz,zz,zz] rfl rfl (take_ofW HT_.out HW_.out (by kernel_rfl)) (fun _ _ _ h => h) (Or.inl ⟨by rfl, ?_⟩) hHeld ?_ ?_
 rotate_left
 ·
  rintro w' ⟨s0, s1⟩
  go_simp
  with_reducible rfl
 rotate_left
 ·
  simp only [Act.put, List.setIfInBounds_toArray, List.set_cons_zero, List.set_cons_succ, i64_w, i32_w]
  rfl
 refine one_ (i := 10) (N := some 48) #[oo,oo,oo,oo,oo,oo,oo,oo,oo,oo,oo,zz,zz,zz,zz,zz,zz,zz,zz,zz,zz,zz,zz,zz,zz,zz,zz,zz,zz] rfl rfl (one_of HT_.out (by kernel_rfl)) (by decide) (fun K hK => ?_)
 refine goes_ Tryd.func36 (by kernel_rfl) rfl #[.agg #[.int .i64 t638, .slice Ao23 t639.length co23], .slice Ao34 t655.length co34] (by rfl) rfl rfl mP ?_
 with_reducible refine (impl_HasCycle.calls k t638 _ _ t639 _ _ t655 false _ ?side1 ?side2 ?side3 ?side4 A15.out).mono ?_
 (case side1 => exact gC ((Kd.R_reads' HO641.out).2.2))
 (case side2 => exact (Kd.R_reads' HO641.out).2.1)
 (case side3 => exact gC ((Kd.R_reads' HO657.out).2.2))
 (case side4 => exact (Kd.R_reads' HO657.out).2.1)
 rintro e w39 ⟨rfl, hb⟩
 refine ⟨_, rfl, ?_⟩
 have n0_ := aM (Kd.R_below (gR (HO641.out)) hb)
 have n1_ := aM (Kd.R_below (gR (HO644.out)) hb)
 have n2_ := aM (Kd.R_below (gR (HO648.out)) hb)
 have n3_ := aM (Kd.R_below (gR (HO651.out)) hb)
 have n4_ := aM (Kd.R_below (gR (HO657.out)) hb)
 have n5_ := aM (Kd.R_below (gR (HO660.out)) hb)
 have n6_ := aM (Kd.R_below (gR (HO663.out)) hb)
 have n7_ := aM (blk_below (g := gb645) (o := .cells #[.int .i64 t638, .slice Ao23 t639.length co23] 25 (0, 0)) (gB (BK645.out)) hb)
 have n8_ := aM (below_step (bl1 HB GE645) hb)
 clear HO641
 clear HO644
 clear HO648
 clear HO651
 clear HO657
 clear HO660
 clear HO663
 clear BK645
 clear HB
 have HO641 := n0_
 have HO644 := n1_
 have HO648 := n2_
 have HO651 := n3_
 have HO657 := n4_
 have HO660 := n5_
 have HO663 := n6_
 have BK645 := n7_
 have HB := n8_
 clear n0_ n1_ n2_ n3_ n4_ n5_ n6_ n7_ n8_
 (try clear hb)
 (try clear hb2)
 (try clear hk)
 (try clear hi)
 refine hK.out _ _ ⟨(blk_cell BK645.out 0).trans rfl, (blk_cell BK645.out 1).trans rfl⟩ (fun hHeld => ?_)
 clear hK K
 refine norm_ (a' := ?_) ?_ ?_
 rotate_left
 ·
  show Act.put _ (some 48) _ = _
  simp only [Act.put, List.setIfInBounds_toArray, List.set_cons_zero, List.set_cons_succ, i64_w, i32_w]
  rfl
 refine pure_ (i := 11) (N := some 49) (v := ?_) (a' := ?_) #[oo,oo,oo,oo,oo,oo,oo,oo,oo,oo,oo,oo,zz,zz,zz,zz,zz,zz,zz,zz,zz,zz,zz,zz,zz,zz,zz,zz,zz] rfl rfl (any_of HT_.out (by kernel_rfl)) (fun _ _ _ h => h) (Or.inl ⟨by rfl, ?_⟩) ?_ ?_
 rotate_left
 ·
  intro w'
  go_simp
  with_reducible rfl
 rotate_left
 ·
  simp only [Act.put, List.setIfInBounds_toArray, List.set_cons_zero, List.set_cons_succ, i64_w, i32_w]
  rfl
 refine pure_ (i := 12) (N := some 50) (v := ?_) (a' := ?_) #[oo,oo,oo,oo,oo,oo,oo,oo,oo,oo,oo,oo,oo,zz,zz,zz,zz,zz,zz,zz,zz,zz,zz,zz,zz,zz,zz,zz,zz] rfl rfl (any_of HT_.out (by kernel_rfl)) (fun _ _ _ h => h) (Or.inl ⟨by rfl, ?_⟩) ?_ ?_
 rotate_left
 ·
  intro w'
  go_simp
  with_reducible rfl
 rotate_left
 ·
  simp only [Act.put, List.setIfInBounds_toArray, List.set_cons_zero, List.set_cons_succ, i64_w, i32_w]
  rfl
 refine pure_ (i := 13) (N := some 51) (v := ?_) (a' := ?_) #[oo,oo,oo,oo,oo,oo,oo,oo,oo,oo,oo,oo,oo,oo,zz,zz,zz,zz,zz,zz,zz,zz,zz,zz,zz,zz,zz,zz,zz] rfl rfl (any_of HT_.out (by kernel_rfl)) (fun _ _ _ h => h) (Or.inl ⟨by rfl, ?_⟩) ?_ ?_
 rotate_left
 ·
  intro w'
  go_simp
  with_reducible rfl
 rotate_left
 ·
  simp only [Act.put, List.setIfInBounds_toArray, List.set_cons_zero, List.set_cons_succ, i64_w, i32_w]
  rfl
 refine pure_ (i := 14) (N := some 52) (v := ?_) (a' := ?_) #[oo,oo,oo,oo,oo,oo,oo,oo,oo,oo,oo,oo,oo,oo,oo,zz,zz,zz,zz,zz,zz,zz,zz,zz,zz,zz,zz,zz,zz] rfl rfl (any_of HT_.out (by kernel_rfl)) (fun _ _ _ h => h) (Or.inl ⟨by rfl, ?_⟩) ?_ ?_
 rotate_left
 ·
  intro w'
  go_simp
  with_reducible rfl
 rotate_left
 ·
  simp only [Act.put, List.setIfInBounds_toArray, List.set_cons_zero, List.set_cons_succ, i64_w, i32_w]
  rfl
 refine pure_ (i := 15) (N := some 53) (v := ?_) (a' := ?_) #[oo,oo,oo,oo,oo,oo,oo,oo,oo,oo,oo,oo,oo,oo,oo,oo,zz,zz,zz,zz,zz,zz,zz,zz,zz,zz,zz,zz,zz] rfl rfl (any_of HT_.out (by kernel_rfl)) (fun _ _ _ h => h) (Or.inl ⟨by rfl, ?_⟩) ?_ ?_
 rotate_left
 ·
  intro w'
  go_simp
  with_reducible rfl
 rotate_left
 ·
  simp only [Act.put, List.setIfInBounds_toArray, List.set_cons_zero, List.set_cons_succ, i64_w, i32_w]
  rfl
 refine pure_ (i := 16) (N := some 54) (v := ?_) (a' := ?_) #[oo,oo,oo,oo,oo,oo,oo,oo,oo,oo,oo,oo,oo,oo,oo,oo,oo,zz,zz,zz,zz,zz,zz,zz,zz,zz,zz,zz,zz] rfl rfl (any_of HT_.out (by kernel_rfl)) (fun _ _ _ h => h) (Or.inl ⟨by rfl, ?_⟩) ?_ ?_
 rotate_left
 ·
  intro w'
  go_simp
  with_reducible rfl
 rotate_left
 ·
  simp only [Act.put, List.setIfInBounds_toArray, List.set_cons_zero, List.set_cons_succ, i64_w, i32_w]
  rfl
 refine pure_ (i := 19) (N := some 57) (v := ?_) (a' := ?_) #[oo,oo,oo,oo,oo,oo,oo,oo,oo,oo,oo,oo,oo,oo,oo,oo,oo,zz,zz,oo,zz,zz,zz,zz,zz,zz,zz,zz,zz] rfl rfl (any_of HT_.out (by kernel_rfl)) (fun _ _ _ h => h) (Or.inl ⟨by rfl, ?_⟩) ?_ ?_
 rotate_left
 ·
  intro w'
  go_simp
  with_reducible rfl
 rotate_left
 ·
  simp only [Act.put, List.setIfInBounds_toArray, List.set_cons_zero, List.set_cons_succ, i64_w, i32_w]
  rfl
 refine take_ (i := 17) (N := some 55) (v := ?_) (a' := ?_) #[oo,oo,oo,oo,oo,oo,oo,oo,oo,oo,oo,oo,oo,oo,oo,oo,oo,oo,zz,oo,zz,zz,zz,zz,zz,zz,zz,zz,zz] rfl rfl (take_ofW HT_.out HW_.out (by kernel_rfl)) (fun _ _ _ h => h) (Or.inl ⟨by rfl, ?_⟩) hHeld ?_ ?_
 rotate_left
 ·
  rintro w' ⟨s0, s1⟩
  go_simp
  with_reducible rfl
 rotate_left
 ·
  simp only [Act.put, List.setIfInBounds_toArray, List.set_cons_zero, List.set_cons_succ, i64_w, i32_w]
  rfl
 refine take_ (i := 18) (N := some 56) (v := ?_) (a' := ?_) #[oo,oo,oo,oo,oo,oo,oo,oo,oo,oo,oo,oo,oo,oo,oo,oo,oo,oo,oo,oo,zz,zz,zz,zz,zz,zz,zz,zz,zz] rfl rfl (take_ofW HT_.out HW_.out (by kernel_rfl)) (fun _ _ _ h => h) (Or.inl ⟨by rfl, ?_⟩) hHeld ?_ ?_
 rotate_left
 ·
  rintro w' ⟨s0, s1⟩
  go_simp
  with_reducible rfl
 rotate_left
 ·
  simp only [Act.put, List.setIfInBounds_toArray, List.set_cons_zero, List.set_cons_succ, i64_w, i32_w]
  rfl
 refine one_ (i := 20) (N := some 58) #[oo,oo,oo,oo,oo,oo,oo,oo,oo,oo,oo,oo,oo,oo,oo,oo,oo,oo,oo,oo,oo,zz,zz,zz,zz,zz,zz,zz,zz] rfl rfl (one_of HT_.out (by kernel_rfl)) (by decide) (fun K hK => ?_)
 refine goes_ Tryd.func37 (by kernel_rfl) rfl #[.agg #[.int .i64 t638, .slice Ao23 t639.length co23], .slice Ao24 t642.length co24] (by rfl) rfl rfl mP ?_
 with_reducible refine (laws_islands.calls k t638 _ _ t639 _ _ t642 t666 _ ?side1 ?side2 ?side3 ?side4 A17.out).mono ?_
 (case side1 => exact gC ((Kd.R_reads' HO641.out).2.2))
 (case side2 => exact (Kd.R_reads' HO641.out).2.1)
 (case side3 => exact gC ((Kd.R_reads' HO644.out).2.2))
 (case side4 => exact (Kd.R_reads' HO644.out).2.1)
 rintro e w40 ⟨rfl, hb⟩
 refine ⟨_, rfl, ?_⟩
 have n0_ := aM (Kd.R_below (gR (HO641.out)) hb)
 have n1_ := aM (Kd.R_below (gR (HO644.out)) hb)
 have n2_ := aM (Kd.R_below (gR (HO648.out)) hb)
 have n3_ := aM (Kd.R_below (gR (HO651.out)) hb)
 have n4_ := aM (Kd.R_below (gR (HO657.out)) hb)
 have n5_ := aM (Kd.R_below (gR (HO660.out)) hb)
 have n6_ := aM (Kd.R_below (gR (HO663.out)) hb)
 have n7_ := aM (blk_below (g := gb645) (o := .cells #[.int .i64 t638, .slice Ao23 t639.length co23] 25 (0, 0)) (gB (BK645.out)) hb)
 have n8_ := aM (below_step (bl1 HB GE645) hb)
 clear HO641
 clear HO644
 clear HO648
 clear HO651
 clear HO657
 clear HO660
 clear HO663
 clear BK645
 clear HB
 have HO641 := n0_
 have HO644 := n1_
 have HO648 := n2_
 have HO651 := n3_
 have HO657 := n4_
 have HO660 := n5_
 have HO663 := n6_
 have BK645 := n7_
 have HB := n8_
 clear n0_ n1_ n2_ n3_ n4_ n5_ n6_ n7_ n8_
 (try clear hb)
 (try clear hb2)
 (try clear hk)
 (try clear hi)
 refine hK.out _ _ ⟨(blk_cell BK645.out 0).trans rfl, (blk_cell BK645.out 1).trans rfl⟩ (fun hHeld => ?_)
 clear hK K
 refine norm_ (a' := ?_) ?_ ?_
 rotate_left
 ·
  show Act.put _ (some 58) _ = _
  simp only [Act.put, List.setIfInBounds_toArray, List.set_cons_zero, List.set_cons_succ, i64_w, i32_w]
  rfl
 refine pure_ (i := 21) (N := some 59) (v := ?_) (a' := ?_) #[oo,oo,oo,oo,oo,oo,oo,oo,oo,oo,oo,oo,oo,oo,oo,oo,oo,oo,oo,oo,oo,oo,zz,zz,zz,zz,zz,zz,zz] rfl rfl (any_of HT_.out (by kernel_rfl)) (fun _ _ _ h => h) (Or.inl ⟨by rfl, ?_⟩) ?_ ?_
 rotate_left
 ·
  intro w'
  go_simp
  with_reducible rfl
 rotate_left
 ·
  simp only [Act.put, List.setIfInBounds_toArray, List.set_cons_zero, List.set_cons_succ, i64_w, i32_w]
  rfl
 refine pure_ (i := 22) (N := some 60) (v := ?_) (a' := ?_) #[oo,oo,oo,oo,oo,oo,oo,oo,oo,oo,oo,oo,oo,oo,oo,oo,oo,oo,oo,oo,oo,oo,oo,zz,zz,zz,zz,zz,zz] rfl rfl (any_of HT_.out (by kernel_rfl)) (fun _ _ _ h => h) (Or.inl ⟨by rfl, ?_⟩) ?_ ?_
 rotate_left
 ·
  intro w'
  go_simp
  with_reducible rfl
 rotate_left
 ·
  simp only [Act.put, List.setIfInBounds_toArray, List.set_cons_zero, List.set_cons_succ, i64_w, i32_w]
  rfl
 refine pure_ (i := 23) (N := some 61) (v := ?_) (a' := ?_) #[oo,oo,oo,oo,oo,oo,oo,oo,oo,oo,oo,oo,oo,oo,oo,oo,oo,oo,oo,oo,oo,oo,oo,oo,zz,zz,zz,zz,zz] rfl rfl (any_of HT_.out (by kernel_rfl)) (fun _ _ _ h => h) (Or.inl ⟨by rfl, ?_⟩) ?_ ?_
 rotate_left
 ·
  intro w'
  go_simp
  with_reducible rfl
 rotate_left
 ·
  simp only [Act.put, List.setIfInBounds_toArray, List.set_cons_zero, List.set_cons_succ, i64_w, i32_w]
  rfl
 refine pure_ (i := 24) (N := some 62) (v := ?_) (a' := ?_) #[oo,oo,oo,oo,oo,oo,oo,oo,oo,oo,oo,oo,oo,oo,oo,oo,oo,oo,oo,oo,oo,oo,oo,oo,oo,zz,zz,zz,zz] rfl rfl (any_of HT_.out (by kernel_rfl)) (fun _ _ _ h => h) (Or.inl ⟨by rfl, ?_⟩) ?_ ?_
 rotate_left
 ·
  intro w'
  go_simp
  with_reducible rfl
 rotate_left
 ·
  simp only [Act.put, List.setIfInBounds_toArray, List.set_cons_zero, List.set_cons_succ, i64_w, i32_w]
  rfl
 refine pure_ (i := 25) (N := some 63) (v := ?_) (a' := ?_) #[oo,oo,oo,oo,oo,oo,oo,oo,oo,oo,oo,oo,oo,oo,oo,oo,oo,oo,oo,oo,oo,oo,oo,oo,oo,oo,zz,zz,zz] rfl rfl (any_of HT_.out (by kernel_rfl)) (fun _ _ _ h => h) (Or.inl ⟨by rfl, ?_⟩) ?_ ?_
 rotate_left
 ·
  intro w'
  go_simp
  with_reducible rfl
 rotate_left
 ·
  simp only [Act.put, List.setIfInBounds_toArray, List.set_cons_zero, List.set_cons_succ, i64_w, i32_w]
  rfl
 refine one_ (i := 26) (N := some 64) #[oo,oo,oo,oo,oo,oo,oo,oo,oo,oo,oo,oo,oo,oo,oo,oo,oo,oo,oo,oo,oo,oo,oo,oo,oo,oo,oo,zz,zz] rfl rfl (one_of HT_.out (by kernel_rfl)) (by decide) (fun K hK => ?_)
 refine goes_ Tryd.func26 (by kernel_rfl) rfl #[.slice Ao28 t646.length co28] (by rfl) rfl rfl mP ?_
 with_reducible refine (laws_ascend.calls k _ _ t646 t667 _ ?side1 ?side2 A19.out).mono ?_
 (case side1 => exact gC ((Kd.R_reads' HO648.out).2.2))
 (case side2 => exact (Kd.R_reads' HO648.out).2.1)
 rintro e w' ⟨rfl, ⟨nd, rfl⟩⟩
 refine ⟨_, rfl, ?_⟩
 refine hK.out _ _ ⟨(blk_cell BK645.out 0).trans rfl, (blk_cell BK645.out 1).trans rfl⟩ (fun hHeld => ?_)
 clear hK K
 refine norm_ (a' := ?_) ?_ ?_
 rotate_left
 ·
  show Act.put _ (some 64) _ = _
  simp only [Act.put, List.setIfInBounds_toArray, List.set_cons_zero, List.set_cons_succ, i64_w, i32_w]
  rfl
 refine pure_ (i := 27) (N := some 65) (v := ?_) (a' := ?_) #[oo,oo,oo,oo,oo,oo,oo,oo,oo,oo,oo,oo,oo,oo,oo,oo,oo,oo,oo,oo,oo,oo,oo,oo,oo,oo,oo,oo,zz] rfl rfl (any_of HT_.out (by kernel_rfl)) (fun _ _ _ h => h) (Or.inl ⟨by rfl, ?_⟩) ?_ ?_
 rotate_left
 ·
  intro w'
  go_simp
  with_reducible rfl
 rotate_left
 ·
  simp only [Act.put, List.setIfInBounds_toArray, List.set_cons_zero, List.set_cons_succ, i64_w, i32_w]
  rfl
 refine pure_ (i := 28) (N := some 2) (v := ?_) (a' := ?_) #[oo,oo,oo,oo,oo,oo,oo,oo,oo,oo,oo,oo,oo,oo,oo,oo,oo,oo,oo,oo,oo,oo,oo,oo,oo,oo,oo,oo,oo] rfl rfl (any_of HT_.out (by kernel_rfl)) (fun _ _ _ h => h) (Or.inl ⟨by rfl, ?_⟩) ?_ ?_
 rotate_left
 ·
  intro w'
  go_simp
  with_reducible rfl
 rotate_left
 ·
  simp only [Act.put, List.setIfInBounds_toArray, List.set_cons_zero, List.set_cons_succ, i64_w, i32_w]
  rfl
 refine done_ (done_of HT_.out (by kernel_rfl)) ?_
 try go_wp2
 go_ret
 exact ⟨fR, bl1 HB GE645⟩

end Go.Proofs.YtpgjgbjkfgbpaaaDoor.P

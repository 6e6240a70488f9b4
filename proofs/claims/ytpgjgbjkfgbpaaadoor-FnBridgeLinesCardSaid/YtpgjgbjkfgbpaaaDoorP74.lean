/- Contracts of Go functions of this seat's translation, written by this repo's wip/mk.py: it calls the kit's print.py with contracts typed by hand in place of functions that it does not take. Not trusted: Lean checks it. -/
import Derived.Test.YtpgjgbjkfgbpaaaDoorP0
import Derived.Test.YtpgjgbjkfgbpaaaDoorP27
import Derived.Test.YtpgjgbjkfgbpaaaDoorP39
import Derived.Test.YtpgjgbjkfgbpaaaDoorP44
import Derived.Test.YtpgjgbjkfgbpaaaDoorP49
import Derived.Test.YtpgjgbjkfgbpaaaDoorP62
import Derived.Test.YtpgjgbjkfgbpaaaDoorP68
import Derived.Test.YtpgjgbjkfgbpaaaDoorP72
import Derived.Test.YtpgjgbjkfgbpaaaDoorP73
namespace Go.Proofs.YtpgjgbjkfgbpaaaDoor.P
open Go.RowKit Go.Proofs.YtpgjgbjkfgbpaaaDoorW.PrintWords Go.Proofs.YtpgjgbjkfgbpaaaDoorW.PrintLast Go.Proofs.YtpgjgbjkfgbpaaaDoorW.PrintMore
attribute [local go_sem] max2_int min2_int max_two min_two max_three min_three max_four min_four   -- for this text's walks alone
set_option linter.unusedVariables false
set_option linter.unusedSimpArgs false

/-! ### laws_FnBridgeLines: function 7 -/
def laws_FnBridgeLines.l0 : Nat → List Bool → List Int → Int → Int → List (S79) → Option (Bool)
 | 0, _, _, _, _, _ => none
 | k + 1, x4, x5, x6, x702000, x702001 => if x6 < (x5.length : Int) then (if 0 ≤ x6 then ((laws_offOn.f k x702000 x702001 x4 (rd x5 x6)).bind fun bt716 => ((laws_islands.f k x702000 x702001 bt716.1).bind fun t722 => ((laws_islands.f k x702000 x702001 bt716.2).bind fun t723 => (if t722 = (wrap64 (t723 + 1)) then (laws_FnBridgeLines.l0 k x4 x5 (wrap64 (x6 + 1)) x702000 x702001) else (none))))) else (none)) else ((impl_CycleLines.f k x702000 x702001 x4).bind fun t711 => ((laws_count.f k x4).bind fun t714 => (some ((wrap64 ((x5.length : Int) + (t711.length : Int))) == t714))))
def laws_FnBridgeLines.f (k : Nat) (l0 : List Int) : Option (Bool) := if (l0.length : Int) > 1048576 then (some true) else ((spec_DrawBridgeLines.f k l0).bind fun bt694 => ((impl_BridgeLines.f k bt694.1 bt694.2.1 bt694.2.2).bind fun t702 => ((spec_BridgeLines.f k bt694.1 bt694.2.1 bt694.2.2).bind fun t705 => ((laws_sameInts.f k t702 t705).bind fun t708 => (if t708 = true then ((spec_StateValid.f k bt694.1 bt694.2.1 bt694.2.2).bind fun t709 => (if t709 = true then (laws_FnBridgeLines.l0 k bt694.2.2 t702 0 bt694.1 bt694.2.1) else (if (t702.length : Int) = 0 then ((laws_alive.f k).bind fun t710 => (some t710)) else (none)))) else (none))))))
theorem laws_FnBridgeLines.mono_l : ∀ k, (∀ y0 y1 y2 y3 y4, LeO (laws_FnBridgeLines.l0 k y0 y1 y2 y3 y4) (laws_FnBridgeLines.l0 (k + 1) y0 y1 y2 y3 y4))
 | 0 => fun _ _ _ _ _ r h => by simp [laws_FnBridgeLines.l0] at h
 | k + 1 => by
  have ih0 := laws_FnBridgeLines.mono_l k
  ·
   intro y0 y1 y2 y3 y4
   unfold laws_FnBridgeLines.l0
   repeat' first
   | (with_reducible exact ih0 _ _ _ _ _)
   | (with_reducible exact impl_BridgeLines.mono _ _ _ _)
   | (with_reducible exact impl_CycleLines.mono _ _ _ _)
   | (with_reducible exact laws_alive.mono _)
   | (with_reducible exact laws_count.mono _ _)
   | (with_reducible exact laws_islands.mono _ _ _ _)
   | (with_reducible exact laws_offOn.mono _ _ _ _ _)
   | (with_reducible exact laws_sameInts.mono _ _ _)
   | (with_reducible exact spec_BridgeLines.mono _ _ _ _)
   | (with_reducible exact spec_DrawBridgeLines.mono _ _)
   | (with_reducible exact spec_StateValid.mono _ _ _ _)
   | (with_reducible exact LeO.refl _)
   | (with_reducible exact LeO.none _)
   | (with_reducible refine LeO.ite ?_ ?_)
   | (with_reducible refine LeO.bind ?_ (fun _ => ?_))
   | exact ih0 _ _ _ _ _
   | exact impl_BridgeLines.mono _ _ _ _
   | exact impl_CycleLines.mono _ _ _ _
   | exact laws_alive.mono _
   | exact laws_count.mono _ _
   | exact laws_islands.mono _ _ _ _
   | exact laws_offOn.mono _ _ _ _ _
   | exact laws_sameInts.mono _ _ _
   | exact spec_BridgeLines.mono _ _ _ _
   | exact spec_DrawBridgeLines.mono _ _
   | exact spec_StateValid.mono _ _ _ _
   | exact LeO.none _
   | refine LeO.ite ?_ ?_
   | refine LeO.bind ?_ (fun _ => ?_)
theorem laws_FnBridgeLines.mono : ∀ a0 k, LeO (laws_FnBridgeLines.f k a0) (laws_FnBridgeLines.f (k + 1) a0) := by
 intro a0 k
 have ih0 := laws_FnBridgeLines.mono_l k
 unfold laws_FnBridgeLines.f
 repeat' first
   | (with_reducible exact ih0 _ _ _ _ _)
   | (with_reducible exact impl_BridgeLines.mono _ _ _ _)
   | (with_reducible exact impl_CycleLines.mono _ _ _ _)
   | (with_reducible exact laws_alive.mono _)
   | (with_reducible exact laws_count.mono _ _)
   | (with_reducible exact laws_islands.mono _ _ _ _)
   | (with_reducible exact laws_offOn.mono _ _ _ _ _)
   | (with_reducible exact laws_sameInts.mono _ _ _)
   | (with_reducible exact spec_BridgeLines.mono _ _ _ _)
   | (with_reducible exact spec_DrawBridgeLines.mono _ _)
   | (with_reducible exact spec_StateValid.mono _ _ _ _)
   | (with_reducible exact LeO.refl _)
   | (with_reducible exact LeO.none _)
   | (with_reducible refine LeO.ite ?_ ?_)
   | (with_reducible refine LeO.bind ?_ (fun _ => ?_))
   | exact ih0 _ _ _ _ _
   | exact impl_BridgeLines.mono _ _ _ _
   | exact impl_CycleLines.mono _ _ _ _
   | exact laws_alive.mono _
   | exact laws_count.mono _ _
   | exact laws_islands.mono _ _ _ _
   | exact laws_offOn.mono _ _ _ _ _
   | exact laws_sameInts.mono _ _ _
   | exact spec_BridgeLines.mono _ _ _ _
   | exact spec_DrawBridgeLines.mono _ _
   | exact spec_StateValid.mono _ _ _ _
   | exact LeO.none _
   | refine LeO.ite ?_ ?_
   | refine LeO.bind ?_ (fun _ => ?_)
def laws_FnBridgeLines.T12 : Bool × List (List Nat × List Nat) := (true, [([], []), ([], []), ([], []), ([], []), ([2, 3], [2, 3]), ([4], [4]), ([0, 1, 5], [0, 1, 5]), ([6], [6]), ([7], [7]), ([7], [7]), ([8, 6, 0, 1, 2, 3, 4, 5, 6, 7, 8], [8]), ([9, 10, 0, 1, 2, 3, 4, 5, 6, 7, 8, 9, 10], [9])])
def laws_FnBridgeLines.B12 : List Nat := [0, 0, 0, 0, 12, 28, 63, 127, 255, 255, 511, 2047]
theorem laws_FnBridgeLines.tab12 : rtab .any (opsOf Tryd.f7 12) = laws_FnBridgeLines.T12 := by kernel_rfl
theorem laws_FnBridgeLines.bits12 : waitsOk laws_FnBridgeLines.T12.2 laws_FnBridgeLines.B12 = true := by kernel_rfl
def laws_FnBridgeLines.T13 : Bool × List (List Nat × List Nat) := (true, [([], []), ([], []), ([0, 1], [0, 1]), ([], []), ([], []), ([3, 4, 2], [3, 4]), ([5], [5]), ([2, 6], [2, 6])])
def laws_FnBridgeLines.B13 : List Nat := [0, 0, 3, 0, 0, 31, 63, 127]
theorem laws_FnBridgeLines.tab13 : rtab .any (opsOf Tryd.f7 13) = laws_FnBridgeLines.T13 := by kernel_rfl
theorem laws_FnBridgeLines.bits13 : waitsOk laws_FnBridgeLines.T13.2 laws_FnBridgeLines.B13 = true := by kernel_rfl
set_option maxHeartbeats 8000000 in
set_option maxRecDepth 100000 in
theorem laws_FnBridgeLines.calls (k : Nat) (A0 : Option Addr) (c0 : Nat) (l0 : List Int) (r : Bool) (w : World) (hr0 : Kd.C (Kd.int .u8) w A0 l0.length l0) (hc0 : l0.length ≤ c0) (h : laws_FnBridgeLines.f k l0 = some r) :
  Calls Tryd.prog 7 #[.slice A0 l0.length c0] w fun e w' => e = .returned (.bool r) ∧ Below w.heap.size w w' := by
 have hu25 := Tryd.underlying25
 have HR0 := Aside0.mk hr0
 have HC0 := Aside0.mk hc0
 clear hr0 hc0
 have HB := aM (Below.refl w.heap.size w)
 have H : (if (l0.length : Int) > 1048576 then (some true) else ((spec_DrawBridgeLines.f k l0).bind fun bt694 => ((impl_BridgeLines.f k bt694.1 bt694.2.1 bt694.2.2).bind fun t702 => ((spec_BridgeLines.f k bt694.1 bt694.2.1 bt694.2.2).bind fun t705 => ((laws_sameInts.f k t702 t705).bind fun t708 => (if t708 = true then ((spec_StateValid.f k bt694.1 bt694.2.1 bt694.2.2).bind fun t709 => (if t709 = true then (laws_FnBridgeLines.l0 k bt694.2.2 t702 0 bt694.1 bt694.2.1) else (if (t702.length : Int) = 0 then ((laws_alive.f k).bind fun t710 => (some t710)) else (none)))) else (none))))))) = some r := h
 clear h
 by_cases c2 : (l0.length : Int) > 1048576
 ·
  rw [if_pos c2] at H
  have c2b0 : decide (1048576 < (l0.length : Int)) = true := decide_eq_true c2
  have c2b1 : decide (1048576 < l0.length) = true := decide_eq_true (by omega)
  clear c2
  obtain rfl := Option.some.inj H
  go_enter Tryd.func7, Tryd.ntmps7
  go_wp2
  go_ret
  exact ⟨fR, bl0 HB⟩
 rw [if_neg c2] at H
 have c2b0 : decide (1048576 < (l0.length : Int)) = false := decide_eq_false c2
 have c2b1 : decide (1048576 < l0.length) = false := decide_eq_false (by omega)
 clear c2
 replace H := Option.bind_eq_some_iff.mp H
 obtain ⟨⟨t694, t695, t698⟩, A30, H⟩ := H
 replace H : ((impl_BridgeLines.f k t694 t695 t698).bind fun t702 => ((spec_BridgeLines.f k t694 t695 t698).bind fun t705 => ((laws_sameInts.f k t702 t705).bind fun t708 => (if t708 = true then ((spec_StateValid.f k t694 t695 t698).bind fun t709 => (if t709 = true then (laws_FnBridgeLines.l0 k t698 t702 0 t694 t695) else (if (t702.length : Int) = 0 then ((laws_alive.f k).bind fun t710 => (some t710)) else (none)))) else (none))))) = some r := H
 have A3 := Aside0.mk A30
 clear A30
 replace H := Option.bind_eq_some_iff.mp H
 obtain ⟨t702, A40, H⟩ := H
 replace H : ((spec_BridgeLines.f k t694 t695 t698).bind fun t705 => ((laws_sameInts.f k t702 t705).bind fun t708 => (if t708 = true then ((spec_StateValid.f k t694 t695 t698).bind fun t709 => (if t709 = true then (laws_FnBridgeLines.l0 k t698 t702 0 t694 t695) else (if (t702.length : Int) = 0 then ((laws_alive.f k).bind fun t710 => (some t710)) else (none)))) else (none)))) = some r := H
 have A4 := Aside0.mk A40
 clear A40
 replace H := Option.bind_eq_some_iff.mp H
 obtain ⟨t705, A50, H⟩ := H
 replace H : ((laws_sameInts.f k t702 t705).bind fun t708 => (if t708 = true then ((spec_StateValid.f k t694 t695 t698).bind fun t709 => (if t709 = true then (laws_FnBridgeLines.l0 k t698 t702 0 t694 t695) else (if (t702.length : Int) = 0 then ((laws_alive.f k).bind fun t710 => (some t710)) else (none)))) else (none))) = some r := H
 have A5 := Aside0.mk A50
 clear A50
 replace H := Option.bind_eq_some_iff.mp H
 obtain ⟨t708, A60, H⟩ := H
 replace H : (if t708 = true then ((spec_StateValid.f k t694 t695 t698).bind fun t709 => (if t709 = true then (laws_FnBridgeLines.l0 k t698 t702 0 t694 t695) else (if (t702.length : Int) = 0 then ((laws_alive.f k).bind fun t710 => (some t710)) else (none)))) else (none)) = some r := H
 have A6 := Aside0.mk A60
 clear A60
 by_cases c7 : t708 = true
 rotate_left
 ·
  replace c7 := Bool.eq_false_iff.mpr c7
  subst c7
  have H1 : (none) = some r := by rw [if_neg (show ¬ (false = true) by decide)] at H; exact H
  clear H
  have H := H1
  clear H1
  exact absurd H (by simp)
 subst c7
 have H1 : ((spec_StateValid.f k t694 t695 t698).bind fun t709 => (if t709 = true then (laws_FnBridgeLines.l0 k t698 t702 0 t694 t695) else (if (t702.length : Int) = 0 then ((laws_alive.f k).bind fun t710 => (some t710)) else (none)))) = some r := by rw [if_pos rfl] at H; exact H
 clear H
 have H := H1
 clear H1
 replace H := Option.bind_eq_some_iff.mp H
 obtain ⟨t709, A80, H⟩ := H
 replace H : (if t709 = true then (laws_FnBridgeLines.l0 k t698 t702 0 t694 t695) else (if (t702.length : Int) = 0 then ((laws_alive.f k).bind fun t710 => (some t710)) else (none))) = some r := H
 have A8 := Aside0.mk A80
 clear A80
 by_cases c9 : t709 = true
 rotate_left
 ·
  replace c9 := Bool.eq_false_iff.mpr c9
  subst c9
  have H1 : (if (t702.length : Int) = 0 then ((laws_alive.f k).bind fun t710 => (some t710)) else (none)) = some r := by rw [if_neg (show ¬ (false = true) by decide)] at H; exact H
  clear H
  have H := H1
  clear H1
  by_cases c40 : (t702.length : Int) = 0
  rotate_left
  ·
   rw [if_neg c40] at H
   exact absurd H (by simp)
  rw [if_pos c40] at H
  have c40b0 : ((t702.length : Int) == 0) = true := beq_iff_eq.mpr c40
  have c40b1 : ((t702.length : Int) != 0) = false := bne_eq_false_iff_eq.mpr c40
  clear c40
  replace H := Option.bind_eq_some_iff.mp H
  obtain ⟨t710, A410, H⟩ := H
  replace H : (some t710) = some r := H
  have A41 := Aside0.mk A410
  clear A410
  obtain rfl := Option.some.inj H
  go_enter Tryd.func7, Tryd.ntmps7
  go_wp2_with (first | ((with_reducible refine gate_callee (f := 38) rfl ?_); refine goesL_ (some 14) rfl rfl Tryd.func38 (by kernel_rfl) rfl #[.slice A0 l0.length c0] rfl mP ?_; (with_reducible refine (spec_DrawBridgeLines.calls k _ _ l0 t694 t695 t698 _ ?side1 ?side2 A3.out).mono ?_); (case side1 => exact gC (HR0.out)); (case side2 => exact HC0.out); rintro e w42 ⟨v696, v699, rfl, ho0, ho1, hb⟩; refine ⟨_, rfl, ?_⟩; have n0_ := aM (Kd.R_lower ho0 (below_size (bl0 HB))); have n1_ := aM (Kd.R_lower ho1 (below_size (bl0 HB))); have n2_ := aM (below_step (bl0 HB) hb); clear HB; have HO697 := n0_; have HO700 := n1_; have HB := n2_; clear n0_ n1_ n2_; (try clear hb); (try clear hb2); (try clear hk); (try clear hi); (try clear ho0); (try clear ho1)) | ((with_reducible refine gate_dst (N := 3) rfl ?_); refine box_event ?hg (N := 3) ?hd (cs := #[.int .i64 0, .slice none 0 0]) (t := 25) ?hr ?_; (case hd => rfl); (case hg => rfl); (case hr => exact hR); intro gb701 hg w43 hbox hb; have n0_ := aM (Kd.R_below (gR (HO697.out)) hb); have n1_ := aM (Kd.R_below (gR (HO700.out)) hb); have n2_ := aM (below_step (bl0 HB) hb); have n3_ := aM (hbox); have n4_ := aM ((by rw [hg]; exact (below_size (bl0 HB)) : w.heap.size ≤ gb701)); have n5_ := aM ((by rw [hg]; exact (below_size (bl0 HB)) : w.heap.size ≤ gb701)); clear HO697; clear HO700; clear HB; have HO697 := n0_; have HO700 := n1_; have HB := n2_; have BK701 := n3_; have GW701 := n4_; have GE701 := n5_; clear n0_ n1_ n2_ n3_ n4_ n5_; clear hb hbox hg; have hcz44_0 : w43.cell? ⟨gb701, 0, none⟩ = some (.int .i64 0) := (blk_cell BK701.out 0).trans rfl; have hcz44_1 : w43.cell? ⟨gb701, 1, none⟩ = some (.slice none 0 0) := (blk_cell BK701.out 1).trans rfl; have hfz44_0 := blk_frozen BK701.out 0; have hfz44_1 := blk_frozen BK701.out 1; obtain ⟨Ao45, co45, eo45⟩ := Kd.R_slice HO697.out; subst eo45; obtain ⟨Ao46, co46, eo46⟩ := Kd.R_slice HO700.out; subst eo46) | ((with_reducible refine gate_callee (f := 39) rfl ?_); refine goesL_ (some 19) rfl rfl Tryd.func39 (by kernel_rfl) rfl #[.agg #[.int .i64 t694, .slice Ao45 t695.length co45], .slice Ao46 t698.length co46] rfl mP ?_; (with_reducible refine (impl_BridgeLines.calls k t694 _ _ t695 _ _ t698 t702 _ ?side1 ?side2 ?side3 ?side4 A4.out).mono ?_); (case side1 => refine (Kd.R_reads' (e := 79) (base := w.heap.size) (ok := fun k_ => True) (n := t695.length) (c := co45) ?_).2.2; exact (by (with_reducible repeat (first | apply Kd.R_alloc | apply Kd.R_drewN | apply Kd.R_drew)); exact (Kd.R_mono (Kd.R_far (p := ⟨gb701, 1, none⟩) (Kd.R_far (p := ⟨gb701, 0, none⟩) (Kd.R_types HO697.out BK701.out (by decide)) (fun _ hk => hk.2) (.int .i64 t694)) (fun _ hk => hk.2) (.slice Ao45 t695.length co45)) (fun _ h_ => h_.1)))); (case side2 => exact (Kd.R_reads' HO697.out).2.1); (case side3 => refine (Kd.R_reads' (e := 4) (base := w.heap.size) (ok := fun k_ => True) (n := t698.length) (c := co46) ?_).2.2; exact (by (with_reducible repeat (first | apply Kd.R_alloc | apply Kd.R_drewN | apply Kd.R_drew)); exact (Kd.R_mono (Kd.R_far (p := ⟨gb701, 1, none⟩) (Kd.R_far (p := ⟨gb701, 0, none⟩) (Kd.R_types HO700.out BK701.out (by decide)) (fun _ hk => hk.2) (.int .i64 t694)) (fun _ hk => hk.2) (.slice Ao45 t695.length co45)) (fun _ h_ => h_.1)))); (case side4 => exact (Kd.R_reads' HO700.out).2.1); rintro e w47 ⟨v703, rfl, ho0, hb⟩; refine ⟨_, rfl, ?_⟩; have n0_ := aM (Kd.R_below (by (with_reducible repeat (first | apply Kd.R_alloc | apply Kd.R_drewN | apply Kd.R_drew)); exact (Kd.R_mono (Kd.R_far (p := ⟨gb701, 1, none⟩) (Kd.R_far (p := ⟨gb701, 0, none⟩) (Kd.R_types HO697.out BK701.out (by decide)) (fun _ hk => hk.2) (.int .i64 t694)) (fun _ hk => hk.2) (.slice Ao45 t695.length co45)) (fun _ h_ => h_.1))) hb); have n1_ := aM (Kd.R_below (by (with_reducible repeat (first | apply Kd.R_alloc | apply Kd.R_drewN | apply Kd.R_drew)); exact (Kd.R_mono (Kd.R_far (p := ⟨gb701, 1, none⟩) (Kd.R_far (p := ⟨gb701, 0, none⟩) (Kd.R_types HO700.out BK701.out (by decide)) (fun _ hk => hk.2) (.int .i64 t694)) (fun _ hk => hk.2) (.slice Ao45 t695.length co45)) (fun _ h_ => h_.1))) hb); have n2_ := aM (Kd.R_lower ho0 (below_size (bl1 HB GE701))); have n3_ := aM (blk_below (g := gb701) (o := .cells #[.int .i64 t694, .slice Ao45 t695.length co45] 25 (0, 0)) (by (with_reducible repeat (first | refine blk_drewN ?_ _ | refine blk_drew ?_ | refine blk_alloc ?_ _)); refine blk_put (cs := #[.int .i64 t694, .slice none 0 0]) ?_ 1 _ rfl; (with_reducible repeat (first | refine blk_drewN ?_ _ | refine blk_drew ?_ | refine blk_alloc ?_ _)); refine blk_put (cs := #[.int .i64 0, .slice none 0 0]) ?_ 0 _ rfl; (with_reducible repeat (first | refine blk_drewN ?_ _ | refine blk_drew ?_ | refine blk_alloc ?_ _)); exact BK701.out) hb); have n4_ := aM (below_step (bl1 HB GE701) hb); clear HO697; clear HO700; clear BK701; clear HB; have HO697 := n0_; have HO700 := n1_; have HO704 := n2_; have BK701 := n3_; have HB := n4_; clear n0_ n1_ n2_ n3_ n4_; (try clear hb); (try clear hb2); (try clear hk); (try clear hi); (try clear ho0); have hcz48_0 : w47.cell? ⟨gb701, 0, none⟩ = some (.int .i64 t694) := (blk_cell BK701.out 0).trans rfl; have hcz48_1 : w47.cell? ⟨gb701, 1, none⟩ = some (.slice Ao45 t695.length co45) := (blk_cell BK701.out 1).trans rfl; have hfz48_0 := blk_frozen BK701.out 0; have hfz48_1 := blk_frozen BK701.out 1) | ((with_reducible refine gate_callee (f := 40) rfl ?_); refine goesL_ (some 23) rfl rfl Tryd.func40 (by kernel_rfl) rfl #[.agg #[.int .i64 t694, .slice Ao45 t695.length co45], .slice Ao46 t698.length co46] rfl mP ?_; (with_reducible refine (spec_BridgeLines.calls k t694 _ _ t695 _ _ t698 t705 _ ?side1 ?side2 ?side3 ?side4 A5.out).mono ?_); (case side1 => exact gC ((Kd.R_reads' HO697.out).2.2)); (case side2 => exact (Kd.R_reads' HO697.out).2.1); (case side3 => exact gC ((Kd.R_reads' HO700.out).2.2)); (case side4 => exact (Kd.R_reads' HO700.out).2.1); rintro e w49 ⟨v706, rfl, ho0, hb⟩; refine ⟨_, rfl, ?_⟩; have n0_ := aM (Kd.R_below (gR (HO697.out)) hb); have n1_ := aM (Kd.R_below (gR (HO700.out)) hb); have n2_ := aM (Kd.R_elder' (gR (HO704.out)) (Kd.R_base ho0) hb); have n3_ := aM (Kd.R_lower (Kd.R_new' ho0 (Kd.R_lt (gR (HO704.out)))) (below_size (bl1 HB GE701))); have n4_ := aM (blk_below (g := gb701) (o := .cells #[.int .i64 t694, .slice Ao45 t695.length co45] 25 (0, 0)) (gB (BK701.out)) hb); have n5_ := aM (below_step (bl1 HB GE701) hb); clear HO697; clear HO700; clear HO704; clear BK701; clear HB; have HO697 := n0_; have HO700 := n1_; have HO704 := n2_; have HO707 := n3_; have BK701 := n4_; have HB := n5_; clear n0_ n1_ n2_ n3_ n4_ n5_; (try clear hb); (try clear hb2); (try clear hk); (try clear hi); (try clear ho0); obtain ⟨Ao50, co50, eo50⟩ := Kd.R_slice HO704.out; subst eo50; obtain ⟨Ao51, co51, eo51⟩ := Kd.R_slice HO707.out; subst eo51) | ((with_reducible refine gate_callee (f := 22) rfl ?_); refine goesL_ (some 24) rfl rfl Tryd.func22 (by kernel_rfl) rfl #[.slice Ao50 t702.length co50, .slice Ao51 t705.length co51] rfl mP ?_; (with_reducible refine (laws_sameInts.calls k _ _ t702 _ _ t705 true _ ?side1 ?side2 ?side3 ?side4 A6.out).mono ?_); (case side1 => exact gC ((Kd.R_reads' HO704.out).2.2)); (case side2 => exact (Kd.R_reads' HO704.out).2.1); (case side3 => exact gC ((Kd.R_reads' HO707.out).2.2)); (case side4 => exact (Kd.R_reads' HO707.out).2.1); rintro e w' ⟨rfl, ⟨nd, rfl⟩⟩; refine ⟨_, rfl, ?_⟩; have hcz52_0 : w49.cell? ⟨gb701, 0, none⟩ = some (.int .i64 t694) := (blk_cell BK701.out 0).trans rfl; have hcz52_1 : w49.cell? ⟨gb701, 1, none⟩ = some (.slice Ao45 t695.length co45) := (blk_cell BK701.out 1).trans rfl; have hfz52_0 := blk_frozen BK701.out 0; have hfz52_1 := blk_frozen BK701.out 1) | ((with_reducible refine gate_callee (f := 34) rfl ?_); refine goesL_ (some 28) rfl rfl Tryd.func34 (by kernel_rfl) rfl #[.agg #[.int .i64 t694, .slice Ao45 t695.length co45], .slice Ao46 t698.length co46] rfl mP ?_; (with_reducible refine (spec_StateValid.calls k t694 _ _ t695 _ _ t698 false _ ?side1 ?side2 ?side3 ?side4 A8.out).mono ?_); (case side1 => exact gC ((Kd.R_reads' HO697.out).2.2)); (case side2 => exact (Kd.R_reads' HO697.out).2.1); (case side3 => exact gC ((Kd.R_reads' HO700.out).2.2)); (case side4 => exact (Kd.R_reads' HO700.out).2.1); rintro e w53 ⟨rfl, hb⟩; refine ⟨_, rfl, ?_⟩; have n0_ := aM (Kd.R_below (gR (HO697.out)) hb); have n1_ := aM (Kd.R_below (gR (HO700.out)) hb); have n2_ := aM (Kd.R_below (gR (HO704.out)) hb); have n3_ := aM (Kd.R_below (gR (HO707.out)) hb); have n4_ := aM (blk_below (g := gb701) (o := .cells #[.int .i64 t694, .slice Ao45 t695.length co45] 25 (0, 0)) (gB (BK701.out)) hb); have n5_ := aM (below_step (bl1 HB GE701) hb); clear HO697; clear HO700; clear HO704; clear HO707; clear BK701; clear HB; have HO697 := n0_; have HO700 := n1_; have HO704 := n2_; have HO707 := n3_; have BK701 := n4_; have HB := n5_; clear n0_ n1_ n2_ n3_ n4_ n5_; (try clear hb); (try clear hb2); (try clear hk); (try clear hi)) | (go_at_call 17; (with_reducible refine (laws_alive.calls k  t710 _ A41.out).mono ?_); rintro e w54 ⟨rfl, hb⟩; have n0_ := aM (Kd.R_below (gR (HO697.out)) hb); have n1_ := aM (Kd.R_below (gR (HO700.out)) hb); have n2_ := aM (Kd.R_below (gR (HO704.out)) hb); have n3_ := aM (Kd.R_below (gR (HO707.out)) hb); have n4_ := aM (blk_below (g := gb701) (o := .cells #[.int .i64 t694, .slice Ao45 t695.length co45] 25 (0, 0)) (gB (BK701.out)) hb); have n5_ := aM (below_step (bl1 HB GE701) hb); clear HO697; clear HO700; clear HO704; clear HO707; clear BK701; clear HB; have HO697 := n0_; have HO700 := n1_; have HO704 := n2_; have HO707 := n3_; have BK701 := n4_; have HB := n5_; clear n0_ n1_ n2_ n3_ n4_ n5_; (try clear hb); (try clear hb2); (try clear hk); (try clear hi)))
  go_ret
  exact ⟨fR, bl1 HB GE701⟩
 subst c9
 have H1 : (laws_FnBridgeLines.l0 k t698 t702 0 t694 t695) = some r := by rw [if_pos rfl] at H; exact H
 clear H
 have H := H1
 clear H1
 have H' := Aside0.mk H
 clear H
 go_enter Tryd.func7, Tryd.ntmps7
 go_wp2_with (first | ((with_reducible refine gate_callee (f := 38) rfl ?_); refine goesL_ (some 14) rfl rfl Tryd.func38 (by kernel_rfl) rfl #[.slice A0 l0.length c0] rfl mP ?_; (with_reducible refine (spec_DrawBridgeLines.calls k _ _ l0 t694 t695 t698 _ ?side1 ?side2 A3.out).mono ?_); (case side1 => exact gC (HR0.out)); (case side2 => exact HC0.out); rintro e w10 ⟨v696, v699, rfl, ho0, ho1, hb⟩; refine ⟨_, rfl, ?_⟩; have n0_ := aM (Kd.R_lower ho0 (below_size (bl0 HB))); have n1_ := aM (Kd.R_lower ho1 (below_size (bl0 HB))); have n2_ := aM (below_step (bl0 HB) hb); clear HB; have HO697 := n0_; have HO700 := n1_; have HB := n2_; clear n0_ n1_ n2_; (try clear hb); (try clear hb2); (try clear hk); (try clear hi); (try clear ho0); (try clear ho1)) | ((with_reducible refine gate_dst (N := 3) rfl ?_); refine box_event ?hg (N := 3) ?hd (cs := #[.int .i64 0, .slice none 0 0]) (t := 25) ?hr ?_; (case hd => rfl); (case hg => rfl); (case hr => exact hR); intro gb701 hg w11 hbox hb; have n0_ := aM (Kd.R_below (gR (HO697.out)) hb); have n1_ := aM (Kd.R_below (gR (HO700.out)) hb); have n2_ := aM (below_step (bl0 HB) hb); have n3_ := aM (hbox); have n4_ := aM ((by rw [hg]; exact (below_size (bl0 HB)) : w.heap.size ≤ gb701)); have n5_ := aM ((by rw [hg]; exact (below_size (bl0 HB)) : w.heap.size ≤ gb701)); clear HO697; clear HO700; clear HB; have HO697 := n0_; have HO700 := n1_; have HB := n2_; have BK701 := n3_; have GW701 := n4_; have GE701 := n5_; clear n0_ n1_ n2_ n3_ n4_ n5_; clear hb hbox hg; have hcz12_0 : w11.cell? ⟨gb701, 0, none⟩ = some (.int .i64 0) := (blk_cell BK701.out 0).trans rfl; have hcz12_1 : w11.cell? ⟨gb701, 1, none⟩ = some (.slice none 0 0) := (blk_cell BK701.out 1).trans rfl; have hfz12_0 := blk_frozen BK701.out 0; have hfz12_1 := blk_frozen BK701.out 1; obtain ⟨Ao13, co13, eo13⟩ := Kd.R_slice HO697.out; subst eo13; obtain ⟨Ao14, co14, eo14⟩ := Kd.R_slice HO700.out; subst eo14) | ((with_reducible refine gate_callee (f := 39) rfl ?_); refine goesL_ (some 19) rfl rfl Tryd.func39 (by kernel_rfl) rfl #[.agg #[.int .i64 t694, .slice Ao13 t695.length co13], .slice Ao14 t698.length co14] rfl mP ?_; (with_reducible refine (impl_BridgeLines.calls k t694 _ _ t695 _ _ t698 t702 _ ?side1 ?side2 ?side3 ?side4 A4.out).mono ?_); (case side1 => refine (Kd.R_reads' (e := 79) (base := w.heap.size) (ok := fun k_ => True) (n := t695.length) (c := co13) ?_).2.2; exact (by (with_reducible repeat (first | apply Kd.R_alloc | apply Kd.R_drewN | apply Kd.R_drew)); exact (Kd.R_mono (Kd.R_far (p := ⟨gb701, 1, none⟩) (Kd.R_far (p := ⟨gb701, 0, none⟩) (Kd.R_types HO697.out BK701.out (by decide)) (fun _ hk => hk.2) (.int .i64 t694)) (fun _ hk => hk.2) (.slice Ao13 t695.length co13)) (fun _ h_ => h_.1)))); (case side2 => exact (Kd.R_reads' HO697.out).2.1); (case side3 => refine (Kd.R_reads' (e := 4) (base := w.heap.size) (ok := fun k_ => True) (n := t698.length) (c := co14) ?_).2.2; exact (by (with_reducible repeat (first | apply Kd.R_alloc | apply Kd.R_drewN | apply Kd.R_drew)); exact (Kd.R_mono (Kd.R_far (p := ⟨gb701, 1, none⟩) (Kd.R_far (p := ⟨gb701, 0, none⟩) (Kd.R_types HO700.out BK701.out (by decide)) (fun _ hk => hk.2) (.int .i64 t694)) (fun _ hk => hk.2) (.slice Ao13 t695.length co13)) (fun _ h_ => h_.1)))); (case side4 => exact (Kd.R_reads' HO700.out).2.1); rintro e w15 ⟨v703, rfl, ho0, hb⟩; refine ⟨_, rfl, ?_⟩; have n0_ := aM (Kd.R_below (by (with_reducible repeat (first | apply Kd.R_alloc | apply Kd.R_drewN | apply Kd.R_drew)); exact (Kd.R_mono (Kd.R_far (p := ⟨gb701, 1, none⟩) (Kd.R_far (p := ⟨gb701, 0, none⟩) (Kd.R_types HO697.out BK701.out (by decide)) (fun _ hk => hk.2) (.int .i64 t694)) (fun _ hk => hk.2) (.slice Ao13 t695.length co13)) (fun _ h_ => h_.1))) hb); have n1_ := aM (Kd.R_below (by (with_reducible repeat (first | apply Kd.R_alloc | apply Kd.R_drewN | apply Kd.R_drew)); exact (Kd.R_mono (Kd.R_far (p := ⟨gb701, 1, none⟩) (Kd.R_far (p := ⟨gb701, 0, none⟩) (Kd.R_types HO700.out BK701.out (by decide)) (fun _ hk => hk.2) (.int .i64 t694)) (fun _ hk => hk.2) (.slice Ao13 t695.length co13)) (fun _ h_ => h_.1))) hb); have n2_ := aM (Kd.R_lower ho0 (below_size (bl1 HB GE701))); have n3_ := aM (blk_below (g := gb701) (o := .cells #[.int .i64 t694, .slice Ao13 t695.length co13] 25 (0, 0)) (by (with_reducible repeat (first | refine blk_drewN ?_ _ | refine blk_drew ?_ | refine blk_alloc ?_ _)); refine blk_put (cs := #[.int .i64 t694, .slice none 0 0]) ?_ 1 _ rfl; (with_reducible repeat (first | refine blk_drewN ?_ _ | refine blk_drew ?_ | refine blk_alloc ?_ _)); refine blk_put (cs := #[.int .i64 0, .slice none 0 0]) ?_ 0 _ rfl; (with_reducible repeat (first | refine blk_drewN ?_ _ | refine blk_drew ?_ | refine blk_alloc ?_ _)); exact BK701.out) hb); have n4_ := aM (below_step (bl1 HB GE701) hb); clear HO697; clear HO700; clear BK701; clear HB; have HO697 := n0_; have HO700 := n1_; have HO704 := n2_; have BK701 := n3_; have HB := n4_; clear n0_ n1_ n2_ n3_ n4_; (try clear hb); (try clear hb2); (try clear hk); (try clear hi); (try clear ho0); have hcz16_0 : w15.cell? ⟨gb701, 0, none⟩ = some (.int .i64 t694) := (blk_cell BK701.out 0).trans rfl; have hcz16_1 : w15.cell? ⟨gb701, 1, none⟩ = some (.slice Ao13 t695.length co13) := (blk_cell BK701.out 1).trans rfl; have hfz16_0 := blk_frozen BK701.out 0; have hfz16_1 := blk_frozen BK701.out 1) | ((with_reducible refine gate_callee (f := 40) rfl ?_); refine goesL_ (some 23) rfl rfl Tryd.func40 (by kernel_rfl) rfl #[.agg #[.int .i64 t694, .slice Ao13 t695.length co13], .slice Ao14 t698.length co14] rfl mP ?_; (with_reducible refine (spec_BridgeLines.calls k t694 _ _ t695 _ _ t698 t705 _ ?side1 ?side2 ?side3 ?side4 A5.out).mono ?_); (case side1 => exact gC ((Kd.R_reads' HO697.out).2.2)); (case side2 => exact (Kd.R_reads' HO697.out).2.1); (case side3 => exact gC ((Kd.R_reads' HO700.out).2.2)); (case side4 => exact (Kd.R_reads' HO700.out).2.1); rintro e w17 ⟨v706, rfl, ho0, hb⟩; refine ⟨_, rfl, ?_⟩; have n0_ := aM (Kd.R_below (gR (HO697.out)) hb); have n1_ := aM (Kd.R_below (gR (HO700.out)) hb); have n2_ := aM (Kd.R_elder' (gR (HO704.out)) (Kd.R_base ho0) hb); have n3_ := aM (Kd.R_lower (Kd.R_new' ho0 (Kd.R_lt (gR (HO704.out)))) (below_size (bl1 HB GE701))); have n4_ := aM (blk_below (g := gb701) (o := .cells #[.int .i64 t694, .slice Ao13 t695.length co13] 25 (0, 0)) (gB (BK701.out)) hb); have n5_ := aM (below_step (bl1 HB GE701) hb); clear HO697; clear HO700; clear HO704; clear BK701; clear HB; have HO697 := n0_; have HO700 := n1_; have HO704 := n2_; have HO707 := n3_; have BK701 := n4_; have HB := n5_; clear n0_ n1_ n2_ n3_ n4_ n5_; (try clear hb); (try clear hb2); (try clear hk); (try clear hi); (try clear ho0); obtain ⟨Ao18, co18, eo18⟩ := Kd.R_slice HO704.out; subst eo18; obtain ⟨Ao19, co19, eo19⟩ := Kd.R_slice HO707.out; subst eo19) | ((with_reducible refine gate_callee (f := 22) rfl ?_); refine goesL_ (some 24) rfl rfl Tryd.func22 (by kernel_rfl) rfl #[.slice Ao18 t702.length co18, .slice Ao19 t705.length co19] rfl mP ?_; (with_reducible refine (laws_sameInts.calls k _ _ t702 _ _ t705 true _ ?side1 ?side2 ?side3 ?side4 A6.out).mono ?_); (case side1 => exact gC ((Kd.R_reads' HO704.out).2.2)); (case side2 => exact (Kd.R_reads' HO704.out).2.1); (case side3 => exact gC ((Kd.R_reads' HO707.out).2.2)); (case side4 => exact (Kd.R_reads' HO707.out).2.1); rintro e w' ⟨rfl, ⟨nd, rfl⟩⟩; refine ⟨_, rfl, ?_⟩; have hcz20_0 : w17.cell? ⟨gb701, 0, none⟩ = some (.int .i64 t694) := (blk_cell BK701.out 0).trans rfl; have hcz20_1 : w17.cell? ⟨gb701, 1, none⟩ = some (.slice Ao13 t695.length co13) := (blk_cell BK701.out 1).trans rfl; have hfz20_0 := blk_frozen BK701.out 0; have hfz20_1 := blk_frozen BK701.out 1) | ((with_reducible refine gate_callee (f := 34) rfl ?_); refine goesL_ (some 28) rfl rfl Tryd.func34 (by kernel_rfl) rfl #[.agg #[.int .i64 t694, .slice Ao13 t695.length co13], .slice Ao14 t698.length co14] rfl mP ?_; (with_reducible refine (spec_StateValid.calls k t694 _ _ t695 _ _ t698 true _ ?side1 ?side2 ?side3 ?side4 A8.out).mono ?_); (case side1 => exact gC ((Kd.R_reads' HO697.out).2.2)); (case side2 => exact (Kd.R_reads' HO697.out).2.1); (case side3 => exact gC ((Kd.R_reads' HO700.out).2.2)); (case side4 => exact (Kd.R_reads' HO700.out).2.1); rintro e w21 ⟨rfl, hb⟩; refine ⟨_, rfl, ?_⟩; have n0_ := aM (Kd.R_below (gR (HO697.out)) hb); have n1_ := aM (Kd.R_below (gR (HO700.out)) hb); have n2_ := aM (Kd.R_below (gR (HO704.out)) hb); have n3_ := aM (Kd.R_below (gR (HO707.out)) hb); have n4_ := aM (blk_below (g := gb701) (o := .cells #[.int .i64 t694, .slice Ao13 t695.length co13] 25 (0, 0)) (gB (BK701.out)) hb); have n5_ := aM (below_step (bl1 HB GE701) hb); clear HO697; clear HO700; clear HO704; clear HO707; clear BK701; clear HB; have HO697 := n0_; have HO700 := n1_; have HO704 := n2_; have HO707 := n3_; have BK701 := n4_; have HB := n5_; clear n0_ n1_ n2_ n3_ n4_ n5_; (try clear hb); (try clear hb2); (try clear hk); (try clear hi)))
 go_loopg [6] k (fun kq v6 w' => ∃ (x6_1 : Int), v6 = .int .i64 x6_1 ∧ Aside0 (laws_FnBridgeLines.l0 kq t698 t702 x6_1 t694 t695 = some r) ∧ Aside0 (kq ≤ k) ∧ Aside0 (Kd.R Kd.bool 4 w' w.heap.size (fun _ => True) (.slice Ao14 t698.length co14) t698) ∧ Aside0 (Kd.R (Kd.int .i64) 3 w' w.heap.size (fun _ => True) (.slice Ao18 t702.length co18) t702) ∧ Aside0 (Kd.R k79 79 w' w.heap.size (fun _ => True) (.slice Ao13 t695.length co13) t695) ∧ Aside0 (w'.heap[gb701]? = some (.cells #[.int .i64 t694, (.slice Ao13 t695.length co13)] 25 (0, 0))) ∧ Aside0 (Below w.heap.size w w'))
 case atStart => exact ⟨(0), fS, H', ⟨Nat.le_refl _⟩, ⟨gR (HO700.out)⟩, ⟨by (with_reducible repeat (first | apply Kd.R_alloc | apply Kd.R_drewN | apply Kd.R_drew)); exact Kd.R_mono HO704.out (fun _ hk => trivial)⟩, ⟨gR (HO697.out)⟩, ⟨gB (BK701.out)⟩, ⟨bl1 HB GE701⟩⟩
 case round =>
  clear H'
  try clear c2
  try clear c2b0
  try clear c2b1
  try clear p2
  try clear c3
  try clear c4
  try clear c7
  try clear c9
  try clear hcz12_0
  try clear hcz12_1
  try clear hcz16_0
  try clear hcz16_1
  try clear hcz20_0
  try clear hcz20_1
  try clear hfz12_0
  try clear hfz12_1
  try clear hfz16_0
  try clear hfz16_1
  try clear hfz20_0
  try clear hfz20_1
  obtain ⟨x6_1, rfl, HA, HK1, HO_4, HO_5, HO_702001, BK701, HB⟩ := hrel
  cases gk with
  | zero => exact absurd HA.out (by simp [laws_FnBridgeLines.l0])
  | succ k1 =>
   have H := HA.out
   clear HA
   simp only [laws_FnBridgeLines.l0] at H
   by_cases c22 : x6_1 < (t702.length : Int)
   rotate_left
   ·
    rw [if_neg c22] at H
    have c22b0 : decide (x6_1 < (t702.length : Int)) = false := decide_eq_false c22
    clear c22
    replace H := Option.bind_eq_some_iff.mp H
    obtain ⟨t711, A350, H⟩ := H
    replace H : ((laws_count.f k1 t698).bind fun t714 => (some ((wrap64 ((t702.length : Int) + (t711.length : Int))) == t714))) = some r := H
    have A35 := Aside0.mk A350
    clear A350
    replace H := Option.bind_eq_some_iff.mp H
    obtain ⟨t714, A360, H⟩ := H
    replace H : (some ((wrap64 ((t702.length : Int) + (t711.length : Int))) == t714)) = some r := H
    have A36 := Aside0.mk A360
    clear A360
    obtain rfl := Option.some.inj H
    have hcz37_0 : wr.cell? ⟨gb701, 0, none⟩ = some (.int .i64 t694) := (blk_cell BK701.out 0).trans rfl
    have hcz37_1 : wr.cell? ⟨gb701, 1, none⟩ = some (.slice Ao13 t695.length co13) := (blk_cell BK701.out 1).trans rfl
    have hfz37_0 := blk_frozen BK701.out 0
    have hfz37_1 := blk_frozen BK701.out 1
    go_wp2_with (first | ((with_reducible refine gate_callee (f := 21) rfl ?_); refine goesL_ (some 64) rfl rfl Tryd.func21 (by kernel_rfl) rfl #[.agg #[.int .i64 t694, .slice Ao13 t695.length co13], .slice Ao14 t698.length co14] rfl mP ?_; (with_reducible refine (impl_CycleLines.calls k1 t694 _ _ t695 _ _ t698 t711 _ ?side1 ?side2 ?side3 ?side4 A35.out).mono ?_); (case side1 => exact gC ((Kd.R_reads' HO_702001.out).2.2)); (case side2 => exact (Kd.R_reads' HO_702001.out).2.1); (case side3 => exact gC ((Kd.R_reads' HO_4.out).2.2)); (case side4 => exact (Kd.R_reads' HO_4.out).2.1); rintro e w38 ⟨v712, rfl, ho0, hb⟩; refine ⟨_, rfl, ?_⟩; have n0_ := aM (Kd.R_below (gR (HO_4.out)) hb); have n1_ := aM (Kd.R_elder' (gR (HO_5.out)) (Kd.R_base ho0) hb); have n2_ := aM (Kd.R_below (gR (HO_702001.out)) hb); have n3_ := aM (Kd.R_lower (Kd.R_new' ho0 (Kd.R_lt (gR (HO_5.out)))) (below_size (bl1 HB GE701))); have n4_ := aM (blk_below (g := gb701) (o := .cells #[.int .i64 t694, .slice Ao13 t695.length co13] 25 (0, 0)) (gB (BK701.out)) hb); have n5_ := aM (below_step (bl1 HB GE701) hb); clear HO_4; clear HO_5; clear HO_702001; clear BK701; clear HB; have HO_4 := n0_; have HO_5 := n1_; have HO_702001 := n2_; have HO713 := n3_; have BK701 := n4_; have HB := n5_; clear n0_ n1_ n2_ n3_ n4_ n5_; (try clear hb); (try clear hb2); (try clear hk); (try clear hi); (try clear ho0); obtain ⟨Ao39, co39, eo39⟩ := Kd.R_slice HO713.out; subst eo39) | ((with_reducible refine gate_callee (f := 41) rfl ?_); refine goesL_ (some 68) rfl rfl Tryd.func41 (by kernel_rfl) rfl #[.slice Ao14 t698.length co14] rfl mP ?_; (with_reducible refine (laws_count.calls k1 _ _ t698 t714 _ ?side1 ?side2 A36.out).mono ?_); (case side1 => exact gC ((Kd.R_reads' HO_4.out).2.2)); (case side2 => exact (Kd.R_reads' HO_4.out).2.1); rintro e w' ⟨rfl, ⟨nd, rfl⟩⟩; refine ⟨_, rfl, ?_⟩))
    go_ret
    exact ⟨fR, bl1 HB GE701⟩
   rw [if_pos c22] at H
   have c22b0 : decide (x6_1 < (t702.length : Int)) = true := decide_eq_true c22
   clear c22
   by_cases c23 : 0 ≤ x6_1
   rotate_left
   ·
    rw [if_neg c23] at H
    exact absurd H (by simp)
   rw [if_pos c23] at H
   have c23b0 : decide (0 ≤ x6_1) = true := decide_eq_true c23
   clear c23
   replace H := Option.bind_eq_some_iff.mp H
   obtain ⟨⟨t716, t719⟩, A240, H⟩ := H
   replace H : ((laws_islands.f k1 t694 t695 t716).bind fun t722 => ((laws_islands.f k1 t694 t695 t719).bind fun t723 => (if t722 = (wrap64 (t723 + 1)) then (laws_FnBridgeLines.l0 k1 t698 t702 (wrap64 (x6_1 + 1)) t694 t695) else (none)))) = some r := H
   have A24 := Aside0.mk A240
   clear A240
   replace H := Option.bind_eq_some_iff.mp H
   obtain ⟨t722, A250, H⟩ := H
   replace H : ((laws_islands.f k1 t694 t695 t719).bind fun t723 => (if t722 = (wrap64 (t723 + 1)) then (laws_FnBridgeLines.l0 k1 t698 t702 (wrap64 (x6_1 + 1)) t694 t695) else (none))) = some r := H
   have A25 := Aside0.mk A250
   clear A250
   replace H := Option.bind_eq_some_iff.mp H
   obtain ⟨t723, A260, H⟩ := H
   replace H : (if t722 = (wrap64 (t723 + 1)) then (laws_FnBridgeLines.l0 k1 t698 t702 (wrap64 (x6_1 + 1)) t694 t695) else (none)) = some r := H
   have A26 := Aside0.mk A260
   clear A260
   by_cases c27 : t722 = (wrap64 (t723 + 1))
   rotate_left
   ·
    rw [if_neg c27] at H
    exact absurd H (by simp)
   rw [if_pos c27] at H
   have c27b0 : (t722 == (wrap64 (t723 + 1))) = true := beq_iff_eq.mpr c27
   have c27b1 : (t722 != (wrap64 (t723 + 1))) = false := bne_eq_false_iff_eq.mpr c27
   clear c27
   have H' := Aside0.mk H
   clear H
   try go_wp2
   have n0_ := aM (Kd.R_drew HO_4.out)
   have n1_ := aM (Kd.R_drew HO_5.out)
   have n2_ := aM (Kd.R_drew HO_702001.out)
   have n3_ := aM (blk_drew BK701.out)
   have n4_ := aM (below_drew1 HB.out)
   clear HO_4
   clear HO_5
   clear HO_702001
   clear BK701
   clear HB
   have HO_4 := n0_
   have HO_5 := n1_
   have HO_702001 := n2_
   have BK701 := n3_
   have HB := n4_
   clear n0_ n1_ n2_ n3_ n4_
   have p715 : 0 ≤ (x6_1 : Int) := oD
   have q715 : x6_1 < (t702.length : Int) := oD
   obtain ⟨ad715, e715, hx715_0⟩ := Kd.at_int (Kd.R_reads' HO_5.out).2.2 x6_1 p715 q715
   cases e715
   replace p715 := eq_true p715
   replace q715 := eq_true q715
   refine start_ (n := 12) (S := fun w' => w'.cell? ⟨gb701, 0, none⟩ = some (.int .i64 t694) ∧ w'.cell? ⟨gb701, 1, none⟩ = some (.slice Ao13 t695.length co13) ∧ w'.cell? (ad715.add (x6_1).toNat) = some (.int .i64 (rd t702 x6_1))) (ds := []) #[zz,zz,zz,zz,zz,zz,zz,zz,zz,zz,zz,zz] (by kernel_rfl) rfl rfl ⟨(blk_cell BK701.out 0).trans rfl, (blk_cell BK701.out 1).trans rfl, hx715_0⟩ (fun hHeld => ?_); refine with_tabW laws_FnBridgeLines.tab12 laws_FnBridgeLines.bits12 (fun HT_ HW_ => ?_)
   generalize wr.drew = w28 at HO_4 HO_5 HO_702001 BK701 HB hx715_0 hHeld ⊢
   refine pure_ (i := 1) (N := some 44) (v := ?_) (a' := ?_) #[zz,oo,zz,zz,zz,zz,zz,zz,zz,zz,zz,zz] rfl rfl (any_of HT_.out (by kernel_rfl)) (fun _ _ _ h => h) (Or.inl ⟨by rfl, ?_⟩) ?_ ?_
   rotate_left
   ·
    intro w'
    go_simp
    with_reducible rfl
   rotate_left
   ·
    simp only [Act.put, List.setIfInBounds_toArray, List.set_cons_zero, List.set_cons_succ, i64_w, i32_w]
    rfl
   refine pure_ (i := 2) (N := some 45) (v := ?_) (a' := ?_) #[zz,oo,oo,zz,zz,zz,zz,zz,zz,zz,zz,zz] rfl rfl (any_of HT_.out (by kernel_rfl)) (fun _ _ _ h => h) (Or.inl ⟨by rfl, ?_⟩) ?_ ?_
   rotate_left
   ·
    intro w'
    go_simp
    with_reducible rfl
   rotate_left
   ·
    simp only [Act.put, List.setIfInBounds_toArray, List.set_cons_zero, List.set_cons_succ, i64_w, i32_w]
    rfl
   refine pure_ (i := 3) (N := some 46) (v := ?_) (a' := ?_) #[zz,oo,oo,oo,zz,zz,zz,zz,zz,zz,zz,zz] rfl rfl (any_of HT_.out (by kernel_rfl)) (fun _ _ _ h => h) (Or.inl ⟨by rfl, ?_⟩) ?_ ?_
   rotate_left
   ·
    intro w'
    go_simp
    with_reducible rfl
   rotate_left
   ·
    simp only [Act.put, List.setIfInBounds_toArray, List.set_cons_zero, List.set_cons_succ, i64_w, i32_w]
    rfl
   refine pure_ (i := 4) (N := some 47) (v := ?_) (a' := ?_) #[zz,oo,oo,oo,oo,zz,zz,zz,zz,zz,zz,zz] rfl rfl (any_of HT_.out (by kernel_rfl)) (fun _ _ _ h => h) (Or.inl ⟨by rfl, ?_⟩) ?_ ?_
   rotate_left
   ·
    intro w'
    go_simp
    with_reducible rfl
   rotate_left
   ·
    simp only [Act.put, List.setIfInBounds_toArray, List.set_cons_zero, List.set_cons_succ, i64_w, i32_w]
    rfl
   refine take_ (i := 0) (N := some 43) (v := ?_) (a' := ?_) #[oo,oo,oo,oo,oo,zz,zz,zz,zz,zz,zz,zz] rfl rfl (take_ofW HT_.out HW_.out (by kernel_rfl)) (fun _ _ _ h => h) (Or.inl ⟨by rfl, ?_⟩) hHeld ?_ ?_
   rotate_left
   ·
    rintro w' ⟨s0, s1, s2⟩
    go_simp
    with_reducible rfl
   rotate_left
   ·
    simp only [Act.put, List.setIfInBounds_toArray, List.set_cons_zero, List.set_cons_succ, i64_w, i32_w]
    rfl
   refine take_ (i := 5) (N := some 48) (v := ?_) (a' := ?_) #[oo,oo,oo,oo,oo,oo,zz,zz,zz,zz,zz,zz] rfl rfl (take_ofW HT_.out HW_.out (by kernel_rfl)) (fun _ _ _ h => h) (Or.inl ⟨by rfl, ?_⟩) hHeld ?_ ?_
   rotate_left
   ·
    rintro w' ⟨s0, s1, s2⟩
    go_simp
    with_reducible rfl
   rotate_left
   ·
    simp only [Act.put, List.setIfInBounds_toArray, List.set_cons_zero, List.set_cons_succ, i64_w, i32_w]
    rfl
   refine one_ (i := 6) (N := some 49) #[oo,oo,oo,oo,oo,oo,oo,zz,zz,zz,zz,zz] rfl rfl (one_of HT_.out (by kernel_rfl)) (by decide) (fun K hK => ?_)
   refine goes_ Tryd.func25 (by kernel_rfl) rfl #[.agg #[.int .i64 t694, .slice Ao13 t695.length co13], .slice Ao14 t698.length co14, .int .i64 (rd t702 x6_1)] (by rfl) rfl rfl mP ?_
   with_reducible refine (laws_offOn.calls k1 t694 _ _ t695 _ _ t698 (rd t702 x6_1) t716 t719 _ ?side1 ?side2 ?side3 ?side4 A24.out).mono ?_
   (case side1 => exact gC ((Kd.R_reads' HO_702001.out).2.2))
   (case side2 => exact (Kd.R_reads' HO_702001.out).2.1)
   (case side3 => exact gC ((Kd.R_reads' HO_4.out).2.2))
   (case side4 => exact (Kd.R_reads' HO_4.out).2.1)
   rintro e w29 ⟨v717, v720, rfl, ho0, ho1, hb⟩
   have HS2_ := (hb.cell (World.block_lt_of_cell? _ _ (hHeld.2.2))).trans (hHeld.2.2)
   refine ⟨_, rfl, ?_⟩
   have n0_ := aM (Kd.R_mono (Kd.R_told (Kd.R_told (Kd.R_old (gR (HO_4.out)) hb) (Kd.R_base ho0)) (Kd.R_base ho1)) (fun _ h_ => h_.1))
   have n1_ := aM (Kd.R_below (gR (HO_5.out)) hb)
   have n2_ := aM (Kd.R_below (gR (HO_702001.out)) hb)
   have n3_ := aM (Kd.R_lower (Kd.R_new' ho0 (Kd.R_lt (gR (HO_4.out)))) (below_size (bl1 HB GE701)))
   have n4_ := aM (Kd.R_lower (Kd.R_new' ho1 (Kd.R_lt (gR (HO_4.out)))) (below_size (bl1 HB GE701)))
   have n5_ := aM (blk_below (g := gb701) (o := .cells #[.int .i64 t694, .slice Ao13 t695.length co13] 25 (0, 0)) (gB (BK701.out)) hb)
   have n6_ := aM (below_step (bl1 HB GE701) hb)
   clear HO_4
   clear HO_5
   clear HO_702001
   clear BK701
   clear HB
   have HO_4 := n0_
   have HO_5 := n1_
   have HO_702001 := n2_
   have HO718 := n3_
   have HO721 := n4_
   have BK701 := n5_
   have HB := n6_
   clear n0_ n1_ n2_ n3_ n4_ n5_ n6_
   (try clear hb)
   (try clear hb2)
   (try clear hk)
   (try clear hi)
   (try clear ho0)
   (try clear ho1)
   refine hK.out _ _ ⟨(blk_cell BK701.out 0).trans rfl, (blk_cell BK701.out 1).trans rfl, HS2_⟩ (fun hHeld => ?_)
   clear hK K
   refine norm_ (a' := ?_) ?_ ?_
   rotate_left
   ·
    show Act.put _ (some 49) _ = _
    simp only [Act.put, List.setIfInBounds_toArray, List.set_cons_zero, List.set_cons_succ, i64_w, i32_w]
    rfl
   refine pure_ (i := 7) (N := some 42) (v := ?_) (a' := ?_) #[oo,oo,oo,oo,oo,oo,oo,oo,zz,zz,zz,zz] rfl rfl (any_of HT_.out (by kernel_rfl)) (fun _ _ _ h => h) (Or.inl ⟨by rfl, ?_⟩) ?_ ?_
   rotate_left
   ·
    intro w'
    go_simp
    with_reducible rfl
   rotate_left
   ·
    simp only [Act.put, List.setIfInBounds_toArray, List.set_cons_zero, List.set_cons_succ, i64_w, i32_w]
    rfl
   refine pure_ (i := 8) (N := some 50) (v := ?_) (a' := ?_) #[oo,oo,oo,oo,oo,oo,oo,oo,oo,zz,zz,zz] rfl rfl (any_of HT_.out (by kernel_rfl)) (fun _ _ _ h => h) (Or.inl ⟨by rfl, ?_⟩) ?_ ?_
   rotate_left
   ·
    intro w'
    go_simp
    with_reducible rfl
   rotate_left
   ·
    simp only [Act.put, List.setIfInBounds_toArray, List.set_cons_zero, List.set_cons_succ, i64_w, i32_w]
    rfl
   refine pure_ (i := 9) (N := some 51) (v := ?_) (a' := ?_) #[oo,oo,oo,oo,oo,oo,oo,oo,oo,oo,zz,zz] rfl rfl (any_of HT_.out (by kernel_rfl)) (fun _ _ _ h => h) (Or.inl ⟨by rfl, ?_⟩) ?_ ?_
   rotate_left
   ·
    intro w'
    go_simp
    with_reducible rfl
   rotate_left
   ·
    simp only [Act.put, List.setIfInBounds_toArray, List.set_cons_zero, List.set_cons_succ, i64_w, i32_w]
    rfl
   refine pure_ (i := 10) (N := some 7) (v := ?_) (a' := ?_) #[oo,oo,oo,oo,oo,oo,oo,oo,oo,oo,oo,zz] rfl rfl (any_of HT_.out (by kernel_rfl)) (fun _ _ _ h => h) (Or.inl ⟨by rfl, ?_⟩) ?_ ?_
   rotate_left
   ·
    intro w'
    go_simp
    with_reducible rfl
   rotate_left
   ·
    simp only [Act.put, List.setIfInBounds_toArray, List.set_cons_zero, List.set_cons_succ, i64_w, i32_w]
    rfl
   refine pure_ (i := 11) (N := some 8) (v := ?_) (a' := ?_) #[oo,oo,oo,oo,oo,oo,oo,oo,oo,oo,oo,oo] rfl rfl (any_of HT_.out (by kernel_rfl)) (fun _ _ _ h => h) (Or.inl ⟨by rfl, ?_⟩) ?_ ?_
   rotate_left
   ·
    intro w'
    go_simp
    with_reducible rfl
   rotate_left
   ·
    simp only [Act.put, List.setIfInBounds_toArray, List.set_cons_zero, List.set_cons_succ, i64_w, i32_w]
    rfl
   refine done_ (done_of HT_.out (by kernel_rfl)) ?_
   try go_wp2
   have n0_ := aM (Kd.R_drew HO_4.out)
   have n1_ := aM (Kd.R_drew HO_5.out)
   have n2_ := aM (Kd.R_drew HO_702001.out)
   have n3_ := aM (Kd.R_drew HO718.out)
   have n4_ := aM (Kd.R_drew HO721.out)
   have n5_ := aM (blk_drew BK701.out)
   have n6_ := aM (below_drew1 HB.out)
   clear HO_4
   clear HO_5
   clear HO_702001
   clear HO718
   clear HO721
   clear BK701
   clear HB
   have HO_4 := n0_
   have HO_5 := n1_
   have HO_702001 := n2_
   have HO718 := n3_
   have HO721 := n4_
   have BK701 := n5_
   have HB := n6_
   clear n0_ n1_ n2_ n3_ n4_ n5_ n6_
   obtain ⟨Ao31, co31, eo31⟩ := Kd.R_slice HO718.out
   (first | subst eo31 | (injection eo31 with f1_ f2_ f3_; have f4_ := f1_.symm; have f5_ := f3_.symm; clear f1_ f2_ f3_; subst f4_; subst f5_))
   refine start_ (n := 8) (S := fun w' => w'.cell? ⟨gb701, 0, none⟩ = some (.int .i64 t694) ∧ w'.cell? ⟨gb701, 1, none⟩ = some (.slice Ao13 t695.length co13)) (ds := []) #[zz,zz,zz,zz,zz,zz,zz,zz] (by kernel_rfl) rfl rfl ⟨(blk_cell BK701.out 0).trans rfl, (blk_cell BK701.out 1).trans rfl⟩ (fun hHeld => ?_); refine with_tabW laws_FnBridgeLines.tab13 laws_FnBridgeLines.bits13 (fun HT_ HW_ => ?_)
   generalize w29.drew = w30 at HO_4 HO_5 HO_702001 HO718 HO721 BK701 HB hHeld ⊢
   refine pure_ (i := 1) (N := some 53) (v := ?_) (a' := ?_) #[zz,oo,zz,zz,zz,zz,zz,zz] rfl rfl (any_of HT_.out (by kernel_rfl)) (fun _ _ _ h => h) (Or.inl ⟨by rfl, ?_⟩) ?_ ?_
   rotate_left
   ·
    intro w'
    go_simp
    with_reducible rfl
   rotate_left
   ·
    simp only [Act.put, List.setIfInBounds_toArray, List.set_cons_zero, List.set_cons_succ, i64_w, i32_w]
    rfl
   refine pure_ (i := 4) (N := some 56) (v := ?_) (a' := ?_) #[zz,oo,zz,zz,oo,zz,zz,zz] rfl rfl (any_of HT_.out (by kernel_rfl)) (fun _ _ _ h => h) (Or.inl ⟨by rfl, ?_⟩) ?_ ?_
   rotate_left
   ·
    intro w'
    go_simp
    with_reducible rfl
   rotate_left
   ·
    simp only [Act.put, List.setIfInBounds_toArray, List.set_cons_zero, List.set_cons_succ, i64_w, i32_w]
    rfl
   refine take_ (i := 0) (N := some 52) (v := ?_) (a' := ?_) #[oo,oo,zz,zz,oo,zz,zz,zz] rfl rfl (take_ofW HT_.out HW_.out (by kernel_rfl)) (fun _ _ _ h => h) (Or.inl ⟨by rfl, ?_⟩) hHeld ?_ ?_
   rotate_left
   ·
    rintro w' ⟨s0, s1⟩
    go_simp
    with_reducible rfl
   rotate_left
   ·
    simp only [Act.put, List.setIfInBounds_toArray, List.set_cons_zero, List.set_cons_succ, i64_w, i32_w]
    rfl
   refine take_ (i := 3) (N := some 55) (v := ?_) (a' := ?_) #[oo,oo,zz,oo,oo,zz,zz,zz] rfl rfl (take_ofW HT_.out HW_.out (by kernel_rfl)) (fun _ _ _ h => h) (Or.inl ⟨by rfl, ?_⟩) hHeld ?_ ?_
   rotate_left
   ·
    rintro w' ⟨s0, s1⟩
    go_simp
    with_reducible rfl
   rotate_left
   ·
    simp only [Act.put, List.setIfInBounds_toArray, List.set_cons_zero, List.set_cons_succ, i64_w, i32_w]
    rfl
   refine one_ (i := 2) (N := some 54) #[oo,oo,oo,oo,oo,zz,zz,zz] rfl rfl (one_of HT_.out (by kernel_rfl)) (by decide) (fun K hK => ?_)
   refine goes_ Tryd.func37 (by kernel_rfl) rfl #[.agg #[.int .i64 t694, .slice Ao13 t695.length co13], .slice Ao31 t716.length co31] (by rfl) rfl rfl mP ?_
   with_reducible refine (laws_islands.calls k1 t694 _ _ t695 _ _ t716 t722 _ ?side1 ?side2 ?side3 ?side4 A25.out).mono ?_
   (case side1 => exact gC ((Kd.R_reads' HO_702001.out).2.2))
   (case side2 => exact (Kd.R_reads' HO_702001.out).2.1)
   (case side3 => exact gC ((Kd.R_reads' HO718.out).2.2))
   (case side4 => exact (Kd.R_reads' HO718.out).2.1)
   rintro e w32 ⟨rfl, hb⟩
   refine ⟨_, rfl, ?_⟩
   have n0_ := aM (Kd.R_below (gR (HO_4.out)) hb)
   have n1_ := aM (Kd.R_below (gR (HO_5.out)) hb)
   have n2_ := aM (Kd.R_below (gR (HO_702001.out)) hb)
   have n3_ := aM (Kd.R_below (gR (HO718.out)) hb)
   have n4_ := aM (Kd.R_below (gR (HO721.out)) hb)
   have n5_ := aM (blk_below (g := gb701) (o := .cells #[.int .i64 t694, .slice Ao13 t695.length co13] 25 (0, 0)) (gB (BK701.out)) hb)
   have n6_ := aM (below_step (bl1 HB GE701) hb)
   clear HO_4
   clear HO_5
   clear HO_702001
   clear HO718
   clear HO721
   clear BK701
   clear HB
   have HO_4 := n0_
   have HO_5 := n1_
   have HO_702001 := n2_
   have HO718 := n3_
   have HO721 := n4_
   have BK701 := n5_
   have HB := n6_
   clear n0_ n1_ n2_ n3_ n4_ n5_ n6_
   (try clear hb)
   (try clear hb2)
   (try clear hk)
   (try clear hi)
   obtain ⟨Ao33, co33, eo33⟩ := Kd.R_slice HO721.out
   (first | subst eo33 | (injection eo33 with f1_ f2_ f3_; have f4_ := f1_.symm; have f5_ := f3_.symm; clear f1_ f2_ f3_; subst f4_; subst f5_))
   refine hK.out _ _ ⟨(blk_cell BK701.out 0).trans rfl, (blk_cell BK701.out 1).trans rfl⟩ (fun hHeld => ?_)
   clear hK K
   refine norm_ (a' := ?_) ?_ ?_
   rotate_left
   ·
    show Act.put _ (some 54) _ = _
    simp only [Act.put, List.setIfInBounds_toArray, List.set_cons_zero, List.set_cons_succ, i64_w, i32_w]
    rfl
   refine one_ (i := 5) (N := some 57) #[oo,oo,oo,oo,oo,oo,zz,zz] rfl rfl (one_of HT_.out (by kernel_rfl)) (by decide) (fun K hK => ?_)
   refine goes_ Tryd.func37 (by kernel_rfl) rfl #[.agg #[.int .i64 t694, .slice Ao13 t695.length co13], .slice Ao33 t719.length co33] (by rfl) rfl rfl mP ?_
   with_reducible refine (laws_islands.calls k1 t694 _ _ t695 _ _ t719 t723 _ ?side1 ?side2 ?side3 ?side4 A26.out).mono ?_
   (case side1 => exact gC ((Kd.R_reads' HO_702001.out).2.2))
   (case side2 => exact (Kd.R_reads' HO_702001.out).2.1)
   (case side3 => exact gC ((Kd.R_reads' HO721.out).2.2))
   (case side4 => exact (Kd.R_reads' HO721.out).2.1)
   rintro e w34 ⟨rfl, hb⟩
   refine ⟨_, rfl, ?_⟩
   have n0_ := aM (Kd.R_below (gR (HO_4.out)) hb)
   have n1_ := aM (Kd.R_below (gR (HO_5.out)) hb)
   have n2_ := aM (Kd.R_below (gR (HO_702001.out)) hb)
   have n3_ := aM (Kd.R_below (gR (HO718.out)) hb)
   have n4_ := aM (Kd.R_below (gR (HO721.out)) hb)
   have n5_ := aM (blk_below (g := gb701) (o := .cells #[.int .i64 t694, .slice Ao13 t695.length co13] 25 (0, 0)) (gB (BK701.out)) hb)
   have n6_ := aM (below_step (bl1 HB GE701) hb)
   clear HO_4
   clear HO_5
   clear HO_702001
   clear HO718
   clear HO721
   clear BK701
   clear HB
   have HO_4 := n0_
   have HO_5 := n1_
   have HO_702001 := n2_
   have HO718 := n3_
   have HO721 := n4_
   have BK701 := n5_
   have HB := n6_
   clear n0_ n1_ n2_ n3_ n4_ n5_ n6_
   (try clear hb)
   (try clear hb2)
   (try clear hk)
   (try clear hi)
   refine hK.out _ _ ⟨(blk_cell BK701.out 0).trans rfl, (blk_cell BK701.out 1).trans rfl⟩ (fun hHeld => ?_)
   clear hK K
   refine norm_ (a' := ?_) ?_ ?_
   rotate_left
   ·
    show Act.put _ (some 57) _ = _
    simp only [Act.put, List.setIfInBounds_toArray, List.set_cons_zero, List.set_cons_succ, i64_w, i32_w]
    rfl
   refine pure_ (i := 6) (N := some 58) (v := ?_) (a' := ?_) #[oo,oo,oo,oo,oo,oo,oo,zz] rfl rfl (any_of HT_.out (by kernel_rfl)) (fun _ _ _ h => h) (Or.inl ⟨by rfl, ?_⟩) ?_ ?_
   rotate_left
   ·
    intro w'
    go_simp
    with_reducible rfl
   rotate_left
   ·
    simp only [Act.put, List.setIfInBounds_toArray, List.set_cons_zero, List.set_cons_succ, i64_w, i32_w]
    rfl
   refine pure_ (i := 7) (N := some 59) (v := ?_) (a' := ?_) #[oo,oo,oo,oo,oo,oo,oo,oo] rfl rfl (any_of HT_.out (by kernel_rfl)) (fun _ _ _ h => h) (Or.inl ⟨by rfl, ?_⟩) ?_ ?_
   rotate_left
   ·
    intro w'
    go_simp
    with_reducible rfl
   rotate_left
   ·
    simp only [Act.put, List.setIfInBounds_toArray, List.set_cons_zero, List.set_cons_succ, i64_w, i32_w]
    rfl
   refine done_ (done_of HT_.out (by kernel_rfl)) ?_
   try go_wp2
   go_roundg k1
   case measure => have := HK1.out; omega
   case rel => exact ⟨(wrap64 (x6_1 + 1)), fS, H', ⟨by have := HK1.out; omega⟩, ⟨by (with_reducible repeat (first | apply Kd.R_alloc | apply Kd.R_drewN | apply Kd.R_drew)); exact Kd.R_mono HO_4.out (fun _ hk => trivial)⟩, ⟨gR (HO_5.out)⟩, ⟨gR (HO_702001.out)⟩, ⟨gB (BK701.out)⟩, ⟨bl1 HB GE701⟩⟩

end Go.Proofs.YtpgjgbjkfgbpaaaDoor.P

/- Contracts of Go functions of this seat's translation, written by this repo's wip/mk.py: it calls the kit's print.py with contracts typed by hand in place of functions that it does not take. Not trusted: Lean checks it. -/
import Derived.Test.YtpgjgbjkfgbpaaaDoorP0
import Derived.Test.YtpgjgbjkfgbpaaaDoorP37
import Derived.Test.YtpgjgbjkfgbpaaaDoorP46
import Derived.Test.YtpgjgbjkfgbpaaaDoorP50
import Derived.Test.YtpgjgbjkfgbpaaaDoorP53
import Derived.Test.YtpgjgbjkfgbpaaaDoorP55
namespace Go.Proofs.YtpgjgbjkfgbpaaaDoor.P
open Go.RowKit Go.Proofs.YtpgjgbjkfgbpaaaDoorW.PrintWords Go.Proofs.YtpgjgbjkfgbpaaaDoorW.PrintLast Go.Proofs.YtpgjgbjkfgbpaaaDoorW.PrintMore
attribute [local go_sem] max2_int min2_int max_two min_two max_three min_three max_four min_four   -- for this text's walks alone
set_option linter.unusedVariables false
set_option linter.unusedSimpArgs false

/-! ### laws_FnCycleLines: function 4 -/
def laws_FnCycleLines.l0 : Nat → List Bool → List Int → List Int → Int → Int → List (S79) → Option (Bool)
 | 0, _, _, _, _, _, _ => none
 | k + 1, x4, x5, x6, x7, x515000, x515001 => if x7 < (x5.length : Int) then (if 0 ≤ x7 then ((laws_offOn.f k x515000 x515001 x4 (rd x5 x7)).bind fun bt528 => (if 0 ≤ (rd x5 x7) then (if (rd x5 x7) < (x4.length : Int) then (if (rdOf false x4 (rd x5 x7) = true) then ((impl_IslandNumbers.f k x515000 x515001 bt528.1).bind fun t536 => ((laws_sameInts.f k t536 x6).bind fun t539 => (if t539 = true then (laws_FnCycleLines.l0 k x4 x5 x6 (wrap64 (x7 + 1)) x515000 x515001) else (none)))) else (none)) else (none)) else (none))) else (none)) else ((laws_ascend.f k x5).bind fun t525 => (if t525 = true then ((laws_alive.f k).bind fun t526 => (some t526)) else (none)))
def laws_FnCycleLines.f (k : Nat) (l0 : List Int) : Option (Bool) := if (l0.length : Int) > 1048576 then (some true) else ((spec_DrawCycleLines.f k l0).bind fun bt507 => ((impl_CycleLines.f k bt507.1 bt507.2.1 bt507.2.2).bind fun t515 => ((spec_CycleLines.f k bt507.1 bt507.2.1 bt507.2.2).bind fun t518 => ((laws_sameInts.f k t515 t518).bind fun t521 => (if t521 = true then ((impl_IslandNumbers.f k bt507.1 bt507.2.1 bt507.2.2).bind fun t522 => (laws_FnCycleLines.l0 k bt507.2.2 t515 t522 0 bt507.1 bt507.2.1)) else (none))))))
theorem laws_FnCycleLines.mono_l : ∀ k, (∀ y0 y1 y2 y3 y4 y5, LeO (laws_FnCycleLines.l0 k y0 y1 y2 y3 y4 y5) (laws_FnCycleLines.l0 (k + 1) y0 y1 y2 y3 y4 y5))
 | 0 => fun _ _ _ _ _ _ r h => by simp [laws_FnCycleLines.l0] at h
 | k + 1 => by
  have ih0 := laws_FnCycleLines.mono_l k
  ·
   intro y0 y1 y2 y3 y4 y5
   unfold laws_FnCycleLines.l0
   repeat' first
   | (with_reducible exact ih0 _ _ _ _ _ _)
   | (with_reducible exact impl_CycleLines.mono _ _ _ _)
   | (with_reducible exact impl_IslandNumbers.mono _ _ _ _)
   | (with_reducible exact laws_alive.mono _)
   | (with_reducible exact laws_ascend.mono _ _)
   | (with_reducible exact laws_offOn.mono _ _ _ _ _)
   | (with_reducible exact laws_sameInts.mono _ _ _)
   | (with_reducible exact spec_CycleLines.mono _ _ _ _)
   | (with_reducible exact spec_DrawCycleLines.mono _ _)
   | (with_reducible exact LeO.refl _)
   | (with_reducible exact LeO.none _)
   | (with_reducible refine LeO.ite ?_ ?_)
   | (with_reducible refine LeO.bind ?_ (fun _ => ?_))
   | exact ih0 _ _ _ _ _ _
   | exact impl_CycleLines.mono _ _ _ _
   | exact impl_IslandNumbers.mono _ _ _ _
   | exact laws_alive.mono _
   | exact laws_ascend.mono _ _
   | exact laws_offOn.mono _ _ _ _ _
   | exact laws_sameInts.mono _ _ _
   | exact spec_CycleLines.mono _ _ _ _
   | exact spec_DrawCycleLines.mono _ _
   | exact LeO.none _
   | refine LeO.ite ?_ ?_
   | refine LeO.bind ?_ (fun _ => ?_)
theorem laws_FnCycleLines.mono : ∀ a0 k, LeO (laws_FnCycleLines.f k a0) (laws_FnCycleLines.f (k + 1) a0) := by
 intro a0 k
 have ih0 := laws_FnCycleLines.mono_l k
 unfold laws_FnCycleLines.f
 repeat' first
   | (with_reducible exact ih0 _ _ _ _ _ _)
   | (with_reducible exact impl_CycleLines.mono _ _ _ _)
   | (with_reducible exact impl_IslandNumbers.mono _ _ _ _)
   | (with_reducible exact laws_alive.mono _)
   | (with_reducible exact laws_ascend.mono _ _)
   | (with_reducible exact laws_offOn.mono _ _ _ _ _)
   | (with_reducible exact laws_sameInts.mono _ _ _)
   | (with_reducible exact spec_CycleLines.mono _ _ _ _)
   | (with_reducible exact spec_DrawCycleLines.mono _ _)
   | (with_reducible exact LeO.refl _)
   | (with_reducible exact LeO.none _)
   | (with_reducible refine LeO.ite ?_ ?_)
   | (with_reducible refine LeO.bind ?_ (fun _ => ?_))
   | exact ih0 _ _ _ _ _ _
   | exact impl_CycleLines.mono _ _ _ _
   | exact impl_IslandNumbers.mono _ _ _ _
   | exact laws_alive.mono _
   | exact laws_ascend.mono _ _
   | exact laws_offOn.mono _ _ _ _ _
   | exact laws_sameInts.mono _ _ _
   | exact spec_CycleLines.mono _ _ _ _
   | exact spec_DrawCycleLines.mono _ _
   | exact LeO.none _
   | refine LeO.ite ?_ ?_
   | refine LeO.bind ?_ (fun _ => ?_)
def laws_FnCycleLines.T11 : Bool × List (List Nat × List Nat) := (true, [([], []), ([], []), ([], []), ([], []), ([2, 3], [2, 3]), ([4], [4]), ([0, 1, 5], [0, 1, 5]), ([6], [6]), ([7], [7]), ([7], [7]), ([8, 6, 0, 1, 2, 3, 4, 5, 6, 7, 8], [8]), ([9, 10, 0, 1, 2, 3, 4, 5, 6, 7, 8, 9, 10], [9])])
def laws_FnCycleLines.B11 : List Nat := [0, 0, 0, 0, 12, 28, 63, 127, 255, 255, 511, 2047]
theorem laws_FnCycleLines.tab11 : rtab .any (opsOf Tryd.f4 11) = laws_FnCycleLines.T11 := by kernel_rfl
theorem laws_FnCycleLines.bits11 : waitsOk laws_FnCycleLines.T11.2 laws_FnCycleLines.B11 = true := by kernel_rfl
set_option maxHeartbeats 8000000 in
set_option maxRecDepth 100000 in
theorem laws_FnCycleLines.calls (k : Nat) (A0 : Option Addr) (c0 : Nat) (l0 : List Int) (r : Bool) (w : World) (hr0 : Kd.C (Kd.int .u8) w A0 l0.length l0) (hc0 : l0.length ≤ c0) (h : laws_FnCycleLines.f k l0 = some r) :
  Calls Tryd.prog 4 #[.slice A0 l0.length c0] w fun e w' => e = .returned (.bool r) ∧ Below w.heap.size w w' := by
 have hu25 := Tryd.underlying25
 have HR0 := Aside0.mk hr0
 have HC0 := Aside0.mk hc0
 clear hr0 hc0
 have HB := aM (Below.refl w.heap.size w)
 have H : (if (l0.length : Int) > 1048576 then (some true) else ((spec_DrawCycleLines.f k l0).bind fun bt507 => ((impl_CycleLines.f k bt507.1 bt507.2.1 bt507.2.2).bind fun t515 => ((spec_CycleLines.f k bt507.1 bt507.2.1 bt507.2.2).bind fun t518 => ((laws_sameInts.f k t515 t518).bind fun t521 => (if t521 = true then ((impl_IslandNumbers.f k bt507.1 bt507.2.1 bt507.2.2).bind fun t522 => (laws_FnCycleLines.l0 k bt507.2.2 t515 t522 0 bt507.1 bt507.2.1)) else (none))))))) = some r := h
 clear h
 by_cases c2 : (l0.length : Int) > 1048576
 ·
  rw [if_pos c2] at H
  have c2b0 : decide (1048576 < (l0.length : Int)) = true := decide_eq_true c2
  have c2b1 : decide (1048576 < l0.length) = true := decide_eq_true (by omega)
  clear c2
  obtain rfl := Option.some.inj H
  go_enter Tryd.func4, Tryd.ntmps4
  go_wp2
  go_ret
  exact ⟨fR, bl0 HB⟩
 rw [if_neg c2] at H
 have c2b0 : decide (1048576 < (l0.length : Int)) = false := decide_eq_false c2
 have c2b1 : decide (1048576 < l0.length) = false := decide_eq_false (by omega)
 clear c2
 replace H := Option.bind_eq_some_iff.mp H
 obtain ⟨⟨t507, t508, t511⟩, A30, H⟩ := H
 replace H : ((impl_CycleLines.f k t507 t508 t511).bind fun t515 => ((spec_CycleLines.f k t507 t508 t511).bind fun t518 => ((laws_sameInts.f k t515 t518).bind fun t521 => (if t521 = true then ((impl_IslandNumbers.f k t507 t508 t511).bind fun t522 => (laws_FnCycleLines.l0 k t511 t515 t522 0 t507 t508)) else (none))))) = some r := H
 have A3 := Aside0.mk A30
 clear A30
 replace H := Option.bind_eq_some_iff.mp H
 obtain ⟨t515, A40, H⟩ := H
 replace H : ((spec_CycleLines.f k t507 t508 t511).bind fun t518 => ((laws_sameInts.f k t515 t518).bind fun t521 => (if t521 = true then ((impl_IslandNumbers.f k t507 t508 t511).bind fun t522 => (laws_FnCycleLines.l0 k t511 t515 t522 0 t507 t508)) else (none)))) = some r := H
 have A4 := Aside0.mk A40
 clear A40
 replace H := Option.bind_eq_some_iff.mp H
 obtain ⟨t518, A50, H⟩ := H
 replace H : ((laws_sameInts.f k t515 t518).bind fun t521 => (if t521 = true then ((impl_IslandNumbers.f k t507 t508 t511).bind fun t522 => (laws_FnCycleLines.l0 k t511 t515 t522 0 t507 t508)) else (none))) = some r := H
 have A5 := Aside0.mk A50
 clear A50
 replace H := Option.bind_eq_some_iff.mp H
 obtain ⟨t521, A60, H⟩ := H
 replace H : (if t521 = true then ((impl_IslandNumbers.f k t507 t508 t511).bind fun t522 => (laws_FnCycleLines.l0 k t511 t515 t522 0 t507 t508)) else (none)) = some r := H
 have A6 := Aside0.mk A60
 clear A60
 by_cases c7 : t521 = true
 rotate_left
 ·
  replace c7 := Bool.eq_false_iff.mpr c7
  subst c7
  have H1 : (none) = some r := by rw [if_neg (show ¬ (false = true) by decide)] at H; exact H
  clear H
  have H := H1
  clear H1
  exact absurd H (by simp)
 subst c7
 have H1 : ((impl_IslandNumbers.f k t507 t508 t511).bind fun t522 => (laws_FnCycleLines.l0 k t511 t515 t522 0 t507 t508)) = some r := by rw [if_pos rfl] at H; exact H
 clear H
 have H := H1
 clear H1
 replace H := Option.bind_eq_some_iff.mp H
 obtain ⟨t522, A80, H⟩ := H
 replace H : (laws_FnCycleLines.l0 k t511 t515 t522 0 t507 t508) = some r := H
 have A8 := Aside0.mk A80
 clear A80
 have H' := Aside0.mk H
 clear H
 go_enter Tryd.func4, Tryd.ntmps4
 go_wp2_with (first | ((with_reducible refine gate_callee (f := 20) rfl ?_); refine goesL_ (some 15) rfl rfl Tryd.func20 (by kernel_rfl) rfl #[.slice A0 l0.length c0] rfl mP ?_; (with_reducible refine (spec_DrawCycleLines.calls k _ _ l0 t507 t508 t511 _ ?side1 ?side2 A3.out).mono ?_); (case side1 => exact gC (HR0.out)); (case side2 => exact HC0.out); rintro e w9 ⟨v509, v512, rfl, ho0, ho1, hb⟩; refine ⟨_, rfl, ?_⟩; have n0_ := aM (Kd.R_lower ho0 (below_size (bl0 HB))); have n1_ := aM (Kd.R_lower ho1 (below_size (bl0 HB))); have n2_ := aM (below_step (bl0 HB) hb); clear HB; have HO510 := n0_; have HO513 := n1_; have HB := n2_; clear n0_ n1_ n2_; (try clear hb); (try clear hb2); (try clear hk); (try clear hi); (try clear ho0); (try clear ho1)) | ((with_reducible refine gate_dst (N := 3) rfl ?_); refine box_event ?hg (N := 3) ?hd (cs := #[.int .i64 0, .slice none 0 0]) (t := 25) ?hr ?_; (case hd => rfl); (case hg => rfl); (case hr => exact hR); intro gb514 hg w10 hbox hb; have n0_ := aM (Kd.R_below (gR (HO510.out)) hb); have n1_ := aM (Kd.R_below (gR (HO513.out)) hb); have n2_ := aM (below_step (bl0 HB) hb); have n3_ := aM (hbox); have n4_ := aM ((by rw [hg]; exact (below_size (bl0 HB)) : w.heap.size ≤ gb514)); have n5_ := aM ((by rw [hg]; exact (below_size (bl0 HB)) : w.heap.size ≤ gb514)); clear HO510; clear HO513; clear HB; have HO510 := n0_; have HO513 := n1_; have HB := n2_; have BK514 := n3_; have GW514 := n4_; have GE514 := n5_; clear n0_ n1_ n2_ n3_ n4_ n5_; clear hb hbox hg; have hcz11_0 : w10.cell? ⟨gb514, 0, none⟩ = some (.int .i64 0) := (blk_cell BK514.out 0).trans rfl; have hcz11_1 : w10.cell? ⟨gb514, 1, none⟩ = some (.slice none 0 0) := (blk_cell BK514.out 1).trans rfl; have hfz11_0 := blk_frozen BK514.out 0; have hfz11_1 := blk_frozen BK514.out 1; obtain ⟨Ao12, co12, eo12⟩ := Kd.R_slice HO510.out; subst eo12; obtain ⟨Ao13, co13, eo13⟩ := Kd.R_slice HO513.out; subst eo13) | ((with_reducible refine gate_callee (f := 21) rfl ?_); refine goesL_ (some 20) rfl rfl Tryd.func21 (by kernel_rfl) rfl #[.agg #[.int .i64 t507, .slice Ao12 t508.length co12], .slice Ao13 t511.length co13] rfl mP ?_; (with_reducible refine (impl_CycleLines.calls k t507 _ _ t508 _ _ t511 t515 _ ?side1 ?side2 ?side3 ?side4 A4.out).mono ?_); (case side1 => refine (Kd.R_reads' (e := 79) (base := w.heap.size) (ok := fun k_ => True) (n := t508.length) (c := co12) ?_).2.2; exact (by (with_reducible repeat (first | apply Kd.R_alloc | apply Kd.R_drewN | apply Kd.R_drew)); exact (Kd.R_mono (Kd.R_far (p := ⟨gb514, 1, none⟩) (Kd.R_far (p := ⟨gb514, 0, none⟩) (Kd.R_types HO510.out BK514.out (by decide)) (fun _ hk => hk.2) (.int .i64 t507)) (fun _ hk => hk.2) (.slice Ao12 t508.length co12)) (fun _ h_ => h_.1)))); (case side2 => exact (Kd.R_reads' HO510.out).2.1); (case side3 => refine (Kd.R_reads' (e := 4) (base := w.heap.size) (ok := fun k_ => True) (n := t511.length) (c := co13) ?_).2.2; exact (by (with_reducible repeat (first | apply Kd.R_alloc | apply Kd.R_drewN | apply Kd.R_drew)); exact (Kd.R_mono (Kd.R_far (p := ⟨gb514, 1, none⟩) (Kd.R_far (p := ⟨gb514, 0, none⟩) (Kd.R_types HO513.out BK514.out (by decide)) (fun _ hk => hk.2) (.int .i64 t507)) (fun _ hk => hk.2) (.slice Ao12 t508.length co12)) (fun _ h_ => h_.1)))); (case side4 => exact (Kd.R_reads' HO513.out).2.1); rintro e w14 ⟨v516, rfl, ho0, hb⟩; refine ⟨_, rfl, ?_⟩; have n0_ := aM (Kd.R_below (by (with_reducible repeat (first | apply Kd.R_alloc | apply Kd.R_drewN | apply Kd.R_drew)); exact (Kd.R_mono (Kd.R_far (p := ⟨gb514, 1, none⟩) (Kd.R_far (p := ⟨gb514, 0, none⟩) (Kd.R_types HO510.out BK514.out (by decide)) (fun _ hk => hk.2) (.int .i64 t507)) (fun _ hk => hk.2) (.slice Ao12 t508.length co12)) (fun _ h_ => h_.1))) hb); have n1_ := aM (Kd.R_below (by (with_reducible repeat (first | apply Kd.R_alloc | apply Kd.R_drewN | apply Kd.R_drew)); exact (Kd.R_mono (Kd.R_far (p := ⟨gb514, 1, none⟩) (Kd.R_far (p := ⟨gb514, 0, none⟩) (Kd.R_types HO513.out BK514.out (by decide)) (fun _ hk => hk.2) (.int .i64 t507)) (fun _ hk => hk.2) (.slice Ao12 t508.length co12)) (fun _ h_ => h_.1))) hb); have n2_ := aM (Kd.R_lower ho0 (below_size (bl1 HB GE514))); have n3_ := aM (blk_below (g := gb514) (o := .cells #[.int .i64 t507, .slice Ao12 t508.length co12] 25 (0, 0)) (by (with_reducible repeat (first | refine blk_drewN ?_ _ | refine blk_drew ?_ | refine blk_alloc ?_ _)); refine blk_put (cs := #[.int .i64 t507, .slice none 0 0]) ?_ 1 _ rfl; (with_reducible repeat (first | refine blk_drewN ?_ _ | refine blk_drew ?_ | refine blk_alloc ?_ _)); refine blk_put (cs := #[.int .i64 0, .slice none 0 0]) ?_ 0 _ rfl; (with_reducible repeat (first | refine blk_drewN ?_ _ | refine blk_drew ?_ | refine blk_alloc ?_ _)); exact BK514.out) hb); have n4_ := aM (below_step (bl1 HB GE514) hb); clear HO510; clear HO513; clear BK514; clear HB; have HO510 := n0_; have HO513 := n1_; have HO517 := n2_; have BK514 := n3_; have HB := n4_; clear n0_ n1_ n2_ n3_ n4_; (try clear hb); (try clear hb2); (try clear hk); (try clear hi); (try clear ho0); have hcz15_0 : w14.cell? ⟨gb514, 0, none⟩ = some (.int .i64 t507) := (blk_cell BK514.out 0).trans rfl; have hcz15_1 : w14.cell? ⟨gb514, 1, none⟩ = some (.slice Ao12 t508.length co12) := (blk_cell BK514.out 1).trans rfl; have hfz15_0 := blk_frozen BK514.out 0; have hfz15_1 := blk_frozen BK514.out 1) | ((with_reducible refine gate_callee (f := 23) rfl ?_); refine goesL_ (some 24) rfl rfl Tryd.func23 (by kernel_rfl) rfl #[.agg #[.int .i64 t507, .slice Ao12 t508.length co12], .slice Ao13 t511.length co13] rfl mP ?_; (with_reducible refine (spec_CycleLines.calls k t507 _ _ t508 _ _ t511 t518 _ ?side1 ?side2 ?side3 ?side4 A5.out).mono ?_); (case side1 => exact gC ((Kd.R_reads' HO510.out).2.2)); (case side2 => exact (Kd.R_reads' HO510.out).2.1); (case side3 => exact gC ((Kd.R_reads' HO513.out).2.2)); (case side4 => exact (Kd.R_reads' HO513.out).2.1); rintro e w16 ⟨v519, rfl, ho0, hb⟩; refine ⟨_, rfl, ?_⟩; have n0_ := aM (Kd.R_below (gR (HO510.out)) hb); have n1_ := aM (Kd.R_below (gR (HO513.out)) hb); have n2_ := aM (Kd.R_elder' (gR (HO517.out)) (Kd.R_base ho0) hb); have n3_ := aM (Kd.R_lower (Kd.R_new' ho0 (Kd.R_lt (gR (HO517.out)))) (below_size (bl1 HB GE514))); have n4_ := aM (blk_below (g := gb514) (o := .cells #[.int .i64 t507, .slice Ao12 t508.length co12] 25 (0, 0)) (gB (BK514.out)) hb); have n5_ := aM (below_step (bl1 HB GE514) hb); clear HO510; clear HO513; clear HO517; clear BK514; clear HB; have HO510 := n0_; have HO513 := n1_; have HO517 := n2_; have HO520 := n3_; have BK514 := n4_; have HB := n5_; clear n0_ n1_ n2_ n3_ n4_ n5_; (try clear hb); (try clear hb2); (try clear hk); (try clear hi); (try clear ho0); obtain ⟨Ao17, co17, eo17⟩ := Kd.R_slice HO517.out; subst eo17; obtain ⟨Ao18, co18, eo18⟩ := Kd.R_slice HO520.out; subst eo18) | ((with_reducible refine gate_callee (f := 22) rfl ?_); refine goesL_ (some 25) rfl rfl Tryd.func22 (by kernel_rfl) rfl #[.slice Ao17 t515.length co17, .slice Ao18 t518.length co18] rfl mP ?_; (with_reducible refine (laws_sameInts.calls k _ _ t515 _ _ t518 true _ ?side1 ?side2 ?side3 ?side4 A6.out).mono ?_); (case side1 => exact gC ((Kd.R_reads' HO517.out).2.2)); (case side2 => exact (Kd.R_reads' HO517.out).2.1); (case side3 => exact gC ((Kd.R_reads' HO520.out).2.2)); (case side4 => exact (Kd.R_reads' HO520.out).2.1); rintro e w' ⟨rfl, ⟨nd, rfl⟩⟩; refine ⟨_, rfl, ?_⟩; have hcz19_0 : w16.cell? ⟨gb514, 0, none⟩ = some (.int .i64 t507) := (blk_cell BK514.out 0).trans rfl; have hcz19_1 : w16.cell? ⟨gb514, 1, none⟩ = some (.slice Ao12 t508.length co12) := (blk_cell BK514.out 1).trans rfl; have hfz19_0 := blk_frozen BK514.out 0; have hfz19_1 := blk_frozen BK514.out 1) | ((with_reducible refine gate_callee (f := 24) rfl ?_); refine goesL_ (some 29) rfl rfl Tryd.func24 (by kernel_rfl) rfl #[.agg #[.int .i64 t507, .slice Ao12 t508.length co12], .slice Ao13 t511.length co13] rfl mP ?_; (with_reducible refine (impl_IslandNumbers.calls k t507 _ _ t508 _ _ t511 t522 _ ?side1 ?side2 ?side3 ?side4 A8.out).mono ?_); (case side1 => exact gC ((Kd.R_reads' HO510.out).2.2)); (case side2 => exact (Kd.R_reads' HO510.out).2.1); (case side3 => exact gC ((Kd.R_reads' HO513.out).2.2)); (case side4 => exact (Kd.R_reads' HO513.out).2.1); rintro e w20 ⟨v523, rfl, ho0, hb⟩; refine ⟨_, rfl, ?_⟩; have n0_ := aM (Kd.R_below (gR (HO510.out)) hb); have n1_ := aM (Kd.R_below (gR (HO513.out)) hb); have n2_ := aM (Kd.R_elder' (gR (HO517.out)) (Kd.R_base ho0) hb); have n3_ := aM (Kd.R_elder' (gR (HO520.out)) (Kd.R_base ho0) hb); have n4_ := aM (Kd.R_lower (Kd.R_new' (Kd.R_new' ho0 (Kd.R_lt (gR (HO517.out)))) (Kd.R_lt (gR (HO520.out)))) (below_size (bl1 HB GE514))); have n5_ := aM (blk_below (g := gb514) (o := .cells #[.int .i64 t507, .slice Ao12 t508.length co12] 25 (0, 0)) (gB (BK514.out)) hb); have n6_ := aM (below_step (bl1 HB GE514) hb); clear HO510; clear HO513; clear HO517; clear HO520; clear BK514; clear HB; have HO510 := n0_; have HO513 := n1_; have HO517 := n2_; have HO520 := n3_; have HO524 := n4_; have BK514 := n5_; have HB := n6_; clear n0_ n1_ n2_ n3_ n4_ n5_ n6_; (try clear hb); (try clear hb2); (try clear hk); (try clear hi); (try clear ho0)))
 go_loopg [7] k (fun kq v7 w' => ∃ (x7_1 : Int), v7 = .int .i64 x7_1 ∧ Aside0 (laws_FnCycleLines.l0 kq t511 t515 t522 x7_1 t507 t508 = some r) ∧ Aside0 (kq ≤ k) ∧ Aside0 (Kd.R Kd.bool 4 w' w.heap.size (fun _ => True) (.slice Ao13 t511.length co13) t511) ∧ Aside0 (Kd.R (Kd.int .i64) 3 w' w.heap.size (fun k_ => some k_ ≠ (v523 : Value).ownBlock) (.slice Ao17 t515.length co17) t515) ∧ Aside0 (Kd.R (Kd.int .i64) 3 w' w.heap.size (fun k_ => some k_ ≠ ((.slice Ao17 t515.length co17) : Value).ownBlock) v523 t522) ∧ Aside0 (Kd.R k79 79 w' w.heap.size (fun _ => True) (.slice Ao12 t508.length co12) t508) ∧ Aside0 (w'.heap[gb514]? = some (.cells #[.int .i64 t507, (.slice Ao12 t508.length co12)] 25 (0, 0))) ∧ Aside0 (Below w.heap.size w w'))
 case atStart => exact ⟨(0), fS, H', ⟨Nat.le_refl _⟩, ⟨gR (HO513.out)⟩, ⟨by (with_reducible repeat (first | apply Kd.R_alloc | apply Kd.R_drewN | apply Kd.R_drew)); exact Kd.R_mono HO517.out (fun _ hk => hk.2)⟩, ⟨by (with_reducible repeat (first | apply Kd.R_alloc | apply Kd.R_drewN | apply Kd.R_drew)); exact Kd.R_mono HO524.out (fun _ hk => hk.1.2)⟩, ⟨gR (HO510.out)⟩, ⟨gB (BK514.out)⟩, ⟨bl1 HB GE514⟩⟩
 case round =>
  clear H'
  try clear c2
  try clear c2b0
  try clear c2b1
  try clear p2
  try clear c4
  try clear c7
  try clear c20
  try clear hcz11_0
  try clear hcz11_1
  try clear hcz15_0
  try clear hcz15_1
  try clear hcz19_0
  try clear hcz19_1
  try clear hfz11_0
  try clear hfz11_1
  try clear hfz15_0
  try clear hfz15_1
  try clear hfz19_0
  try clear hfz19_1
  obtain ⟨x7_1, rfl, HA, HK1, HO_4, HO_5, HO_6, HO_515001, BK514, HB⟩ := hrel
  cases gk with
  | zero => exact absurd HA.out (by simp [laws_FnCycleLines.l0])
  | succ k1 =>
   have H := HA.out
   clear HA
   simp only [laws_FnCycleLines.l0] at H
   by_cases c21 : x7_1 < (t515.length : Int)
   rotate_left
   ·
    rw [if_neg c21] at H
    have c21b0 : decide (x7_1 < (t515.length : Int)) = false := decide_eq_false c21
    clear c21
    replace H := Option.bind_eq_some_iff.mp H
    obtain ⟨t525, A380, H⟩ := H
    replace H : (if t525 = true then ((laws_alive.f k1).bind fun t526 => (some t526)) else (none)) = some r := H
    have A38 := Aside0.mk A380
    clear A380
    by_cases c39 : t525 = true
    rotate_left
    ·
     replace c39 := Bool.eq_false_iff.mpr c39
     subst c39
     have H1 : (none) = some r := by rw [if_neg (show ¬ (false = true) by decide)] at H; exact H
     clear H
     have H := H1
     clear H1
     exact absurd H (by simp)
    subst c39
    have H1 : ((laws_alive.f k1).bind fun t526 => (some t526)) = some r := by rw [if_pos rfl] at H; exact H
    clear H
    have H := H1
    clear H1
    replace H := Option.bind_eq_some_iff.mp H
    obtain ⟨t526, A400, H⟩ := H
    replace H : (some t526) = some r := H
    have A40 := Aside0.mk A400
    clear A400
    obtain rfl := Option.some.inj H
    go_wp2_with (first | ((with_reducible refine gate_callee (f := 26) rfl ?_); refine goesL_ (some 63) rfl rfl Tryd.func26 (by kernel_rfl) rfl #[.slice Ao17 t515.length co17] rfl mP ?_; (with_reducible refine (laws_ascend.calls k1 _ _ t515 true _ ?side1 ?side2 A38.out).mono ?_); (case side1 => exact gC ((Kd.R_reads' HO_5.out).2.2)); (case side2 => exact (Kd.R_reads' HO_5.out).2.1); rintro e w' ⟨rfl, ⟨nd, rfl⟩⟩; refine ⟨_, rfl, ?_⟩) | (go_at_call 17; (with_reducible refine (laws_alive.calls k1  t526 _ A40.out).mono ?_); rintro e w41 ⟨rfl, hb⟩; have n0_ := aM (Kd.R_below (gR (HO_4.out)) hb); have n1_ := aM (Kd.R_below (gR (HO_5.out)) hb); have n2_ := aM (Kd.R_below (gR (HO_6.out)) hb); have n3_ := aM (Kd.R_below (gR (HO_515001.out)) hb); have n4_ := aM (blk_below (g := gb514) (o := .cells #[.int .i64 t507, .slice Ao12 t508.length co12] 25 (0, 0)) (gB (BK514.out)) hb); have n5_ := aM (below_step (bl1 HB GE514) hb); clear HO_4; clear HO_5; clear HO_6; clear HO_515001; clear BK514; clear HB; have HO_4 := n0_; have HO_5 := n1_; have HO_6 := n2_; have HO_515001 := n3_; have BK514 := n4_; have HB := n5_; clear n0_ n1_ n2_ n3_ n4_ n5_; (try clear hb); (try clear hb2); (try clear hk); (try clear hi)))
    go_ret
    exact ⟨fR, bl1 HB GE514⟩
   rw [if_pos c21] at H
   have c21b0 : decide (x7_1 < (t515.length : Int)) = true := decide_eq_true c21
   clear c21
   by_cases c22 : 0 ≤ x7_1
   rotate_left
   ·
    rw [if_neg c22] at H
    exact absurd H (by simp)
   rw [if_pos c22] at H
   have c22b0 : decide (0 ≤ x7_1) = true := decide_eq_true c22
   clear c22
   replace H := Option.bind_eq_some_iff.mp H
   obtain ⟨⟨t528, t531⟩, A230, H⟩ := H
   replace H : (if 0 ≤ (rd t515 x7_1) then (if (rd t515 x7_1) < (t511.length : Int) then (if (rdOf false t511 (rd t515 x7_1) = true) then ((impl_IslandNumbers.f k1 t507 t508 t528).bind fun t536 => ((laws_sameInts.f k1 t536 t522).bind fun t539 => (if t539 = true then (laws_FnCycleLines.l0 k1 t511 t515 t522 (wrap64 (x7_1 + 1)) t507 t508) else (none)))) else (none)) else (none)) else (none)) = some r := H
   have A23 := Aside0.mk A230
   clear A230
   by_cases c24 : 0 ≤ (rd t515 x7_1)
   rotate_left
   ·
    rw [if_neg c24] at H
    exact absurd H (by simp)
   rw [if_pos c24] at H
   have c24b0 : decide (0 ≤ (rd t515 x7_1)) = true := decide_eq_true c24
   clear c24
   by_cases c25 : (rd t515 x7_1) < (t511.length : Int)
   rotate_left
   ·
    rw [if_neg c25] at H
    exact absurd H (by simp)
   rw [if_pos c25] at H
   have c25b0 : decide ((rd t515 x7_1) < (t511.length : Int)) = true := decide_eq_true c25
   clear c25
   obtain ⟨bq26, hbq26⟩ : ∃ b_ : Bool, b_ = (rdOf false t511 (rd t515 x7_1)) := ⟨_, rfl⟩
   replace H : (if (bq26 = true) then ((impl_IslandNumbers.f k1 t507 t508 t528).bind fun t536 => ((laws_sameInts.f k1 t536 t522).bind fun t539 => (if t539 = true then (laws_FnCycleLines.l0 k1 t511 t515 t522 (wrap64 (x7_1 + 1)) t507 t508) else (none)))) else (none)) = some r := by rw [← hbq26] at H; exact H
   have Nbq26 := Aside0.mk hbq26
   clear hbq26
   by_cases c27 : (bq26 = true)
   rotate_left
   ·
    replace c27 := Bool.eq_false_iff.mpr c27
    subst c27
    have H1 : (none) = some r := by rw [if_neg (show ¬ (false = true) by decide)] at H; exact H
    clear H
    have H := H1
    clear H1
    exact absurd H (by simp)
   subst c27
   have H1 : ((impl_IslandNumbers.f k1 t507 t508 t528).bind fun t536 => ((laws_sameInts.f k1 t536 t522).bind fun t539 => (if t539 = true then (laws_FnCycleLines.l0 k1 t511 t515 t522 (wrap64 (x7_1 + 1)) t507 t508) else (none)))) = some r := by rw [if_pos rfl] at H; exact H
   clear H
   have H := H1
   clear H1
   replace H := Option.bind_eq_some_iff.mp H
   obtain ⟨t536, A280, H⟩ := H
   replace H : ((laws_sameInts.f k1 t536 t522).bind fun t539 => (if t539 = true then (laws_FnCycleLines.l0 k1 t511 t515 t522 (wrap64 (x7_1 + 1)) t507 t508) else (none))) = some r := H
   have A28 := Aside0.mk A280
   clear A280
   replace H := Option.bind_eq_some_iff.mp H
   obtain ⟨t539, A290, H⟩ := H
   replace H : (if t539 = true then (laws_FnCycleLines.l0 k1 t511 t515 t522 (wrap64 (x7_1 + 1)) t507 t508) else (none)) = some r := H
   have A29 := Aside0.mk A290
   clear A290
   by_cases c30 : t539 = true
   rotate_left
   ·
    replace c30 := Bool.eq_false_iff.mpr c30
    subst c30
    have H1 : (none) = some r := by rw [if_neg (show ¬ (false = true) by decide)] at H; exact H
    clear H
    have H := H1
    clear H1
    exact absurd H (by simp)
   subst c30
   have H1 : (laws_FnCycleLines.l0 k1 t511 t515 t522 (wrap64 (x7_1 + 1)) t507 t508) = some r := by rw [if_pos rfl] at H; exact H
   clear H
   have H := H1
   clear H1
   have H' := Aside0.mk H
   clear H
   try go_wp2
   have n0_ := aM (Kd.R_drew HO_4.out)
   have n1_ := aM (Kd.R_drew HO_5.out)
   have n2_ := aM (Kd.R_drew HO_6.out)
   have n3_ := aM (Kd.R_drew HO_515001.out)
   have n4_ := aM (blk_drew BK514.out)
   have n5_ := aM (below_drew1 HB.out)
   clear HO_4
   clear HO_5
   clear HO_6
   clear HO_515001
   clear BK514
   clear HB
   have HO_4 := n0_
   have HO_5 := n1_
   have HO_6 := n2_
   have HO_515001 := n3_
   have BK514 := n4_
   have HB := n5_
   clear n0_ n1_ n2_ n3_ n4_ n5_
   have p527 : 0 ≤ (x7_1 : Int) := oD
   have q527 : x7_1 < (t515.length : Int) := oD
   obtain ⟨ad527, e527, hx527_0⟩ := Kd.at_int (Kd.R_reads' HO_5.out).2.2 x7_1 p527 q527
   cases e527
   replace p527 := eq_true p527
   replace q527 := eq_true q527
   refine start_ (n := 12) (S := fun w' => w'.cell? ⟨gb514, 0, none⟩ = some (.int .i64 t507) ∧ w'.cell? ⟨gb514, 1, none⟩ = some (.slice Ao12 t508.length co12) ∧ w'.cell? (ad527.add (x7_1).toNat) = some (.int .i64 (rd t515 x7_1))) (ds := []) #[false, false, false, false, false, false, false, false, false, false, false, false] (by kernel_rfl) rfl rfl ⟨(blk_cell BK514.out 0).trans rfl, (blk_cell BK514.out 1).trans rfl, hx527_0⟩ (fun hHeld => ?_); refine with_tabW laws_FnCycleLines.tab11 laws_FnCycleLines.bits11 (fun HT_ HW_ => ?_)
   generalize wr.drew = w31 at HO_4 HO_5 HO_6 HO_515001 BK514 HB hx527_0 hHeld ⊢
   refine pure_ (i := 1) (N := some 38) (v := ?_) (a' := ?_) #[false, true, false, false, false, false, false, false, false, false, false, false] rfl rfl (any_of HT_.out (by kernel_rfl)) (fun _ _ _ h => h) (Or.inl ⟨by rfl, ?_⟩) ?_ ?_
   rotate_left
   ·
    intro w'
    go_simp
    with_reducible rfl
   rotate_left
   ·
    simp only [Act.put, List.setIfInBounds_toArray, List.set_cons_zero, List.set_cons_succ, i64_w, i32_w]
    rfl
   refine pure_ (i := 2) (N := some 39) (v := ?_) (a' := ?_) #[false, true, true, false, false, false, false, false, false, false, false, false] rfl rfl (any_of HT_.out (by kernel_rfl)) (fun _ _ _ h => h) (Or.inl ⟨by rfl, ?_⟩) ?_ ?_
   rotate_left
   ·
    intro w'
    go_simp
    with_reducible rfl
   rotate_left
   ·
    simp only [Act.put, List.setIfInBounds_toArray, List.set_cons_zero, List.set_cons_succ, i64_w, i32_w]
    rfl
   refine pure_ (i := 3) (N := some 40) (v := ?_) (a' := ?_) #[false, true, true, true, false, false, false, false, false, false, false, false] rfl rfl (any_of HT_.out (by kernel_rfl)) (fun _ _ _ h => h) (Or.inl ⟨by rfl, ?_⟩) ?_ ?_
   rotate_left
   ·
    intro w'
    go_simp
    with_reducible rfl
   rotate_left
   ·
    simp only [Act.put, List.setIfInBounds_toArray, List.set_cons_zero, List.set_cons_succ, i64_w, i32_w]
    rfl
   refine pure_ (i := 4) (N := some 41) (v := ?_) (a' := ?_) #[false, true, true, true, true, false, false, false, false, false, false, false] rfl rfl (any_of HT_.out (by kernel_rfl)) (fun _ _ _ h => h) (Or.inl ⟨by rfl, ?_⟩) ?_ ?_
   rotate_left
   ·
    intro w'
    go_simp
    with_reducible rfl
   rotate_left
   ·
    simp only [Act.put, List.setIfInBounds_toArray, List.set_cons_zero, List.set_cons_succ, i64_w, i32_w]
    rfl
   refine take_ (i := 0) (N := some 37) (v := ?_) (a' := ?_) #[true, true, true, true, true, false, false, false, false, false, false, false] rfl rfl (take_ofW HT_.out HW_.out (by kernel_rfl)) (fun _ _ _ h => h) (Or.inl ⟨by rfl, ?_⟩) hHeld ?_ ?_
   rotate_left
   ·
    rintro w' ⟨s0, s1, s2⟩
    go_simp
    with_reducible rfl
   rotate_left
   ·
    simp only [Act.put, List.setIfInBounds_toArray, List.set_cons_zero, List.set_cons_succ, i64_w, i32_w]
    rfl
   refine take_ (i := 5) (N := some 42) (v := ?_) (a' := ?_) #[true, true, true, true, true, true, false, false, false, false, false, false] rfl rfl (take_ofW HT_.out HW_.out (by kernel_rfl)) (fun _ _ _ h => h) (Or.inl ⟨by rfl, ?_⟩) hHeld ?_ ?_
   rotate_left
   ·
    rintro w' ⟨s0, s1, s2⟩
    go_simp
    with_reducible rfl
   rotate_left
   ·
    simp only [Act.put, List.setIfInBounds_toArray, List.set_cons_zero, List.set_cons_succ, i64_w, i32_w]
    rfl
   refine one_ (i := 6) (N := some 43) #[true, true, true, true, true, true, true, false, false, false, false, false] rfl rfl (one_of HT_.out (by kernel_rfl)) (by decide) (fun K hK => ?_)
   refine goes_ Tryd.func25 (by kernel_rfl) rfl #[.agg #[.int .i64 t507, .slice Ao12 t508.length co12], .slice Ao13 t511.length co13, .int .i64 (rd t515 x7_1)] (by rfl) rfl rfl mP ?_
   with_reducible refine (laws_offOn.calls k1 t507 _ _ t508 _ _ t511 (rd t515 x7_1) t528 t531 _ ?side1 ?side2 ?side3 ?side4 A23.out).mono ?_
   (case side1 => exact gC ((Kd.R_reads' HO_515001.out).2.2))
   (case side2 => exact (Kd.R_reads' HO_515001.out).2.1)
   (case side3 => exact gC ((Kd.R_reads' HO_4.out).2.2))
   (case side4 => exact (Kd.R_reads' HO_4.out).2.1)
   rintro e w32 ⟨v529, v532, rfl, ho0, ho1, hb⟩
   have HS2_ := (hb.cell (World.block_lt_of_cell? _ _ (hHeld.2.2))).trans (hHeld.2.2)
   refine ⟨_, rfl, ?_⟩
   have n0_ := aM (Kd.R_mono (Kd.R_told (Kd.R_told (Kd.R_old (gR (HO_4.out)) hb) (Kd.R_base ho0)) (Kd.R_base ho1)) (fun _ h_ => h_.1))
   have n1_ := aM (Kd.R_below (gR (HO_5.out)) hb)
   have n2_ := aM (Kd.R_below (gR (HO_6.out)) hb)
   have n3_ := aM (Kd.R_below (gR (HO_515001.out)) hb)
   have n4_ := aM (Kd.R_lower (Kd.R_new' ho0 (Kd.R_lt (gR (HO_4.out)))) (below_size (bl1 HB GE514)))
   have n5_ := aM (Kd.R_lower (Kd.R_new' ho1 (Kd.R_lt (gR (HO_4.out)))) (below_size (bl1 HB GE514)))
   have n6_ := aM (blk_below (g := gb514) (o := .cells #[.int .i64 t507, .slice Ao12 t508.length co12] 25 (0, 0)) (gB (BK514.out)) hb)
   have n7_ := aM (below_step (bl1 HB GE514) hb)
   clear HO_4
   clear HO_5
   clear HO_6
   clear HO_515001
   clear BK514
   clear HB
   have HO_4 := n0_
   have HO_5 := n1_
   have HO_6 := n2_
   have HO_515001 := n3_
   have HO530 := n4_
   have HO533 := n5_
   have BK514 := n6_
   have HB := n7_
   clear n0_ n1_ n2_ n3_ n4_ n5_ n6_ n7_
   (try clear hb)
   (try clear hb2)
   (try clear hk)
   (try clear hi)
   (try clear ho0)
   (try clear ho1)
   refine hK.out _ _ ⟨(blk_cell BK514.out 0).trans rfl, (blk_cell BK514.out 1).trans rfl, HS2_⟩ (fun hHeld => ?_)
   clear hK K
   refine norm_ (a' := ?_) ?_ ?_
   rotate_left
   ·
    show Act.put _ (some 43) _ = _
    simp only [Act.put, List.setIfInBounds_toArray, List.set_cons_zero, List.set_cons_succ, i64_w, i32_w]
    rfl
   refine pure_ (i := 7) (N := some 36) (v := ?_) (a' := ?_) #[true, true, true, true, true, true, true, true, false, false, false, false] rfl rfl (any_of HT_.out (by kernel_rfl)) (fun _ _ _ h => h) (Or.inl ⟨by rfl, ?_⟩) ?_ ?_
   rotate_left
   ·
    intro w'
    go_simp
    with_reducible rfl
   rotate_left
   ·
    simp only [Act.put, List.setIfInBounds_toArray, List.set_cons_zero, List.set_cons_succ, i64_w, i32_w]
    rfl
   refine pure_ (i := 8) (N := some 44) (v := ?_) (a' := ?_) #[true, true, true, true, true, true, true, true, true, false, false, false] rfl rfl (any_of HT_.out (by kernel_rfl)) (fun _ _ _ h => h) (Or.inl ⟨by rfl, ?_⟩) ?_ ?_
   rotate_left
   ·
    intro w'
    go_simp
    with_reducible rfl
   rotate_left
   ·
    simp only [Act.put, List.setIfInBounds_toArray, List.set_cons_zero, List.set_cons_succ, i64_w, i32_w]
    rfl
   refine pure_ (i := 9) (N := some 45) (v := ?_) (a' := ?_) #[true, true, true, true, true, true, true, true, true, true, false, false] rfl rfl (any_of HT_.out (by kernel_rfl)) (fun _ _ _ h => h) (Or.inl ⟨by rfl, ?_⟩) ?_ ?_
   rotate_left
   ·
    intro w'
    go_simp
    with_reducible rfl
   rotate_left
   ·
    simp only [Act.put, List.setIfInBounds_toArray, List.set_cons_zero, List.set_cons_succ, i64_w, i32_w]
    rfl
   refine pure_ (i := 10) (N := some 8) (v := ?_) (a' := ?_) #[true, true, true, true, true, true, true, true, true, true, true, false] rfl rfl (any_of HT_.out (by kernel_rfl)) (fun _ _ _ h => h) (Or.inl ⟨by rfl, ?_⟩) ?_ ?_
   rotate_left
   ·
    intro w'
    go_simp
    with_reducible rfl
   rotate_left
   ·
    simp only [Act.put, List.setIfInBounds_toArray, List.set_cons_zero, List.set_cons_succ, i64_w, i32_w]
    rfl
   refine pure_ (i := 11) (N := some 9) (v := ?_) (a' := ?_) #[true, true, true, true, true, true, true, true, true, true, true, true] rfl rfl (any_of HT_.out (by kernel_rfl)) (fun _ _ _ h => h) (Or.inl ⟨by rfl, ?_⟩) ?_ ?_
   rotate_left
   ·
    intro w'
    go_simp
    with_reducible rfl
   rotate_left
   ·
    simp only [Act.put, List.setIfInBounds_toArray, List.set_cons_zero, List.set_cons_succ, i64_w, i32_w]
    rfl
   refine done_ (done_of HT_.out (by kernel_rfl)) ?_
   have p534 : 0 ≤ (x7_1 : Int) := oD
   have q534 : x7_1 < (t515.length : Int) := oD
   obtain ⟨ad534, e534, hx534_0⟩ := Kd.at_int (Kd.R_reads' HO_5.out).2.2 x7_1 p534 q534
   obtain rfl : ad527 = ad534 := (by injection e534)
   replace p534 := eq_true p534
   replace q534 := eq_true q534
   have p535 : 0 ≤ ((rd t515 x7_1) : Int) := oD
   have q535 : (rd t515 x7_1) < (t511.length : Int) := oD
   obtain ⟨ad535, e535, hx535_0⟩ := Kd.at_bool (Kd.R_reads' HO_4.out).2.2 (rd t515 x7_1) p535 q535
   (try rw [← Nbq26.out] at hx535_0)
   cases e535
   replace p535 := eq_true p535
   replace q535 := eq_true q535
   have hcz33_0 : w32.cell? ⟨gb514, 0, none⟩ = some (.int .i64 t507) := (blk_cell BK514.out 0).trans rfl
   have hcz33_1 : w32.cell? ⟨gb514, 1, none⟩ = some (.slice Ao12 t508.length co12) := (blk_cell BK514.out 1).trans rfl
   have hfz33_0 := blk_frozen BK514.out 0
   have hfz33_1 := blk_frozen BK514.out 1
   obtain ⟨Ao34, co34, eo34⟩ := Kd.R_slice HO530.out
   subst eo34
   try go_wp2_with (first | (go_at_call 24; (with_reducible refine (impl_IslandNumbers.calls k1 t507 _ _ t508 _ _ t528 t536 _ ?side1 ?side2 ?side3 ?side4 A28.out).mono ?_); (case side1 => exact gC ((Kd.R_reads' HO_515001.out).2.2)); (case side2 => exact (Kd.R_reads' HO_515001.out).2.1); (case side3 => exact gC ((Kd.R_reads' HO530.out).2.2)); (case side4 => exact (Kd.R_reads' HO530.out).2.1); rintro e w35 ⟨v537, rfl, ho0, hb⟩; have n0_ := aM (Kd.R_below (gR (HO_4.out)) hb); have n1_ := aM (Kd.R_elder' (gR (HO_5.out)) (Kd.R_base ho0) hb); have n2_ := aM (Kd.R_elder' (gR (HO_6.out)) (Kd.R_base ho0) hb); have n3_ := aM (Kd.R_below (gR (HO_515001.out)) hb); have n4_ := aM (Kd.R_below (gR (HO530.out)) hb); have n5_ := aM (Kd.R_below (gR (HO533.out)) hb); have n6_ := aM (Kd.R_lower (Kd.R_new' (Kd.R_new' ho0 (Kd.R_lt (gR (HO_5.out)))) (Kd.R_lt (gR (HO_6.out)))) (below_size (bl1 HB GE514))); have n7_ := aM (blk_below (g := gb514) (o := .cells #[.int .i64 t507, .slice Ao12 t508.length co12] 25 (0, 0)) (gB (BK514.out)) hb); have n8_ := aM (below_step (bl1 HB GE514) hb); clear HO_4; clear HO_5; clear HO_6; clear HO_515001; clear HO530; clear HO533; clear BK514; clear HB; have HO_4 := n0_; have HO_5 := n1_; have HO_6 := n2_; have HO_515001 := n3_; have HO530 := n4_; have HO533 := n5_; have HO538 := n6_; have BK514 := n7_; have HB := n8_; clear n0_ n1_ n2_ n3_ n4_ n5_ n6_ n7_ n8_; (try clear hb); (try clear hb2); (try clear hk); (try clear hi); (try clear ho0); obtain ⟨Ao36, co36, eo36⟩ := Kd.R_slice HO538.out; subst eo36; obtain ⟨Ao37, co37, eo37⟩ := Kd.R_slice HO_6.out; subst eo37) | (go_at_call 22; (with_reducible refine (laws_sameInts.calls k1 _ _ t536 _ _ t522 true _ ?side1 ?side2 ?side3 ?side4 A29.out).mono ?_); (case side1 => exact gC ((Kd.R_reads' HO538.out).2.2)); (case side2 => exact (Kd.R_reads' HO538.out).2.1); (case side3 => exact gC ((Kd.R_reads' HO_6.out).2.2)); (case side4 => exact (Kd.R_reads' HO_6.out).2.1); rintro e w' ⟨rfl, ⟨nd, rfl⟩⟩))
   go_roundg k1
   case measure => have := HK1.out; omega
   case rel => exact ⟨(wrap64 (x7_1 + 1)), fS, H', ⟨by have := HK1.out; omega⟩, ⟨by (with_reducible repeat (first | apply Kd.R_alloc | apply Kd.R_drewN | apply Kd.R_drew)); exact Kd.R_mono HO_4.out (fun _ hk => trivial)⟩, ⟨by (with_reducible repeat (first | apply Kd.R_alloc | apply Kd.R_drewN | apply Kd.R_drew)); exact Kd.R_mono HO_5.out (fun _ hk => hk.1)⟩, ⟨by (with_reducible repeat (first | apply Kd.R_alloc | apply Kd.R_drewN | apply Kd.R_drew)); exact Kd.R_mono HO_6.out (fun _ hk => hk.1)⟩, ⟨gR (HO_515001.out)⟩, ⟨gB (BK514.out)⟩, ⟨bl1 HB GE514⟩⟩

end Go.Proofs.YtpgjgbjkfgbpaaaDoor.P

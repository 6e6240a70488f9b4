/- Contracts of Go functions of this seat's translation, written by this repo's wip/mk.py: it calls the kit's print.py with contracts typed by hand in place of functions that it does not take. Not trusted: Lean checks it. -/
import Derived.Test.YthkdkjmnnpcdhaaDoorP0
import Derived.Test.YthkdkjmnnpcdhaaDoorP19
import Derived.Test.YthkdkjmnnpcdhaaDoorP23
import Derived.Test.YthkdkjmnnpcdhaaDoorP41
import Derived.Test.YthkdkjmnnpcdhaaDoorP46
import Derived.Test.YthkdkjmnnpcdhaaDoorP57
import Derived.Test.YthkdkjmnnpcdhaaDoorP61
namespace Go.Proofs.YthkdkjmnnpcdhaaDoor.P
open Go.RowKit Go.Proofs.YthkdkjmnnpcdhaaDoorW.PrintWords Go.Proofs.YthkdkjmnnpcdhaaDoorW.PrintLast Go.Proofs.YthkdkjmnnpcdhaaDoorW.PrintMore
attribute [local go_sem] max2_int min2_int max_two min_two max_three min_three max_four min_four   -- for this text's walks alone
set_option linter.unusedVariables false
set_option linter.unusedSimpArgs false

/-! ### laws_FnIslandNumbers: function 9 -/
mutual
def laws_FnIslandNumbers.l0 : Nat → List Bool → List Int → Int → Int → List (S52) → Option (Bool)
 | 0, _, _, _, _, _ => none
 | k + 1, x4, x5, x6, x713000, x713001 => if x6 < (x4.length : Int) then (laws_FnIslandNumbers.j1 k x4 x5 x6 (decide ((x5.length : Int) > 0)) x713000 x713001) else (laws_FnIslandNumbers.j1 k x4 x5 x6 false x713000 x713001)
def laws_FnIslandNumbers.j1 : Nat → List Bool → List Int → Int → Bool → Int → List (S52) → Option (Bool)
 | 0, _, _, _, _, _, _ => none
 | k + 1, x4, x5, x6, x35, x713000, x713001 => if x35 = true then ((laws_offOn.f k x713000 x713001 x4 x6).bind fun bt721 => ((laws_islands.f k x713000 x713001 bt721.1).bind fun t727 => ((laws_islands.f k x713000 x713001 bt721.2).bind fun t728 => (if 0 ≤ x6 then (if x6 < (x713001.length : Int) then ((impl_SameIsland.f k x713000 x713001 bt721.1 ((rd_T52 x713001 x6).f0) ((rd_T52 x713001 x6).f1)).bind fun t731 => (if t731 = true then (if (wrap64 (t727 - t728)) = 0 then ((impl_SameIsland.f k x713000 x713001 bt721.1 ((rd_T52 x713001 x6).f0) ((rd_T52 x713001 x6).f1)).bind fun t734 => (if t734 = true then (laws_FnIslandNumbers.l0 k x4 x5 (wrap64 (x6 + 1)) x713000 x713001) else (if (wrap64 (t727 - t728)) = 1 then (laws_FnIslandNumbers.l0 k x4 x5 (wrap64 (x6 + 1)) x713000 x713001) else (none)))) else (none)) else ((impl_SameIsland.f k x713000 x713001 bt721.1 ((rd_T52 x713001 x6).f0) ((rd_T52 x713001 x6).f1)).bind fun t737 => (if t737 = true then (laws_FnIslandNumbers.l0 k x4 x5 (wrap64 (x6 + 1)) x713000 x713001) else (if (wrap64 (t727 - t728)) = 1 then (laws_FnIslandNumbers.l0 k x4 x5 (wrap64 (x6 + 1)) x713000 x713001) else (none)))))) else (none)) else (none))))) else ((laws_alive.f k).bind fun t720 => (some t720))
end
def laws_FnIslandNumbers.f (k : Nat) (l0 : List Int) : Option (Bool) := if (l0.length : Int) > 1048576 then (some true) else ((spec_DrawIslandNumbers.f k l0).bind fun bt705 => ((impl_IslandNumbers.f k bt705.1 bt705.2.1 bt705.2.2).bind fun t713 => ((spec_IslandNumbers.f k bt705.1 bt705.2.1 bt705.2.2).bind fun t716 => ((laws_sameInts.f k t713 t716).bind fun t719 => (if t719 = true then (laws_FnIslandNumbers.l0 k bt705.2.2 t713 0 bt705.1 bt705.2.1) else (none))))))
theorem laws_FnIslandNumbers.mono_l : ∀ k, (∀ y0 y1 y2 y3 y4, LeO (laws_FnIslandNumbers.l0 k y0 y1 y2 y3 y4) (laws_FnIslandNumbers.l0 (k + 1) y0 y1 y2 y3 y4)) ∧ (∀ y0 y1 y2 y3 y4 y5, LeO (laws_FnIslandNumbers.j1 k y0 y1 y2 y3 y4 y5) (laws_FnIslandNumbers.j1 (k + 1) y0 y1 y2 y3 y4 y5))
 | 0 => ⟨fun _ _ _ _ _ r h => by simp [laws_FnIslandNumbers.l0] at h, fun _ _ _ _ _ _ r h => by simp [laws_FnIslandNumbers.j1] at h⟩
 | k + 1 => by
  obtain ⟨ih0, ih1⟩ := laws_FnIslandNumbers.mono_l k
  refine ⟨?_, ?_⟩
  ·
   intro y0 y1 y2 y3 y4
   unfold laws_FnIslandNumbers.l0
   repeat' first
   | (with_reducible exact ih0 _ _ _ _ _)
   | (with_reducible exact ih1 _ _ _ _ _ _)
   | (with_reducible exact impl_IslandNumbers.mono _ _ _ _)
   | (with_reducible exact impl_SameIsland.mono _ _ _ _ _ _)
   | (with_reducible exact laws_alive.mono _)
   | (with_reducible exact laws_islands.mono _ _ _ _)
   | (with_reducible exact laws_offOn.mono _ _ _ _ _)
   | (with_reducible exact laws_sameInts.mono _ _ _)
   | (with_reducible exact spec_DrawIslandNumbers.mono _ _)
   | (with_reducible exact spec_IslandNumbers.mono _ _ _ _)
   | (with_reducible exact LeO.refl _)
   | (with_reducible exact LeO.none _)
   | (with_reducible refine LeO.ite ?_ ?_)
   | (with_reducible refine LeO.bind ?_ (fun _ => ?_))
   | exact ih0 _ _ _ _ _
   | exact ih1 _ _ _ _ _ _
   | exact impl_IslandNumbers.mono _ _ _ _
   | exact impl_SameIsland.mono _ _ _ _ _ _
   | exact laws_alive.mono _
   | exact laws_islands.mono _ _ _ _
   | exact laws_offOn.mono _ _ _ _ _
   | exact laws_sameInts.mono _ _ _
   | exact spec_DrawIslandNumbers.mono _ _
   | exact spec_IslandNumbers.mono _ _ _ _
   | exact LeO.none _
   | refine LeO.ite ?_ ?_
   | refine LeO.bind ?_ (fun _ => ?_)
  ·
   intro y0 y1 y2 y3 y4 y5
   unfold laws_FnIslandNumbers.j1
   repeat' first
   | (with_reducible exact ih0 _ _ _ _ _)
   | (with_reducible exact ih1 _ _ _ _ _ _)
   | (with_reducible exact impl_IslandNumbers.mono _ _ _ _)
   | (with_reducible exact impl_SameIsland.mono _ _ _ _ _ _)
   | (with_reducible exact laws_alive.mono _)
   | (with_reducible exact laws_islands.mono _ _ _ _)
   | (with_reducible exact laws_offOn.mono _ _ _ _ _)
   | (with_reducible exact laws_sameInts.mono _ _ _)
   | (with_reducible exact spec_DrawIslandNumbers.mono _ _)
   | (with_reducible exact spec_IslandNumbers.mono _ _ _ _)
   | (with_reducible exact LeO.refl _)
   | (with_reducible exact LeO.none _)
   | (with_reducible refine LeO.ite ?_ ?_)
   | (with_reducible refine LeO.bind ?_ (fun _ => ?_))
   | exact ih0 _ _ _ _ _
   | exact ih1 _ _ _ _ _ _
   | exact impl_IslandNumbers.mono _ _ _ _
   | exact impl_SameIsland.mono _ _ _ _ _ _
   | exact laws_alive.mono _
   | exact laws_islands.mono _ _ _ _
   | exact laws_offOn.mono _ _ _ _ _
   | exact laws_sameInts.mono _ _ _
   | exact spec_DrawIslandNumbers.mono _ _
   | exact spec_IslandNumbers.mono _ _ _ _
   | exact LeO.none _
   | refine LeO.ite ?_ ?_
   | refine LeO.bind ?_ (fun _ => ?_)
theorem laws_FnIslandNumbers.mono : ∀ a0 k, LeO (laws_FnIslandNumbers.f k a0) (laws_FnIslandNumbers.f (k + 1) a0) := by
 intro a0 k
 obtain ⟨ih0, ih1⟩ := laws_FnIslandNumbers.mono_l k
 unfold laws_FnIslandNumbers.f
 repeat' first
   | (with_reducible exact ih0 _ _ _ _ _)
   | (with_reducible exact ih1 _ _ _ _ _ _)
   | (with_reducible exact impl_IslandNumbers.mono _ _ _ _)
   | (with_reducible exact impl_SameIsland.mono _ _ _ _ _ _)
   | (with_reducible exact laws_alive.mono _)
   | (with_reducible exact laws_islands.mono _ _ _ _)
   | (with_reducible exact laws_offOn.mono _ _ _ _ _)
   | (with_reducible exact laws_sameInts.mono _ _ _)
   | (with_reducible exact spec_DrawIslandNumbers.mono _ _)
   | (with_reducible exact spec_IslandNumbers.mono _ _ _ _)
   | (with_reducible exact LeO.refl _)
   | (with_reducible exact LeO.none _)
   | (with_reducible refine LeO.ite ?_ ?_)
   | (with_reducible refine LeO.bind ?_ (fun _ => ?_))
   | exact ih0 _ _ _ _ _
   | exact ih1 _ _ _ _ _ _
   | exact impl_IslandNumbers.mono _ _ _ _
   | exact impl_SameIsland.mono _ _ _ _ _ _
   | exact laws_alive.mono _
   | exact laws_islands.mono _ _ _ _
   | exact laws_offOn.mono _ _ _ _ _
   | exact laws_sameInts.mono _ _ _
   | exact spec_DrawIslandNumbers.mono _ _
   | exact spec_IslandNumbers.mono _ _ _ _
   | exact LeO.none _
   | refine LeO.ite ?_ ?_
   | refine LeO.bind ?_ (fun _ => ?_)
def laws_FnIslandNumbers.T11 : Bool × List (List Nat × List Nat) := (true, [([], []), ([], []), ([0, 1], [0, 1]), ([], []), ([], []), ([3, 4, 2], [3, 4]), ([2, 5], [2, 5]), ([6, 5, 0, 1, 2, 3, 4, 5, 6], [6])])
def laws_FnIslandNumbers.B11 : List Nat := [0, 0, 3, 0, 0, 31, 63, 127]
theorem laws_FnIslandNumbers.tab11 : rtab .any (opsOf Tryd.f9 11) = laws_FnIslandNumbers.T11 := by kernel_rfl
theorem laws_FnIslandNumbers.bits11 : waitsOk laws_FnIslandNumbers.T11.2 laws_FnIslandNumbers.B11 = true := by kernel_rfl
def laws_FnIslandNumbers.T12 : Bool × List (List Nat × List Nat) := (true, [([], []), ([], []), ([], []), ([2], [2]), ([], []), ([3, 4], [3, 4]), ([5], [5]), ([6], [6]), ([], []), ([8], [8]), ([], []), ([9, 10], [9, 10]), ([11], [11]), ([12], [12]), ([0, 1, 7, 13], [0, 1, 7, 13]), ([14, 14], [14]), ([15], [15]), ([16, 15], [15, 16]), ([15, 17], [15, 17]), ([18, 15], [18]), ([19], [19]), ([19], [19]), ([19], [19]), ([22, 19], [19, 22]), ([19], [19]), ([23, 24, 19], [19, 23, 24]), ([25, 19], [19, 25]), ([26, 19], [19, 26]), ([19], [19]), ([28, 19], [19, 28]), ([19], [19]), ([29, 30, 19], [19, 29, 30]), ([31, 19], [19, 31]), ([32, 19], [19, 32]), ([20, 21, 27, 33, 19, 19], [19, 20, 21, 27, 33]), ([34, 19], [19, 34]), ([35, 34, 19], [19, 35]), ([36], [36]), ([37, 36], [36, 37]), ([36, 38, 19], [19, 36, 38]), ([19, 39], [19, 39])])
def laws_FnIslandNumbers.B12 : List Nat := [0, 0, 0, 4, 0, 28, 60, 124, 0, 256, 0, 1792, 3840, 7936, 16383, 32767, 65535, 131071, 262143, 524287, 1048575, 1048575, 1048575, 5242879, 1048575, 30408703, 63963135, 131071999, 1048575, 269484031, 1048575, 1880096767, 4027580415, 8322547711, 17179869183, 34359738367, 68719476735, 137438953471, 274877906943, 549755813887, 1099511627775]
theorem laws_FnIslandNumbers.tab12 : rtab .any (opsOf Tryd.f9 12) = laws_FnIslandNumbers.T12 := by kernel_rfl
theorem laws_FnIslandNumbers.bits12 : waitsOk laws_FnIslandNumbers.T12.2 laws_FnIslandNumbers.B12 = true := by kernel_rfl
set_option maxHeartbeats 8000000 in
set_option maxRecDepth 100000 in
theorem laws_FnIslandNumbers.calls (k : Nat) (A0 : Option Addr) (c0 : Nat) (l0 : List Int) (r : Bool) (w : World) (hr0 : Kd.C (Kd.int .u8) w A0 l0.length l0) (hc0 : l0.length ≤ c0) (h : laws_FnIslandNumbers.f k l0 = some r) :
  Calls Tryd.prog 9 #[.slice A0 l0.length c0] w fun e w' => e = .returned (.bool r) ∧ Below w.heap.size w w' := by
 have hu39 := Tryd.underlying39
 have HR0 := Aside0.mk hr0
 have HC0 := Aside0.mk hc0
 clear hr0 hc0
 have HB := Aside0.mk (Below.refl w.heap.size w)
 have H : (if (l0.length : Int) > 1048576 then (some true) else ((spec_DrawIslandNumbers.f k l0).bind fun bt705 => ((impl_IslandNumbers.f k bt705.1 bt705.2.1 bt705.2.2).bind fun t713 => ((spec_IslandNumbers.f k bt705.1 bt705.2.1 bt705.2.2).bind fun t716 => ((laws_sameInts.f k t713 t716).bind fun t719 => (if t719 = true then (laws_FnIslandNumbers.l0 k bt705.2.2 t713 0 bt705.1 bt705.2.1) else (none))))))) = some r := h
 clear h
 by_cases c2 : (l0.length : Int) > 1048576
 ·
  rw [if_pos c2] at H
  have c2b0 : decide (1048576 < (l0.length : Int)) = true := decide_eq_true c2
  have c2b1 : decide (1048576 < l0.length) = true := decide_eq_true (by omega)
  clear c2
  obtain rfl := Option.some.inj H
  go_enter Tryd.func9, Tryd.ntmps9
  go_wp2
  go_ret
  exact ⟨fR, bl0 HB⟩
 rw [if_neg c2] at H
 have c2b0 : decide (1048576 < (l0.length : Int)) = false := decide_eq_false c2
 have c2b1 : decide (1048576 < l0.length) = false := decide_eq_false (by omega)
 clear c2
 replace H := Option.bind_eq_some_iff.mp H
 obtain ⟨⟨t705, t706, t709⟩, A30, H⟩ := H
 replace H : ((impl_IslandNumbers.f k t705 t706 t709).bind fun t713 => ((spec_IslandNumbers.f k t705 t706 t709).bind fun t716 => ((laws_sameInts.f k t713 t716).bind fun t719 => (if t719 = true then (laws_FnIslandNumbers.l0 k t709 t713 0 t705 t706) else (none))))) = some r := H
 have A3 := Aside0.mk A30
 clear A30
 replace H := Option.bind_eq_some_iff.mp H
 obtain ⟨t713, A40, H⟩ := H
 replace H : ((spec_IslandNumbers.f k t705 t706 t709).bind fun t716 => ((laws_sameInts.f k t713 t716).bind fun t719 => (if t719 = true then (laws_FnIslandNumbers.l0 k t709 t713 0 t705 t706) else (none)))) = some r := H
 have A4 := Aside0.mk A40
 clear A40
 replace H := Option.bind_eq_some_iff.mp H
 obtain ⟨t716, A50, H⟩ := H
 replace H : ((laws_sameInts.f k t713 t716).bind fun t719 => (if t719 = true then (laws_FnIslandNumbers.l0 k t709 t713 0 t705 t706) else (none))) = some r := H
 have A5 := Aside0.mk A50
 clear A50
 replace H := Option.bind_eq_some_iff.mp H
 obtain ⟨t719, A60, H⟩ := H
 replace H : (if t719 = true then (laws_FnIslandNumbers.l0 k t709 t713 0 t705 t706) else (none)) = some r := H
 have A6 := Aside0.mk A60
 clear A60
 by_cases c7 : t719 = true
 rotate_left
 ·
  replace c7 := Bool.eq_false_iff.mpr c7
  subst c7
  have H1 : (none) = some r := by rw [if_neg (show ¬ (false = true) by decide)] at H; exact H
  clear H
  have H := H1
  clear H1
  exact absurd H (by simp)
 subst c7
 have H1 : (laws_FnIslandNumbers.l0 k t709 t713 0 t705 t706) = some r := by rw [if_pos rfl] at H; exact H
 clear H
 have H := H1
 clear H1
 have H' := Aside0.mk H
 clear H
 go_enter Tryd.func9, Tryd.ntmps9
 go_wp2_with (first | ((with_reducible refine gate_callee (f := 36) rfl ?_); refine goesL_ (some 15) rfl rfl Tryd.func36 (by kernel_rfl) rfl #[.slice A0 l0.length c0] rfl mP ?_; (with_reducible refine (spec_DrawIslandNumbers.calls k _ _ l0 t705 t706 t709 _ ?side1 ?side2 A3.out).mono ?_); (case side1 => exact gC (HR0.out)); (case side2 => exact HC0.out); rintro e w8 ⟨v707, v710, rfl, ho0, ho1, hb⟩; refine ⟨_, rfl, ?_⟩; have n0_ := Aside0.mk (Kd.R_lower ho0 (below_size (bl0 HB))); have n1_ := Aside0.mk (Kd.R_lower ho1 (below_size (bl0 HB))); have n2_ := Aside0.mk (below_step (bl0 HB) hb); clear HB; have HO708 := n0_; have HO711 := n1_; have HB := n2_; clear n0_ n1_ n2_; (try clear hb); (try clear hb2); (try clear hk); (try clear hi); (try clear ho0); (try clear ho1)) | ((with_reducible refine gate_dst (N := 3) rfl ?_); refine box_event ?hg (N := 3) ?hd (cs := #[.int .i64 0, .slice none 0 0]) (t := 39) ?hr ?_; (case hd => rfl); (case hg => rfl); (case hr => exact hR); intro gb712 hg w9 hbox hb; have n0_ := Aside0.mk (Kd.R_below (gR (HO708.out)) hb); have n1_ := Aside0.mk (Kd.R_below (gR (HO711.out)) hb); have n2_ := Aside0.mk (below_step (bl0 HB) hb); have n3_ := Aside0.mk (hbox); have n4_ := Aside0.mk ((by rw [hg]; exact (below_size (bl0 HB)) : w.heap.size ≤ gb712)); have n5_ := Aside0.mk ((by rw [hg]; exact (below_size (bl0 HB)) : w.heap.size ≤ gb712)); clear HO708; clear HO711; clear HB; have HO708 := n0_; have HO711 := n1_; have HB := n2_; have BK712 := n3_; have GW712 := n4_; have GE712 := n5_; clear n0_ n1_ n2_ n3_ n4_ n5_; clear hb hbox hg; have hcz10_0 : w9.cell? ⟨gb712, 0, none⟩ = some (.int .i64 0) := (blk_cell BK712.out 0).trans rfl; have hcz10_1 : w9.cell? ⟨gb712, 1, none⟩ = some (.slice none 0 0) := (blk_cell BK712.out 1).trans rfl; have hfz10_0 := blk_frozen BK712.out 0; have hfz10_1 := blk_frozen BK712.out 1; obtain ⟨Ao11, co11, eo11⟩ := Kd.R_slice HO708.out; subst eo11; obtain ⟨Ao12, co12, eo12⟩ := Kd.R_slice HO711.out; subst eo12) | ((with_reducible refine gate_callee (f := 27) rfl ?_); refine goesL_ (some 20) rfl rfl Tryd.func27 (by kernel_rfl) rfl #[.agg #[.int .i64 t705, .slice Ao11 t706.length co11], .slice Ao12 t709.length co12] rfl mP ?_; (with_reducible refine (impl_IslandNumbers.calls k t705 _ _ t706 _ _ t709 t713 _ ?side1 ?side2 ?side3 ?side4 A4.out).mono ?_); (case side1 => refine (Kd.R_reads' (e := 52) (base := w.heap.size) (ok := fun k_ => True) (n := t706.length) (c := co11) ?_).2.2; exact (by (with_reducible repeat (first | apply Kd.R_alloc | apply Kd.R_drewN | apply Kd.R_drew)); exact (Kd.R_mono (Kd.R_far (p := ⟨gb712, 1, none⟩) (Kd.R_far (p := ⟨gb712, 0, none⟩) (Kd.R_types HO708.out BK712.out (by decide)) (fun _ hk => hk.2) (.int .i64 t705)) (fun _ hk => hk.2) (.slice Ao11 t706.length co11)) (fun _ h_ => h_.1)))); (case side2 => exact (Kd.R_reads' HO708.out).2.1); (case side3 => refine (Kd.R_reads' (e := 4) (base := w.heap.size) (ok := fun k_ => True) (n := t709.length) (c := co12) ?_).2.2; exact (by (with_reducible repeat (first | apply Kd.R_alloc | apply Kd.R_drewN | apply Kd.R_drew)); exact (Kd.R_mono (Kd.R_far (p := ⟨gb712, 1, none⟩) (Kd.R_far (p := ⟨gb712, 0, none⟩) (Kd.R_types HO711.out BK712.out (by decide)) (fun _ hk => hk.2) (.int .i64 t705)) (fun _ hk => hk.2) (.slice Ao11 t706.length co11)) (fun _ h_ => h_.1)))); (case side4 => exact (Kd.R_reads' HO711.out).2.1); rintro e w13 ⟨v714, rfl, ho0, hb⟩; refine ⟨_, rfl, ?_⟩; have n0_ := Aside0.mk (Kd.R_below (by (with_reducible repeat (first | apply Kd.R_alloc | apply Kd.R_drewN | apply Kd.R_drew)); exact (Kd.R_mono (Kd.R_far (p := ⟨gb712, 1, none⟩) (Kd.R_far (p := ⟨gb712, 0, none⟩) (Kd.R_types HO708.out BK712.out (by decide)) (fun _ hk => hk.2) (.int .i64 t705)) (fun _ hk => hk.2) (.slice Ao11 t706.length co11)) (fun _ h_ => h_.1))) hb); have n1_ := Aside0.mk (Kd.R_below (by (with_reducible repeat (first | apply Kd.R_alloc | apply Kd.R_drewN | apply Kd.R_drew)); exact (Kd.R_mono (Kd.R_far (p := ⟨gb712, 1, none⟩) (Kd.R_far (p := ⟨gb712, 0, none⟩) (Kd.R_types HO711.out BK712.out (by decide)) (fun _ hk => hk.2) (.int .i64 t705)) (fun _ hk => hk.2) (.slice Ao11 t706.length co11)) (fun _ h_ => h_.1))) hb); have n2_ := Aside0.mk (Kd.R_lower ho0 (below_size (bl1 HB GE712))); have n3_ := Aside0.mk (blk_below (g := gb712) (o := .cells #[.int .i64 t705, .slice Ao11 t706.length co11] 39 (0, 0)) (by (with_reducible repeat (first | refine blk_drewN ?_ _ | refine blk_drew ?_ | refine blk_alloc ?_ _)); refine blk_put (cs := #[.int .i64 t705, .slice none 0 0]) ?_ 1 _ rfl; (with_reducible repeat (first | refine blk_drewN ?_ _ | refine blk_drew ?_ | refine blk_alloc ?_ _)); refine blk_put (cs := #[.int .i64 0, .slice none 0 0]) ?_ 0 _ rfl; (with_reducible repeat (first | refine blk_drewN ?_ _ | refine blk_drew ?_ | refine blk_alloc ?_ _)); exact BK712.out) hb); have n4_ := Aside0.mk (below_step (bl1 HB GE712) hb); clear HO708; clear HO711; clear BK712; clear HB; have HO708 := n0_; have HO711 := n1_; have HO715 := n2_; have BK712 := n3_; have HB := n4_; clear n0_ n1_ n2_ n3_ n4_; (try clear hb); (try clear hb2); (try clear hk); (try clear hi); (try clear ho0); have hcz14_0 : w13.cell? ⟨gb712, 0, none⟩ = some (.int .i64 t705) := (blk_cell BK712.out 0).trans rfl; have hcz14_1 : w13.cell? ⟨gb712, 1, none⟩ = some (.slice Ao11 t706.length co11) := (blk_cell BK712.out 1).trans rfl; have hfz14_0 := blk_frozen BK712.out 0; have hfz14_1 := blk_frozen BK712.out 1) | ((with_reducible refine gate_callee (f := 37) rfl ?_); refine goesL_ (some 24) rfl rfl Tryd.func37 (by kernel_rfl) rfl #[.agg #[.int .i64 t705, .slice Ao11 t706.length co11], .slice Ao12 t709.length co12] rfl mP ?_; (with_reducible refine (spec_IslandNumbers.calls k t705 _ _ t706 _ _ t709 t716 _ ?side1 ?side2 ?side3 ?side4 A5.out).mono ?_); (case side1 => exact gC ((Kd.R_reads' HO708.out).2.2)); (case side2 => exact (Kd.R_reads' HO708.out).2.1); (case side3 => exact gC ((Kd.R_reads' HO711.out).2.2)); (case side4 => exact (Kd.R_reads' HO711.out).2.1); rintro e w15 ⟨v717, rfl, ho0, hb⟩; refine ⟨_, rfl, ?_⟩; have n0_ := Aside0.mk (Kd.R_below (gR (HO708.out)) hb); have n1_ := Aside0.mk (Kd.R_below (gR (HO711.out)) hb); have n2_ := Aside0.mk (Kd.R_elder' (gR (HO715.out)) (Kd.R_base ho0) hb); have n3_ := Aside0.mk (Kd.R_lower (Kd.R_new' ho0 (Kd.R_lt (gR (HO715.out)))) (below_size (bl1 HB GE712))); have n4_ := Aside0.mk (blk_below (g := gb712) (o := .cells #[.int .i64 t705, .slice Ao11 t706.length co11] 39 (0, 0)) (gB (BK712.out)) hb); have n5_ := Aside0.mk (below_step (bl1 HB GE712) hb); clear HO708; clear HO711; clear HO715; clear BK712; clear HB; have HO708 := n0_; have HO711 := n1_; have HO715 := n2_; have HO718 := n3_; have BK712 := n4_; have HB := n5_; clear n0_ n1_ n2_ n3_ n4_ n5_; (try clear hb); (try clear hb2); (try clear hk); (try clear hi); (try clear ho0); obtain ⟨Ao16, co16, eo16⟩ := Kd.R_slice HO715.out; subst eo16; obtain ⟨Ao17, co17, eo17⟩ := Kd.R_slice HO718.out; subst eo17) | ((with_reducible refine gate_callee (f := 18) rfl ?_); refine goesL_ (some 25) rfl rfl Tryd.func18 (by kernel_rfl) rfl #[.slice Ao16 t713.length co16, .slice Ao17 t716.length co17] rfl mP ?_; (with_reducible refine (laws_sameInts.calls k _ _ t713 _ _ t716 true _ ?side1 ?side2 ?side3 ?side4 A6.out).mono ?_); (case side1 => exact gC ((Kd.R_reads' HO715.out).2.2)); (case side2 => exact (Kd.R_reads' HO715.out).2.1); (case side3 => exact gC ((Kd.R_reads' HO718.out).2.2)); (case side4 => exact (Kd.R_reads' HO718.out).2.1); rintro e w' ⟨rfl, ⟨nd, rfl⟩⟩; refine ⟨_, rfl, ?_⟩))
 go_loopg [6] k (fun kq v6 w' => ∃ (x6_1 : Int), v6 = .int .i64 x6_1 ∧ Aside0 (laws_FnIslandNumbers.l0 kq t709 t713 x6_1 t705 t706 = some r) ∧ Aside0 (kq ≤ k) ∧ Aside0 (Kd.R Kd.bool 4 w' w.heap.size (fun _ => True) (.slice Ao12 t709.length co12) t709) ∧ Aside0 (Kd.R (Kd.int .i64) 3 w' w.heap.size (fun _ => True) (.slice Ao16 t713.length co16) t713) ∧ Aside0 (Kd.R k52 52 w' w.heap.size (fun _ => True) (.slice Ao11 t706.length co11) t706) ∧ Aside0 (w'.heap[gb712]? = some (.cells #[.int .i64 t705, (.slice Ao11 t706.length co11)] 39 (0, 0))) ∧ Aside0 (Below w.heap.size w w'))
 case atStart => exact ⟨(0), fS, H', ⟨Nat.le_refl _⟩, ⟨gR (HO711.out)⟩, ⟨by (with_reducible repeat (first | apply Kd.R_alloc | apply Kd.R_drewN | apply Kd.R_drew)); exact Kd.R_mono HO715.out (fun _ hk => trivial)⟩, ⟨gR (HO708.out)⟩, ⟨gB (BK712.out)⟩, ⟨bl1 HB GE712⟩⟩
 case round =>
  clear H'
  try clear c1
  try clear c2
  try clear c2b0
  try clear c2b1
  try clear p2
  try clear c3
  try clear c7
  try clear c9
  try clear hcz10_0
  try clear hcz10_1
  try clear hcz14_0
  try clear hcz14_1
  try clear hfz10_0
  try clear hfz10_1
  try clear hfz14_0
  try clear hfz14_1
  obtain ⟨x6_1, rfl, HA, HK1, HO_4, HO_5, HO_713001, BK712, HB⟩ := hrel
  cases gk with
  | zero => exact absurd HA.out (by simp [laws_FnIslandNumbers.l0])
  | succ k1 =>
   have H := HA.out
   clear HA
   simp only [laws_FnIslandNumbers.l0] at H
   have HC18 := Aside0.mk H
   clear H
   go_upto_region 8 with (fail)
   go_cut [35] (fun v35 wc => ∃ (kq : Nat) (x35_17 : Bool), v35 = .bool x35_17 ∧ Aside0 (laws_FnIslandNumbers.j1 kq t709 t713 x6_1 x35_17 t705 t706 = some r) ∧ Aside0 (kq ≤ k1) ∧ Aside0 (Kd.R Kd.bool 4 wc w.heap.size (fun _ => True) (.slice Ao12 t709.length co12) t709) ∧ Aside0 (Kd.R (Kd.int .i64) 3 wc w.heap.size (fun _ => True) (.slice Ao16 t713.length co16) t713) ∧ Aside0 (Kd.R k52 52 wc w.heap.size (fun _ => True) (.slice Ao11 t706.length co11) t706) ∧ Aside0 (wc.heap[gb712]? = some (.cells #[.int .i64 t705, (.slice Ao11 t706.length co11)] 39 (0, 0))) ∧ Aside0 (Below w.heap.size w wc))
   case first =>
    have H := HC18.out
    clear HC18
    by_cases c19 : x6_1 < (t709.length : Int)
    rotate_left
    ·
     rw [if_neg c19] at H
     have c19b0 : decide (x6_1 < (t709.length : Int)) = false := decide_eq_false c19
     clear c19
     (first | rw [c19b0] | (simp only [i64_w, i32_w]; rw [c19b0]) | skip)
     have H' := Aside0.mk H
     clear H
     go_wp2
     go_meet
     case rel => exact ⟨_, (false), fS, H', ⟨by have := HK1.out; first | omega | exact Nat.le_refl _⟩, ⟨gR (HO_4.out)⟩, ⟨gR (HO_5.out)⟩, ⟨gR (HO_713001.out)⟩, ⟨gB (BK712.out)⟩, ⟨bl1 HB GE712⟩⟩
    rw [if_pos c19] at H
    have c19b0 : decide (x6_1 < (t709.length : Int)) = true := decide_eq_true c19
    clear c19
    (first | rw [c19b0] | (simp only [i64_w, i32_w]; rw [c19b0]) | skip)
    have H' := Aside0.mk H
    clear H
    go_wp2
    go_meet
    case rel => exact ⟨_, (decide ((t713.length : Int) > 0)), fS, H', ⟨by have := HK1.out; first | omega | exact Nat.le_refl _⟩, ⟨gR (HO_4.out)⟩, ⟨gR (HO_5.out)⟩, ⟨gR (HO_713001.out)⟩, ⟨gB (BK712.out)⟩, ⟨bl1 HB GE712⟩⟩
   case rest =>
    clear HC18
    try clear c1
    try clear c2
    try clear c2b0
    try clear c2b1
    try clear p2
    try clear c3
    try clear c7
    try clear c9
    try clear c18
    try clear c19
    try clear c19b0
    try clear hcz10_0
    try clear hcz10_1
    try clear hcz14_0
    try clear hcz14_1
    try clear hfz10_0
    try clear hfz10_1
    try clear hfz14_0
    try clear hfz14_1
    try clear p2
    obtain ⟨kq, x35_17, rfl, HA, HJ17, HO_4, HO_5, HO_713001, BK712, HB⟩ := hcut
    cases kq with
    | zero => exact absurd HA.out (by simp [laws_FnIslandNumbers.j1])
    | succ kj17 =>
     have H := HA.out
     clear HA
     simp only [laws_FnIslandNumbers.j1] at H
     by_cases c20 : x35_17 = true
     rotate_left
     ·
      replace c20 := Bool.eq_false_iff.mpr c20
      subst c20
      have H1 : ((laws_alive.f kj17).bind fun t720 => (some t720)) = some r := by rw [if_neg (show ¬ (false = true) by decide)] at H; exact H
      clear H
      have H := H1
      clear H1
      replace H := Option.bind_eq_some_iff.mp H
      obtain ⟨t720, A750, H⟩ := H
      replace H : (some t720) = some r := H
      have A75 := Aside0.mk A750
      clear A750
      obtain rfl := Option.some.inj H
      go_wp2_with (first | ((with_reducible refine gate_callee (f := 15) rfl ?_); refine goesL_ (some 93) rfl rfl Tryd.func15 (by kernel_rfl) rfl #[] rfl mP ?_; (with_reducible refine (laws_alive.calls kj17  t720 _ A75.out).mono ?_); rintro e w76 ⟨rfl, hb⟩; refine ⟨_, rfl, ?_⟩; have n0_ := Aside0.mk (Kd.R_below (gR (HO_4.out)) hb); have n1_ := Aside0.mk (Kd.R_below (gR (HO_5.out)) hb); have n2_ := Aside0.mk (Kd.R_below (gR (HO_713001.out)) hb); have n3_ := Aside0.mk (blk_below (g := gb712) (o := .cells #[.int .i64 t705, .slice Ao11 t706.length co11] 39 (0, 0)) (gB (BK712.out)) hb); have n4_ := Aside0.mk (below_step (bl1 HB GE712) hb); clear HO_4; clear HO_5; clear HO_713001; clear BK712; clear HB; have HO_4 := n0_; have HO_5 := n1_; have HO_713001 := n2_; have BK712 := n3_; have HB := n4_; clear n0_ n1_ n2_ n3_ n4_; (try clear hb); (try clear hb2); (try clear hk); (try clear hi)))
      go_ret
      exact ⟨fR, bl1 HB GE712⟩
     subst c20
     have H1 : ((laws_offOn.f kj17 t705 t706 t709 x6_1).bind fun bt721 => ((laws_islands.f kj17 t705 t706 bt721.1).bind fun t727 => ((laws_islands.f kj17 t705 t706 bt721.2).bind fun t728 => (if 0 ≤ x6_1 then (if x6_1 < (t706.length : Int) then ((impl_SameIsland.f kj17 t705 t706 bt721.1 ((rd_T52 t706 x6_1).f0) ((rd_T52 t706 x6_1).f1)).bind fun t731 => (if t731 = true then (if (wrap64 (t727 - t728)) = 0 then ((impl_SameIsland.f kj17 t705 t706 bt721.1 ((rd_T52 t706 x6_1).f0) ((rd_T52 t706 x6_1).f1)).bind fun t734 => (if t734 = true then (laws_FnIslandNumbers.l0 kj17 t709 t713 (wrap64 (x6_1 + 1)) t705 t706) else (if (wrap64 (t727 - t728)) = 1 then (laws_FnIslandNumbers.l0 kj17 t709 t713 (wrap64 (x6_1 + 1)) t705 t706) else (none)))) else (none)) else ((impl_SameIsland.f kj17 t705 t706 bt721.1 ((rd_T52 t706 x6_1).f0) ((rd_T52 t706 x6_1).f1)).bind fun t737 => (if t737 = true then (laws_FnIslandNumbers.l0 kj17 t709 t713 (wrap64 (x6_1 + 1)) t705 t706) else (if (wrap64 (t727 - t728)) = 1 then (laws_FnIslandNumbers.l0 kj17 t709 t713 (wrap64 (x6_1 + 1)) t705 t706) else (none)))))) else (none)) else (none))))) = some r := by rw [if_pos rfl] at H; exact H
     clear H
     have H := H1
     clear H1
     replace H := Option.bind_eq_some_iff.mp H
     obtain ⟨⟨t721, t724⟩, A210, H⟩ := H
     replace H : ((laws_islands.f kj17 t705 t706 t721).bind fun t727 => ((laws_islands.f kj17 t705 t706 t724).bind fun t728 => (if 0 ≤ x6_1 then (if x6_1 < (t706.length : Int) then ((impl_SameIsland.f kj17 t705 t706 t721 ((rd_T52 t706 x6_1).f0) ((rd_T52 t706 x6_1).f1)).bind fun t731 => (if t731 = true then (if (wrap64 (t727 - t728)) = 0 then ((impl_SameIsland.f kj17 t705 t706 t721 ((rd_T52 t706 x6_1).f0) ((rd_T52 t706 x6_1).f1)).bind fun t734 => (if t734 = true then (laws_FnIslandNumbers.l0 kj17 t709 t713 (wrap64 (x6_1 + 1)) t705 t706) else (if (wrap64 (t727 - t728)) = 1 then (laws_FnIslandNumbers.l0 kj17 t709 t713 (wrap64 (x6_1 + 1)) t705 t706) else (none)))) else (none)) else ((impl_SameIsland.f kj17 t705 t706 t721 ((rd_T52 t706 x6_1).f0) ((rd_T52 t706 x6_1).f1)).bind fun t737 => (if t737 = true then (laws_FnIslandNumbers.l0 kj17 t709 t713 (wrap64 (x6_1 + 1)) t705 t706) else (if (wrap64 (t727 - t728)) = 1 then (laws_FnIslandNumbers.l0 kj17 t709 t713 (wrap64 (x6_1 + 1)) t705 t706) else (none)))))) else (none)) else (none)))) = some r := H
     have A21 := Aside0.mk A210
     clear A210
     replace H := Option.bind_eq_some_iff.mp H
     obtain ⟨t727, A220, H⟩ := H
     replace H : ((laws_islands.f kj17 t705 t706 t724).bind fun t728 => (if 0 ≤ x6_1 then (if x6_1 < (t706.length : Int) then ((impl_SameIsland.f kj17 t705 t706 t721 ((rd_T52 t706 x6_1).f0) ((rd_T52 t706 x6_1).f1)).bind fun t731 => (if t731 = true then (if (wrap64 (t727 - t728)) = 0 then ((impl_SameIsland.f kj17 t705 t706 t721 ((rd_T52 t706 x6_1).f0) ((rd_T52 t706 x6_1).f1)).bind fun t734 => (if t734 = true then (laws_FnIslandNumbers.l0 kj17 t709 t713 (wrap64 (x6_1 + 1)) t705 t706) else (if (wrap64 (t727 - t728)) = 1 then (laws_FnIslandNumbers.l0 kj17 t709 t713 (wrap64 (x6_1 + 1)) t705 t706) else (none)))) else (none)) else ((impl_SameIsland.f kj17 t705 t706 t721 ((rd_T52 t706 x6_1).f0) ((rd_T52 t706 x6_1).f1)).bind fun t737 => (if t737 = true then (laws_FnIslandNumbers.l0 kj17 t709 t713 (wrap64 (x6_1 + 1)) t705 t706) else (if (wrap64 (t727 - t728)) = 1 then (laws_FnIslandNumbers.l0 kj17 t709 t713 (wrap64 (x6_1 + 1)) t705 t706) else (none)))))) else (none)) else (none))) = some r := H
     have A22 := Aside0.mk A220
     clear A220
     replace H := Option.bind_eq_some_iff.mp H
     obtain ⟨t728, A230, H⟩ := H
     replace H : (if 0 ≤ x6_1 then (if x6_1 < (t706.length : Int) then ((impl_SameIsland.f kj17 t705 t706 t721 ((rd_T52 t706 x6_1).f0) ((rd_T52 t706 x6_1).f1)).bind fun t731 => (if t731 = true then (if (wrap64 (t727 - t728)) = 0 then ((impl_SameIsland.f kj17 t705 t706 t721 ((rd_T52 t706 x6_1).f0) ((rd_T52 t706 x6_1).f1)).bind fun t734 => (if t734 = true then (laws_FnIslandNumbers.l0 kj17 t709 t713 (wrap64 (x6_1 + 1)) t705 t706) else (if (wrap64 (t727 - t728)) = 1 then (laws_FnIslandNumbers.l0 kj17 t709 t713 (wrap64 (x6_1 + 1)) t705 t706) else (none)))) else (none)) else ((impl_SameIsland.f kj17 t705 t706 t721 ((rd_T52 t706 x6_1).f0) ((rd_T52 t706 x6_1).f1)).bind fun t737 => (if t737 = true then (laws_FnIslandNumbers.l0 kj17 t709 t713 (wrap64 (x6_1 + 1)) t705 t706) else (if (wrap64 (t727 - t728)) = 1 then (laws_FnIslandNumbers.l0 kj17 t709 t713 (wrap64 (x6_1 + 1)) t705 t706) else (none)))))) else (none)) else (none)) = some r := H
     have A23 := Aside0.mk A230
     clear A230
     by_cases c24 : 0 ≤ x6_1
     rotate_left
     ·
      rw [if_neg c24] at H
      exact absurd H (by simp)
     rw [if_pos c24] at H
     have c24b0 : decide (0 ≤ x6_1) = true := decide_eq_true c24
     clear c24
     by_cases c25 : x6_1 < (t706.length : Int)
     rotate_left
     ·
      rw [if_neg c25] at H
      exact absurd H (by simp)
     rw [if_pos c25] at H
     have c25b0 : decide (x6_1 < (t706.length : Int)) = true := decide_eq_true c25
     clear c25
     replace H := Option.bind_eq_some_iff.mp H
     obtain ⟨t731, A260, H⟩ := H
     replace H : (if t731 = true then (if (wrap64 (t727 - t728)) = 0 then ((impl_SameIsland.f kj17 t705 t706 t721 ((rd_T52 t706 x6_1).f0) ((rd_T52 t706 x6_1).f1)).bind fun t734 => (if t734 = true then (laws_FnIslandNumbers.l0 kj17 t709 t713 (wrap64 (x6_1 + 1)) t705 t706) else (if (wrap64 (t727 - t728)) = 1 then (laws_FnIslandNumbers.l0 kj17 t709 t713 (wrap64 (x6_1 + 1)) t705 t706) else (none)))) else (none)) else ((impl_SameIsland.f kj17 t705 t706 t721 ((rd_T52 t706 x6_1).f0) ((rd_T52 t706 x6_1).f1)).bind fun t737 => (if t737 = true then (laws_FnIslandNumbers.l0 kj17 t709 t713 (wrap64 (x6_1 + 1)) t705 t706) else (if (wrap64 (t727 - t728)) = 1 then (laws_FnIslandNumbers.l0 kj17 t709 t713 (wrap64 (x6_1 + 1)) t705 t706) else (none))))) = some r := H
     have A26 := Aside0.mk A260
     clear A260
     by_cases c27 : t731 = true
     rotate_left
     ·
      replace c27 := Bool.eq_false_iff.mpr c27
      subst c27
      have H1 : ((impl_SameIsland.f kj17 t705 t706 t721 ((rd_T52 t706 x6_1).f0) ((rd_T52 t706 x6_1).f1)).bind fun t737 => (if t737 = true then (laws_FnIslandNumbers.l0 kj17 t709 t713 (wrap64 (x6_1 + 1)) t705 t706) else (if (wrap64 (t727 - t728)) = 1 then (laws_FnIslandNumbers.l0 kj17 t709 t713 (wrap64 (x6_1 + 1)) t705 t706) else (none)))) = some r := by rw [if_neg (show ¬ (false = true) by decide)] at H; exact H
      clear H
      have H := H1
      clear H1
      replace H := Option.bind_eq_some_iff.mp H
      obtain ⟨t737, A520, H⟩ := H
      replace H : (if t737 = true then (laws_FnIslandNumbers.l0 kj17 t709 t713 (wrap64 (x6_1 + 1)) t705 t706) else (if (wrap64 (t727 - t728)) = 1 then (laws_FnIslandNumbers.l0 kj17 t709 t713 (wrap64 (x6_1 + 1)) t705 t706) else (none))) = some r := H
      have A52 := Aside0.mk A520
      clear A520
      by_cases c53 : t737 = true
      ·
       subst c53
       have H1 : (laws_FnIslandNumbers.l0 kj17 t709 t713 (wrap64 (x6_1 + 1)) t705 t706) = some r := by rw [if_pos rfl] at H; exact H
       clear H
       have H := H1
       clear H1
       have H' := Aside0.mk H
       clear H
       have hcz54_0 : wc.cell? ⟨gb712, 0, none⟩ = some (.int .i64 t705) := (blk_cell BK712.out 0).trans rfl
       have hcz54_1 : wc.cell? ⟨gb712, 1, none⟩ = some (.slice Ao11 t706.length co11) := (blk_cell BK712.out 1).trans rfl
       have hfz54_0 := blk_frozen BK712.out 0
       have hfz54_1 := blk_frozen BK712.out 1
       try go_wp2_with (first | ((with_reducible refine gate_callee (f := 38) rfl ?_); refine goesL_ (some 42) rfl rfl Tryd.func38 (by kernel_rfl) rfl #[.agg #[.int .i64 t705, .slice Ao11 t706.length co11], .slice Ao12 t709.length co12, .int .i64 x6_1] rfl mP ?_; (with_reducible refine (laws_offOn.calls kj17 t705 _ _ t706 _ _ t709 x6_1 t721 t724 _ ?side1 ?side2 ?side3 ?side4 A21.out).mono ?_); (case side1 => exact gC ((Kd.R_reads' HO_713001.out).2.2)); (case side2 => exact (Kd.R_reads' HO_713001.out).2.1); (case side3 => exact gC ((Kd.R_reads' HO_4.out).2.2)); (case side4 => exact (Kd.R_reads' HO_4.out).2.1); rintro e w55 ⟨v722, v725, rfl, ho0, ho1, hb⟩; refine ⟨_, rfl, ?_⟩; have n0_ := Aside0.mk (Kd.R_mono (Kd.R_told (Kd.R_told (Kd.R_old (gR (HO_4.out)) hb) (Kd.R_base ho0)) (Kd.R_base ho1)) (fun _ h_ => h_.1)); have n1_ := Aside0.mk (Kd.R_below (gR (HO_5.out)) hb); have n2_ := Aside0.mk (Kd.R_below (gR (HO_713001.out)) hb); have n3_ := Aside0.mk (Kd.R_lower (Kd.R_new' ho0 (Kd.R_lt (gR (HO_4.out)))) (below_size (bl1 HB GE712))); have n4_ := Aside0.mk (Kd.R_lower (Kd.R_new' ho1 (Kd.R_lt (gR (HO_4.out)))) (below_size (bl1 HB GE712))); have n5_ := Aside0.mk (blk_below (g := gb712) (o := .cells #[.int .i64 t705, .slice Ao11 t706.length co11] 39 (0, 0)) (gB (BK712.out)) hb); have n6_ := Aside0.mk (below_step (bl1 HB GE712) hb); clear HO_4; clear HO_5; clear HO_713001; clear BK712; clear HB; have HO_4 := n0_; have HO_5 := n1_; have HO_713001 := n2_; have HO723 := n3_; have HO726 := n4_; have BK712 := n5_; have HB := n6_; clear n0_ n1_ n2_ n3_ n4_ n5_ n6_; (try clear hb); (try clear hb2); (try clear hk); (try clear hi); (try clear ho0); (try clear ho1)))
       have n0_ := Aside0.mk (Kd.R_drew HO_4.out)
       have n1_ := Aside0.mk (Kd.R_drew HO_5.out)
       have n2_ := Aside0.mk (Kd.R_drew HO_713001.out)
       have n3_ := Aside0.mk (Kd.R_drew HO723.out)
       have n4_ := Aside0.mk (Kd.R_drew HO726.out)
       have n5_ := Aside0.mk (blk_drew BK712.out)
       have n6_ := Aside0.mk (below_drew1 HB.out)
       clear HO_4
       clear HO_5
       clear HO_713001
       clear HO723
       clear HO726
       clear BK712
       clear HB
       have HO_4 := n0_
       have HO_5 := n1_
       have HO_713001 := n2_
       have HO723 := n3_
       have HO726 := n4_
       have BK712 := n5_
       have HB := n6_
       clear n0_ n1_ n2_ n3_ n4_ n5_ n6_
       obtain ⟨Ao57, co57, eo57⟩ := Kd.R_slice HO723.out
       (first | subst eo57 | (injection eo57 with f1_ f2_ f3_; have f4_ := f1_.symm; have f5_ := f3_.symm; clear f1_ f2_ f3_; subst f4_; subst f5_))
       refine start_ (n := 8) (S := fun w' => w'.cell? ⟨gb712, 0, none⟩ = some (.int .i64 t705) ∧ w'.cell? ⟨gb712, 1, none⟩ = some (.slice Ao11 t706.length co11)) (ds := []) #[false, false, false, false, false, false, false, false] (by kernel_rfl) rfl rfl ⟨(blk_cell BK712.out 0).trans rfl, (blk_cell BK712.out 1).trans rfl⟩ (fun hHeld => ?_); refine with_tabW laws_FnIslandNumbers.tab11 laws_FnIslandNumbers.bits11 (fun HT_ HW_ => ?_)
       generalize w55.drew = w56 at HO_4 HO_5 HO_713001 HO723 HO726 BK712 HB hHeld ⊢
       refine pure_ (i := 1) (N := some 46) (v := ?_) (a' := ?_) #[false, true, false, false, false, false, false, false] rfl rfl (any_of HT_.out (by kernel_rfl)) (fun _ _ _ h => h) (Or.inl ⟨by rfl, ?_⟩) ?_ ?_
       rotate_left
       ·
        intro w'
        go_simp
        with_reducible rfl
       rotate_left
       ·
        simp only [Act.put, List.setIfInBounds_toArray, List.set_cons_zero, List.set_cons_succ, i64_w, i32_w]
        rfl
       refine pure_ (i := 4) (N := some 49) (v := ?_) (a' := ?_) #[false, true, false, false, true, false, false, false] rfl rfl (any_of HT_.out (by kernel_rfl)) (fun _ _ _ h => h) (Or.inl ⟨by rfl, ?_⟩) ?_ ?_
       rotate_left
       ·
        intro w'
        go_simp
        with_reducible rfl
       rotate_left
       ·
        simp only [Act.put, List.setIfInBounds_toArray, List.set_cons_zero, List.set_cons_succ, i64_w, i32_w]
        rfl
       refine take_ (i := 0) (N := some 45) (v := ?_) (a' := ?_) #[true, true, false, false, true, false, false, false] rfl rfl (take_ofW HT_.out HW_.out (by kernel_rfl)) (fun _ _ _ h => h) (Or.inl ⟨by rfl, ?_⟩) hHeld ?_ ?_
       rotate_left
       ·
        rintro w' ⟨s0, s1⟩
        go_simp
        with_reducible rfl
       rotate_left
       ·
        simp only [Act.put, List.setIfInBounds_toArray, List.set_cons_zero, List.set_cons_succ, i64_w, i32_w]
        rfl
       refine take_ (i := 3) (N := some 48) (v := ?_) (a' := ?_) #[true, true, false, true, true, false, false, false] rfl rfl (take_ofW HT_.out HW_.out (by kernel_rfl)) (fun _ _ _ h => h) (Or.inl ⟨by rfl, ?_⟩) hHeld ?_ ?_
       rotate_left
       ·
        rintro w' ⟨s0, s1⟩
        go_simp
        with_reducible rfl
       rotate_left
       ·
        simp only [Act.put, List.setIfInBounds_toArray, List.set_cons_zero, List.set_cons_succ, i64_w, i32_w]
        rfl
       refine one_ (i := 2) (N := some 47) #[true, true, true, true, true, false, false, false] rfl rfl (one_of HT_.out (by kernel_rfl)) (by decide) (fun K hK => ?_)
       refine goes_ Tryd.func39 (by kernel_rfl) rfl #[.agg #[.int .i64 t705, .slice Ao11 t706.length co11], .slice Ao57 t721.length co57] (by rfl) rfl rfl mP ?_
       with_reducible refine (laws_islands.calls kj17 t705 _ _ t706 _ _ t721 t727 _ ?side1 ?side2 ?side3 ?side4 A22.out).mono ?_
       (case side1 => exact gC ((Kd.R_reads' HO_713001.out).2.2))
       (case side2 => exact (Kd.R_reads' HO_713001.out).2.1)
       (case side3 => exact gC ((Kd.R_reads' HO723.out).2.2))
       (case side4 => exact (Kd.R_reads' HO723.out).2.1)
       rintro e w58 ⟨rfl, hb⟩
       refine ⟨_, rfl, ?_⟩
       have n0_ := Aside0.mk (Kd.R_below (gR (HO_4.out)) hb)
       have n1_ := Aside0.mk (Kd.R_below (gR (HO_5.out)) hb)
       have n2_ := Aside0.mk (Kd.R_below (gR (HO_713001.out)) hb)
       have n3_ := Aside0.mk (Kd.R_below (gR (HO723.out)) hb)
       have n4_ := Aside0.mk (Kd.R_below (gR (HO726.out)) hb)
       have n5_ := Aside0.mk (blk_below (g := gb712) (o := .cells #[.int .i64 t705, .slice Ao11 t706.length co11] 39 (0, 0)) (gB (BK712.out)) hb)
       have n6_ := Aside0.mk (below_step (bl1 HB GE712) hb)
       clear HO_4
       clear HO_5
       clear HO_713001
       clear HO723
       clear HO726
       clear BK712
       clear HB
       have HO_4 := n0_
       have HO_5 := n1_
       have HO_713001 := n2_
       have HO723 := n3_
       have HO726 := n4_
       have BK712 := n5_
       have HB := n6_
       clear n0_ n1_ n2_ n3_ n4_ n5_ n6_
       (try clear hb)
       (try clear hb2)
       (try clear hk)
       (try clear hi)
       obtain ⟨Ao59, co59, eo59⟩ := Kd.R_slice HO726.out
       (first | subst eo59 | (injection eo59 with f1_ f2_ f3_; have f4_ := f1_.symm; have f5_ := f3_.symm; clear f1_ f2_ f3_; subst f4_; subst f5_))
       refine hK.out _ _ ⟨(blk_cell BK712.out 0).trans rfl, (blk_cell BK712.out 1).trans rfl⟩ (fun hHeld => ?_)
       clear hK K
       refine norm_ (a' := ?_) ?_ ?_
       rotate_left
       ·
        show Act.put _ (some 47) _ = _
        simp only [Act.put, List.setIfInBounds_toArray, List.set_cons_zero, List.set_cons_succ, i64_w, i32_w]
        rfl
       refine one_ (i := 5) (N := some 50) #[true, true, true, true, true, true, false, false] rfl rfl (one_of HT_.out (by kernel_rfl)) (by decide) (fun K hK => ?_)
       refine goes_ Tryd.func39 (by kernel_rfl) rfl #[.agg #[.int .i64 t705, .slice Ao11 t706.length co11], .slice Ao59 t724.length co59] (by rfl) rfl rfl mP ?_
       with_reducible refine (laws_islands.calls kj17 t705 _ _ t706 _ _ t724 t728 _ ?side1 ?side2 ?side3 ?side4 A23.out).mono ?_
       (case side1 => exact gC ((Kd.R_reads' HO_713001.out).2.2))
       (case side2 => exact (Kd.R_reads' HO_713001.out).2.1)
       (case side3 => exact gC ((Kd.R_reads' HO726.out).2.2))
       (case side4 => exact (Kd.R_reads' HO726.out).2.1)
       rintro e w60 ⟨rfl, hb⟩
       refine ⟨_, rfl, ?_⟩
       have n0_ := Aside0.mk (Kd.R_below (gR (HO_4.out)) hb)
       have n1_ := Aside0.mk (Kd.R_below (gR (HO_5.out)) hb)
       have n2_ := Aside0.mk (Kd.R_below (gR (HO_713001.out)) hb)
       have n3_ := Aside0.mk (Kd.R_below (gR (HO723.out)) hb)
       have n4_ := Aside0.mk (Kd.R_below (gR (HO726.out)) hb)
       have n5_ := Aside0.mk (blk_below (g := gb712) (o := .cells #[.int .i64 t705, .slice Ao11 t706.length co11] 39 (0, 0)) (gB (BK712.out)) hb)
       have n6_ := Aside0.mk (below_step (bl1 HB GE712) hb)
       clear HO_4
       clear HO_5
       clear HO_713001
       clear HO723
       clear HO726
       clear BK712
       clear HB
       have HO_4 := n0_
       have HO_5 := n1_
       have HO_713001 := n2_
       have HO723 := n3_
       have HO726 := n4_
       have BK712 := n5_
       have HB := n6_
       clear n0_ n1_ n2_ n3_ n4_ n5_ n6_
       (try clear hb)
       (try clear hb2)
       (try clear hk)
       (try clear hi)
       refine hK.out _ _ ⟨(blk_cell BK712.out 0).trans rfl, (blk_cell BK712.out 1).trans rfl⟩ (fun hHeld => ?_)
       clear hK K
       refine norm_ (a' := ?_) ?_ ?_
       rotate_left
       ·
        show Act.put _ (some 50) _ = _
        simp only [Act.put, List.setIfInBounds_toArray, List.set_cons_zero, List.set_cons_succ, i64_w, i32_w]
        rfl
       refine pure_ (i := 6) (N := some 51) (v := ?_) (a' := ?_) #[true, true, true, true, true, true, true, false] rfl rfl (any_of HT_.out (by kernel_rfl)) (fun _ _ _ h => h) (Or.inl ⟨by rfl, ?_⟩) ?_ ?_
       rotate_left
       ·
        intro w'
        go_simp
        with_reducible rfl
       rotate_left
       ·
        simp only [Act.put, List.setIfInBounds_toArray, List.set_cons_zero, List.set_cons_succ, i64_w, i32_w]
        rfl
       refine pure_ (i := 7) (N := some 9) (v := ?_) (a' := ?_) #[true, true, true, true, true, true, true, true] rfl rfl (any_of HT_.out (by kernel_rfl)) (fun _ _ _ h => h) (Or.inl ⟨by rfl, ?_⟩) ?_ ?_
       rotate_left
       ·
        intro w'
        go_simp
        with_reducible rfl
       rotate_left
       ·
        simp only [Act.put, List.setIfInBounds_toArray, List.set_cons_zero, List.set_cons_succ, i64_w, i32_w]
        rfl
       refine done_ (done_of HT_.out (by kernel_rfl)) ?_
       try go_wp2
       have n0_ := Aside0.mk (Kd.R_drew HO_4.out)
       have n1_ := Aside0.mk (Kd.R_drew HO_5.out)
       have n2_ := Aside0.mk (Kd.R_drew HO_713001.out)
       have n3_ := Aside0.mk (Kd.R_drew HO723.out)
       have n4_ := Aside0.mk (Kd.R_drew HO726.out)
       have n5_ := Aside0.mk (blk_drew BK712.out)
       have n6_ := Aside0.mk (below_drew1 HB.out)
       clear HO_4
       clear HO_5
       clear HO_713001
       clear HO723
       clear HO726
       clear BK712
       clear HB
       have HO_4 := n0_
       have HO_5 := n1_
       have HO_713001 := n2_
       have HO723 := n3_
       have HO726 := n4_
       have BK712 := n5_
       have HB := n6_
       clear n0_ n1_ n2_ n3_ n4_ n5_ n6_
       have p729 : 0 ≤ (x6_1 : Int) := oD
       have q729 : x6_1 < (t706.length : Int) := oD
       obtain ⟨ad729, e729, hx729_0, hx729_1, hx729_2⟩ := at_T52 (Kd.R_reads' HO_713001.out).2.2 x6_1 p729 q729
       cases e729
       replace p729 := eq_true p729
       replace q729 := eq_true q729
       have p730 : 0 ≤ (x6_1 : Int) := oD
       have q730 : x6_1 < (t706.length : Int) := oD
       obtain ⟨ad730, e730, hx730_0, hx730_1, hx730_2⟩ := at_T52 (Kd.R_reads' HO_713001.out).2.2 x6_1 p730 q730
       obtain rfl : ad729 = ad730 := (by injection e730)
       replace p730 := eq_true p730
       replace q730 := eq_true q730
       have p735 : 0 ≤ (x6_1 : Int) := oD
       have q735 : x6_1 < (t706.length : Int) := oD
       obtain ⟨ad735, e735, hx735_0, hx735_1, hx735_2⟩ := at_T52 (Kd.R_reads' HO_713001.out).2.2 x6_1 p735 q735
       obtain rfl : ad729 = ad735 := (by injection e735)
       replace p735 := eq_true p735
       replace q735 := eq_true q735
       have p736 : 0 ≤ (x6_1 : Int) := oD
       have q736 : x6_1 < (t706.length : Int) := oD
       obtain ⟨ad736, e736, hx736_0, hx736_1, hx736_2⟩ := at_T52 (Kd.R_reads' HO_713001.out).2.2 x6_1 p736 q736
       obtain rfl : ad729 = ad736 := (by injection e736)
       replace p736 := eq_true p736
       replace q736 := eq_true q736
       refine start_ (n := 41) (S := fun w' => w'.cell? ⟨gb712, 0, none⟩ = some (.int .i64 t705) ∧ w'.cell? ⟨gb712, 1, none⟩ = some (.slice (some ad729) t706.length co11) ∧ w'.cell? (ad729.add ((x6_1).toNat * 3)) = some (.int .i64 ((rd_T52 t706 x6_1).f0)) ∧ w'.cell? ⟨(ad729.add ((x6_1).toNat * 3)).block, (ad729.add ((x6_1).toNat * 3)).off + 1, none⟩ = some (.int .i64 ((rd_T52 t706 x6_1).f1)) ∧ w'.cell? ⟨(ad729.add ((x6_1).toNat * 3)).block, (ad729.add ((x6_1).toNat * 3)).off + 2, none⟩ = some (.int .i64 ((rd_T52 t706 x6_1).f2)) ∧ w'.cell? (ad729.add ((x6_1).toNat * 3)) = some (.int .i64 ((rd_T52 t706 x6_1).f0)) ∧ w'.cell? ⟨(ad729.add ((x6_1).toNat * 3)).block, (ad729.add ((x6_1).toNat * 3)).off + 1, none⟩ = some (.int .i64 ((rd_T52 t706 x6_1).f1)) ∧ w'.cell? ⟨(ad729.add ((x6_1).toNat * 3)).block, (ad729.add ((x6_1).toNat * 3)).off + 2, none⟩ = some (.int .i64 ((rd_T52 t706 x6_1).f2)) ∧ w'.cell? (ad729.add ((x6_1).toNat * 3)) = some (.int .i64 ((rd_T52 t706 x6_1).f0)) ∧ w'.cell? ⟨(ad729.add ((x6_1).toNat * 3)).block, (ad729.add ((x6_1).toNat * 3)).off + 1, none⟩ = some (.int .i64 ((rd_T52 t706 x6_1).f1)) ∧ w'.cell? ⟨(ad729.add ((x6_1).toNat * 3)).block, (ad729.add ((x6_1).toNat * 3)).off + 2, none⟩ = some (.int .i64 ((rd_T52 t706 x6_1).f2)) ∧ w'.cell? (ad729.add ((x6_1).toNat * 3)) = some (.int .i64 ((rd_T52 t706 x6_1).f0)) ∧ w'.cell? ⟨(ad729.add ((x6_1).toNat * 3)).block, (ad729.add ((x6_1).toNat * 3)).off + 1, none⟩ = some (.int .i64 ((rd_T52 t706 x6_1).f1)) ∧ w'.cell? ⟨(ad729.add ((x6_1).toNat * 3)).block, (ad729.add ((x6_1).toNat * 3)).off + 2, none⟩ = some (.int .i64 ((rd_T52 t706 x6_1).f2))) (ds := []) #[false, false, false, false, false, false, false, false, false, false, false, false, false, false, false, false, false, false, false, false, false, false, false, false, false, false, false, false, false, false, false, false, false, false, false, false, false, false, false, false, false] (by kernel_rfl) rfl rfl ⟨(blk_cell BK712.out 0).trans rfl, (blk_cell BK712.out 1).trans rfl, hx729_0, hx729_1, hx729_2, hx730_0, hx730_1, hx730_2, hx735_0, hx735_1, hx735_2, hx736_0, hx736_1, hx736_2⟩ (fun hHeld => ?_); refine with_tabW laws_FnIslandNumbers.tab12 laws_FnIslandNumbers.bits12 (fun HT_ HW_ => ?_)
       generalize w60.drew = w61 at HO_4 HO_5 HO_713001 HO723 HO726 BK712 HB hx729_0 hx729_1 hx729_2 hx730_0 hx730_1 hx730_2 hx735_0 hx735_1 hx735_2 hx736_0 hx736_1 hx736_2 hHeld ⊢
       refine pure_ (i := 1) (N := some 53) (v := ?_) (a' := ?_) #[false, true, false, false, false, false, false, false, false, false, false, false, false, false, false, false, false, false, false, false, false, false, false, false, false, false, false, false, false, false, false, false, false, false, false, false, false, false, false, false, false] rfl rfl (any_of HT_.out (by kernel_rfl)) (fun _ _ _ h => h) (Or.inl ⟨by rfl, ?_⟩) ?_ ?_
       rotate_left
       ·
        intro w'
        go_simp
        with_reducible rfl
       rotate_left
       ·
        simp only [Act.put, List.setIfInBounds_toArray, List.set_cons_zero, List.set_cons_succ, i64_w, i32_w]
        rfl
       refine pure_ (i := 2) (N := some 54) (v := ?_) (a' := ?_) #[false, true, true, false, false, false, false, false, false, false, false, false, false, false, false, false, false, false, false, false, false, false, false, false, false, false, false, false, false, false, false, false, false, false, false, false, false, false, false, false, false] rfl rfl (any_of HT_.out (by kernel_rfl)) (fun _ _ _ h => h) (Or.inl ⟨by rfl, ?_⟩) ?_ ?_
       rotate_left
       ·
        intro w'
        go_simp
        with_reducible rfl
       rotate_left
       ·
        simp only [Act.put, List.setIfInBounds_toArray, List.set_cons_zero, List.set_cons_succ, i64_w, i32_w]
        rfl
       refine pure_ (i := 4) (N := some 56) (v := ?_) (a' := ?_) #[false, true, true, false, true, false, false, false, false, false, false, false, false, false, false, false, false, false, false, false, false, false, false, false, false, false, false, false, false, false, false, false, false, false, false, false, false, false, false, false, false] rfl rfl (any_of HT_.out (by kernel_rfl)) (fun _ _ _ h => h) (Or.inl ⟨by rfl, ?_⟩) ?_ ?_
       rotate_left
       ·
        intro w'
        go_simp
        with_reducible rfl
       rotate_left
       ·
        simp only [Act.put, List.setIfInBounds_toArray, List.set_cons_zero, List.set_cons_succ, i64_w, i32_w]
        rfl
       refine pure_ (i := 8) (N := some 60) (v := ?_) (a' := ?_) #[false, true, true, false, true, false, false, false, true, false, false, false, false, false, false, false, false, false, false, false, false, false, false, false, false, false, false, false, false, false, false, false, false, false, false, false, false, false, false, false, false] rfl rfl (any_of HT_.out (by kernel_rfl)) (fun _ _ _ h => h) (Or.inl ⟨by rfl, ?_⟩) ?_ ?_
       rotate_left
       ·
        intro w'
        go_simp
        with_reducible rfl
       rotate_left
       ·
        simp only [Act.put, List.setIfInBounds_toArray, List.set_cons_zero, List.set_cons_succ, i64_w, i32_w]
        rfl
       refine pure_ (i := 10) (N := some 62) (v := ?_) (a' := ?_) #[false, true, true, false, true, false, false, false, true, false, true, false, false, false, false, false, false, false, false, false, false, false, false, false, false, false, false, false, false, false, false, false, false, false, false, false, false, false, false, false, false] rfl rfl (any_of HT_.out (by kernel_rfl)) (fun _ _ _ h => h) (Or.inl ⟨by rfl, ?_⟩) ?_ ?_
       rotate_left
       ·
        intro w'
        go_simp
        with_reducible rfl
       rotate_left
       ·
        simp only [Act.put, List.setIfInBounds_toArray, List.set_cons_zero, List.set_cons_succ, i64_w, i32_w]
        rfl
       refine take_ (i := 0) (N := some 52) (v := ?_) (a' := ?_) #[true, true, true, false, true, false, false, false, true, false, true, false, false, false, false, false, false, false, false, false, false, false, false, false, false, false, false, false, false, false, false, false, false, false, false, false, false, false, false, false, false] rfl rfl (take_ofW HT_.out HW_.out (by kernel_rfl)) (fun _ _ _ h => h) (Or.inl ⟨by rfl, ?_⟩) hHeld ?_ ?_
       rotate_left
       ·
        rintro w' ⟨s0, s1, s2, s3, s4, s5, s6, s7, s8, s9, s10, s11, s12, s13⟩
        go_simp
        with_reducible rfl
       rotate_left
       ·
        simp only [Act.put, List.setIfInBounds_toArray, List.set_cons_zero, List.set_cons_succ, i64_w, i32_w]
        rfl
       refine take_ (i := 3) (N := some 55) (v := ?_) (a' := ?_) #[true, true, true, true, true, false, false, false, true, false, true, false, false, false, false, false, false, false, false, false, false, false, false, false, false, false, false, false, false, false, false, false, false, false, false, false, false, false, false, false, false] rfl rfl (take_ofW HT_.out HW_.out (by kernel_rfl)) (fun _ _ _ h => h) (Or.inl ⟨by rfl, ?_⟩) hHeld ?_ ?_
       rotate_left
       ·
        rintro w' ⟨s0, s1, s2, s3, s4, s5, s6, s7, s8, s9, s10, s11, s12, s13⟩
        go_simp
        with_reducible rfl
       rotate_left
       ·
        simp only [Act.put, List.setIfInBounds_toArray, List.set_cons_zero, List.set_cons_succ, i64_w, i32_w]
        rfl
       refine pure_ (i := 5) (N := some 57) (v := ?_) (a' := ?_) #[true, true, true, true, true, true, false, false, true, false, true, false, false, false, false, false, false, false, false, false, false, false, false, false, false, false, false, false, false, false, false, false, false, false, false, false, false, false, false, false, false] rfl rfl (any_of HT_.out (by kernel_rfl)) (fun _ _ _ h => h) (Or.inl ⟨by rfl, ?_⟩) ?_ ?_
       rotate_left
       ·
        intro w'
        go_simp
        with_reducible rfl
       rotate_left
       ·
        simp only [Act.put, List.setIfInBounds_toArray, List.set_cons_zero, List.set_cons_succ, i64_w, i32_w]
        rfl
       refine pure_ (i := 6) (N := some 58) (v := ?_) (a' := ?_) #[true, true, true, true, true, true, true, false, true, false, true, false, false, false, false, false, false, false, false, false, false, false, false, false, false, false, false, false, false, false, false, false, false, false, false, false, false, false, false, false, false] rfl rfl (any_of HT_.out (by kernel_rfl)) (fun _ _ _ h => h) (Or.inl ⟨by rfl, ?_⟩) ?_ ?_
       rotate_left
       ·
        intro w'
        go_simp
        with_reducible rfl
       rotate_left
       ·
        simp only [Act.put, List.setIfInBounds_toArray, List.set_cons_zero, List.set_cons_succ, i64_w, i32_w]
        rfl
       refine take_ (i := 7) (N := some 59) (v := ?_) (a' := ?_) #[true, true, true, true, true, true, true, true, true, false, true, false, false, false, false, false, false, false, false, false, false, false, false, false, false, false, false, false, false, false, false, false, false, false, false, false, false, false, false, false, false] rfl rfl (take_ofW HT_.out HW_.out (by kernel_rfl)) (fun _ _ _ h => h) (Or.inl ⟨by rfl, ?_⟩) hHeld ?_ ?_
       rotate_left
       ·
        rintro w' ⟨s0, s1, s2, s3, s4, s5, s6, s7, s8, s9, s10, s11, s12, s13⟩
        go_simp
        with_reducible rfl
       rotate_left
       ·
        simp only [Act.put, List.setIfInBounds_toArray, List.set_cons_zero, List.set_cons_succ, i64_w, i32_w]
        rfl
       refine take_ (i := 9) (N := some 61) (v := ?_) (a' := ?_) #[true, true, true, true, true, true, true, true, true, true, true, false, false, false, false, false, false, false, false, false, false, false, false, false, false, false, false, false, false, false, false, false, false, false, false, false, false, false, false, false, false] rfl rfl (take_ofW HT_.out HW_.out (by kernel_rfl)) (fun _ _ _ h => h) (Or.inl ⟨by rfl, ?_⟩) hHeld ?_ ?_
       rotate_left
       ·
        rintro w' ⟨s0, s1, s2, s3, s4, s5, s6, s7, s8, s9, s10, s11, s12, s13⟩
        go_simp
        with_reducible rfl
       rotate_left
       ·
        simp only [Act.put, List.setIfInBounds_toArray, List.set_cons_zero, List.set_cons_succ, i64_w, i32_w]
        rfl
       refine pure_ (i := 11) (N := some 63) (v := ?_) (a' := ?_) #[true, true, true, true, true, true, true, true, true, true, true, true, false, false, false, false, false, false, false, false, false, false, false, false, false, false, false, false, false, false, false, false, false, false, false, false, false, false, false, false, false] rfl rfl (any_of HT_.out (by kernel_rfl)) (fun _ _ _ h => h) (Or.inl ⟨by rfl, ?_⟩) ?_ ?_
       rotate_left
       ·
        intro w'
        go_simp
        with_reducible rfl
       rotate_left
       ·
        simp only [Act.put, List.setIfInBounds_toArray, List.set_cons_zero, List.set_cons_succ, i64_w, i32_w]
        rfl
       refine pure_ (i := 12) (N := some 64) (v := ?_) (a' := ?_) #[true, true, true, true, true, true, true, true, true, true, true, true, true, false, false, false, false, false, false, false, false, false, false, false, false, false, false, false, false, false, false, false, false, false, false, false, false, false, false, false, false] rfl rfl (any_of HT_.out (by kernel_rfl)) (fun _ _ _ h => h) (Or.inl ⟨by rfl, ?_⟩) ?_ ?_
       rotate_left
       ·
        intro w'
        go_simp
        with_reducible rfl
       rotate_left
       ·
        simp only [Act.put, List.setIfInBounds_toArray, List.set_cons_zero, List.set_cons_succ, i64_w, i32_w]
        rfl
       refine take_ (i := 13) (N := some 65) (v := ?_) (a' := ?_) #[true, true, true, true, true, true, true, true, true, true, true, true, true, true, false, false, false, false, false, false, false, false, false, false, false, false, false, false, false, false, false, false, false, false, false, false, false, false, false, false, false] rfl rfl (take_ofW HT_.out HW_.out (by kernel_rfl)) (fun _ _ _ h => h) (Or.inl ⟨by rfl, ?_⟩) hHeld ?_ ?_
       rotate_left
       ·
        rintro w' ⟨s0, s1, s2, s3, s4, s5, s6, s7, s8, s9, s10, s11, s12, s13⟩
        go_simp
        with_reducible rfl
       rotate_left
       ·
        simp only [Act.put, List.setIfInBounds_toArray, List.set_cons_zero, List.set_cons_succ, i64_w, i32_w]
        rfl
       refine one_ (i := 14) (N := some 66) #[true, true, true, true, true, true, true, true, true, true, true, true, true, true, true, false, false, false, false, false, false, false, false, false, false, false, false, false, false, false, false, false, false, false, false, false, false, false, false, false, false] rfl rfl (one_of HT_.out (by kernel_rfl)) (by decide) (fun K hK => ?_)
       refine goes_ Tryd.func25 (by kernel_rfl) rfl #[.agg #[.int .i64 t705, .slice (some ad729) t706.length co11], .slice Ao57 t721.length co57, .int .i64 ((rd_T52 t706 x6_1).f0), .int .i64 ((rd_T52 t706 x6_1).f1)] (by rfl) rfl rfl mP ?_
       with_reducible refine (impl_SameIsland.calls kj17 t705 _ _ t706 _ _ t721 ((rd_T52 t706 x6_1).f0) ((rd_T52 t706 x6_1).f1) false _ ?side1 ?side2 ?side3 ?side4 A26.out).mono ?_
       (case side1 => exact gC ((Kd.R_reads' HO_713001.out).2.2))
       (case side2 => exact (Kd.R_reads' HO_713001.out).2.1)
       (case side3 => exact gC ((Kd.R_reads' HO723.out).2.2))
       (case side4 => exact (Kd.R_reads' HO723.out).2.1)
       rintro e w62 ⟨rfl, hb⟩
       have HS2_ := (hb.cell (World.block_lt_of_cell? _ _ (hHeld.2.2.1))).trans (hHeld.2.2.1)
       have HS3_ := (hb.cell (World.block_lt_of_cell? _ _ (hHeld.2.2.2.1))).trans (hHeld.2.2.2.1)
       have HS4_ := (hb.cell (World.block_lt_of_cell? _ _ (hHeld.2.2.2.2.1))).trans (hHeld.2.2.2.2.1)
       have HS5_ := (hb.cell (World.block_lt_of_cell? _ _ (hHeld.2.2.2.2.2.1))).trans (hHeld.2.2.2.2.2.1)
       have HS6_ := (hb.cell (World.block_lt_of_cell? _ _ (hHeld.2.2.2.2.2.2.1))).trans (hHeld.2.2.2.2.2.2.1)
       have HS7_ := (hb.cell (World.block_lt_of_cell? _ _ (hHeld.2.2.2.2.2.2.2.1))).trans (hHeld.2.2.2.2.2.2.2.1)
       have HS8_ := (hb.cell (World.block_lt_of_cell? _ _ (hHeld.2.2.2.2.2.2.2.2.1))).trans (hHeld.2.2.2.2.2.2.2.2.1)
       have HS9_ := (hb.cell (World.block_lt_of_cell? _ _ (hHeld.2.2.2.2.2.2.2.2.2.1))).trans (hHeld.2.2.2.2.2.2.2.2.2.1)
       have HS10_ := (hb.cell (World.block_lt_of_cell? _ _ (hHeld.2.2.2.2.2.2.2.2.2.2.1))).trans (hHeld.2.2.2.2.2.2.2.2.2.2.1)
       have HS11_ := (hb.cell (World.block_lt_of_cell? _ _ (hHeld.2.2.2.2.2.2.2.2.2.2.2.1))).trans (hHeld.2.2.2.2.2.2.2.2.2.2.2.1)
       have HS12_ := (hb.cell (World.block_lt_of_cell? _ _ (hHeld.2.2.2.2.2.2.2.2.2.2.2.2.1))).trans (hHeld.2.2.2.2.2.2.2.2.2.2.2.2.1)
       have HS13_ := (hb.cell (World.block_lt_of_cell? _ _ (hHeld.2.2.2.2.2.2.2.2.2.2.2.2.2))).trans (hHeld.2.2.2.2.2.2.2.2.2.2.2.2.2)
       refine ⟨_, rfl, ?_⟩
       have n0_ := Aside0.mk (Kd.R_below (gR (HO_4.out)) hb)
       have n1_ := Aside0.mk (Kd.R_below (gR (HO_5.out)) hb)
       have n2_ := Aside0.mk (Kd.R_below (gR (HO_713001.out)) hb)
       have n3_ := Aside0.mk (Kd.R_below (gR (HO723.out)) hb)
       have n4_ := Aside0.mk (Kd.R_below (gR (HO726.out)) hb)
       have n5_ := Aside0.mk (blk_below (g := gb712) (o := .cells #[.int .i64 t705, .slice (some ad729) t706.length co11] 39 (0, 0)) (gB (BK712.out)) hb)
       have n6_ := Aside0.mk (below_step (bl1 HB GE712) hb)
       clear HO_4
       clear HO_5
       clear HO_713001
       clear HO723
       clear HO726
       clear BK712
       clear HB
       have HO_4 := n0_
       have HO_5 := n1_
       have HO_713001 := n2_
       have HO723 := n3_
       have HO726 := n4_
       have BK712 := n5_
       have HB := n6_
       clear n0_ n1_ n2_ n3_ n4_ n5_ n6_
       (try clear hb)
       (try clear hb2)
       (try clear hk)
       (try clear hi)
       refine hK.out _ _ ⟨(blk_cell BK712.out 0).trans rfl, (blk_cell BK712.out 1).trans rfl, HS2_, HS3_, HS4_, HS5_, HS6_, HS7_, HS8_, HS9_, HS10_, HS11_, HS12_, HS13_⟩ (fun hHeld => ?_)
       clear hK K
       refine norm_ (a' := ?_) ?_ ?_
       rotate_left
       ·
        show Act.put _ (some 66) _ = _
        simp only [Act.put, List.setIfInBounds_toArray, List.set_cons_zero, List.set_cons_succ, i64_w, i32_w]
        rfl
       refine pure_ (i := 15) (N := some 67) (v := ?_) (a' := ?_) #[true, true, true, true, true, true, true, true, true, true, true, true, true, true, true, true, false, false, false, false, false, false, false, false, false, false, false, false, false, false, false, false, false, false, false, false, false, false, false, false, false] rfl rfl (any_of HT_.out (by kernel_rfl)) (fun _ _ _ h => h) (Or.inl ⟨by rfl, ?_⟩) ?_ ?_
       rotate_left
       ·
        intro w'
        go_simp
        with_reducible rfl
       rotate_left
       ·
        simp only [Act.put, List.setIfInBounds_toArray, List.set_cons_zero, List.set_cons_succ, i64_w, i32_w]
        rfl
       refine pure_ (i := 16) (N := some 68) (v := undef) (a' := ?_) #[true, true, true, true, true, true, true, true, true, true, true, true, true, true, true, true, true, false, false, false, false, false, false, false, false, false, false, false, false, false, false, false, false, false, false, false, false, false, false, false, false] rfl rfl (any_of HT_.out (by kernel_rfl)) (fun _ _ _ h => h) (Or.inr ⟨by rfl, rfl⟩) ?_ ?_
       rotate_left
       ·
        simp only [Act.put, List.setIfInBounds_toArray, List.set_cons_zero, List.set_cons_succ, i64_w, i32_w]
        rfl
       refine pure_ (i := 17) (N := some 69) (v := undef) (a' := ?_) #[true, true, true, true, true, true, true, true, true, true, true, true, true, true, true, true, true, true, false, false, false, false, false, false, false, false, false, false, false, false, false, false, false, false, false, false, false, false, false, false, false] rfl rfl (any_of HT_.out (by kernel_rfl)) (fun _ _ _ h => h) (Or.inr ⟨by rfl, rfl⟩) ?_ ?_
       rotate_left
       ·
        simp only [Act.put, List.setIfInBounds_toArray, List.set_cons_zero, List.set_cons_succ, i64_w, i32_w]
        rfl
       refine pure_ (i := 18) (N := some 70) (v := ?_) (a' := ?_) #[true, true, true, true, true, true, true, true, true, true, true, true, true, true, true, true, true, true, true, false, false, false, false, false, false, false, false, false, false, false, false, false, false, false, false, false, false, false, false, false, false] rfl rfl (any_of HT_.out (by kernel_rfl)) (fun _ _ _ h => h) (Or.inl ⟨by rfl, ?_⟩) ?_ ?_
       rotate_left
       ·
        intro w'
        go_simp
        with_reducible rfl
       rotate_left
       ·
        simp only [Act.put, List.setIfInBounds_toArray, List.set_cons_zero, List.set_cons_succ, i64_w, i32_w]
        rfl
       refine pure_ (i := 19) (N := some 71) (v := ?_) (a' := ?_) #[true, true, true, true, true, true, true, true, true, true, true, true, true, true, true, true, true, true, true, true, false, false, false, false, false, false, false, false, false, false, false, false, false, false, false, false, false, false, false, false, false] rfl rfl (any_of HT_.out (by kernel_rfl)) (fun _ _ _ h => h) (Or.inl ⟨by rfl, ?_⟩) ?_ ?_
       rotate_left
       ·
        intro w'
        go_simp
        with_reducible rfl
       rotate_left
       ·
        simp only [Act.put, List.setIfInBounds_toArray, List.set_cons_zero, List.set_cons_succ, i64_w, i32_w]
        rfl
       refine pure_ (i := 21) (N := some 73) (v := ?_) (a' := ?_) #[true, true, true, true, true, true, true, true, true, true, true, true, true, true, true, true, true, true, true, true, false, true, false, false, false, false, false, false, false, false, false, false, false, false, false, false, false, false, false, false, false] rfl rfl (any_of HT_.out (by kernel_rfl)) (fun _ _ _ h => h) (Or.inl ⟨by rfl, ?_⟩) ?_ ?_
       rotate_left
       ·
        intro w'
        go_simp
        with_reducible rfl
       rotate_left
       ·
        simp only [Act.put, List.setIfInBounds_toArray, List.set_cons_zero, List.set_cons_succ, i64_w, i32_w]
        rfl
       refine pure_ (i := 22) (N := some 74) (v := ?_) (a' := ?_) #[true, true, true, true, true, true, true, true, true, true, true, true, true, true, true, true, true, true, true, true, false, true, true, false, false, false, false, false, false, false, false, false, false, false, false, false, false, false, false, false, false] rfl rfl (any_of HT_.out (by kernel_rfl)) (fun _ _ _ h => h) (Or.inl ⟨by rfl, ?_⟩) ?_ ?_
       rotate_left
       ·
        intro w'
        go_simp
        with_reducible rfl
       rotate_left
       ·
        simp only [Act.put, List.setIfInBounds_toArray, List.set_cons_zero, List.set_cons_succ, i64_w, i32_w]
        rfl
       refine pure_ (i := 24) (N := some 76) (v := ?_) (a' := ?_) #[true, true, true, true, true, true, true, true, true, true, true, true, true, true, true, true, true, true, true, true, false, true, true, false, true, false, false, false, false, false, false, false, false, false, false, false, false, false, false, false, false] rfl rfl (any_of HT_.out (by kernel_rfl)) (fun _ _ _ h => h) (Or.inl ⟨by rfl, ?_⟩) ?_ ?_
       rotate_left
       ·
        intro w'
        go_simp
        with_reducible rfl
       rotate_left
       ·
        simp only [Act.put, List.setIfInBounds_toArray, List.set_cons_zero, List.set_cons_succ, i64_w, i32_w]
        rfl
       refine pure_ (i := 28) (N := some 80) (v := ?_) (a' := ?_) #[true, true, true, true, true, true, true, true, true, true, true, true, true, true, true, true, true, true, true, true, false, true, true, false, true, false, false, false, true, false, false, false, false, false, false, false, false, false, false, false, false] rfl rfl (any_of HT_.out (by kernel_rfl)) (fun _ _ _ h => h) (Or.inl ⟨by rfl, ?_⟩) ?_ ?_
       rotate_left
       ·
        intro w'
        go_simp
        with_reducible rfl
       rotate_left
       ·
        simp only [Act.put, List.setIfInBounds_toArray, List.set_cons_zero, List.set_cons_succ, i64_w, i32_w]
        rfl
       refine pure_ (i := 30) (N := some 82) (v := ?_) (a' := ?_) #[true, true, true, true, true, true, true, true, true, true, true, true, true, true, true, true, true, true, true, true, false, true, true, false, true, false, false, false, true, false, true, false, false, false, false, false, false, false, false, false, false] rfl rfl (any_of HT_.out (by kernel_rfl)) (fun _ _ _ h => h) (Or.inl ⟨by rfl, ?_⟩) ?_ ?_
       rotate_left
       ·
        intro w'
        go_simp
        with_reducible rfl
       rotate_left
       ·
        simp only [Act.put, List.setIfInBounds_toArray, List.set_cons_zero, List.set_cons_succ, i64_w, i32_w]
        rfl
       refine take_ (i := 20) (N := some 72) (v := ?_) (a' := ?_) #[true, true, true, true, true, true, true, true, true, true, true, true, true, true, true, true, true, true, true, true, true, true, true, false, true, false, false, false, true, false, true, false, false, false, false, false, false, false, false, false, false] rfl rfl (take_ofW HT_.out HW_.out (by kernel_rfl)) (fun _ _ _ h => h) (Or.inl ⟨by rfl, ?_⟩) hHeld ?_ ?_
       rotate_left
       ·
        rintro w' ⟨s0, s1, s2, s3, s4, s5, s6, s7, s8, s9, s10, s11, s12, s13⟩
        go_simp
        with_reducible rfl
       rotate_left
       ·
        simp only [Act.put, List.setIfInBounds_toArray, List.set_cons_zero, List.set_cons_succ, i64_w, i32_w]
        rfl
       refine take_ (i := 23) (N := some 75) (v := ?_) (a' := ?_) #[true, true, true, true, true, true, true, true, true, true, true, true, true, true, true, true, true, true, true, true, true, true, true, true, true, false, false, false, true, false, true, false, false, false, false, false, false, false, false, false, false] rfl rfl (take_ofW HT_.out HW_.out (by kernel_rfl)) (fun _ _ _ h => h) (Or.inl ⟨by rfl, ?_⟩) hHeld ?_ ?_
       rotate_left
       ·
        rintro w' ⟨s0, s1, s2, s3, s4, s5, s6, s7, s8, s9, s10, s11, s12, s13⟩
        go_simp
        with_reducible rfl
       rotate_left
       ·
        simp only [Act.put, List.setIfInBounds_toArray, List.set_cons_zero, List.set_cons_succ, i64_w, i32_w]
        rfl
       refine pure_ (i := 25) (N := some 77) (v := ?_) (a' := ?_) #[true, true, true, true, true, true, true, true, true, true, true, true, true, true, true, true, true, true, true, true, true, true, true, true, true, true, false, false, true, false, true, false, false, false, false, false, false, false, false, false, false] rfl rfl (any_of HT_.out (by kernel_rfl)) (fun _ _ _ h => h) (Or.inl ⟨by rfl, ?_⟩) ?_ ?_
       rotate_left
       ·
        intro w'
        go_simp
        with_reducible rfl
       rotate_left
       ·
        simp only [Act.put, List.setIfInBounds_toArray, List.set_cons_zero, List.set_cons_succ, i64_w, i32_w]
        rfl
       refine pure_ (i := 26) (N := some 78) (v := ?_) (a' := ?_) #[true, true, true, true, true, true, true, true, true, true, true, true, true, true, true, true, true, true, true, true, true, true, true, true, true, true, true, false, true, false, true, false, false, false, false, false, false, false, false, false, false] rfl rfl (any_of HT_.out (by kernel_rfl)) (fun _ _ _ h => h) (Or.inl ⟨by rfl, ?_⟩) ?_ ?_
       rotate_left
       ·
        intro w'
        go_simp
        with_reducible rfl
       rotate_left
       ·
        simp only [Act.put, List.setIfInBounds_toArray, List.set_cons_zero, List.set_cons_succ, i64_w, i32_w]
        rfl
       refine take_ (i := 27) (N := some 79) (v := ?_) (a' := ?_) #[true, true, true, true, true, true, true, true, true, true, true, true, true, true, true, true, true, true, true, true, true, true, true, true, true, true, true, true, true, false, true, false, false, false, false, false, false, false, false, false, false] rfl rfl (take_ofW HT_.out HW_.out (by kernel_rfl)) (fun _ _ _ h => h) (Or.inl ⟨by rfl, ?_⟩) hHeld ?_ ?_
       rotate_left
       ·
        rintro w' ⟨s0, s1, s2, s3, s4, s5, s6, s7, s8, s9, s10, s11, s12, s13⟩
        go_simp
        with_reducible rfl
       rotate_left
       ·
        simp only [Act.put, List.setIfInBounds_toArray, List.set_cons_zero, List.set_cons_succ, i64_w, i32_w]
        rfl
       refine take_ (i := 29) (N := some 81) (v := ?_) (a' := ?_) #[true, true, true, true, true, true, true, true, true, true, true, true, true, true, true, true, true, true, true, true, true, true, true, true, true, true, true, true, true, true, true, false, false, false, false, false, false, false, false, false, false] rfl rfl (take_ofW HT_.out HW_.out (by kernel_rfl)) (fun _ _ _ h => h) (Or.inl ⟨by rfl, ?_⟩) hHeld ?_ ?_
       rotate_left
       ·
        rintro w' ⟨s0, s1, s2, s3, s4, s5, s6, s7, s8, s9, s10, s11, s12, s13⟩
        go_simp
        with_reducible rfl
       rotate_left
       ·
        simp only [Act.put, List.setIfInBounds_toArray, List.set_cons_zero, List.set_cons_succ, i64_w, i32_w]
        rfl
       refine pure_ (i := 31) (N := some 83) (v := ?_) (a' := ?_) #[true, true, true, true, true, true, true, true, true, true, true, true, true, true, true, true, true, true, true, true, true, true, true, true, true, true, true, true, true, true, true, true, false, false, false, false, false, false, false, false, false] rfl rfl (any_of HT_.out (by kernel_rfl)) (fun _ _ _ h => h) (Or.inl ⟨by rfl, ?_⟩) ?_ ?_
       rotate_left
       ·
        intro w'
        go_simp
        with_reducible rfl
       rotate_left
       ·
        simp only [Act.put, List.setIfInBounds_toArray, List.set_cons_zero, List.set_cons_succ, i64_w, i32_w]
        rfl
       refine pure_ (i := 32) (N := some 84) (v := ?_) (a' := ?_) #[true, true, true, true, true, true, true, true, true, true, true, true, true, true, true, true, true, true, true, true, true, true, true, true, true, true, true, true, true, true, true, true, true, false, false, false, false, false, false, false, false] rfl rfl (any_of HT_.out (by kernel_rfl)) (fun _ _ _ h => h) (Or.inl ⟨by rfl, ?_⟩) ?_ ?_
       rotate_left
       ·
        intro w'
        go_simp
        with_reducible rfl
       rotate_left
       ·
        simp only [Act.put, List.setIfInBounds_toArray, List.set_cons_zero, List.set_cons_succ, i64_w, i32_w]
        rfl
       refine take_ (i := 33) (N := some 85) (v := ?_) (a' := ?_) #[true, true, true, true, true, true, true, true, true, true, true, true, true, true, true, true, true, true, true, true, true, true, true, true, true, true, true, true, true, true, true, true, true, true, false, false, false, false, false, false, false] rfl rfl (take_ofW HT_.out HW_.out (by kernel_rfl)) (fun _ _ _ h => h) (Or.inl ⟨by rfl, ?_⟩) hHeld ?_ ?_
       rotate_left
       ·
        rintro w' ⟨s0, s1, s2, s3, s4, s5, s6, s7, s8, s9, s10, s11, s12, s13⟩
        go_simp
        with_reducible rfl
       rotate_left
       ·
        simp only [Act.put, List.setIfInBounds_toArray, List.set_cons_zero, List.set_cons_succ, i64_w, i32_w]
        rfl
       refine one_ (i := 34) (N := some 86) #[true, true, true, true, true, true, true, true, true, true, true, true, true, true, true, true, true, true, true, true, true, true, true, true, true, true, true, true, true, true, true, true, true, true, true, false, false, false, false, false, false] rfl rfl (one_of HT_.out (by kernel_rfl)) (by decide) (fun K hK => ?_)
       refine goes_ Tryd.func25 (by kernel_rfl) rfl #[.agg #[.int .i64 t705, .slice (some ad729) t706.length co11], .slice Ao57 t721.length co57, .int .i64 ((rd_T52 t706 x6_1).f0), .int .i64 ((rd_T52 t706 x6_1).f1)] (by rfl) rfl rfl mP ?_
       with_reducible refine (impl_SameIsland.calls kj17 t705 _ _ t706 _ _ t721 ((rd_T52 t706 x6_1).f0) ((rd_T52 t706 x6_1).f1) true _ ?side1 ?side2 ?side3 ?side4 A52.out).mono ?_
       (case side1 => exact gC ((Kd.R_reads' HO_713001.out).2.2))
       (case side2 => exact (Kd.R_reads' HO_713001.out).2.1)
       (case side3 => exact gC ((Kd.R_reads' HO723.out).2.2))
       (case side4 => exact (Kd.R_reads' HO723.out).2.1)
       rintro e w63 ⟨rfl, hb⟩
       have HS2_ := (hb.cell (World.block_lt_of_cell? _ _ (hHeld.2.2.1))).trans (hHeld.2.2.1)
       have HS3_ := (hb.cell (World.block_lt_of_cell? _ _ (hHeld.2.2.2.1))).trans (hHeld.2.2.2.1)
       have HS4_ := (hb.cell (World.block_lt_of_cell? _ _ (hHeld.2.2.2.2.1))).trans (hHeld.2.2.2.2.1)
       have HS5_ := (hb.cell (World.block_lt_of_cell? _ _ (hHeld.2.2.2.2.2.1))).trans (hHeld.2.2.2.2.2.1)
       have HS6_ := (hb.cell (World.block_lt_of_cell? _ _ (hHeld.2.2.2.2.2.2.1))).trans (hHeld.2.2.2.2.2.2.1)
       have HS7_ := (hb.cell (World.block_lt_of_cell? _ _ (hHeld.2.2.2.2.2.2.2.1))).trans (hHeld.2.2.2.2.2.2.2.1)
       have HS8_ := (hb.cell (World.block_lt_of_cell? _ _ (hHeld.2.2.2.2.2.2.2.2.1))).trans (hHeld.2.2.2.2.2.2.2.2.1)
       have HS9_ := (hb.cell (World.block_lt_of_cell? _ _ (hHeld.2.2.2.2.2.2.2.2.2.1))).trans (hHeld.2.2.2.2.2.2.2.2.2.1)
       have HS10_ := (hb.cell (World.block_lt_of_cell? _ _ (hHeld.2.2.2.2.2.2.2.2.2.2.1))).trans (hHeld.2.2.2.2.2.2.2.2.2.2.1)
       have HS11_ := (hb.cell (World.block_lt_of_cell? _ _ (hHeld.2.2.2.2.2.2.2.2.2.2.2.1))).trans (hHeld.2.2.2.2.2.2.2.2.2.2.2.1)
       have HS12_ := (hb.cell (World.block_lt_of_cell? _ _ (hHeld.2.2.2.2.2.2.2.2.2.2.2.2.1))).trans (hHeld.2.2.2.2.2.2.2.2.2.2.2.2.1)
       have HS13_ := (hb.cell (World.block_lt_of_cell? _ _ (hHeld.2.2.2.2.2.2.2.2.2.2.2.2.2))).trans (hHeld.2.2.2.2.2.2.2.2.2.2.2.2.2)
       refine ⟨_, rfl, ?_⟩
       have n0_ := Aside0.mk (Kd.R_below (gR (HO_4.out)) hb)
       have n1_ := Aside0.mk (Kd.R_below (gR (HO_5.out)) hb)
       have n2_ := Aside0.mk (Kd.R_below (gR (HO_713001.out)) hb)
       have n3_ := Aside0.mk (Kd.R_below (gR (HO723.out)) hb)
       have n4_ := Aside0.mk (Kd.R_below (gR (HO726.out)) hb)
       have n5_ := Aside0.mk (blk_below (g := gb712) (o := .cells #[.int .i64 t705, .slice (some ad729) t706.length co11] 39 (0, 0)) (gB (BK712.out)) hb)
       have n6_ := Aside0.mk (below_step (bl1 HB GE712) hb)
       clear HO_4
       clear HO_5
       clear HO_713001
       clear HO723
       clear HO726
       clear BK712
       clear HB
       have HO_4 := n0_
       have HO_5 := n1_
       have HO_713001 := n2_
       have HO723 := n3_
       have HO726 := n4_
       have BK712 := n5_
       have HB := n6_
       clear n0_ n1_ n2_ n3_ n4_ n5_ n6_
       (try clear hb)
       (try clear hb2)
       (try clear hk)
       (try clear hi)
       refine hK.out _ _ ⟨(blk_cell BK712.out 0).trans rfl, (blk_cell BK712.out 1).trans rfl, HS2_, HS3_, HS4_, HS5_, HS6_, HS7_, HS8_, HS9_, HS10_, HS11_, HS12_, HS13_⟩ (fun hHeld => ?_)
       clear hK K
       refine norm_ (a' := ?_) ?_ ?_
       rotate_left
       ·
        show Act.put _ (some 86) _ = _
        simp only [Act.put, List.setIfInBounds_toArray, List.set_cons_zero, List.set_cons_succ, i64_w, i32_w]
        rfl
       refine pure_ (i := 35) (N := some 87) (v := ?_) (a' := ?_) #[true, true, true, true, true, true, true, true, true, true, true, true, true, true, true, true, true, true, true, true, true, true, true, true, true, true, true, true, true, true, true, true, true, true, true, true, false, false, false, false, false] rfl rfl (any_of HT_.out (by kernel_rfl)) (fun _ _ _ h => h) (Or.inl ⟨by rfl, ?_⟩) ?_ ?_
       rotate_left
       ·
        intro w'
        go_simp
        with_reducible rfl
       rotate_left
       ·
        simp only [Act.put, List.setIfInBounds_toArray, List.set_cons_zero, List.set_cons_succ, i64_w, i32_w]
        rfl
       refine pure_ (i := 36) (N := some 88) (v := ?_) (a' := ?_) #[true, true, true, true, true, true, true, true, true, true, true, true, true, true, true, true, true, true, true, true, true, true, true, true, true, true, true, true, true, true, true, true, true, true, true, true, true, false, false, false, false] rfl rfl (any_of HT_.out (by kernel_rfl)) (fun _ _ _ h => h) (Or.inl ⟨by rfl, ?_⟩) ?_ ?_
       rotate_left
       ·
        intro w'
        go_simp
        with_reducible rfl
       rotate_left
       ·
        simp only [Act.put, List.setIfInBounds_toArray, List.set_cons_zero, List.set_cons_succ, i64_w, i32_w]
        rfl
       refine pure_ (i := 37) (N := some 89) (v := undef) (a' := ?_) #[true, true, true, true, true, true, true, true, true, true, true, true, true, true, true, true, true, true, true, true, true, true, true, true, true, true, true, true, true, true, true, true, true, true, true, true, true, true, false, false, false] rfl rfl (any_of HT_.out (by kernel_rfl)) (fun _ _ _ h => h) (Or.inr ⟨by rfl, rfl⟩) ?_ ?_
       rotate_left
       ·
        simp only [Act.put, List.setIfInBounds_toArray, List.set_cons_zero, List.set_cons_succ, i64_w, i32_w]
        rfl
       refine pure_ (i := 38) (N := some 90) (v := undef) (a' := ?_) #[true, true, true, true, true, true, true, true, true, true, true, true, true, true, true, true, true, true, true, true, true, true, true, true, true, true, true, true, true, true, true, true, true, true, true, true, true, true, true, false, false] rfl rfl (any_of HT_.out (by kernel_rfl)) (fun _ _ _ h => h) (Or.inr ⟨by rfl, rfl⟩) ?_ ?_
       rotate_left
       ·
        simp only [Act.put, List.setIfInBounds_toArray, List.set_cons_zero, List.set_cons_succ, i64_w, i32_w]
        rfl
       refine pure_ (i := 39) (N := some 91) (v := ?_) (a' := ?_) #[true, true, true, true, true, true, true, true, true, true, true, true, true, true, true, true, true, true, true, true, true, true, true, true, true, true, true, true, true, true, true, true, true, true, true, true, true, true, true, true, false] rfl rfl (any_of HT_.out (by kernel_rfl)) (fun _ _ _ h => h) (Or.inl ⟨by rfl, ?_⟩) ?_ ?_
       rotate_left
       ·
        intro w'
        go_simp
        with_reducible rfl
       rotate_left
       ·
        simp only [Act.put, List.setIfInBounds_toArray, List.set_cons_zero, List.set_cons_succ, i64_w, i32_w]
        rfl
       refine pure_ (i := 40) (N := some 92) (v := ?_) (a' := ?_) #[true, true, true, true, true, true, true, true, true, true, true, true, true, true, true, true, true, true, true, true, true, true, true, true, true, true, true, true, true, true, true, true, true, true, true, true, true, true, true, true, true] rfl rfl (any_of HT_.out (by kernel_rfl)) (fun _ _ _ h => h) (Or.inl ⟨by rfl, ?_⟩) ?_ ?_
       rotate_left
       ·
        intro w'
        go_simp
        with_reducible rfl
       rotate_left
       ·
        simp only [Act.put, List.setIfInBounds_toArray, List.set_cons_zero, List.set_cons_succ, i64_w, i32_w]
        rfl
       refine done_ (done_of HT_.out (by kernel_rfl)) ?_
       try go_wp2
       go_roundg kj17
       case measure => have := HK1.out; have := HJ17.out; omega
       case rel => exact ⟨(wrap64 (x6_1 + 1)), fS, H', ⟨by have := HK1.out; have := HJ17.out; omega⟩, ⟨by (with_reducible repeat (first | apply Kd.R_alloc | apply Kd.R_drewN | apply Kd.R_drew)); exact Kd.R_mono HO_4.out (fun _ hk => trivial)⟩, ⟨gR (HO_5.out)⟩, ⟨gR (HO_713001.out)⟩, ⟨gB (BK712.out)⟩, ⟨bl1 HB GE712⟩⟩
      replace c53 := Bool.eq_false_iff.mpr c53
      subst c53
      have H1 : (if (wrap64 (t727 - t728)) = 1 then (laws_FnIslandNumbers.l0 kj17 t709 t713 (wrap64 (x6_1 + 1)) t705 t706) else (none)) = some r := by rw [if_neg (show ¬ (false = true) by decide)] at H; exact H
      clear H
      have H := H1
      clear H1
      by_cases c64 : (wrap64 (t727 - t728)) = 1
      rotate_left
      ·
       rw [if_neg c64] at H
       exact absurd H (by simp)
      rw [if_pos c64] at H
      have c64b0 : ((wrap64 (t727 - t728)) == 1) = true := beq_iff_eq.mpr c64
      have c64b1 : ((wrap64 (t727 - t728)) != 1) = false := bne_eq_false_iff_eq.mpr c64
      clear c64
      have H' := Aside0.mk H
      clear H
      have hcz65_0 : wc.cell? ⟨gb712, 0, none⟩ = some (.int .i64 t705) := (blk_cell BK712.out 0).trans rfl
      have hcz65_1 : wc.cell? ⟨gb712, 1, none⟩ = some (.slice Ao11 t706.length co11) := (blk_cell BK712.out 1).trans rfl
      have hfz65_0 := blk_frozen BK712.out 0
      have hfz65_1 := blk_frozen BK712.out 1
      try go_wp2_with (first | ((with_reducible refine gate_callee (f := 38) rfl ?_); refine goesL_ (some 42) rfl rfl Tryd.func38 (by kernel_rfl) rfl #[.agg #[.int .i64 t705, .slice Ao11 t706.length co11], .slice Ao12 t709.length co12, .int .i64 x6_1] rfl mP ?_; (with_reducible refine (laws_offOn.calls kj17 t705 _ _ t706 _ _ t709 x6_1 t721 t724 _ ?side1 ?side2 ?side3 ?side4 A21.out).mono ?_); (case side1 => exact gC ((Kd.R_reads' HO_713001.out).2.2)); (case side2 => exact (Kd.R_reads' HO_713001.out).2.1); (case side3 => exact gC ((Kd.R_reads' HO_4.out).2.2)); (case side4 => exact (Kd.R_reads' HO_4.out).2.1); rintro e w66 ⟨v722, v725, rfl, ho0, ho1, hb⟩; refine ⟨_, rfl, ?_⟩; have n0_ := Aside0.mk (Kd.R_mono (Kd.R_told (Kd.R_told (Kd.R_old (gR (HO_4.out)) hb) (Kd.R_base ho0)) (Kd.R_base ho1)) (fun _ h_ => h_.1)); have n1_ := Aside0.mk (Kd.R_below (gR (HO_5.out)) hb); have n2_ := Aside0.mk (Kd.R_below (gR (HO_713001.out)) hb); have n3_ := Aside0.mk (Kd.R_lower (Kd.R_new' ho0 (Kd.R_lt (gR (HO_4.out)))) (below_size (bl1 HB GE712))); have n4_ := Aside0.mk (Kd.R_lower (Kd.R_new' ho1 (Kd.R_lt (gR (HO_4.out)))) (below_size (bl1 HB GE712))); have n5_ := Aside0.mk (blk_below (g := gb712) (o := .cells #[.int .i64 t705, .slice Ao11 t706.length co11] 39 (0, 0)) (gB (BK712.out)) hb); have n6_ := Aside0.mk (below_step (bl1 HB GE712) hb); clear HO_4; clear HO_5; clear HO_713001; clear BK712; clear HB; have HO_4 := n0_; have HO_5 := n1_; have HO_713001 := n2_; have HO723 := n3_; have HO726 := n4_; have BK712 := n5_; have HB := n6_; clear n0_ n1_ n2_ n3_ n4_ n5_ n6_; (try clear hb); (try clear hb2); (try clear hk); (try clear hi); (try clear ho0); (try clear ho1)))
      have n0_ := Aside0.mk (Kd.R_drew HO_4.out)
      have n1_ := Aside0.mk (Kd.R_drew HO_5.out)
      have n2_ := Aside0.mk (Kd.R_drew HO_713001.out)
      have n3_ := Aside0.mk (Kd.R_drew HO723.out)
      have n4_ := Aside0.mk (Kd.R_drew HO726.out)
      have n5_ := Aside0.mk (blk_drew BK712.out)
      have n6_ := Aside0.mk (below_drew1 HB.out)
      clear HO_4
      clear HO_5
      clear HO_713001
      clear HO723
      clear HO726
      clear BK712
      clear HB
      have HO_4 := n0_
      have HO_5 := n1_
      have HO_713001 := n2_
      have HO723 := n3_
      have HO726 := n4_
      have BK712 := n5_
      have HB := n6_
      clear n0_ n1_ n2_ n3_ n4_ n5_ n6_
      obtain ⟨Ao68, co68, eo68⟩ := Kd.R_slice HO723.out
      (first | subst eo68 | (injection eo68 with f1_ f2_ f3_; have f4_ := f1_.symm; have f5_ := f3_.symm; clear f1_ f2_ f3_; subst f4_; subst f5_))
      refine start_ (n := 8) (S := fun w' => w'.cell? ⟨gb712, 0, none⟩ = some (.int .i64 t705) ∧ w'.cell? ⟨gb712, 1, none⟩ = some (.slice Ao11 t706.length co11)) (ds := []) #[false, false, false, false, false, false, false, false] (by kernel_rfl) rfl rfl ⟨(blk_cell BK712.out 0).trans rfl, (blk_cell BK712.out 1).trans rfl⟩ (fun hHeld => ?_); refine with_tabW laws_FnIslandNumbers.tab11 laws_FnIslandNumbers.bits11 (fun HT_ HW_ => ?_)
      generalize w66.drew = w67 at HO_4 HO_5 HO_713001 HO723 HO726 BK712 HB hHeld ⊢
      refine pure_ (i := 1) (N := some 46) (v := ?_) (a' := ?_) #[false, true, false, false, false, false, false, false] rfl rfl (any_of HT_.out (by kernel_rfl)) (fun _ _ _ h => h) (Or.inl ⟨by rfl, ?_⟩) ?_ ?_
      rotate_left
      ·
       intro w'
       go_simp
       with_reducible rfl
      rotate_left
      ·
       simp only [Act.put, List.setIfInBounds_toArray, List.set_cons_zero, List.set_cons_succ, i64_w, i32_w]
       rfl
      refine pure_ (i := 4) (N := some 49) (v := ?_) (a' := ?_) #[false, true, false, false, true, false, false, false] rfl rfl (any_of HT_.out (by kernel_rfl)) (fun _ _ _ h => h) (Or.inl ⟨by rfl, ?_⟩) ?_ ?_
      rotate_left
      ·
       intro w'
       go_simp
       with_reducible rfl
      rotate_left
      ·
       simp only [Act.put, List.setIfInBounds_toArray, List.set_cons_zero, List.set_cons_succ, i64_w, i32_w]
       rfl
      refine take_ (i := 0) (N := some 45) (v := ?_) (a' := ?_) #[true, true, false, false, true, false, false, false] rfl rfl (take_ofW HT_.out HW_.out (by kernel_rfl)) (fun _ _ _ h => h) (Or.inl ⟨by rfl, ?_⟩) hHeld ?_ ?_
      rotate_left
      ·
       rintro w' ⟨s0, s1⟩
       go_simp
       with_reducible rfl
      rotate_left
      ·
       simp only [Act.put, List.setIfInBounds_toArray, List.set_cons_zero, List.set_cons_succ, i64_w, i32_w]
       rfl
      refine take_ (i := 3) (N := some 48) (v := ?_) (a' := ?_) #[true, true, false, true, true, false, false, false] rfl rfl (take_ofW HT_.out HW_.out (by kernel_rfl)) (fun _ _ _ h => h) (Or.inl ⟨by rfl, ?_⟩) hHeld ?_ ?_
      rotate_left
      ·
       rintro w' ⟨s0, s1⟩
       go_simp
       with_reducible rfl
      rotate_left
      ·
       simp only [Act.put, List.setIfInBounds_toArray, List.set_cons_zero, List.set_cons_succ, i64_w, i32_w]
       rfl
      refine one_ (i := 2) (N := some 47) #[true, true, true, true, true, false, false, false] rfl rfl (one_of HT_.out (by kernel_rfl)) (by decide) (fun K hK => ?_)
      refine goes_ Tryd.func39 (by kernel_rfl) rfl #[.agg #[.int .i64 t705, .slice Ao11 t706.length co11], .slice Ao68 t721.length co68] (by rfl) rfl rfl mP ?_
      with_reducible refine (laws_islands.calls kj17 t705 _ _ t706 _ _ t721 t727 _ ?side1 ?side2 ?side3 ?side4 A22.out).mono ?_
      (case side1 => exact gC ((Kd.R_reads' HO_713001.out).2.2))
      (case side2 => exact (Kd.R_reads' HO_713001.out).2.1)
      (case side3 => exact gC ((Kd.R_reads' HO723.out).2.2))
      (case side4 => exact (Kd.R_reads' HO723.out).2.1)
      rintro e w69 ⟨rfl, hb⟩
      refine ⟨_, rfl, ?_⟩
      have n0_ := Aside0.mk (Kd.R_below (gR (HO_4.out)) hb)
      have n1_ := Aside0.mk (Kd.R_below (gR (HO_5.out)) hb)
      have n2_ := Aside0.mk (Kd.R_below (gR (HO_713001.out)) hb)
      have n3_ := Aside0.mk (Kd.R_below (gR (HO723.out)) hb)
      have n4_ := Aside0.mk (Kd.R_below (gR (HO726.out)) hb)
      have n5_ := Aside0.mk (blk_below (g := gb712) (o := .cells #[.int .i64 t705, .slice Ao11 t706.length co11] 39 (0, 0)) (gB (BK712.out)) hb)
      have n6_ := Aside0.mk (below_step (bl1 HB GE712) hb)
      clear HO_4
      clear HO_5
      clear HO_713001
      clear HO723
      clear HO726
      clear BK712
      clear HB
      have HO_4 := n0_
      have HO_5 := n1_
      have HO_713001 := n2_
      have HO723 := n3_
      have HO726 := n4_
      have BK712 := n5_
      have HB := n6_
      clear n0_ n1_ n2_ n3_ n4_ n5_ n6_
      (try clear hb)
      (try clear hb2)
      (try clear hk)
      (try clear hi)
      obtain ⟨Ao70, co70, eo70⟩ := Kd.R_slice HO726.out
      (first | subst eo70 | (injection eo70 with f1_ f2_ f3_; have f4_ := f1_.symm; have f5_ := f3_.symm; clear f1_ f2_ f3_; subst f4_; subst f5_))
      refine hK.out _ _ ⟨(blk_cell BK712.out 0).trans rfl, (blk_cell BK712.out 1).trans rfl⟩ (fun hHeld => ?_)
      clear hK K
      refine norm_ (a' := ?_) ?_ ?_
      rotate_left
      ·
       show Act.put _ (some 47) _ = _
       simp only [Act.put, List.setIfInBounds_toArray, List.set_cons_zero, List.set_cons_succ, i64_w, i32_w]
       rfl
      refine one_ (i := 5) (N := some 50) #[true, true, true, true, true, true, false, false] rfl rfl (one_of HT_.out (by kernel_rfl)) (by decide) (fun K hK => ?_)
      refine goes_ Tryd.func39 (by kernel_rfl) rfl #[.agg #[.int .i64 t705, .slice Ao11 t706.length co11], .slice Ao70 t724.length co70] (by rfl) rfl rfl mP ?_
      with_reducible refine (laws_islands.calls kj17 t705 _ _ t706 _ _ t724 t728 _ ?side1 ?side2 ?side3 ?side4 A23.out).mono ?_
      (case side1 => exact gC ((Kd.R_reads' HO_713001.out).2.2))
      (case side2 => exact (Kd.R_reads' HO_713001.out).2.1)
      (case side3 => exact gC ((Kd.R_reads' HO726.out).2.2))
      (case side4 => exact (Kd.R_reads' HO726.out).2.1)
      rintro e w71 ⟨rfl, hb⟩
      refine ⟨_, rfl, ?_⟩
      have n0_ := Aside0.mk (Kd.R_below (gR (HO_4.out)) hb)
      have n1_ := Aside0.mk (Kd.R_below (gR (HO_5.out)) hb)
      have n2_ := Aside0.mk (Kd.R_below (gR (HO_713001.out)) hb)
      have n3_ := Aside0.mk (Kd.R_below (gR (HO723.out)) hb)
      have n4_ := Aside0.mk (Kd.R_below (gR (HO726.out)) hb)
      have n5_ := Aside0.mk (blk_below (g := gb712) (o := .cells #[.int .i64 t705, .slice Ao11 t706.length co11] 39 (0, 0)) (gB (BK712.out)) hb)
      have n6_ := Aside0.mk (below_step (bl1 HB GE712) hb)
      clear HO_4
      clear HO_5
      clear HO_713001
      clear HO723
      clear HO726
      clear BK712
      clear HB
      have HO_4 := n0_
      have HO_5 := n1_
      have HO_713001 := n2_
      have HO723 := n3_
      have HO726 := n4_
      have BK712 := n5_
      have HB := n6_
      clear n0_ n1_ n2_ n3_ n4_ n5_ n6_
      (try clear hb)
      (try clear hb2)
      (try clear hk)
      (try clear hi)
      refine hK.out _ _ ⟨(blk_cell BK712.out 0).trans rfl, (blk_cell BK712.out 1).trans rfl⟩ (fun hHeld => ?_)
      clear hK K
      refine norm_ (a' := ?_) ?_ ?_
      rotate_left
      ·
       show Act.put _ (some 50) _ = _
       simp only [Act.put, List.setIfInBounds_toArray, List.set_cons_zero, List.set_cons_succ, i64_w, i32_w]
       rfl
      refine pure_ (i := 6) (N := some 51) (v := ?_) (a' := ?_) #[true, true, true, true, true, true, true, false] rfl rfl (any_of HT_.out (by kernel_rfl)) (fun _ _ _ h => h) (Or.inl ⟨by rfl, ?_⟩) ?_ ?_
      rotate_left
      ·
       intro w'
       go_simp
       with_reducible rfl
      rotate_left
      ·
       simp only [Act.put, List.setIfInBounds_toArray, List.set_cons_zero, List.set_cons_succ, i64_w, i32_w]
       rfl
      refine pure_ (i := 7) (N := some 9) (v := ?_) (a' := ?_) #[true, true, true, true, true, true, true, true] rfl rfl (any_of HT_.out (by kernel_rfl)) (fun _ _ _ h => h) (Or.inl ⟨by rfl, ?_⟩) ?_ ?_
      rotate_left
      ·
       intro w'
       go_simp
       with_reducible rfl
      rotate_left
      ·
       simp only [Act.put, List.setIfInBounds_toArray, List.set_cons_zero, List.set_cons_succ, i64_w, i32_w]
       rfl
      refine done_ (done_of HT_.out (by kernel_rfl)) ?_
      try go_wp2
      have n0_ := Aside0.mk (Kd.R_drew HO_4.out)
      have n1_ := Aside0.mk (Kd.R_drew HO_5.out)
      have n2_ := Aside0.mk (Kd.R_drew HO_713001.out)
      have n3_ := Aside0.mk (Kd.R_drew HO723.out)
      have n4_ := Aside0.mk (Kd.R_drew HO726.out)
      have n5_ := Aside0.mk (blk_drew BK712.out)
      have n6_ := Aside0.mk (below_drew1 HB.out)
      clear HO_4
      clear HO_5
      clear HO_713001
      clear HO723
      clear HO726
      clear BK712
      clear HB
      have HO_4 := n0_
      have HO_5 := n1_
      have HO_713001 := n2_
      have HO723 := n3_
      have HO726 := n4_
      have BK712 := n5_
      have HB := n6_
      clear n0_ n1_ n2_ n3_ n4_ n5_ n6_
      have p729 : 0 ≤ (x6_1 : Int) := oD
      have q729 : x6_1 < (t706.length : Int) := oD
      obtain ⟨ad729, e729, hx729_0, hx729_1, hx729_2⟩ := at_T52 (Kd.R_reads' HO_713001.out).2.2 x6_1 p729 q729
      cases e729
      replace p729 := eq_true p729
      replace q729 := eq_true q729
      have p730 : 0 ≤ (x6_1 : Int) := oD
      have q730 : x6_1 < (t706.length : Int) := oD
      obtain ⟨ad730, e730, hx730_0, hx730_1, hx730_2⟩ := at_T52 (Kd.R_reads' HO_713001.out).2.2 x6_1 p730 q730
      obtain rfl : ad729 = ad730 := (by injection e730)
      replace p730 := eq_true p730
      replace q730 := eq_true q730
      have p735 : 0 ≤ (x6_1 : Int) := oD
      have q735 : x6_1 < (t706.length : Int) := oD
      obtain ⟨ad735, e735, hx735_0, hx735_1, hx735_2⟩ := at_T52 (Kd.R_reads' HO_713001.out).2.2 x6_1 p735 q735
      obtain rfl : ad729 = ad735 := (by injection e735)
      replace p735 := eq_true p735
      replace q735 := eq_true q735
      have p736 : 0 ≤ (x6_1 : Int) := oD
      have q736 : x6_1 < (t706.length : Int) := oD
      obtain ⟨ad736, e736, hx736_0, hx736_1, hx736_2⟩ := at_T52 (Kd.R_reads' HO_713001.out).2.2 x6_1 p736 q736
      obtain rfl : ad729 = ad736 := (by injection e736)
      replace p736 := eq_true p736
      replace q736 := eq_true q736
      refine start_ (n := 41) (S := fun w' => w'.cell? ⟨gb712, 0, none⟩ = some (.int .i64 t705) ∧ w'.cell? ⟨gb712, 1, none⟩ = some (.slice (some ad729) t706.length co11) ∧ w'.cell? (ad729.add ((x6_1).toNat * 3)) = some (.int .i64 ((rd_T52 t706 x6_1).f0)) ∧ w'.cell? ⟨(ad729.add ((x6_1).toNat * 3)).block, (ad729.add ((x6_1).toNat * 3)).off + 1, none⟩ = some (.int .i64 ((rd_T52 t706 x6_1).f1)) ∧ w'.cell? ⟨(ad729.add ((x6_1).toNat * 3)).block, (ad729.add ((x6_1).toNat * 3)).off + 2, none⟩ = some (.int .i64 ((rd_T52 t706 x6_1).f2)) ∧ w'.cell? (ad729.add ((x6_1).toNat * 3)) = some (.int .i64 ((rd_T52 t706 x6_1).f0)) ∧ w'.cell? ⟨(ad729.add ((x6_1).toNat * 3)).block, (ad729.add ((x6_1).toNat * 3)).off + 1, none⟩ = some (.int .i64 ((rd_T52 t706 x6_1).f1)) ∧ w'.cell? ⟨(ad729.add ((x6_1).toNat * 3)).block, (ad729.add ((x6_1).toNat * 3)).off + 2, none⟩ = some (.int .i64 ((rd_T52 t706 x6_1).f2)) ∧ w'.cell? (ad729.add ((x6_1).toNat * 3)) = some (.int .i64 ((rd_T52 t706 x6_1).f0)) ∧ w'.cell? ⟨(ad729.add ((x6_1).toNat * 3)).block, (ad729.add ((x6_1).toNat * 3)).off + 1, none⟩ = some (.int .i64 ((rd_T52 t706 x6_1).f1)) ∧ w'.cell? ⟨(ad729.add ((x6_1).toNat * 3)).block, (ad729.add ((x6_1).toNat * 3)).off + 2, none⟩ = some (.int .i64 ((rd_T52 t706 x6_1).f2)) ∧ w'.cell? (ad729.add ((x6_1).toNat * 3)) = some (.int .i64 ((rd_T52 t706 x6_1).f0)) ∧ w'.cell? ⟨(ad729.add ((x6_1).toNat * 3)).block, (ad729.add ((x6_1).toNat * 3)).off + 1, none⟩ = some (.int .i64 ((rd_T52 t706 x6_1).f1)) ∧ w'.cell? ⟨(ad729.add ((x6_1).toNat * 3)).block, (ad729.add ((x6_1).toNat * 3)).off + 2, none⟩ = some (.int .i64 ((rd_T52 t706 x6_1).f2))) (ds := []) #[false, false, false, false, false, false, false, false, false, false, false, false, false, false, false, false, false, false, false, false, false, false, false, false, false, false, false, false, false, false, false, false, false, false, false, false, false, false, false, false, false] (by kernel_rfl) rfl rfl ⟨(blk_cell BK712.out 0).trans rfl, (blk_cell BK712.out 1).trans rfl, hx729_0, hx729_1, hx729_2, hx730_0, hx730_1, hx730_2, hx735_0, hx735_1, hx735_2, hx736_0, hx736_1, hx736_2⟩ (fun hHeld => ?_); refine with_tabW laws_FnIslandNumbers.tab12 laws_FnIslandNumbers.bits12 (fun HT_ HW_ => ?_)
      generalize w71.drew = w72 at HO_4 HO_5 HO_713001 HO723 HO726 BK712 HB hx729_0 hx729_1 hx729_2 hx730_0 hx730_1 hx730_2 hx735_0 hx735_1 hx735_2 hx736_0 hx736_1 hx736_2 hHeld ⊢
      refine pure_ (i := 1) (N := some 53) (v := ?_) (a' := ?_) #[false, true, false, false, false, false, false, false, false, false, false, false, false, false, false, false, false, false, false, false, false, false, false, false, false, false, false, false, false, false, false, false, false, false, false, false, false, false, false, false, false] rfl rfl (any_of HT_.out (by kernel_rfl)) (fun _ _ _ h => h) (Or.inl ⟨by rfl, ?_⟩) ?_ ?_
      rotate_left
      ·
       intro w'
       go_simp
       with_reducible rfl
      rotate_left
      ·
       simp only [Act.put, List.setIfInBounds_toArray, List.set_cons_zero, List.set_cons_succ, i64_w, i32_w]
       rfl
      refine pure_ (i := 2) (N := some 54) (v := ?_) (a' := ?_) #[false, true, true, false, false, false, false, false, false, false, false, false, false, false, false, false, false, false, false, false, false, false, false, false, false, false, false, false, false, false, false, false, false, false, false, false, false, false, false, false, false] rfl rfl (any_of HT_.out (by kernel_rfl)) (fun _ _ _ h => h) (Or.inl ⟨by rfl, ?_⟩) ?_ ?_
      rotate_left
      ·
       intro w'
       go_simp
       with_reducible rfl
      rotate_left
      ·
       simp only [Act.put, List.setIfInBounds_toArray, List.set_cons_zero, List.set_cons_succ, i64_w, i32_w]
       rfl
      refine pure_ (i := 4) (N := some 56) (v := ?_) (a' := ?_) #[false, true, true, false, true, false, false, false, false, false, false, false, false, false, false, false, false, false, false, false, false, false, false, false, false, false, false, false, false, false, false, false, false, false, false, false, false, false, false, false, false] rfl rfl (any_of HT_.out (by kernel_rfl)) (fun _ _ _ h => h) (Or.inl ⟨by rfl, ?_⟩) ?_ ?_
      rotate_left
      ·
       intro w'
       go_simp
       with_reducible rfl
      rotate_left
      ·
       simp only [Act.put, List.setIfInBounds_toArray, List.set_cons_zero, List.set_cons_succ, i64_w, i32_w]
       rfl
      refine pure_ (i := 8) (N := some 60) (v := ?_) (a' := ?_) #[false, true, true, false, true, false, false, false, true, false, false, false, false, false, false, false, false, false, false, false, false, false, false, false, false, false, false, false, false, false, false, false, false, false, false, false, false, false, false, false, false] rfl rfl (any_of HT_.out (by kernel_rfl)) (fun _ _ _ h => h) (Or.inl ⟨by rfl, ?_⟩) ?_ ?_
      rotate_left
      ·
       intro w'
       go_simp
       with_reducible rfl
      rotate_left
      ·
       simp only [Act.put, List.setIfInBounds_toArray, List.set_cons_zero, List.set_cons_succ, i64_w, i32_w]
       rfl
      refine pure_ (i := 10) (N := some 62) (v := ?_) (a' := ?_) #[false, true, true, false, true, false, false, false, true, false, true, false, false, false, false, false, false, false, false, false, false, false, false, false, false, false, false, false, false, false, false, false, false, false, false, false, false, false, false, false, false] rfl rfl (any_of HT_.out (by kernel_rfl)) (fun _ _ _ h => h) (Or.inl ⟨by rfl, ?_⟩) ?_ ?_
      rotate_left
      ·
       intro w'
       go_simp
       with_reducible rfl
      rotate_left
      ·
       simp only [Act.put, List.setIfInBounds_toArray, List.set_cons_zero, List.set_cons_succ, i64_w, i32_w]
       rfl
      refine take_ (i := 0) (N := some 52) (v := ?_) (a' := ?_) #[true, true, true, false, true, false, false, false, true, false, true, false, false, false, false, false, false, false, false, false, false, false, false, false, false, false, false, false, false, false, false, false, false, false, false, false, false, false, false, false, false] rfl rfl (take_ofW HT_.out HW_.out (by kernel_rfl)) (fun _ _ _ h => h) (Or.inl ⟨by rfl, ?_⟩) hHeld ?_ ?_
      rotate_left
      ·
       rintro w' ⟨s0, s1, s2, s3, s4, s5, s6, s7, s8, s9, s10, s11, s12, s13⟩
       go_simp
       with_reducible rfl
      rotate_left
      ·
       simp only [Act.put, List.setIfInBounds_toArray, List.set_cons_zero, List.set_cons_succ, i64_w, i32_w]
       rfl
      refine take_ (i := 3) (N := some 55) (v := ?_) (a' := ?_) #[true, true, true, true, true, false, false, false, true, false, true, false, false, false, false, false, false, false, false, false, false, false, false, false, false, false, false, false, false, false, false, false, false, false, false, false, false, false, false, false, false] rfl rfl (take_ofW HT_.out HW_.out (by kernel_rfl)) (fun _ _ _ h => h) (Or.inl ⟨by rfl, ?_⟩) hHeld ?_ ?_
      rotate_left
      ·
       rintro w' ⟨s0, s1, s2, s3, s4, s5, s6, s7, s8, s9, s10, s11, s12, s13⟩
       go_simp
       with_reducible rfl
      rotate_left
      ·
       simp only [Act.put, List.setIfInBounds_toArray, List.set_cons_zero, List.set_cons_succ, i64_w, i32_w]
       rfl
      refine pure_ (i := 5) (N := some 57) (v := ?_) (a' := ?_) #[true, true, true, true, true, true, false, false, true, false, true, false, false, false, false, false, false, false, false, false, false, false, false, false, false, false, false, false, false, false, false, false, false, false, false, false, false, false, false, false, false] rfl rfl (any_of HT_.out (by kernel_rfl)) (fun _ _ _ h => h) (Or.inl ⟨by rfl, ?_⟩) ?_ ?_
      rotate_left
      ·
       intro w'
       go_simp
       with_reducible rfl
      rotate_left
      ·
       simp only [Act.put, List.setIfInBounds_toArray, List.set_cons_zero, List.set_cons_succ, i64_w, i32_w]
       rfl
      refine pure_ (i := 6) (N := some 58) (v := ?_) (a' := ?_) #[true, true, true, true, true, true, true, false, true, false, true, false, false, false, false, false, false, false, false, false, false, false, false, false, false, false, false, false, false, false, false, false, false, false, false, false, false, false, false, false, false] rfl rfl (any_of HT_.out (by kernel_rfl)) (fun _ _ _ h => h) (Or.inl ⟨by rfl, ?_⟩) ?_ ?_
      rotate_left
      ·
       intro w'
       go_simp
       with_reducible rfl
      rotate_left
      ·
       simp only [Act.put, List.setIfInBounds_toArray, List.set_cons_zero, List.set_cons_succ, i64_w, i32_w]
       rfl
      refine take_ (i := 7) (N := some 59) (v := ?_) (a' := ?_) #[true, true, true, true, true, true, true, true, true, false, true, false, false, false, false, false, false, false, false, false, false, false, false, false, false, false, false, false, false, false, false, false, false, false, false, false, false, false, false, false, false] rfl rfl (take_ofW HT_.out HW_.out (by kernel_rfl)) (fun _ _ _ h => h) (Or.inl ⟨by rfl, ?_⟩) hHeld ?_ ?_
      rotate_left
      ·
       rintro w' ⟨s0, s1, s2, s3, s4, s5, s6, s7, s8, s9, s10, s11, s12, s13⟩
       go_simp
       with_reducible rfl
      rotate_left
      ·
       simp only [Act.put, List.setIfInBounds_toArray, List.set_cons_zero, List.set_cons_succ, i64_w, i32_w]
       rfl
      refine take_ (i := 9) (N := some 61) (v := ?_) (a' := ?_) #[true, true, true, true, true, true, true, true, true, true, true, false, false, false, false, false, false, false, false, false, false, false, false, false, false, false, false, false, false, false, false, false, false, false, false, false, false, false, false, false, false] rfl rfl (take_ofW HT_.out HW_.out (by kernel_rfl)) (fun _ _ _ h => h) (Or.inl ⟨by rfl, ?_⟩) hHeld ?_ ?_
      rotate_left
      ·
       rintro w' ⟨s0, s1, s2, s3, s4, s5, s6, s7, s8, s9, s10, s11, s12, s13⟩
       go_simp
       with_reducible rfl
      rotate_left
      ·
       simp only [Act.put, List.setIfInBounds_toArray, List.set_cons_zero, List.set_cons_succ, i64_w, i32_w]
       rfl
      refine pure_ (i := 11) (N := some 63) (v := ?_) (a' := ?_) #[true, true, true, true, true, true, true, true, true, true, true, true, false, false, false, false, false, false, false, false, false, false, false, false, false, false, false, false, false, false, false, false, false, false, false, false, false, false, false, false, false] rfl rfl (any_of HT_.out (by kernel_rfl)) (fun _ _ _ h => h) (Or.inl ⟨by rfl, ?_⟩) ?_ ?_
      rotate_left
      ·
       intro w'
       go_simp
       with_reducible rfl
      rotate_left
      ·
       simp only [Act.put, List.setIfInBounds_toArray, List.set_cons_zero, List.set_cons_succ, i64_w, i32_w]
       rfl
      refine pure_ (i := 12) (N := some 64) (v := ?_) (a' := ?_) #[true, true, true, true, true, true, true, true, true, true, true, true, true, false, false, false, false, false, false, false, false, false, false, false, false, false, false, false, false, false, false, false, false, false, false, false, false, false, false, false, false] rfl rfl (any_of HT_.out (by kernel_rfl)) (fun _ _ _ h => h) (Or.inl ⟨by rfl, ?_⟩) ?_ ?_
      rotate_left
      ·
       intro w'
       go_simp
       with_reducible rfl
      rotate_left
      ·
       simp only [Act.put, List.setIfInBounds_toArray, List.set_cons_zero, List.set_cons_succ, i64_w, i32_w]
       rfl
      refine take_ (i := 13) (N := some 65) (v := ?_) (a' := ?_) #[true, true, true, true, true, true, true, true, true, true, true, true, true, true, false, false, false, false, false, false, false, false, false, false, false, false, false, false, false, false, false, false, false, false, false, false, false, false, false, false, false] rfl rfl (take_ofW HT_.out HW_.out (by kernel_rfl)) (fun _ _ _ h => h) (Or.inl ⟨by rfl, ?_⟩) hHeld ?_ ?_
      rotate_left
      ·
       rintro w' ⟨s0, s1, s2, s3, s4, s5, s6, s7, s8, s9, s10, s11, s12, s13⟩
       go_simp
       with_reducible rfl
      rotate_left
      ·
       simp only [Act.put, List.setIfInBounds_toArray, List.set_cons_zero, List.set_cons_succ, i64_w, i32_w]
       rfl
      refine one_ (i := 14) (N := some 66) #[true, true, true, true, true, true, true, true, true, true, true, true, true, true, true, false, false, false, false, false, false, false, false, false, false, false, false, false, false, false, false, false, false, false, false, false, false, false, false, false, false] rfl rfl (one_of HT_.out (by kernel_rfl)) (by decide) (fun K hK => ?_)
      refine goes_ Tryd.func25 (by kernel_rfl) rfl #[.agg #[.int .i64 t705, .slice (some ad729) t706.length co11], .slice Ao68 t721.length co68, .int .i64 ((rd_T52 t706 x6_1).f0), .int .i64 ((rd_T52 t706 x6_1).f1)] (by rfl) rfl rfl mP ?_
      with_reducible refine (impl_SameIsland.calls kj17 t705 _ _ t706 _ _ t721 ((rd_T52 t706 x6_1).f0) ((rd_T52 t706 x6_1).f1) false _ ?side1 ?side2 ?side3 ?side4 A26.out).mono ?_
      (case side1 => exact gC ((Kd.R_reads' HO_713001.out).2.2))
      (case side2 => exact (Kd.R_reads' HO_713001.out).2.1)
      (case side3 => exact gC ((Kd.R_reads' HO723.out).2.2))
      (case side4 => exact (Kd.R_reads' HO723.out).2.1)
      rintro e w73 ⟨rfl, hb⟩
      have HS2_ := (hb.cell (World.block_lt_of_cell? _ _ (hHeld.2.2.1))).trans (hHeld.2.2.1)
      have HS3_ := (hb.cell (World.block_lt_of_cell? _ _ (hHeld.2.2.2.1))).trans (hHeld.2.2.2.1)
      have HS4_ := (hb.cell (World.block_lt_of_cell? _ _ (hHeld.2.2.2.2.1))).trans (hHeld.2.2.2.2.1)
      have HS5_ := (hb.cell (World.block_lt_of_cell? _ _ (hHeld.2.2.2.2.2.1))).trans (hHeld.2.2.2.2.2.1)
      have HS6_ := (hb.cell (World.block_lt_of_cell? _ _ (hHeld.2.2.2.2.2.2.1))).trans (hHeld.2.2.2.2.2.2.1)
      have HS7_ := (hb.cell (World.block_lt_of_cell? _ _ (hHeld.2.2.2.2.2.2.2.1))).trans (hHeld.2.2.2.2.2.2.2.1)
      have HS8_ := (hb.cell (World.block_lt_of_cell? _ _ (hHeld.2.2.2.2.2.2.2.2.1))).trans (hHeld.2.2.2.2.2.2.2.2.1)
      have HS9_ := (hb.cell (World.block_lt_of_cell? _ _ (hHeld.2.2.2.2.2.2.2.2.2.1))).trans (hHeld.2.2.2.2.2.2.2.2.2.1)
      have HS10_ := (hb.cell (World.block_lt_of_cell? _ _ (hHeld.2.2.2.2.2.2.2.2.2.2.1))).trans (hHeld.2.2.2.2.2.2.2.2.2.2.1)
      have HS11_ := (hb.cell (World.block_lt_of_cell? _ _ (hHeld.2.2.2.2.2.2.2.2.2.2.2.1))).trans (hHeld.2.2.2.2.2.2.2.2.2.2.2.1)
      have HS12_ := (hb.cell (World.block_lt_of_cell? _ _ (hHeld.2.2.2.2.2.2.2.2.2.2.2.2.1))).trans (hHeld.2.2.2.2.2.2.2.2.2.2.2.2.1)
      have HS13_ := (hb.cell (World.block_lt_of_cell? _ _ (hHeld.2.2.2.2.2.2.2.2.2.2.2.2.2))).trans (hHeld.2.2.2.2.2.2.2.2.2.2.2.2.2)
      refine ⟨_, rfl, ?_⟩
      have n0_ := Aside0.mk (Kd.R_below (gR (HO_4.out)) hb)
      have n1_ := Aside0.mk (Kd.R_below (gR (HO_5.out)) hb)
      have n2_ := Aside0.mk (Kd.R_below (gR (HO_713001.out)) hb)
      have n3_ := Aside0.mk (Kd.R_below (gR (HO723.out)) hb)
      have n4_ := Aside0.mk (Kd.R_below (gR (HO726.out)) hb)
      have n5_ := Aside0.mk (blk_below (g := gb712) (o := .cells #[.int .i64 t705, .slice (some ad729) t706.length co11] 39 (0, 0)) (gB (BK712.out)) hb)
      have n6_ := Aside0.mk (below_step (bl1 HB GE712) hb)
      clear HO_4
      clear HO_5
      clear HO_713001
      clear HO723
      clear HO726
      clear BK712
      clear HB
      have HO_4 := n0_
      have HO_5 := n1_
      have HO_713001 := n2_
      have HO723 := n3_
      have HO726 := n4_
      have BK712 := n5_
      have HB := n6_
      clear n0_ n1_ n2_ n3_ n4_ n5_ n6_
      (try clear hb)
      (try clear hb2)
      (try clear hk)
      (try clear hi)
      refine hK.out _ _ ⟨(blk_cell BK712.out 0).trans rfl, (blk_cell BK712.out 1).trans rfl, HS2_, HS3_, HS4_, HS5_, HS6_, HS7_, HS8_, HS9_, HS10_, HS11_, HS12_, HS13_⟩ (fun hHeld => ?_)
      clear hK K
      refine norm_ (a' := ?_) ?_ ?_
      rotate_left
      ·
       show Act.put _ (some 66) _ = _
       simp only [Act.put, List.setIfInBounds_toArray, List.set_cons_zero, List.set_cons_succ, i64_w, i32_w]
       rfl
      refine pure_ (i := 15) (N := some 67) (v := ?_) (a' := ?_) #[true, true, true, true, true, true, true, true, true, true, true, true, true, true, true, true, false, false, false, false, false, false, false, false, false, false, false, false, false, false, false, false, false, false, false, false, false, false, false, false, false] rfl rfl (any_of HT_.out (by kernel_rfl)) (fun _ _ _ h => h) (Or.inl ⟨by rfl, ?_⟩) ?_ ?_
      rotate_left
      ·
       intro w'
       go_simp
       with_reducible rfl
      rotate_left
      ·
       simp only [Act.put, List.setIfInBounds_toArray, List.set_cons_zero, List.set_cons_succ, i64_w, i32_w]
       rfl
      refine pure_ (i := 16) (N := some 68) (v := undef) (a' := ?_) #[true, true, true, true, true, true, true, true, true, true, true, true, true, true, true, true, true, false, false, false, false, false, false, false, false, false, false, false, false, false, false, false, false, false, false, false, false, false, false, false, false] rfl rfl (any_of HT_.out (by kernel_rfl)) (fun _ _ _ h => h) (Or.inr ⟨by rfl, rfl⟩) ?_ ?_
      rotate_left
      ·
       simp only [Act.put, List.setIfInBounds_toArray, List.set_cons_zero, List.set_cons_succ, i64_w, i32_w]
       rfl
      refine pure_ (i := 17) (N := some 69) (v := undef) (a' := ?_) #[true, true, true, true, true, true, true, true, true, true, true, true, true, true, true, true, true, true, false, false, false, false, false, false, false, false, false, false, false, false, false, false, false, false, false, false, false, false, false, false, false] rfl rfl (any_of HT_.out (by kernel_rfl)) (fun _ _ _ h => h) (Or.inr ⟨by rfl, rfl⟩) ?_ ?_
      rotate_left
      ·
       simp only [Act.put, List.setIfInBounds_toArray, List.set_cons_zero, List.set_cons_succ, i64_w, i32_w]
       rfl
      refine pure_ (i := 18) (N := some 70) (v := ?_) (a' := ?_) #[true, true, true, true, true, true, true, true, true, true, true, true, true, true, true, true, true, true, true, false, false, false, false, false, false, false, false, false, false, false, false, false, false, false, false, false, false, false, false, false, false] rfl rfl (any_of HT_.out (by kernel_rfl)) (fun _ _ _ h => h) (Or.inl ⟨by rfl, ?_⟩) ?_ ?_
      rotate_left
      ·
       intro w'
       go_simp
       with_reducible rfl
      rotate_left
      ·
       simp only [Act.put, List.setIfInBounds_toArray, List.set_cons_zero, List.set_cons_succ, i64_w, i32_w]
       rfl
      refine pure_ (i := 19) (N := some 71) (v := ?_) (a' := ?_) #[true, true, true, true, true, true, true, true, true, true, true, true, true, true, true, true, true, true, true, true, false, false, false, false, false, false, false, false, false, false, false, false, false, false, false, false, false, false, false, false, false] rfl rfl (any_of HT_.out (by kernel_rfl)) (fun _ _ _ h => h) (Or.inl ⟨by rfl, ?_⟩) ?_ ?_
      rotate_left
      ·
       intro w'
       go_simp
       with_reducible rfl
      rotate_left
      ·
       simp only [Act.put, List.setIfInBounds_toArray, List.set_cons_zero, List.set_cons_succ, i64_w, i32_w]
       rfl
      refine pure_ (i := 21) (N := some 73) (v := ?_) (a' := ?_) #[true, true, true, true, true, true, true, true, true, true, true, true, true, true, true, true, true, true, true, true, false, true, false, false, false, false, false, false, false, false, false, false, false, false, false, false, false, false, false, false, false] rfl rfl (any_of HT_.out (by kernel_rfl)) (fun _ _ _ h => h) (Or.inl ⟨by rfl, ?_⟩) ?_ ?_
      rotate_left
      ·
       intro w'
       go_simp
       with_reducible rfl
      rotate_left
      ·
       simp only [Act.put, List.setIfInBounds_toArray, List.set_cons_zero, List.set_cons_succ, i64_w, i32_w]
       rfl
      refine pure_ (i := 22) (N := some 74) (v := ?_) (a' := ?_) #[true, true, true, true, true, true, true, true, true, true, true, true, true, true, true, true, true, true, true, true, false, true, true, false, false, false, false, false, false, false, false, false, false, false, false, false, false, false, false, false, false] rfl rfl (any_of HT_.out (by kernel_rfl)) (fun _ _ _ h => h) (Or.inl ⟨by rfl, ?_⟩) ?_ ?_
      rotate_left
      ·
       intro w'
       go_simp
       with_reducible rfl
      rotate_left
      ·
       simp only [Act.put, List.setIfInBounds_toArray, List.set_cons_zero, List.set_cons_succ, i64_w, i32_w]
       rfl
      refine pure_ (i := 24) (N := some 76) (v := ?_) (a' := ?_) #[true, true, true, true, true, true, true, true, true, true, true, true, true, true, true, true, true, true, true, true, false, true, true, false, true, false, false, false, false, false, false, false, false, false, false, false, false, false, false, false, false] rfl rfl (any_of HT_.out (by kernel_rfl)) (fun _ _ _ h => h) (Or.inl ⟨by rfl, ?_⟩) ?_ ?_
      rotate_left
      ·
       intro w'
       go_simp
       with_reducible rfl
      rotate_left
      ·
       simp only [Act.put, List.setIfInBounds_toArray, List.set_cons_zero, List.set_cons_succ, i64_w, i32_w]
       rfl
      refine pure_ (i := 28) (N := some 80) (v := ?_) (a' := ?_) #[true, true, true, true, true, true, true, true, true, true, true, true, true, true, true, true, true, true, true, true, false, true, true, false, true, false, false, false, true, false, false, false, false, false, false, false, false, false, false, false, false] rfl rfl (any_of HT_.out (by kernel_rfl)) (fun _ _ _ h => h) (Or.inl ⟨by rfl, ?_⟩) ?_ ?_
      rotate_left
      ·
       intro w'
       go_simp
       with_reducible rfl
      rotate_left
      ·
       simp only [Act.put, List.setIfInBounds_toArray, List.set_cons_zero, List.set_cons_succ, i64_w, i32_w]
       rfl
      refine pure_ (i := 30) (N := some 82) (v := ?_) (a' := ?_) #[true, true, true, true, true, true, true, true, true, true, true, true, true, true, true, true, true, true, true, true, false, true, true, false, true, false, false, false, true, false, true, false, false, false, false, false, false, false, false, false, false] rfl rfl (any_of HT_.out (by kernel_rfl)) (fun _ _ _ h => h) (Or.inl ⟨by rfl, ?_⟩) ?_ ?_
      rotate_left
      ·
       intro w'
       go_simp
       with_reducible rfl
      rotate_left
      ·
       simp only [Act.put, List.setIfInBounds_toArray, List.set_cons_zero, List.set_cons_succ, i64_w, i32_w]
       rfl
      refine take_ (i := 20) (N := some 72) (v := ?_) (a' := ?_) #[true, true, true, true, true, true, true, true, true, true, true, true, true, true, true, true, true, true, true, true, true, true, true, false, true, false, false, false, true, false, true, false, false, false, false, false, false, false, false, false, false] rfl rfl (take_ofW HT_.out HW_.out (by kernel_rfl)) (fun _ _ _ h => h) (Or.inl ⟨by rfl, ?_⟩) hHeld ?_ ?_
      rotate_left
      ·
       rintro w' ⟨s0, s1, s2, s3, s4, s5, s6, s7, s8, s9, s10, s11, s12, s13⟩
       go_simp
       with_reducible rfl
      rotate_left
      ·
       simp only [Act.put, List.setIfInBounds_toArray, List.set_cons_zero, List.set_cons_succ, i64_w, i32_w]
       rfl
      refine take_ (i := 23) (N := some 75) (v := ?_) (a' := ?_) #[true, true, true, true, true, true, true, true, true, true, true, true, true, true, true, true, true, true, true, true, true, true, true, true, true, false, false, false, true, false, true, false, false, false, false, false, false, false, false, false, false] rfl rfl (take_ofW HT_.out HW_.out (by kernel_rfl)) (fun _ _ _ h => h) (Or.inl ⟨by rfl, ?_⟩) hHeld ?_ ?_
      rotate_left
      ·
       rintro w' ⟨s0, s1, s2, s3, s4, s5, s6, s7, s8, s9, s10, s11, s12, s13⟩
       go_simp
       with_reducible rfl
      rotate_left
      ·
       simp only [Act.put, List.setIfInBounds_toArray, List.set_cons_zero, List.set_cons_succ, i64_w, i32_w]
       rfl
      refine pure_ (i := 25) (N := some 77) (v := ?_) (a' := ?_) #[true, true, true, true, true, true, true, true, true, true, true, true, true, true, true, true, true, true, true, true, true, true, true, true, true, true, false, false, true, false, true, false, false, false, false, false, false, false, false, false, false] rfl rfl (any_of HT_.out (by kernel_rfl)) (fun _ _ _ h => h) (Or.inl ⟨by rfl, ?_⟩) ?_ ?_
      rotate_left
      ·
       intro w'
       go_simp
       with_reducible rfl
      rotate_left
      ·
       simp only [Act.put, List.setIfInBounds_toArray, List.set_cons_zero, List.set_cons_succ, i64_w, i32_w]
       rfl
      refine pure_ (i := 26) (N := some 78) (v := ?_) (a' := ?_) #[true, true, true, true, true, true, true, true, true, true, true, true, true, true, true, true, true, true, true, true, true, true, true, true, true, true, true, false, true, false, true, false, false, false, false, false, false, false, false, false, false] rfl rfl (any_of HT_.out (by kernel_rfl)) (fun _ _ _ h => h) (Or.inl ⟨by rfl, ?_⟩) ?_ ?_
      rotate_left
      ·
       intro w'
       go_simp
       with_reducible rfl
      rotate_left
      ·
       simp only [Act.put, List.setIfInBounds_toArray, List.set_cons_zero, List.set_cons_succ, i64_w, i32_w]
       rfl
      refine take_ (i := 27) (N := some 79) (v := ?_) (a' := ?_) #[true, true, true, true, true, true, true, true, true, true, true, true, true, true, true, true, true, true, true, true, true, true, true, true, true, true, true, true, true, false, true, false, false, false, false, false, false, false, false, false, false] rfl rfl (take_ofW HT_.out HW_.out (by kernel_rfl)) (fun _ _ _ h => h) (Or.inl ⟨by rfl, ?_⟩) hHeld ?_ ?_
      rotate_left
      ·
       rintro w' ⟨s0, s1, s2, s3, s4, s5, s6, s7, s8, s9, s10, s11, s12, s13⟩
       go_simp
       with_reducible rfl
      rotate_left
      ·
       simp only [Act.put, List.setIfInBounds_toArray, List.set_cons_zero, List.set_cons_succ, i64_w, i32_w]
       rfl
      refine take_ (i := 29) (N := some 81) (v := ?_) (a' := ?_) #[true, true, true, true, true, true, true, true, true, true, true, true, true, true, true, true, true, true, true, true, true, true, true, true, true, true, true, true, true, true, true, false, false, false, false, false, false, false, false, false, false] rfl rfl (take_ofW HT_.out HW_.out (by kernel_rfl)) (fun _ _ _ h => h) (Or.inl ⟨by rfl, ?_⟩) hHeld ?_ ?_
      rotate_left
      ·
       rintro w' ⟨s0, s1, s2, s3, s4, s5, s6, s7, s8, s9, s10, s11, s12, s13⟩
       go_simp
       with_reducible rfl
      rotate_left
      ·
       simp only [Act.put, List.setIfInBounds_toArray, List.set_cons_zero, List.set_cons_succ, i64_w, i32_w]
       rfl
      refine pure_ (i := 31) (N := some 83) (v := ?_) (a' := ?_) #[true, true, true, true, true, true, true, true, true, true, true, true, true, true, true, true, true, true, true, true, true, true, true, true, true, true, true, true, true, true, true, true, false, false, false, false, false, false, false, false, false] rfl rfl (any_of HT_.out (by kernel_rfl)) (fun _ _ _ h => h) (Or.inl ⟨by rfl, ?_⟩) ?_ ?_
      rotate_left
      ·
       intro w'
       go_simp
       with_reducible rfl
      rotate_left
      ·
       simp only [Act.put, List.setIfInBounds_toArray, List.set_cons_zero, List.set_cons_succ, i64_w, i32_w]
       rfl
      refine pure_ (i := 32) (N := some 84) (v := ?_) (a' := ?_) #[true, true, true, true, true, true, true, true, true, true, true, true, true, true, true, true, true, true, true, true, true, true, true, true, true, true, true, true, true, true, true, true, true, false, false, false, false, false, false, false, false] rfl rfl (any_of HT_.out (by kernel_rfl)) (fun _ _ _ h => h) (Or.inl ⟨by rfl, ?_⟩) ?_ ?_
      rotate_left
      ·
       intro w'
       go_simp
       with_reducible rfl
      rotate_left
      ·
       simp only [Act.put, List.setIfInBounds_toArray, List.set_cons_zero, List.set_cons_succ, i64_w, i32_w]
       rfl
      refine take_ (i := 33) (N := some 85) (v := ?_) (a' := ?_) #[true, true, true, true, true, true, true, true, true, true, true, true, true, true, true, true, true, true, true, true, true, true, true, true, true, true, true, true, true, true, true, true, true, true, false, false, false, false, false, false, false] rfl rfl (take_ofW HT_.out HW_.out (by kernel_rfl)) (fun _ _ _ h => h) (Or.inl ⟨by rfl, ?_⟩) hHeld ?_ ?_
      rotate_left
      ·
       rintro w' ⟨s0, s1, s2, s3, s4, s5, s6, s7, s8, s9, s10, s11, s12, s13⟩
       go_simp
       with_reducible rfl
      rotate_left
      ·
       simp only [Act.put, List.setIfInBounds_toArray, List.set_cons_zero, List.set_cons_succ, i64_w, i32_w]
       rfl
      refine one_ (i := 34) (N := some 86) #[true, true, true, true, true, true, true, true, true, true, true, true, true, true, true, true, true, true, true, true, true, true, true, true, true, true, true, true, true, true, true, true, true, true, true, false, false, false, false, false, false] rfl rfl (one_of HT_.out (by kernel_rfl)) (by decide) (fun K hK => ?_)
      refine goes_ Tryd.func25 (by kernel_rfl) rfl #[.agg #[.int .i64 t705, .slice (some ad729) t706.length co11], .slice Ao68 t721.length co68, .int .i64 ((rd_T52 t706 x6_1).f0), .int .i64 ((rd_T52 t706 x6_1).f1)] (by rfl) rfl rfl mP ?_
      with_reducible refine (impl_SameIsland.calls kj17 t705 _ _ t706 _ _ t721 ((rd_T52 t706 x6_1).f0) ((rd_T52 t706 x6_1).f1) false _ ?side1 ?side2 ?side3 ?side4 A52.out).mono ?_
      (case side1 => exact gC ((Kd.R_reads' HO_713001.out).2.2))
      (case side2 => exact (Kd.R_reads' HO_713001.out).2.1)
      (case side3 => exact gC ((Kd.R_reads' HO723.out).2.2))
      (case side4 => exact (Kd.R_reads' HO723.out).2.1)
      rintro e w74 ⟨rfl, hb⟩
      have HS2_ := (hb.cell (World.block_lt_of_cell? _ _ (hHeld.2.2.1))).trans (hHeld.2.2.1)
      have HS3_ := (hb.cell (World.block_lt_of_cell? _ _ (hHeld.2.2.2.1))).trans (hHeld.2.2.2.1)
      have HS4_ := (hb.cell (World.block_lt_of_cell? _ _ (hHeld.2.2.2.2.1))).trans (hHeld.2.2.2.2.1)
      have HS5_ := (hb.cell (World.block_lt_of_cell? _ _ (hHeld.2.2.2.2.2.1))).trans (hHeld.2.2.2.2.2.1)
      have HS6_ := (hb.cell (World.block_lt_of_cell? _ _ (hHeld.2.2.2.2.2.2.1))).trans (hHeld.2.2.2.2.2.2.1)
      have HS7_ := (hb.cell (World.block_lt_of_cell? _ _ (hHeld.2.2.2.2.2.2.2.1))).trans (hHeld.2.2.2.2.2.2.2.1)
      have HS8_ := (hb.cell (World.block_lt_of_cell? _ _ (hHeld.2.2.2.2.2.2.2.2.1))).trans (hHeld.2.2.2.2.2.2.2.2.1)
      have HS9_ := (hb.cell (World.block_lt_of_cell? _ _ (hHeld.2.2.2.2.2.2.2.2.2.1))).trans (hHeld.2.2.2.2.2.2.2.2.2.1)
      have HS10_ := (hb.cell (World.block_lt_of_cell? _ _ (hHeld.2.2.2.2.2.2.2.2.2.2.1))).trans (hHeld.2.2.2.2.2.2.2.2.2.2.1)
      have HS11_ := (hb.cell (World.block_lt_of_cell? _ _ (hHeld.2.2.2.2.2.2.2.2.2.2.2.1))).trans (hHeld.2.2.2.2.2.2.2.2.2.2.2.1)
      have HS12_ := (hb.cell (World.block_lt_of_cell? _ _ (hHeld.2.2.2.2.2.2.2.2.2.2.2.2.1))).trans (hHeld.2.2.2.2.2.2.2.2.2.2.2.2.1)
      have HS13_ := (hb.cell (World.block_lt_of_cell? _ _ (hHeld.2.2.2.2.2.2.2.2.2.2.2.2.2))).trans (hHeld.2.2.2.2.2.2.2.2.2.2.2.2.2)
      refine ⟨_, rfl, ?_⟩
      have n0_ := Aside0.mk (Kd.R_below (gR (HO_4.out)) hb)
      have n1_ := Aside0.mk (Kd.R_below (gR (HO_5.out)) hb)
      have n2_ := Aside0.mk (Kd.R_below (gR (HO_713001.out)) hb)
      have n3_ := Aside0.mk (Kd.R_below (gR (HO723.out)) hb)
      have n4_ := Aside0.mk (Kd.R_below (gR (HO726.out)) hb)
      have n5_ := Aside0.mk (blk_below (g := gb712) (o := .cells #[.int .i64 t705, .slice (some ad729) t706.length co11] 39 (0, 0)) (gB (BK712.out)) hb)
      have n6_ := Aside0.mk (below_step (bl1 HB GE712) hb)
      clear HO_4
      clear HO_5
      clear HO_713001
      clear HO723
      clear HO726
      clear BK712
      clear HB
      have HO_4 := n0_
      have HO_5 := n1_
      have HO_713001 := n2_
      have HO723 := n3_
      have HO726 := n4_
      have BK712 := n5_
      have HB := n6_
      clear n0_ n1_ n2_ n3_ n4_ n5_ n6_
      (try clear hb)
      (try clear hb2)
      (try clear hk)
      (try clear hi)
      refine hK.out _ _ ⟨(blk_cell BK712.out 0).trans rfl, (blk_cell BK712.out 1).trans rfl, HS2_, HS3_, HS4_, HS5_, HS6_, HS7_, HS8_, HS9_, HS10_, HS11_, HS12_, HS13_⟩ (fun hHeld => ?_)
      clear hK K
      refine norm_ (a' := ?_) ?_ ?_
      rotate_left
      ·
       show Act.put _ (some 86) _ = _
       simp only [Act.put, List.setIfInBounds_toArray, List.set_cons_zero, List.set_cons_succ, i64_w, i32_w]
       rfl
      refine pure_ (i := 35) (N := some 87) (v := ?_) (a' := ?_) #[true, true, true, true, true, true, true, true, true, true, true, true, true, true, true, true, true, true, true, true, true, true, true, true, true, true, true, true, true, true, true, true, true, true, true, true, false, false, false, false, false] rfl rfl (any_of HT_.out (by kernel_rfl)) (fun _ _ _ h => h) (Or.inl ⟨by rfl, ?_⟩) ?_ ?_
      rotate_left
      ·
       intro w'
       go_simp
       with_reducible rfl
      rotate_left
      ·
       simp only [Act.put, List.setIfInBounds_toArray, List.set_cons_zero, List.set_cons_succ, i64_w, i32_w]
       rfl
      refine pure_ (i := 36) (N := some 88) (v := ?_) (a' := ?_) #[true, true, true, true, true, true, true, true, true, true, true, true, true, true, true, true, true, true, true, true, true, true, true, true, true, true, true, true, true, true, true, true, true, true, true, true, true, false, false, false, false] rfl rfl (any_of HT_.out (by kernel_rfl)) (fun _ _ _ h => h) (Or.inl ⟨by rfl, ?_⟩) ?_ ?_
      rotate_left
      ·
       intro w'
       go_simp
       with_reducible rfl
      rotate_left
      ·
       simp only [Act.put, List.setIfInBounds_toArray, List.set_cons_zero, List.set_cons_succ, i64_w, i32_w]
       rfl
      refine pure_ (i := 37) (N := some 89) (v := ?_) (a' := ?_) #[true, true, true, true, true, true, true, true, true, true, true, true, true, true, true, true, true, true, true, true, true, true, true, true, true, true, true, true, true, true, true, true, true, true, true, true, true, true, false, false, false] rfl rfl (any_of HT_.out (by kernel_rfl)) (fun _ _ _ h => h) (Or.inl ⟨by rfl, ?_⟩) ?_ ?_
      rotate_left
      ·
       intro w'
       go_simp
       with_reducible rfl
      rotate_left
      ·
       simp only [Act.put, List.setIfInBounds_toArray, List.set_cons_zero, List.set_cons_succ, i64_w, i32_w]
       rfl
      refine pure_ (i := 38) (N := some 90) (v := ?_) (a' := ?_) #[true, true, true, true, true, true, true, true, true, true, true, true, true, true, true, true, true, true, true, true, true, true, true, true, true, true, true, true, true, true, true, true, true, true, true, true, true, true, true, false, false] rfl rfl (any_of HT_.out (by kernel_rfl)) (fun _ _ _ h => h) (Or.inl ⟨by rfl, ?_⟩) ?_ ?_
      rotate_left
      ·
       intro w'
       go_simp
       with_reducible rfl
      rotate_left
      ·
       simp only [Act.put, List.setIfInBounds_toArray, List.set_cons_zero, List.set_cons_succ, i64_w, i32_w]
       rfl
      refine pure_ (i := 39) (N := some 91) (v := ?_) (a' := ?_) #[true, true, true, true, true, true, true, true, true, true, true, true, true, true, true, true, true, true, true, true, true, true, true, true, true, true, true, true, true, true, true, true, true, true, true, true, true, true, true, true, false] rfl rfl (any_of HT_.out (by kernel_rfl)) (fun _ _ _ h => h) (Or.inl ⟨by rfl, ?_⟩) ?_ ?_
      rotate_left
      ·
       intro w'
       go_simp
       with_reducible rfl
      rotate_left
      ·
       simp only [Act.put, List.setIfInBounds_toArray, List.set_cons_zero, List.set_cons_succ, i64_w, i32_w]
       rfl
      refine pure_ (i := 40) (N := some 92) (v := ?_) (a' := ?_) #[true, true, true, true, true, true, true, true, true, true, true, true, true, true, true, true, true, true, true, true, true, true, true, true, true, true, true, true, true, true, true, true, true, true, true, true, true, true, true, true, true] rfl rfl (any_of HT_.out (by kernel_rfl)) (fun _ _ _ h => h) (Or.inl ⟨by rfl, ?_⟩) ?_ ?_
      rotate_left
      ·
       intro w'
       go_simp
       with_reducible rfl
      rotate_left
      ·
       simp only [Act.put, List.setIfInBounds_toArray, List.set_cons_zero, List.set_cons_succ, i64_w, i32_w]
       rfl
      refine done_ (done_of HT_.out (by kernel_rfl)) ?_
      try go_wp2
      go_roundg kj17
      case measure => have := HK1.out; have := HJ17.out; omega
      case rel => exact ⟨(wrap64 (x6_1 + 1)), fS, H', ⟨by have := HK1.out; have := HJ17.out; omega⟩, ⟨by (with_reducible repeat (first | apply Kd.R_alloc | apply Kd.R_drewN | apply Kd.R_drew)); exact Kd.R_mono HO_4.out (fun _ hk => trivial)⟩, ⟨gR (HO_5.out)⟩, ⟨gR (HO_713001.out)⟩, ⟨gB (BK712.out)⟩, ⟨bl1 HB GE712⟩⟩
     subst c27
     have H1 : (if (wrap64 (t727 - t728)) = 0 then ((impl_SameIsland.f kj17 t705 t706 t721 ((rd_T52 t706 x6_1).f0) ((rd_T52 t706 x6_1).f1)).bind fun t734 => (if t734 = true then (laws_FnIslandNumbers.l0 kj17 t709 t713 (wrap64 (x6_1 + 1)) t705 t706) else (if (wrap64 (t727 - t728)) = 1 then (laws_FnIslandNumbers.l0 kj17 t709 t713 (wrap64 (x6_1 + 1)) t705 t706) else (none)))) else (none)) = some r := by rw [if_pos rfl] at H; exact H
     clear H
     have H := H1
     clear H1
     by_cases c28 : (wrap64 (t727 - t728)) = 0
     rotate_left
     ·
      rw [if_neg c28] at H
      have c28b0 : ((wrap64 (t727 - t728)) == 0) = false := beq_eq_false_iff_ne.mpr c28
      have c28b1 : ((wrap64 (t727 - t728)) != 0) = true := bne_iff_ne.mpr c28
      exact absurd H (by simp)
     rw [if_pos c28] at H
     have c28b0 : ((wrap64 (t727 - t728)) == 0) = true := beq_iff_eq.mpr c28
     have c28b1 : ((wrap64 (t727 - t728)) != 0) = false := bne_eq_false_iff_eq.mpr c28
     clear c28
     replace H := Option.bind_eq_some_iff.mp H
     obtain ⟨t734, A290, H⟩ := H
     replace H : (if t734 = true then (laws_FnIslandNumbers.l0 kj17 t709 t713 (wrap64 (x6_1 + 1)) t705 t706) else (if (wrap64 (t727 - t728)) = 1 then (laws_FnIslandNumbers.l0 kj17 t709 t713 (wrap64 (x6_1 + 1)) t705 t706) else (none))) = some r := H
     have A29 := Aside0.mk A290
     clear A290
     by_cases c30 : t734 = true
     ·
      subst c30
      have H1 : (laws_FnIslandNumbers.l0 kj17 t709 t713 (wrap64 (x6_1 + 1)) t705 t706) = some r := by rw [if_pos rfl] at H; exact H
      clear H
      have H := H1
      clear H1
      have H' := Aside0.mk H
      clear H
      have hcz31_0 : wc.cell? ⟨gb712, 0, none⟩ = some (.int .i64 t705) := (blk_cell BK712.out 0).trans rfl
      have hcz31_1 : wc.cell? ⟨gb712, 1, none⟩ = some (.slice Ao11 t706.length co11) := (blk_cell BK712.out 1).trans rfl
      have hfz31_0 := blk_frozen BK712.out 0
      have hfz31_1 := blk_frozen BK712.out 1
      try go_wp2_with (first | ((with_reducible refine gate_callee (f := 38) rfl ?_); refine goesL_ (some 42) rfl rfl Tryd.func38 (by kernel_rfl) rfl #[.agg #[.int .i64 t705, .slice Ao11 t706.length co11], .slice Ao12 t709.length co12, .int .i64 x6_1] rfl mP ?_; (with_reducible refine (laws_offOn.calls kj17 t705 _ _ t706 _ _ t709 x6_1 t721 t724 _ ?side1 ?side2 ?side3 ?side4 A21.out).mono ?_); (case side1 => exact gC ((Kd.R_reads' HO_713001.out).2.2)); (case side2 => exact (Kd.R_reads' HO_713001.out).2.1); (case side3 => exact gC ((Kd.R_reads' HO_4.out).2.2)); (case side4 => exact (Kd.R_reads' HO_4.out).2.1); rintro e w32 ⟨v722, v725, rfl, ho0, ho1, hb⟩; refine ⟨_, rfl, ?_⟩; have n0_ := Aside0.mk (Kd.R_mono (Kd.R_told (Kd.R_told (Kd.R_old (gR (HO_4.out)) hb) (Kd.R_base ho0)) (Kd.R_base ho1)) (fun _ h_ => h_.1)); have n1_ := Aside0.mk (Kd.R_below (gR (HO_5.out)) hb); have n2_ := Aside0.mk (Kd.R_below (gR (HO_713001.out)) hb); have n3_ := Aside0.mk (Kd.R_lower (Kd.R_new' ho0 (Kd.R_lt (gR (HO_4.out)))) (below_size (bl1 HB GE712))); have n4_ := Aside0.mk (Kd.R_lower (Kd.R_new' ho1 (Kd.R_lt (gR (HO_4.out)))) (below_size (bl1 HB GE712))); have n5_ := Aside0.mk (blk_below (g := gb712) (o := .cells #[.int .i64 t705, .slice Ao11 t706.length co11] 39 (0, 0)) (gB (BK712.out)) hb); have n6_ := Aside0.mk (below_step (bl1 HB GE712) hb); clear HO_4; clear HO_5; clear HO_713001; clear BK712; clear HB; have HO_4 := n0_; have HO_5 := n1_; have HO_713001 := n2_; have HO723 := n3_; have HO726 := n4_; have BK712 := n5_; have HB := n6_; clear n0_ n1_ n2_ n3_ n4_ n5_ n6_; (try clear hb); (try clear hb2); (try clear hk); (try clear hi); (try clear ho0); (try clear ho1)))
      have n0_ := Aside0.mk (Kd.R_drew HO_4.out)
      have n1_ := Aside0.mk (Kd.R_drew HO_5.out)
      have n2_ := Aside0.mk (Kd.R_drew HO_713001.out)
      have n3_ := Aside0.mk (Kd.R_drew HO723.out)
      have n4_ := Aside0.mk (Kd.R_drew HO726.out)
      have n5_ := Aside0.mk (blk_drew BK712.out)
      have n6_ := Aside0.mk (below_drew1 HB.out)
      clear HO_4
      clear HO_5
      clear HO_713001
      clear HO723
      clear HO726
      clear BK712
      clear HB
      have HO_4 := n0_
      have HO_5 := n1_
      have HO_713001 := n2_
      have HO723 := n3_
      have HO726 := n4_
      have BK712 := n5_
      have HB := n6_
      clear n0_ n1_ n2_ n3_ n4_ n5_ n6_
      obtain ⟨Ao34, co34, eo34⟩ := Kd.R_slice HO723.out
      (first | subst eo34 | (injection eo34 with f1_ f2_ f3_; have f4_ := f1_.symm; have f5_ := f3_.symm; clear f1_ f2_ f3_; subst f4_; subst f5_))
      refine start_ (n := 8) (S := fun w' => w'.cell? ⟨gb712, 0, none⟩ = some (.int .i64 t705) ∧ w'.cell? ⟨gb712, 1, none⟩ = some (.slice Ao11 t706.length co11)) (ds := []) #[false, false, false, false, false, false, false, false] (by kernel_rfl) rfl rfl ⟨(blk_cell BK712.out 0).trans rfl, (blk_cell BK712.out 1).trans rfl⟩ (fun hHeld => ?_); refine with_tabW laws_FnIslandNumbers.tab11 laws_FnIslandNumbers.bits11 (fun HT_ HW_ => ?_)
      generalize w32.drew = w33 at HO_4 HO_5 HO_713001 HO723 HO726 BK712 HB hHeld ⊢
      refine pure_ (i := 1) (N := some 46) (v := ?_) (a' := ?_) #[false, true, false, false, false, false, false, false] rfl rfl (any_of HT_.out (by kernel_rfl)) (fun _ _ _ h => h) (Or.inl ⟨by rfl, ?_⟩) ?_ ?_
      rotate_left
      ·
       intro w'
       go_simp
       with_reducible rfl
      rotate_left
      ·
       simp only [Act.put, List.setIfInBounds_toArray, List.set_cons_zero, List.set_cons_succ, i64_w, i32_w]
       rfl
      refine pure_ (i := 4) (N := some 49) (v := ?_) (a' := ?_) #[false, true, false, false, true, false, false, false] rfl rfl (any_of HT_.out (by kernel_rfl)) (fun _ _ _ h => h) (Or.inl ⟨by rfl, ?_⟩) ?_ ?_
      rotate_left
      ·
       intro w'
       go_simp
       with_reducible rfl
      rotate_left
      ·
       simp only [Act.put, List.setIfInBounds_toArray, List.set_cons_zero, List.set_cons_succ, i64_w, i32_w]
       rfl
      refine take_ (i := 0) (N := some 45) (v := ?_) (a' := ?_) #[true, true, false, false, true, false, false, false] rfl rfl (take_ofW HT_.out HW_.out (by kernel_rfl)) (fun _ _ _ h => h) (Or.inl ⟨by rfl, ?_⟩) hHeld ?_ ?_
      rotate_left
      ·
       rintro w' ⟨s0, s1⟩
       go_simp
       with_reducible rfl
      rotate_left
      ·
       simp only [Act.put, List.setIfInBounds_toArray, List.set_cons_zero, List.set_cons_succ, i64_w, i32_w]
       rfl
      refine take_ (i := 3) (N := some 48) (v := ?_) (a' := ?_) #[true, true, false, true, true, false, false, false] rfl rfl (take_ofW HT_.out HW_.out (by kernel_rfl)) (fun _ _ _ h => h) (Or.inl ⟨by rfl, ?_⟩) hHeld ?_ ?_
      rotate_left
      ·
       rintro w' ⟨s0, s1⟩
       go_simp
       with_reducible rfl
      rotate_left
      ·
       simp only [Act.put, List.setIfInBounds_toArray, List.set_cons_zero, List.set_cons_succ, i64_w, i32_w]
       rfl
      refine one_ (i := 2) (N := some 47) #[true, true, true, true, true, false, false, false] rfl rfl (one_of HT_.out (by kernel_rfl)) (by decide) (fun K hK => ?_)
      refine goes_ Tryd.func39 (by kernel_rfl) rfl #[.agg #[.int .i64 t705, .slice Ao11 t706.length co11], .slice Ao34 t721.length co34] (by rfl) rfl rfl mP ?_
      with_reducible refine (laws_islands.calls kj17 t705 _ _ t706 _ _ t721 t727 _ ?side1 ?side2 ?side3 ?side4 A22.out).mono ?_
      (case side1 => exact gC ((Kd.R_reads' HO_713001.out).2.2))
      (case side2 => exact (Kd.R_reads' HO_713001.out).2.1)
      (case side3 => exact gC ((Kd.R_reads' HO723.out).2.2))
      (case side4 => exact (Kd.R_reads' HO723.out).2.1)
      rintro e w35 ⟨rfl, hb⟩
      refine ⟨_, rfl, ?_⟩
      have n0_ := Aside0.mk (Kd.R_below (gR (HO_4.out)) hb)
      have n1_ := Aside0.mk (Kd.R_below (gR (HO_5.out)) hb)
      have n2_ := Aside0.mk (Kd.R_below (gR (HO_713001.out)) hb)
      have n3_ := Aside0.mk (Kd.R_below (gR (HO723.out)) hb)
      have n4_ := Aside0.mk (Kd.R_below (gR (HO726.out)) hb)
      have n5_ := Aside0.mk (blk_below (g := gb712) (o := .cells #[.int .i64 t705, .slice Ao11 t706.length co11] 39 (0, 0)) (gB (BK712.out)) hb)
      have n6_ := Aside0.mk (below_step (bl1 HB GE712) hb)
      clear HO_4
      clear HO_5
      clear HO_713001
      clear HO723
      clear HO726
      clear BK712
      clear HB
      have HO_4 := n0_
      have HO_5 := n1_
      have HO_713001 := n2_
      have HO723 := n3_
      have HO726 := n4_
      have BK712 := n5_
      have HB := n6_
      clear n0_ n1_ n2_ n3_ n4_ n5_ n6_
      (try clear hb)
      (try clear hb2)
      (try clear hk)
      (try clear hi)
      obtain ⟨Ao36, co36, eo36⟩ := Kd.R_slice HO726.out
      (first | subst eo36 | (injection eo36 with f1_ f2_ f3_; have f4_ := f1_.symm; have f5_ := f3_.symm; clear f1_ f2_ f3_; subst f4_; subst f5_))
      refine hK.out _ _ ⟨(blk_cell BK712.out 0).trans rfl, (blk_cell BK712.out 1).trans rfl⟩ (fun hHeld => ?_)
      clear hK K
      refine norm_ (a' := ?_) ?_ ?_
      rotate_left
      ·
       show Act.put _ (some 47) _ = _
       simp only [Act.put, List.setIfInBounds_toArray, List.set_cons_zero, List.set_cons_succ, i64_w, i32_w]
       rfl
      refine one_ (i := 5) (N := some 50) #[true, true, true, true, true, true, false, false] rfl rfl (one_of HT_.out (by kernel_rfl)) (by decide) (fun K hK => ?_)
      refine goes_ Tryd.func39 (by kernel_rfl) rfl #[.agg #[.int .i64 t705, .slice Ao11 t706.length co11], .slice Ao36 t724.length co36] (by rfl) rfl rfl mP ?_
      with_reducible refine (laws_islands.calls kj17 t705 _ _ t706 _ _ t724 t728 _ ?side1 ?side2 ?side3 ?side4 A23.out).mono ?_
      (case side1 => exact gC ((Kd.R_reads' HO_713001.out).2.2))
      (case side2 => exact (Kd.R_reads' HO_713001.out).2.1)
      (case side3 => exact gC ((Kd.R_reads' HO726.out).2.2))
      (case side4 => exact (Kd.R_reads' HO726.out).2.1)
      rintro e w37 ⟨rfl, hb⟩
      refine ⟨_, rfl, ?_⟩
      have n0_ := Aside0.mk (Kd.R_below (gR (HO_4.out)) hb)
      have n1_ := Aside0.mk (Kd.R_below (gR (HO_5.out)) hb)
      have n2_ := Aside0.mk (Kd.R_below (gR (HO_713001.out)) hb)
      have n3_ := Aside0.mk (Kd.R_below (gR (HO723.out)) hb)
      have n4_ := Aside0.mk (Kd.R_below (gR (HO726.out)) hb)
      have n5_ := Aside0.mk (blk_below (g := gb712) (o := .cells #[.int .i64 t705, .slice Ao11 t706.length co11] 39 (0, 0)) (gB (BK712.out)) hb)
      have n6_ := Aside0.mk (below_step (bl1 HB GE712) hb)
      clear HO_4
      clear HO_5
      clear HO_713001
      clear HO723
      clear HO726
      clear BK712
      clear HB
      have HO_4 := n0_
      have HO_5 := n1_
      have HO_713001 := n2_
      have HO723 := n3_
      have HO726 := n4_
      have BK712 := n5_
      have HB := n6_
      clear n0_ n1_ n2_ n3_ n4_ n5_ n6_
      (try clear hb)
      (try clear hb2)
      (try clear hk)
      (try clear hi)
      refine hK.out _ _ ⟨(blk_cell BK712.out 0).trans rfl, (blk_cell BK712.out 1).trans rfl⟩ (fun hHeld => ?_)
      clear hK K
      refine norm_ (a' := ?_) ?_ ?_
      rotate_left
      ·
       show Act.put _ (some 50) _ = _
       simp only [Act.put, List.setIfInBounds_toArray, List.set_cons_zero, List.set_cons_succ, i64_w, i32_w]
       rfl
      refine pure_ (i := 6) (N := some 51) (v := ?_) (a' := ?_) #[true, true, true, true, true, true, true, false] rfl rfl (any_of HT_.out (by kernel_rfl)) (fun _ _ _ h => h) (Or.inl ⟨by rfl, ?_⟩) ?_ ?_
      rotate_left
      ·
       intro w'
       go_simp
       with_reducible rfl
      rotate_left
      ·
       simp only [Act.put, List.setIfInBounds_toArray, List.set_cons_zero, List.set_cons_succ, i64_w, i32_w]
       rfl
      refine pure_ (i := 7) (N := some 9) (v := ?_) (a' := ?_) #[true, true, true, true, true, true, true, true] rfl rfl (any_of HT_.out (by kernel_rfl)) (fun _ _ _ h => h) (Or.inl ⟨by rfl, ?_⟩) ?_ ?_
      rotate_left
      ·
       intro w'
       go_simp
       with_reducible rfl
      rotate_left
      ·
       simp only [Act.put, List.setIfInBounds_toArray, List.set_cons_zero, List.set_cons_succ, i64_w, i32_w]
       rfl
      refine done_ (done_of HT_.out (by kernel_rfl)) ?_
      try go_wp2
      have n0_ := Aside0.mk (Kd.R_drew HO_4.out)
      have n1_ := Aside0.mk (Kd.R_drew HO_5.out)
      have n2_ := Aside0.mk (Kd.R_drew HO_713001.out)
      have n3_ := Aside0.mk (Kd.R_drew HO723.out)
      have n4_ := Aside0.mk (Kd.R_drew HO726.out)
      have n5_ := Aside0.mk (blk_drew BK712.out)
      have n6_ := Aside0.mk (below_drew1 HB.out)
      clear HO_4
      clear HO_5
      clear HO_713001
      clear HO723
      clear HO726
      clear BK712
      clear HB
      have HO_4 := n0_
      have HO_5 := n1_
      have HO_713001 := n2_
      have HO723 := n3_
      have HO726 := n4_
      have BK712 := n5_
      have HB := n6_
      clear n0_ n1_ n2_ n3_ n4_ n5_ n6_
      have p729 : 0 ≤ (x6_1 : Int) := oD
      have q729 : x6_1 < (t706.length : Int) := oD
      obtain ⟨ad729, e729, hx729_0, hx729_1, hx729_2⟩ := at_T52 (Kd.R_reads' HO_713001.out).2.2 x6_1 p729 q729
      cases e729
      replace p729 := eq_true p729
      replace q729 := eq_true q729
      have p730 : 0 ≤ (x6_1 : Int) := oD
      have q730 : x6_1 < (t706.length : Int) := oD
      obtain ⟨ad730, e730, hx730_0, hx730_1, hx730_2⟩ := at_T52 (Kd.R_reads' HO_713001.out).2.2 x6_1 p730 q730
      obtain rfl : ad729 = ad730 := (by injection e730)
      replace p730 := eq_true p730
      replace q730 := eq_true q730
      have p732 : 0 ≤ (x6_1 : Int) := oD
      have q732 : x6_1 < (t706.length : Int) := oD
      obtain ⟨ad732, e732, hx732_0, hx732_1, hx732_2⟩ := at_T52 (Kd.R_reads' HO_713001.out).2.2 x6_1 p732 q732
      obtain rfl : ad729 = ad732 := (by injection e732)
      replace p732 := eq_true p732
      replace q732 := eq_true q732
      have p733 : 0 ≤ (x6_1 : Int) := oD
      have q733 : x6_1 < (t706.length : Int) := oD
      obtain ⟨ad733, e733, hx733_0, hx733_1, hx733_2⟩ := at_T52 (Kd.R_reads' HO_713001.out).2.2 x6_1 p733 q733
      obtain rfl : ad729 = ad733 := (by injection e733)
      replace p733 := eq_true p733
      replace q733 := eq_true q733
      refine start_ (n := 41) (S := fun w' => w'.cell? ⟨gb712, 0, none⟩ = some (.int .i64 t705) ∧ w'.cell? ⟨gb712, 1, none⟩ = some (.slice (some ad729) t706.length co11) ∧ w'.cell? (ad729.add ((x6_1).toNat * 3)) = some (.int .i64 ((rd_T52 t706 x6_1).f0)) ∧ w'.cell? ⟨(ad729.add ((x6_1).toNat * 3)).block, (ad729.add ((x6_1).toNat * 3)).off + 1, none⟩ = some (.int .i64 ((rd_T52 t706 x6_1).f1)) ∧ w'.cell? ⟨(ad729.add ((x6_1).toNat * 3)).block, (ad729.add ((x6_1).toNat * 3)).off + 2, none⟩ = some (.int .i64 ((rd_T52 t706 x6_1).f2)) ∧ w'.cell? (ad729.add ((x6_1).toNat * 3)) = some (.int .i64 ((rd_T52 t706 x6_1).f0)) ∧ w'.cell? ⟨(ad729.add ((x6_1).toNat * 3)).block, (ad729.add ((x6_1).toNat * 3)).off + 1, none⟩ = some (.int .i64 ((rd_T52 t706 x6_1).f1)) ∧ w'.cell? ⟨(ad729.add ((x6_1).toNat * 3)).block, (ad729.add ((x6_1).toNat * 3)).off + 2, none⟩ = some (.int .i64 ((rd_T52 t706 x6_1).f2)) ∧ w'.cell? (ad729.add ((x6_1).toNat * 3)) = some (.int .i64 ((rd_T52 t706 x6_1).f0)) ∧ w'.cell? ⟨(ad729.add ((x6_1).toNat * 3)).block, (ad729.add ((x6_1).toNat * 3)).off + 1, none⟩ = some (.int .i64 ((rd_T52 t706 x6_1).f1)) ∧ w'.cell? ⟨(ad729.add ((x6_1).toNat * 3)).block, (ad729.add ((x6_1).toNat * 3)).off + 2, none⟩ = some (.int .i64 ((rd_T52 t706 x6_1).f2)) ∧ w'.cell? (ad729.add ((x6_1).toNat * 3)) = some (.int .i64 ((rd_T52 t706 x6_1).f0)) ∧ w'.cell? ⟨(ad729.add ((x6_1).toNat * 3)).block, (ad729.add ((x6_1).toNat * 3)).off + 1, none⟩ = some (.int .i64 ((rd_T52 t706 x6_1).f1)) ∧ w'.cell? ⟨(ad729.add ((x6_1).toNat * 3)).block, (ad729.add ((x6_1).toNat * 3)).off + 2, none⟩ = some (.int .i64 ((rd_T52 t706 x6_1).f2))) (ds := []) #[false, false, false, false, false, false, false, false, false, false, false, false, false, false, false, false, false, false, false, false, false, false, false, false, false, false, false, false, false, false, false, false, false, false, false, false, false, false, false, false, false] (by kernel_rfl) rfl rfl ⟨(blk_cell BK712.out 0).trans rfl, (blk_cell BK712.out 1).trans rfl, hx729_0, hx729_1, hx729_2, hx730_0, hx730_1, hx730_2, hx732_0, hx732_1, hx732_2, hx733_0, hx733_1, hx733_2⟩ (fun hHeld => ?_); refine with_tabW laws_FnIslandNumbers.tab12 laws_FnIslandNumbers.bits12 (fun HT_ HW_ => ?_)
      generalize w37.drew = w38 at HO_4 HO_5 HO_713001 HO723 HO726 BK712 HB hx729_0 hx729_1 hx729_2 hx730_0 hx730_1 hx730_2 hx732_0 hx732_1 hx732_2 hx733_0 hx733_1 hx733_2 hHeld ⊢
      refine pure_ (i := 1) (N := some 53) (v := ?_) (a' := ?_) #[false, true, false, false, false, false, false, false, false, false, false, false, false, false, false, false, false, false, false, false, false, false, false, false, false, false, false, false, false, false, false, false, false, false, false, false, false, false, false, false, false] rfl rfl (any_of HT_.out (by kernel_rfl)) (fun _ _ _ h => h) (Or.inl ⟨by rfl, ?_⟩) ?_ ?_
      rotate_left
      ·
       intro w'
       go_simp
       with_reducible rfl
      rotate_left
      ·
       simp only [Act.put, List.setIfInBounds_toArray, List.set_cons_zero, List.set_cons_succ, i64_w, i32_w]
       rfl
      refine pure_ (i := 2) (N := some 54) (v := ?_) (a' := ?_) #[false, true, true, false, false, false, false, false, false, false, false, false, false, false, false, false, false, false, false, false, false, false, false, false, false, false, false, false, false, false, false, false, false, false, false, false, false, false, false, false, false] rfl rfl (any_of HT_.out (by kernel_rfl)) (fun _ _ _ h => h) (Or.inl ⟨by rfl, ?_⟩) ?_ ?_
      rotate_left
      ·
       intro w'
       go_simp
       with_reducible rfl
      rotate_left
      ·
       simp only [Act.put, List.setIfInBounds_toArray, List.set_cons_zero, List.set_cons_succ, i64_w, i32_w]
       rfl
      refine pure_ (i := 4) (N := some 56) (v := ?_) (a' := ?_) #[false, true, true, false, true, false, false, false, false, false, false, false, false, false, false, false, false, false, false, false, false, false, false, false, false, false, false, false, false, false, false, false, false, false, false, false, false, false, false, false, false] rfl rfl (any_of HT_.out (by kernel_rfl)) (fun _ _ _ h => h) (Or.inl ⟨by rfl, ?_⟩) ?_ ?_
      rotate_left
      ·
       intro w'
       go_simp
       with_reducible rfl
      rotate_left
      ·
       simp only [Act.put, List.setIfInBounds_toArray, List.set_cons_zero, List.set_cons_succ, i64_w, i32_w]
       rfl
      refine pure_ (i := 8) (N := some 60) (v := ?_) (a' := ?_) #[false, true, true, false, true, false, false, false, true, false, false, false, false, false, false, false, false, false, false, false, false, false, false, false, false, false, false, false, false, false, false, false, false, false, false, false, false, false, false, false, false] rfl rfl (any_of HT_.out (by kernel_rfl)) (fun _ _ _ h => h) (Or.inl ⟨by rfl, ?_⟩) ?_ ?_
      rotate_left
      ·
       intro w'
       go_simp
       with_reducible rfl
      rotate_left
      ·
       simp only [Act.put, List.setIfInBounds_toArray, List.set_cons_zero, List.set_cons_succ, i64_w, i32_w]
       rfl
      refine pure_ (i := 10) (N := some 62) (v := ?_) (a' := ?_) #[false, true, true, false, true, false, false, false, true, false, true, false, false, false, false, false, false, false, false, false, false, false, false, false, false, false, false, false, false, false, false, false, false, false, false, false, false, false, false, false, false] rfl rfl (any_of HT_.out (by kernel_rfl)) (fun _ _ _ h => h) (Or.inl ⟨by rfl, ?_⟩) ?_ ?_
      rotate_left
      ·
       intro w'
       go_simp
       with_reducible rfl
      rotate_left
      ·
       simp only [Act.put, List.setIfInBounds_toArray, List.set_cons_zero, List.set_cons_succ, i64_w, i32_w]
       rfl
      refine take_ (i := 0) (N := some 52) (v := ?_) (a' := ?_) #[true, true, true, false, true, false, false, false, true, false, true, false, false, false, false, false, false, false, false, false, false, false, false, false, false, false, false, false, false, false, false, false, false, false, false, false, false, false, false, false, false] rfl rfl (take_ofW HT_.out HW_.out (by kernel_rfl)) (fun _ _ _ h => h) (Or.inl ⟨by rfl, ?_⟩) hHeld ?_ ?_
      rotate_left
      ·
       rintro w' ⟨s0, s1, s2, s3, s4, s5, s6, s7, s8, s9, s10, s11, s12, s13⟩
       go_simp
       with_reducible rfl
      rotate_left
      ·
       simp only [Act.put, List.setIfInBounds_toArray, List.set_cons_zero, List.set_cons_succ, i64_w, i32_w]
       rfl
      refine take_ (i := 3) (N := some 55) (v := ?_) (a' := ?_) #[true, true, true, true, true, false, false, false, true, false, true, false, false, false, false, false, false, false, false, false, false, false, false, false, false, false, false, false, false, false, false, false, false, false, false, false, false, false, false, false, false] rfl rfl (take_ofW HT_.out HW_.out (by kernel_rfl)) (fun _ _ _ h => h) (Or.inl ⟨by rfl, ?_⟩) hHeld ?_ ?_
      rotate_left
      ·
       rintro w' ⟨s0, s1, s2, s3, s4, s5, s6, s7, s8, s9, s10, s11, s12, s13⟩
       go_simp
       with_reducible rfl
      rotate_left
      ·
       simp only [Act.put, List.setIfInBounds_toArray, List.set_cons_zero, List.set_cons_succ, i64_w, i32_w]
       rfl
      refine pure_ (i := 5) (N := some 57) (v := ?_) (a' := ?_) #[true, true, true, true, true, true, false, false, true, false, true, false, false, false, false, false, false, false, false, false, false, false, false, false, false, false, false, false, false, false, false, false, false, false, false, false, false, false, false, false, false] rfl rfl (any_of HT_.out (by kernel_rfl)) (fun _ _ _ h => h) (Or.inl ⟨by rfl, ?_⟩) ?_ ?_
      rotate_left
      ·
       intro w'
       go_simp
       with_reducible rfl
      rotate_left
      ·
       simp only [Act.put, List.setIfInBounds_toArray, List.set_cons_zero, List.set_cons_succ, i64_w, i32_w]
       rfl
      refine pure_ (i := 6) (N := some 58) (v := ?_) (a' := ?_) #[true, true, true, true, true, true, true, false, true, false, true, false, false, false, false, false, false, false, false, false, false, false, false, false, false, false, false, false, false, false, false, false, false, false, false, false, false, false, false, false, false] rfl rfl (any_of HT_.out (by kernel_rfl)) (fun _ _ _ h => h) (Or.inl ⟨by rfl, ?_⟩) ?_ ?_
      rotate_left
      ·
       intro w'
       go_simp
       with_reducible rfl
      rotate_left
      ·
       simp only [Act.put, List.setIfInBounds_toArray, List.set_cons_zero, List.set_cons_succ, i64_w, i32_w]
       rfl
      refine take_ (i := 7) (N := some 59) (v := ?_) (a' := ?_) #[true, true, true, true, true, true, true, true, true, false, true, false, false, false, false, false, false, false, false, false, false, false, false, false, false, false, false, false, false, false, false, false, false, false, false, false, false, false, false, false, false] rfl rfl (take_ofW HT_.out HW_.out (by kernel_rfl)) (fun _ _ _ h => h) (Or.inl ⟨by rfl, ?_⟩) hHeld ?_ ?_
      rotate_left
      ·
       rintro w' ⟨s0, s1, s2, s3, s4, s5, s6, s7, s8, s9, s10, s11, s12, s13⟩
       go_simp
       with_reducible rfl
      rotate_left
      ·
       simp only [Act.put, List.setIfInBounds_toArray, List.set_cons_zero, List.set_cons_succ, i64_w, i32_w]
       rfl
      refine take_ (i := 9) (N := some 61) (v := ?_) (a' := ?_) #[true, true, true, true, true, true, true, true, true, true, true, false, false, false, false, false, false, false, false, false, false, false, false, false, false, false, false, false, false, false, false, false, false, false, false, false, false, false, false, false, false] rfl rfl (take_ofW HT_.out HW_.out (by kernel_rfl)) (fun _ _ _ h => h) (Or.inl ⟨by rfl, ?_⟩) hHeld ?_ ?_
      rotate_left
      ·
       rintro w' ⟨s0, s1, s2, s3, s4, s5, s6, s7, s8, s9, s10, s11, s12, s13⟩
       go_simp
       with_reducible rfl
      rotate_left
      ·
       simp only [Act.put, List.setIfInBounds_toArray, List.set_cons_zero, List.set_cons_succ, i64_w, i32_w]
       rfl
      refine pure_ (i := 11) (N := some 63) (v := ?_) (a' := ?_) #[true, true, true, true, true, true, true, true, true, true, true, true, false, false, false, false, false, false, false, false, false, false, false, false, false, false, false, false, false, false, false, false, false, false, false, false, false, false, false, false, false] rfl rfl (any_of HT_.out (by kernel_rfl)) (fun _ _ _ h => h) (Or.inl ⟨by rfl, ?_⟩) ?_ ?_
      rotate_left
      ·
       intro w'
       go_simp
       with_reducible rfl
      rotate_left
      ·
       simp only [Act.put, List.setIfInBounds_toArray, List.set_cons_zero, List.set_cons_succ, i64_w, i32_w]
       rfl
      refine pure_ (i := 12) (N := some 64) (v := ?_) (a' := ?_) #[true, true, true, true, true, true, true, true, true, true, true, true, true, false, false, false, false, false, false, false, false, false, false, false, false, false, false, false, false, false, false, false, false, false, false, false, false, false, false, false, false] rfl rfl (any_of HT_.out (by kernel_rfl)) (fun _ _ _ h => h) (Or.inl ⟨by rfl, ?_⟩) ?_ ?_
      rotate_left
      ·
       intro w'
       go_simp
       with_reducible rfl
      rotate_left
      ·
       simp only [Act.put, List.setIfInBounds_toArray, List.set_cons_zero, List.set_cons_succ, i64_w, i32_w]
       rfl
      refine take_ (i := 13) (N := some 65) (v := ?_) (a' := ?_) #[true, true, true, true, true, true, true, true, true, true, true, true, true, true, false, false, false, false, false, false, false, false, false, false, false, false, false, false, false, false, false, false, false, false, false, false, false, false, false, false, false] rfl rfl (take_ofW HT_.out HW_.out (by kernel_rfl)) (fun _ _ _ h => h) (Or.inl ⟨by rfl, ?_⟩) hHeld ?_ ?_
      rotate_left
      ·
       rintro w' ⟨s0, s1, s2, s3, s4, s5, s6, s7, s8, s9, s10, s11, s12, s13⟩
       go_simp
       with_reducible rfl
      rotate_left
      ·
       simp only [Act.put, List.setIfInBounds_toArray, List.set_cons_zero, List.set_cons_succ, i64_w, i32_w]
       rfl
      refine one_ (i := 14) (N := some 66) #[true, true, true, true, true, true, true, true, true, true, true, true, true, true, true, false, false, false, false, false, false, false, false, false, false, false, false, false, false, false, false, false, false, false, false, false, false, false, false, false, false] rfl rfl (one_of HT_.out (by kernel_rfl)) (by decide) (fun K hK => ?_)
      refine goes_ Tryd.func25 (by kernel_rfl) rfl #[.agg #[.int .i64 t705, .slice (some ad729) t706.length co11], .slice Ao34 t721.length co34, .int .i64 ((rd_T52 t706 x6_1).f0), .int .i64 ((rd_T52 t706 x6_1).f1)] (by rfl) rfl rfl mP ?_
      with_reducible refine (impl_SameIsland.calls kj17 t705 _ _ t706 _ _ t721 ((rd_T52 t706 x6_1).f0) ((rd_T52 t706 x6_1).f1) true _ ?side1 ?side2 ?side3 ?side4 A26.out).mono ?_
      (case side1 => exact gC ((Kd.R_reads' HO_713001.out).2.2))
      (case side2 => exact (Kd.R_reads' HO_713001.out).2.1)
      (case side3 => exact gC ((Kd.R_reads' HO723.out).2.2))
      (case side4 => exact (Kd.R_reads' HO723.out).2.1)
      rintro e w39 ⟨rfl, hb⟩
      have HS2_ := (hb.cell (World.block_lt_of_cell? _ _ (hHeld.2.2.1))).trans (hHeld.2.2.1)
      have HS3_ := (hb.cell (World.block_lt_of_cell? _ _ (hHeld.2.2.2.1))).trans (hHeld.2.2.2.1)
      have HS4_ := (hb.cell (World.block_lt_of_cell? _ _ (hHeld.2.2.2.2.1))).trans (hHeld.2.2.2.2.1)
      have HS5_ := (hb.cell (World.block_lt_of_cell? _ _ (hHeld.2.2.2.2.2.1))).trans (hHeld.2.2.2.2.2.1)
      have HS6_ := (hb.cell (World.block_lt_of_cell? _ _ (hHeld.2.2.2.2.2.2.1))).trans (hHeld.2.2.2.2.2.2.1)
      have HS7_ := (hb.cell (World.block_lt_of_cell? _ _ (hHeld.2.2.2.2.2.2.2.1))).trans (hHeld.2.2.2.2.2.2.2.1)
      have HS8_ := (hb.cell (World.block_lt_of_cell? _ _ (hHeld.2.2.2.2.2.2.2.2.1))).trans (hHeld.2.2.2.2.2.2.2.2.1)
      have HS9_ := (hb.cell (World.block_lt_of_cell? _ _ (hHeld.2.2.2.2.2.2.2.2.2.1))).trans (hHeld.2.2.2.2.2.2.2.2.2.1)
      have HS10_ := (hb.cell (World.block_lt_of_cell? _ _ (hHeld.2.2.2.2.2.2.2.2.2.2.1))).trans (hHeld.2.2.2.2.2.2.2.2.2.2.1)
      have HS11_ := (hb.cell (World.block_lt_of_cell? _ _ (hHeld.2.2.2.2.2.2.2.2.2.2.2.1))).trans (hHeld.2.2.2.2.2.2.2.2.2.2.2.1)
      have HS12_ := (hb.cell (World.block_lt_of_cell? _ _ (hHeld.2.2.2.2.2.2.2.2.2.2.2.2.1))).trans (hHeld.2.2.2.2.2.2.2.2.2.2.2.2.1)
      have HS13_ := (hb.cell (World.block_lt_of_cell? _ _ (hHeld.2.2.2.2.2.2.2.2.2.2.2.2.2))).trans (hHeld.2.2.2.2.2.2.2.2.2.2.2.2.2)
      refine ⟨_, rfl, ?_⟩
      have n0_ := Aside0.mk (Kd.R_below (gR (HO_4.out)) hb)
      have n1_ := Aside0.mk (Kd.R_below (gR (HO_5.out)) hb)
      have n2_ := Aside0.mk (Kd.R_below (gR (HO_713001.out)) hb)
      have n3_ := Aside0.mk (Kd.R_below (gR (HO723.out)) hb)
      have n4_ := Aside0.mk (Kd.R_below (gR (HO726.out)) hb)
      have n5_ := Aside0.mk (blk_below (g := gb712) (o := .cells #[.int .i64 t705, .slice (some ad729) t706.length co11] 39 (0, 0)) (gB (BK712.out)) hb)
      have n6_ := Aside0.mk (below_step (bl1 HB GE712) hb)
      clear HO_4
      clear HO_5
      clear HO_713001
      clear HO723
      clear HO726
      clear BK712
      clear HB
      have HO_4 := n0_
      have HO_5 := n1_
      have HO_713001 := n2_
      have HO723 := n3_
      have HO726 := n4_
      have BK712 := n5_
      have HB := n6_
      clear n0_ n1_ n2_ n3_ n4_ n5_ n6_
      (try clear hb)
      (try clear hb2)
      (try clear hk)
      (try clear hi)
      refine hK.out _ _ ⟨(blk_cell BK712.out 0).trans rfl, (blk_cell BK712.out 1).trans rfl, HS2_, HS3_, HS4_, HS5_, HS6_, HS7_, HS8_, HS9_, HS10_, HS11_, HS12_, HS13_⟩ (fun hHeld => ?_)
      clear hK K
      refine norm_ (a' := ?_) ?_ ?_
      rotate_left
      ·
       show Act.put _ (some 66) _ = _
       simp only [Act.put, List.setIfInBounds_toArray, List.set_cons_zero, List.set_cons_succ, i64_w, i32_w]
       rfl
      refine pure_ (i := 15) (N := some 67) (v := ?_) (a' := ?_) #[true, true, true, true, true, true, true, true, true, true, true, true, true, true, true, true, false, false, false, false, false, false, false, false, false, false, false, false, false, false, false, false, false, false, false, false, false, false, false, false, false] rfl rfl (any_of HT_.out (by kernel_rfl)) (fun _ _ _ h => h) (Or.inl ⟨by rfl, ?_⟩) ?_ ?_
      rotate_left
      ·
       intro w'
       go_simp
       with_reducible rfl
      rotate_left
      ·
       simp only [Act.put, List.setIfInBounds_toArray, List.set_cons_zero, List.set_cons_succ, i64_w, i32_w]
       rfl
      refine pure_ (i := 16) (N := some 68) (v := ?_) (a' := ?_) #[true, true, true, true, true, true, true, true, true, true, true, true, true, true, true, true, true, false, false, false, false, false, false, false, false, false, false, false, false, false, false, false, false, false, false, false, false, false, false, false, false] rfl rfl (any_of HT_.out (by kernel_rfl)) (fun _ _ _ h => h) (Or.inl ⟨by rfl, ?_⟩) ?_ ?_
      rotate_left
      ·
       intro w'
       go_simp
       with_reducible rfl
      rotate_left
      ·
       simp only [Act.put, List.setIfInBounds_toArray, List.set_cons_zero, List.set_cons_succ, i64_w, i32_w]
       rfl
      refine pure_ (i := 17) (N := some 69) (v := ?_) (a' := ?_) #[true, true, true, true, true, true, true, true, true, true, true, true, true, true, true, true, true, true, false, false, false, false, false, false, false, false, false, false, false, false, false, false, false, false, false, false, false, false, false, false, false] rfl rfl (any_of HT_.out (by kernel_rfl)) (fun _ _ _ h => h) (Or.inl ⟨by rfl, ?_⟩) ?_ ?_
      rotate_left
      ·
       intro w'
       go_simp
       with_reducible rfl
      rotate_left
      ·
       simp only [Act.put, List.setIfInBounds_toArray, List.set_cons_zero, List.set_cons_succ, i64_w, i32_w]
       rfl
      refine pure_ (i := 18) (N := some 70) (v := ?_) (a' := ?_) #[true, true, true, true, true, true, true, true, true, true, true, true, true, true, true, true, true, true, true, false, false, false, false, false, false, false, false, false, false, false, false, false, false, false, false, false, false, false, false, false, false] rfl rfl (any_of HT_.out (by kernel_rfl)) (fun _ _ _ h => h) (Or.inl ⟨by rfl, ?_⟩) ?_ ?_
      rotate_left
      ·
       intro w'
       go_simp
       with_reducible rfl
      rotate_left
      ·
       simp only [Act.put, List.setIfInBounds_toArray, List.set_cons_zero, List.set_cons_succ, i64_w, i32_w]
       rfl
      refine pure_ (i := 19) (N := some 71) (v := ?_) (a' := ?_) #[true, true, true, true, true, true, true, true, true, true, true, true, true, true, true, true, true, true, true, true, false, false, false, false, false, false, false, false, false, false, false, false, false, false, false, false, false, false, false, false, false] rfl rfl (any_of HT_.out (by kernel_rfl)) (fun _ _ _ h => h) (Or.inl ⟨by rfl, ?_⟩) ?_ ?_
      rotate_left
      ·
       intro w'
       go_simp
       with_reducible rfl
      rotate_left
      ·
       simp only [Act.put, List.setIfInBounds_toArray, List.set_cons_zero, List.set_cons_succ, i64_w, i32_w]
       rfl
      refine pure_ (i := 21) (N := some 73) (v := ?_) (a' := ?_) #[true, true, true, true, true, true, true, true, true, true, true, true, true, true, true, true, true, true, true, true, false, true, false, false, false, false, false, false, false, false, false, false, false, false, false, false, false, false, false, false, false] rfl rfl (any_of HT_.out (by kernel_rfl)) (fun _ _ _ h => h) (Or.inl ⟨by rfl, ?_⟩) ?_ ?_
      rotate_left
      ·
       intro w'
       go_simp
       with_reducible rfl
      rotate_left
      ·
       simp only [Act.put, List.setIfInBounds_toArray, List.set_cons_zero, List.set_cons_succ, i64_w, i32_w]
       rfl
      refine pure_ (i := 22) (N := some 74) (v := ?_) (a' := ?_) #[true, true, true, true, true, true, true, true, true, true, true, true, true, true, true, true, true, true, true, true, false, true, true, false, false, false, false, false, false, false, false, false, false, false, false, false, false, false, false, false, false] rfl rfl (any_of HT_.out (by kernel_rfl)) (fun _ _ _ h => h) (Or.inl ⟨by rfl, ?_⟩) ?_ ?_
      rotate_left
      ·
       intro w'
       go_simp
       with_reducible rfl
      rotate_left
      ·
       simp only [Act.put, List.setIfInBounds_toArray, List.set_cons_zero, List.set_cons_succ, i64_w, i32_w]
       rfl
      refine pure_ (i := 24) (N := some 76) (v := ?_) (a' := ?_) #[true, true, true, true, true, true, true, true, true, true, true, true, true, true, true, true, true, true, true, true, false, true, true, false, true, false, false, false, false, false, false, false, false, false, false, false, false, false, false, false, false] rfl rfl (any_of HT_.out (by kernel_rfl)) (fun _ _ _ h => h) (Or.inl ⟨by rfl, ?_⟩) ?_ ?_
      rotate_left
      ·
       intro w'
       go_simp
       with_reducible rfl
      rotate_left
      ·
       simp only [Act.put, List.setIfInBounds_toArray, List.set_cons_zero, List.set_cons_succ, i64_w, i32_w]
       rfl
      refine pure_ (i := 28) (N := some 80) (v := ?_) (a' := ?_) #[true, true, true, true, true, true, true, true, true, true, true, true, true, true, true, true, true, true, true, true, false, true, true, false, true, false, false, false, true, false, false, false, false, false, false, false, false, false, false, false, false] rfl rfl (any_of HT_.out (by kernel_rfl)) (fun _ _ _ h => h) (Or.inl ⟨by rfl, ?_⟩) ?_ ?_
      rotate_left
      ·
       intro w'
       go_simp
       with_reducible rfl
      rotate_left
      ·
       simp only [Act.put, List.setIfInBounds_toArray, List.set_cons_zero, List.set_cons_succ, i64_w, i32_w]
       rfl
      refine pure_ (i := 30) (N := some 82) (v := ?_) (a' := ?_) #[true, true, true, true, true, true, true, true, true, true, true, true, true, true, true, true, true, true, true, true, false, true, true, false, true, false, false, false, true, false, true, false, false, false, false, false, false, false, false, false, false] rfl rfl (any_of HT_.out (by kernel_rfl)) (fun _ _ _ h => h) (Or.inl ⟨by rfl, ?_⟩) ?_ ?_
      rotate_left
      ·
       intro w'
       go_simp
       with_reducible rfl
      rotate_left
      ·
       simp only [Act.put, List.setIfInBounds_toArray, List.set_cons_zero, List.set_cons_succ, i64_w, i32_w]
       rfl
      refine take_ (i := 20) (N := some 72) (v := ?_) (a' := ?_) #[true, true, true, true, true, true, true, true, true, true, true, true, true, true, true, true, true, true, true, true, true, true, true, false, true, false, false, false, true, false, true, false, false, false, false, false, false, false, false, false, false] rfl rfl (take_ofW HT_.out HW_.out (by kernel_rfl)) (fun _ _ _ h => h) (Or.inl ⟨by rfl, ?_⟩) hHeld ?_ ?_
      rotate_left
      ·
       rintro w' ⟨s0, s1, s2, s3, s4, s5, s6, s7, s8, s9, s10, s11, s12, s13⟩
       go_simp
       with_reducible rfl
      rotate_left
      ·
       simp only [Act.put, List.setIfInBounds_toArray, List.set_cons_zero, List.set_cons_succ, i64_w, i32_w]
       rfl
      refine take_ (i := 23) (N := some 75) (v := ?_) (a' := ?_) #[true, true, true, true, true, true, true, true, true, true, true, true, true, true, true, true, true, true, true, true, true, true, true, true, true, false, false, false, true, false, true, false, false, false, false, false, false, false, false, false, false] rfl rfl (take_ofW HT_.out HW_.out (by kernel_rfl)) (fun _ _ _ h => h) (Or.inl ⟨by rfl, ?_⟩) hHeld ?_ ?_
      rotate_left
      ·
       rintro w' ⟨s0, s1, s2, s3, s4, s5, s6, s7, s8, s9, s10, s11, s12, s13⟩
       go_simp
       with_reducible rfl
      rotate_left
      ·
       simp only [Act.put, List.setIfInBounds_toArray, List.set_cons_zero, List.set_cons_succ, i64_w, i32_w]
       rfl
      refine pure_ (i := 25) (N := some 77) (v := ?_) (a' := ?_) #[true, true, true, true, true, true, true, true, true, true, true, true, true, true, true, true, true, true, true, true, true, true, true, true, true, true, false, false, true, false, true, false, false, false, false, false, false, false, false, false, false] rfl rfl (any_of HT_.out (by kernel_rfl)) (fun _ _ _ h => h) (Or.inl ⟨by rfl, ?_⟩) ?_ ?_
      rotate_left
      ·
       intro w'
       go_simp
       with_reducible rfl
      rotate_left
      ·
       simp only [Act.put, List.setIfInBounds_toArray, List.set_cons_zero, List.set_cons_succ, i64_w, i32_w]
       rfl
      refine pure_ (i := 26) (N := some 78) (v := ?_) (a' := ?_) #[true, true, true, true, true, true, true, true, true, true, true, true, true, true, true, true, true, true, true, true, true, true, true, true, true, true, true, false, true, false, true, false, false, false, false, false, false, false, false, false, false] rfl rfl (any_of HT_.out (by kernel_rfl)) (fun _ _ _ h => h) (Or.inl ⟨by rfl, ?_⟩) ?_ ?_
      rotate_left
      ·
       intro w'
       go_simp
       with_reducible rfl
      rotate_left
      ·
       simp only [Act.put, List.setIfInBounds_toArray, List.set_cons_zero, List.set_cons_succ, i64_w, i32_w]
       rfl
      refine take_ (i := 27) (N := some 79) (v := ?_) (a' := ?_) #[true, true, true, true, true, true, true, true, true, true, true, true, true, true, true, true, true, true, true, true, true, true, true, true, true, true, true, true, true, false, true, false, false, false, false, false, false, false, false, false, false] rfl rfl (take_ofW HT_.out HW_.out (by kernel_rfl)) (fun _ _ _ h => h) (Or.inl ⟨by rfl, ?_⟩) hHeld ?_ ?_
      rotate_left
      ·
       rintro w' ⟨s0, s1, s2, s3, s4, s5, s6, s7, s8, s9, s10, s11, s12, s13⟩
       go_simp
       with_reducible rfl
      rotate_left
      ·
       simp only [Act.put, List.setIfInBounds_toArray, List.set_cons_zero, List.set_cons_succ, i64_w, i32_w]
       rfl
      refine take_ (i := 29) (N := some 81) (v := ?_) (a' := ?_) #[true, true, true, true, true, true, true, true, true, true, true, true, true, true, true, true, true, true, true, true, true, true, true, true, true, true, true, true, true, true, true, false, false, false, false, false, false, false, false, false, false] rfl rfl (take_ofW HT_.out HW_.out (by kernel_rfl)) (fun _ _ _ h => h) (Or.inl ⟨by rfl, ?_⟩) hHeld ?_ ?_
      rotate_left
      ·
       rintro w' ⟨s0, s1, s2, s3, s4, s5, s6, s7, s8, s9, s10, s11, s12, s13⟩
       go_simp
       with_reducible rfl
      rotate_left
      ·
       simp only [Act.put, List.setIfInBounds_toArray, List.set_cons_zero, List.set_cons_succ, i64_w, i32_w]
       rfl
      refine pure_ (i := 31) (N := some 83) (v := ?_) (a' := ?_) #[true, true, true, true, true, true, true, true, true, true, true, true, true, true, true, true, true, true, true, true, true, true, true, true, true, true, true, true, true, true, true, true, false, false, false, false, false, false, false, false, false] rfl rfl (any_of HT_.out (by kernel_rfl)) (fun _ _ _ h => h) (Or.inl ⟨by rfl, ?_⟩) ?_ ?_
      rotate_left
      ·
       intro w'
       go_simp
       with_reducible rfl
      rotate_left
      ·
       simp only [Act.put, List.setIfInBounds_toArray, List.set_cons_zero, List.set_cons_succ, i64_w, i32_w]
       rfl
      refine pure_ (i := 32) (N := some 84) (v := ?_) (a' := ?_) #[true, true, true, true, true, true, true, true, true, true, true, true, true, true, true, true, true, true, true, true, true, true, true, true, true, true, true, true, true, true, true, true, true, false, false, false, false, false, false, false, false] rfl rfl (any_of HT_.out (by kernel_rfl)) (fun _ _ _ h => h) (Or.inl ⟨by rfl, ?_⟩) ?_ ?_
      rotate_left
      ·
       intro w'
       go_simp
       with_reducible rfl
      rotate_left
      ·
       simp only [Act.put, List.setIfInBounds_toArray, List.set_cons_zero, List.set_cons_succ, i64_w, i32_w]
       rfl
      refine take_ (i := 33) (N := some 85) (v := ?_) (a' := ?_) #[true, true, true, true, true, true, true, true, true, true, true, true, true, true, true, true, true, true, true, true, true, true, true, true, true, true, true, true, true, true, true, true, true, true, false, false, false, false, false, false, false] rfl rfl (take_ofW HT_.out HW_.out (by kernel_rfl)) (fun _ _ _ h => h) (Or.inl ⟨by rfl, ?_⟩) hHeld ?_ ?_
      rotate_left
      ·
       rintro w' ⟨s0, s1, s2, s3, s4, s5, s6, s7, s8, s9, s10, s11, s12, s13⟩
       go_simp
       with_reducible rfl
      rotate_left
      ·
       simp only [Act.put, List.setIfInBounds_toArray, List.set_cons_zero, List.set_cons_succ, i64_w, i32_w]
       rfl
      refine one_ (i := 34) (N := some 86) #[true, true, true, true, true, true, true, true, true, true, true, true, true, true, true, true, true, true, true, true, true, true, true, true, true, true, true, true, true, true, true, true, true, true, true, false, false, false, false, false, false] rfl rfl (one_of HT_.out (by kernel_rfl)) (by decide) (fun K hK => ?_)
      refine goes_ Tryd.func25 (by kernel_rfl) rfl #[.agg #[.int .i64 t705, .slice (some ad729) t706.length co11], .slice Ao34 t721.length co34, .int .i64 ((rd_T52 t706 x6_1).f0), .int .i64 ((rd_T52 t706 x6_1).f1)] (by rfl) rfl rfl mP ?_
      with_reducible refine (impl_SameIsland.calls kj17 t705 _ _ t706 _ _ t721 ((rd_T52 t706 x6_1).f0) ((rd_T52 t706 x6_1).f1) true _ ?side1 ?side2 ?side3 ?side4 A29.out).mono ?_
      (case side1 => exact gC ((Kd.R_reads' HO_713001.out).2.2))
      (case side2 => exact (Kd.R_reads' HO_713001.out).2.1)
      (case side3 => exact gC ((Kd.R_reads' HO723.out).2.2))
      (case side4 => exact (Kd.R_reads' HO723.out).2.1)
      rintro e w40 ⟨rfl, hb⟩
      have HS2_ := (hb.cell (World.block_lt_of_cell? _ _ (hHeld.2.2.1))).trans (hHeld.2.2.1)
      have HS3_ := (hb.cell (World.block_lt_of_cell? _ _ (hHeld.2.2.2.1))).trans (hHeld.2.2.2.1)
      have HS4_ := (hb.cell (World.block_lt_of_cell? _ _ (hHeld.2.2.2.2.1))).trans (hHeld.2.2.2.2.1)
      have HS5_ := (hb.cell (World.block_lt_of_cell? _ _ (hHeld.2.2.2.2.2.1))).trans (hHeld.2.2.2.2.2.1)
      have HS6_ := (hb.cell (World.block_lt_of_cell? _ _ (hHeld.2.2.2.2.2.2.1))).trans (hHeld.2.2.2.2.2.2.1)
      have HS7_ := (hb.cell (World.block_lt_of_cell? _ _ (hHeld.2.2.2.2.2.2.2.1))).trans (hHeld.2.2.2.2.2.2.2.1)
      have HS8_ := (hb.cell (World.block_lt_of_cell? _ _ (hHeld.2.2.2.2.2.2.2.2.1))).trans (hHeld.2.2.2.2.2.2.2.2.1)
      have HS9_ := (hb.cell (World.block_lt_of_cell? _ _ (hHeld.2.2.2.2.2.2.2.2.2.1))).trans (hHeld.2.2.2.2.2.2.2.2.2.1)
      have HS10_ := (hb.cell (World.block_lt_of_cell? _ _ (hHeld.2.2.2.2.2.2.2.2.2.2.1))).trans (hHeld.2.2.2.2.2.2.2.2.2.2.1)
      have HS11_ := (hb.cell (World.block_lt_of_cell? _ _ (hHeld.2.2.2.2.2.2.2.2.2.2.2.1))).trans (hHeld.2.2.2.2.2.2.2.2.2.2.2.1)
      have HS12_ := (hb.cell (World.block_lt_of_cell? _ _ (hHeld.2.2.2.2.2.2.2.2.2.2.2.2.1))).trans (hHeld.2.2.2.2.2.2.2.2.2.2.2.2.1)
      have HS13_ := (hb.cell (World.block_lt_of_cell? _ _ (hHeld.2.2.2.2.2.2.2.2.2.2.2.2.2))).trans (hHeld.2.2.2.2.2.2.2.2.2.2.2.2.2)
      refine ⟨_, rfl, ?_⟩
      have n0_ := Aside0.mk (Kd.R_below (gR (HO_4.out)) hb)
      have n1_ := Aside0.mk (Kd.R_below (gR (HO_5.out)) hb)
      have n2_ := Aside0.mk (Kd.R_below (gR (HO_713001.out)) hb)
      have n3_ := Aside0.mk (Kd.R_below (gR (HO723.out)) hb)
      have n4_ := Aside0.mk (Kd.R_below (gR (HO726.out)) hb)
      have n5_ := Aside0.mk (blk_below (g := gb712) (o := .cells #[.int .i64 t705, .slice (some ad729) t706.length co11] 39 (0, 0)) (gB (BK712.out)) hb)
      have n6_ := Aside0.mk (below_step (bl1 HB GE712) hb)
      clear HO_4
      clear HO_5
      clear HO_713001
      clear HO723
      clear HO726
      clear BK712
      clear HB
      have HO_4 := n0_
      have HO_5 := n1_
      have HO_713001 := n2_
      have HO723 := n3_
      have HO726 := n4_
      have BK712 := n5_
      have HB := n6_
      clear n0_ n1_ n2_ n3_ n4_ n5_ n6_
      (try clear hb)
      (try clear hb2)
      (try clear hk)
      (try clear hi)
      refine hK.out _ _ ⟨(blk_cell BK712.out 0).trans rfl, (blk_cell BK712.out 1).trans rfl, HS2_, HS3_, HS4_, HS5_, HS6_, HS7_, HS8_, HS9_, HS10_, HS11_, HS12_, HS13_⟩ (fun hHeld => ?_)
      clear hK K
      refine norm_ (a' := ?_) ?_ ?_
      rotate_left
      ·
       show Act.put _ (some 86) _ = _
       simp only [Act.put, List.setIfInBounds_toArray, List.set_cons_zero, List.set_cons_succ, i64_w, i32_w]
       rfl
      refine pure_ (i := 35) (N := some 87) (v := ?_) (a' := ?_) #[true, true, true, true, true, true, true, true, true, true, true, true, true, true, true, true, true, true, true, true, true, true, true, true, true, true, true, true, true, true, true, true, true, true, true, true, false, false, false, false, false] rfl rfl (any_of HT_.out (by kernel_rfl)) (fun _ _ _ h => h) (Or.inl ⟨by rfl, ?_⟩) ?_ ?_
      rotate_left
      ·
       intro w'
       go_simp
       with_reducible rfl
      rotate_left
      ·
       simp only [Act.put, List.setIfInBounds_toArray, List.set_cons_zero, List.set_cons_succ, i64_w, i32_w]
       rfl
      refine pure_ (i := 36) (N := some 88) (v := ?_) (a' := ?_) #[true, true, true, true, true, true, true, true, true, true, true, true, true, true, true, true, true, true, true, true, true, true, true, true, true, true, true, true, true, true, true, true, true, true, true, true, true, false, false, false, false] rfl rfl (any_of HT_.out (by kernel_rfl)) (fun _ _ _ h => h) (Or.inl ⟨by rfl, ?_⟩) ?_ ?_
      rotate_left
      ·
       intro w'
       go_simp
       with_reducible rfl
      rotate_left
      ·
       simp only [Act.put, List.setIfInBounds_toArray, List.set_cons_zero, List.set_cons_succ, i64_w, i32_w]
       rfl
      refine pure_ (i := 37) (N := some 89) (v := undef) (a' := ?_) #[true, true, true, true, true, true, true, true, true, true, true, true, true, true, true, true, true, true, true, true, true, true, true, true, true, true, true, true, true, true, true, true, true, true, true, true, true, true, false, false, false] rfl rfl (any_of HT_.out (by kernel_rfl)) (fun _ _ _ h => h) (Or.inr ⟨by rfl, rfl⟩) ?_ ?_
      rotate_left
      ·
       simp only [Act.put, List.setIfInBounds_toArray, List.set_cons_zero, List.set_cons_succ, i64_w, i32_w]
       rfl
      refine pure_ (i := 38) (N := some 90) (v := undef) (a' := ?_) #[true, true, true, true, true, true, true, true, true, true, true, true, true, true, true, true, true, true, true, true, true, true, true, true, true, true, true, true, true, true, true, true, true, true, true, true, true, true, true, false, false] rfl rfl (any_of HT_.out (by kernel_rfl)) (fun _ _ _ h => h) (Or.inr ⟨by rfl, rfl⟩) ?_ ?_
      rotate_left
      ·
       simp only [Act.put, List.setIfInBounds_toArray, List.set_cons_zero, List.set_cons_succ, i64_w, i32_w]
       rfl
      refine pure_ (i := 39) (N := some 91) (v := ?_) (a' := ?_) #[true, true, true, true, true, true, true, true, true, true, true, true, true, true, true, true, true, true, true, true, true, true, true, true, true, true, true, true, true, true, true, true, true, true, true, true, true, true, true, true, false] rfl rfl (any_of HT_.out (by kernel_rfl)) (fun _ _ _ h => h) (Or.inl ⟨by rfl, ?_⟩) ?_ ?_
      rotate_left
      ·
       intro w'
       go_simp
       with_reducible rfl
      rotate_left
      ·
       simp only [Act.put, List.setIfInBounds_toArray, List.set_cons_zero, List.set_cons_succ, i64_w, i32_w]
       rfl
      refine pure_ (i := 40) (N := some 92) (v := ?_) (a' := ?_) #[true, true, true, true, true, true, true, true, true, true, true, true, true, true, true, true, true, true, true, true, true, true, true, true, true, true, true, true, true, true, true, true, true, true, true, true, true, true, true, true, true] rfl rfl (any_of HT_.out (by kernel_rfl)) (fun _ _ _ h => h) (Or.inl ⟨by rfl, ?_⟩) ?_ ?_
      rotate_left
      ·
       intro w'
       go_simp
       with_reducible rfl
      rotate_left
      ·
       simp only [Act.put, List.setIfInBounds_toArray, List.set_cons_zero, List.set_cons_succ, i64_w, i32_w]
       rfl
      refine done_ (done_of HT_.out (by kernel_rfl)) ?_
      try go_wp2
      go_roundg kj17
      case measure => have := HK1.out; have := HJ17.out; omega
      case rel => exact ⟨(wrap64 (x6_1 + 1)), fS, H', ⟨by have := HK1.out; have := HJ17.out; omega⟩, ⟨by (with_reducible repeat (first | apply Kd.R_alloc | apply Kd.R_drewN | apply Kd.R_drew)); exact Kd.R_mono HO_4.out (fun _ hk => trivial)⟩, ⟨gR (HO_5.out)⟩, ⟨gR (HO_713001.out)⟩, ⟨gB (BK712.out)⟩, ⟨bl1 HB GE712⟩⟩
     replace c30 := Bool.eq_false_iff.mpr c30
     subst c30
     have H1 : (if (wrap64 (t727 - t728)) = 1 then (laws_FnIslandNumbers.l0 kj17 t709 t713 (wrap64 (x6_1 + 1)) t705 t706) else (none)) = some r := by rw [if_neg (show ¬ (false = true) by decide)] at H; exact H
     clear H
     have H := H1
     clear H1
     by_cases c41 : (wrap64 (t727 - t728)) = 1
     rotate_left
     ·
      rw [if_neg c41] at H
      exact absurd H (by simp)
     rw [if_pos c41] at H
     have c41b0 : ((wrap64 (t727 - t728)) == 1) = true := beq_iff_eq.mpr c41
     have c41b1 : ((wrap64 (t727 - t728)) != 1) = false := bne_eq_false_iff_eq.mpr c41
     clear c41
     have H' := Aside0.mk H
     clear H
     have hcz42_0 : wc.cell? ⟨gb712, 0, none⟩ = some (.int .i64 t705) := (blk_cell BK712.out 0).trans rfl
     have hcz42_1 : wc.cell? ⟨gb712, 1, none⟩ = some (.slice Ao11 t706.length co11) := (blk_cell BK712.out 1).trans rfl
     have hfz42_0 := blk_frozen BK712.out 0
     have hfz42_1 := blk_frozen BK712.out 1
     try go_wp2_with (first | ((with_reducible refine gate_callee (f := 38) rfl ?_); refine goesL_ (some 42) rfl rfl Tryd.func38 (by kernel_rfl) rfl #[.agg #[.int .i64 t705, .slice Ao11 t706.length co11], .slice Ao12 t709.length co12, .int .i64 x6_1] rfl mP ?_; (with_reducible refine (laws_offOn.calls kj17 t705 _ _ t706 _ _ t709 x6_1 t721 t724 _ ?side1 ?side2 ?side3 ?side4 A21.out).mono ?_); (case side1 => exact gC ((Kd.R_reads' HO_713001.out).2.2)); (case side2 => exact (Kd.R_reads' HO_713001.out).2.1); (case side3 => exact gC ((Kd.R_reads' HO_4.out).2.2)); (case side4 => exact (Kd.R_reads' HO_4.out).2.1); rintro e w43 ⟨v722, v725, rfl, ho0, ho1, hb⟩; refine ⟨_, rfl, ?_⟩; have n0_ := Aside0.mk (Kd.R_mono (Kd.R_told (Kd.R_told (Kd.R_old (gR (HO_4.out)) hb) (Kd.R_base ho0)) (Kd.R_base ho1)) (fun _ h_ => h_.1)); have n1_ := Aside0.mk (Kd.R_below (gR (HO_5.out)) hb); have n2_ := Aside0.mk (Kd.R_below (gR (HO_713001.out)) hb); have n3_ := Aside0.mk (Kd.R_lower (Kd.R_new' ho0 (Kd.R_lt (gR (HO_4.out)))) (below_size (bl1 HB GE712))); have n4_ := Aside0.mk (Kd.R_lower (Kd.R_new' ho1 (Kd.R_lt (gR (HO_4.out)))) (below_size (bl1 HB GE712))); have n5_ := Aside0.mk (blk_below (g := gb712) (o := .cells #[.int .i64 t705, .slice Ao11 t706.length co11] 39 (0, 0)) (gB (BK712.out)) hb); have n6_ := Aside0.mk (below_step (bl1 HB GE712) hb); clear HO_4; clear HO_5; clear HO_713001; clear BK712; clear HB; have HO_4 := n0_; have HO_5 := n1_; have HO_713001 := n2_; have HO723 := n3_; have HO726 := n4_; have BK712 := n5_; have HB := n6_; clear n0_ n1_ n2_ n3_ n4_ n5_ n6_; (try clear hb); (try clear hb2); (try clear hk); (try clear hi); (try clear ho0); (try clear ho1)))
     have n0_ := Aside0.mk (Kd.R_drew HO_4.out)
     have n1_ := Aside0.mk (Kd.R_drew HO_5.out)
     have n2_ := Aside0.mk (Kd.R_drew HO_713001.out)
     have n3_ := Aside0.mk (Kd.R_drew HO723.out)
     have n4_ := Aside0.mk (Kd.R_drew HO726.out)
     have n5_ := Aside0.mk (blk_drew BK712.out)
     have n6_ := Aside0.mk (below_drew1 HB.out)
     clear HO_4
     clear HO_5
     clear HO_713001
     clear HO723
     clear HO726
     clear BK712
     clear HB
     have HO_4 := n0_
     have HO_5 := n1_
     have HO_713001 := n2_
     have HO723 := n3_
     have HO726 := n4_
     have BK712 := n5_
     have HB := n6_
     clear n0_ n1_ n2_ n3_ n4_ n5_ n6_
     obtain ⟨Ao45, co45, eo45⟩ := Kd.R_slice HO723.out
     (first | subst eo45 | (injection eo45 with f1_ f2_ f3_; have f4_ := f1_.symm; have f5_ := f3_.symm; clear f1_ f2_ f3_; subst f4_; subst f5_))
     refine start_ (n := 8) (S := fun w' => w'.cell? ⟨gb712, 0, none⟩ = some (.int .i64 t705) ∧ w'.cell? ⟨gb712, 1, none⟩ = some (.slice Ao11 t706.length co11)) (ds := []) #[false, false, false, false, false, false, false, false] (by kernel_rfl) rfl rfl ⟨(blk_cell BK712.out 0).trans rfl, (blk_cell BK712.out 1).trans rfl⟩ (fun hHeld => ?_); refine with_tabW laws_FnIslandNumbers.tab11 laws_FnIslandNumbers.bits11 (fun HT_ HW_ => ?_)
     generalize w43.drew = w44 at HO_4 HO_5 HO_713001 HO723 HO726 BK712 HB hHeld ⊢
     refine pure_ (i := 1) (N := some 46) (v := ?_) (a' := ?_) #[false, true, false, false, false, false, false, false] rfl rfl (any_of HT_.out (by kernel_rfl)) (fun _ _ _ h => h) (Or.inl ⟨by rfl, ?_⟩) ?_ ?_
     rotate_left
     ·
      intro w'
      go_simp
      with_reducible rfl
     rotate_left
     ·
      simp only [Act.put, List.setIfInBounds_toArray, List.set_cons_zero, List.set_cons_succ, i64_w, i32_w]
      rfl
     refine pure_ (i := 4) (N := some 49) (v := ?_) (a' := ?_) #[false, true, false, false, true, false, false, false] rfl rfl (any_of HT_.out (by kernel_rfl)) (fun _ _ _ h => h) (Or.inl ⟨by rfl, ?_⟩) ?_ ?_
     rotate_left
     ·
      intro w'
      go_simp
      with_reducible rfl
     rotate_left
     ·
      simp only [Act.put, List.setIfInBounds_toArray, List.set_cons_zero, List.set_cons_succ, i64_w, i32_w]
      rfl
     refine take_ (i := 0) (N := some 45) (v := ?_) (a' := ?_) #[true, true, false, false, true, false, false, false] rfl rfl (take_ofW HT_.out HW_.out (by kernel_rfl)) (fun _ _ _ h => h) (Or.inl ⟨by rfl, ?_⟩) hHeld ?_ ?_
     rotate_left
     ·
      rintro w' ⟨s0, s1⟩
      go_simp
      with_reducible rfl
     rotate_left
     ·
      simp only [Act.put, List.setIfInBounds_toArray, List.set_cons_zero, List.set_cons_succ, i64_w, i32_w]
      rfl
     refine take_ (i := 3) (N := some 48) (v := ?_) (a' := ?_) #[true, true, false, true, true, false, false, false] rfl rfl (take_ofW HT_.out HW_.out (by kernel_rfl)) (fun _ _ _ h => h) (Or.inl ⟨by rfl, ?_⟩) hHeld ?_ ?_
     rotate_left
     ·
      rintro w' ⟨s0, s1⟩
      go_simp
      with_reducible rfl
     rotate_left
     ·
      simp only [Act.put, List.setIfInBounds_toArray, List.set_cons_zero, List.set_cons_succ, i64_w, i32_w]
      rfl
     refine one_ (i := 2) (N := some 47) #[true, true, true, true, true, false, false, false] rfl rfl (one_of HT_.out (by kernel_rfl)) (by decide) (fun K hK => ?_)
     refine goes_ Tryd.func39 (by kernel_rfl) rfl #[.agg #[.int .i64 t705, .slice Ao11 t706.length co11], .slice Ao45 t721.length co45] (by rfl) rfl rfl mP ?_
     with_reducible refine (laws_islands.calls kj17 t705 _ _ t706 _ _ t721 t727 _ ?side1 ?side2 ?side3 ?side4 A22.out).mono ?_
     (case side1 => exact gC ((Kd.R_reads' HO_713001.out).2.2))
     (case side2 => exact (Kd.R_reads' HO_713001.out).2.1)
     (case side3 => exact gC ((Kd.R_reads' HO723.out).2.2))
     (case side4 => exact (Kd.R_reads' HO723.out).2.1)
     rintro e w46 ⟨rfl, hb⟩
     refine ⟨_, rfl, ?_⟩
     have n0_ := Aside0.mk (Kd.R_below (gR (HO_4.out)) hb)
     have n1_ := Aside0.mk (Kd.R_below (gR (HO_5.out)) hb)
     have n2_ := Aside0.mk (Kd.R_below (gR (HO_713001.out)) hb)
     have n3_ := Aside0.mk (Kd.R_below (gR (HO723.out)) hb)
     have n4_ := Aside0.mk (Kd.R_below (gR (HO726.out)) hb)
     have n5_ := Aside0.mk (blk_below (g := gb712) (o := .cells #[.int .i64 t705, .slice Ao11 t706.length co11] 39 (0, 0)) (gB (BK712.out)) hb)
     have n6_ := Aside0.mk (below_step (bl1 HB GE712) hb)
     clear HO_4
     clear HO_5
     clear HO_713001
     clear HO723
     clear HO726
     clear BK712
     clear HB
     have HO_4 := n0_
     have HO_5 := n1_
     have HO_713001 := n2_
     have HO723 := n3_
     have HO726 := n4_
     have BK712 := n5_
     have HB := n6_
     clear n0_ n1_ n2_ n3_ n4_ n5_ n6_
     (try clear hb)
     (try clear hb2)
     (try clear hk)
     (try clear hi)
     obtain ⟨Ao47, co47, eo47⟩ := Kd.R_slice HO726.out
     (first | subst eo47 | (injection eo47 with f1_ f2_ f3_; have f4_ := f1_.symm; have f5_ := f3_.symm; clear f1_ f2_ f3_; subst f4_; subst f5_))
     refine hK.out _ _ ⟨(blk_cell BK712.out 0).trans rfl, (blk_cell BK712.out 1).trans rfl⟩ (fun hHeld => ?_)
     clear hK K
     refine norm_ (a' := ?_) ?_ ?_
     rotate_left
     ·
      show Act.put _ (some 47) _ = _
      simp only [Act.put, List.setIfInBounds_toArray, List.set_cons_zero, List.set_cons_succ, i64_w, i32_w]
      rfl
     refine one_ (i := 5) (N := some 50) #[true, true, true, true, true, true, false, false] rfl rfl (one_of HT_.out (by kernel_rfl)) (by decide) (fun K hK => ?_)
     refine goes_ Tryd.func39 (by kernel_rfl) rfl #[.agg #[.int .i64 t705, .slice Ao11 t706.length co11], .slice Ao47 t724.length co47] (by rfl) rfl rfl mP ?_
     with_reducible refine (laws_islands.calls kj17 t705 _ _ t706 _ _ t724 t728 _ ?side1 ?side2 ?side3 ?side4 A23.out).mono ?_
     (case side1 => exact gC ((Kd.R_reads' HO_713001.out).2.2))
     (case side2 => exact (Kd.R_reads' HO_713001.out).2.1)
     (case side3 => exact gC ((Kd.R_reads' HO726.out).2.2))
     (case side4 => exact (Kd.R_reads' HO726.out).2.1)
     rintro e w48 ⟨rfl, hb⟩
     refine ⟨_, rfl, ?_⟩
     have n0_ := Aside0.mk (Kd.R_below (gR (HO_4.out)) hb)
     have n1_ := Aside0.mk (Kd.R_below (gR (HO_5.out)) hb)
     have n2_ := Aside0.mk (Kd.R_below (gR (HO_713001.out)) hb)
     have n3_ := Aside0.mk (Kd.R_below (gR (HO723.out)) hb)
     have n4_ := Aside0.mk (Kd.R_below (gR (HO726.out)) hb)
     have n5_ := Aside0.mk (blk_below (g := gb712) (o := .cells #[.int .i64 t705, .slice Ao11 t706.length co11] 39 (0, 0)) (gB (BK712.out)) hb)
     have n6_ := Aside0.mk (below_step (bl1 HB GE712) hb)
     clear HO_4
     clear HO_5
     clear HO_713001
     clear HO723
     clear HO726
     clear BK712
     clear HB
     have HO_4 := n0_
     have HO_5 := n1_
     have HO_713001 := n2_
     have HO723 := n3_
     have HO726 := n4_
     have BK712 := n5_
     have HB := n6_
     clear n0_ n1_ n2_ n3_ n4_ n5_ n6_
     (try clear hb)
     (try clear hb2)
     (try clear hk)
     (try clear hi)
     refine hK.out _ _ ⟨(blk_cell BK712.out 0).trans rfl, (blk_cell BK712.out 1).trans rfl⟩ (fun hHeld => ?_)
     clear hK K
     refine norm_ (a' := ?_) ?_ ?_
     rotate_left
     ·
      show Act.put _ (some 50) _ = _
      simp only [Act.put, List.setIfInBounds_toArray, List.set_cons_zero, List.set_cons_succ, i64_w, i32_w]
      rfl
     refine pure_ (i := 6) (N := some 51) (v := ?_) (a' := ?_) #[true, true, true, true, true, true, true, false] rfl rfl (any_of HT_.out (by kernel_rfl)) (fun _ _ _ h => h) (Or.inl ⟨by rfl, ?_⟩) ?_ ?_
     rotate_left
     ·
      intro w'
      go_simp
      with_reducible rfl
     rotate_left
     ·
      simp only [Act.put, List.setIfInBounds_toArray, List.set_cons_zero, List.set_cons_succ, i64_w, i32_w]
      rfl
     refine pure_ (i := 7) (N := some 9) (v := ?_) (a' := ?_) #[true, true, true, true, true, true, true, true] rfl rfl (any_of HT_.out (by kernel_rfl)) (fun _ _ _ h => h) (Or.inl ⟨by rfl, ?_⟩) ?_ ?_
     rotate_left
     ·
      intro w'
      go_simp
      with_reducible rfl
     rotate_left
     ·
      simp only [Act.put, List.setIfInBounds_toArray, List.set_cons_zero, List.set_cons_succ, i64_w, i32_w]
      rfl
     refine done_ (done_of HT_.out (by kernel_rfl)) ?_
     try go_wp2
     have n0_ := Aside0.mk (Kd.R_drew HO_4.out)
     have n1_ := Aside0.mk (Kd.R_drew HO_5.out)
     have n2_ := Aside0.mk (Kd.R_drew HO_713001.out)
     have n3_ := Aside0.mk (Kd.R_drew HO723.out)
     have n4_ := Aside0.mk (Kd.R_drew HO726.out)
     have n5_ := Aside0.mk (blk_drew BK712.out)
     have n6_ := Aside0.mk (below_drew1 HB.out)
     clear HO_4
     clear HO_5
     clear HO_713001
     clear HO723
     clear HO726
     clear BK712
     clear HB
     have HO_4 := n0_
     have HO_5 := n1_
     have HO_713001 := n2_
     have HO723 := n3_
     have HO726 := n4_
     have BK712 := n5_
     have HB := n6_
     clear n0_ n1_ n2_ n3_ n4_ n5_ n6_
     have p729 : 0 ≤ (x6_1 : Int) := oD
     have q729 : x6_1 < (t706.length : Int) := oD
     obtain ⟨ad729, e729, hx729_0, hx729_1, hx729_2⟩ := at_T52 (Kd.R_reads' HO_713001.out).2.2 x6_1 p729 q729
     cases e729
     replace p729 := eq_true p729
     replace q729 := eq_true q729
     have p730 : 0 ≤ (x6_1 : Int) := oD
     have q730 : x6_1 < (t706.length : Int) := oD
     obtain ⟨ad730, e730, hx730_0, hx730_1, hx730_2⟩ := at_T52 (Kd.R_reads' HO_713001.out).2.2 x6_1 p730 q730
     obtain rfl : ad729 = ad730 := (by injection e730)
     replace p730 := eq_true p730
     replace q730 := eq_true q730
     have p732 : 0 ≤ (x6_1 : Int) := oD
     have q732 : x6_1 < (t706.length : Int) := oD
     obtain ⟨ad732, e732, hx732_0, hx732_1, hx732_2⟩ := at_T52 (Kd.R_reads' HO_713001.out).2.2 x6_1 p732 q732
     obtain rfl : ad729 = ad732 := (by injection e732)
     replace p732 := eq_true p732
     replace q732 := eq_true q732
     have p733 : 0 ≤ (x6_1 : Int) := oD
     have q733 : x6_1 < (t706.length : Int) := oD
     obtain ⟨ad733, e733, hx733_0, hx733_1, hx733_2⟩ := at_T52 (Kd.R_reads' HO_713001.out).2.2 x6_1 p733 q733
     obtain rfl : ad729 = ad733 := (by injection e733)
     replace p733 := eq_true p733
     replace q733 := eq_true q733
     refine start_ (n := 41) (S := fun w' => w'.cell? ⟨gb712, 0, none⟩ = some (.int .i64 t705) ∧ w'.cell? ⟨gb712, 1, none⟩ = some (.slice (some ad729) t706.length co11) ∧ w'.cell? (ad729.add ((x6_1).toNat * 3)) = some (.int .i64 ((rd_T52 t706 x6_1).f0)) ∧ w'.cell? ⟨(ad729.add ((x6_1).toNat * 3)).block, (ad729.add ((x6_1).toNat * 3)).off + 1, none⟩ = some (.int .i64 ((rd_T52 t706 x6_1).f1)) ∧ w'.cell? ⟨(ad729.add ((x6_1).toNat * 3)).block, (ad729.add ((x6_1).toNat * 3)).off + 2, none⟩ = some (.int .i64 ((rd_T52 t706 x6_1).f2)) ∧ w'.cell? (ad729.add ((x6_1).toNat * 3)) = some (.int .i64 ((rd_T52 t706 x6_1).f0)) ∧ w'.cell? ⟨(ad729.add ((x6_1).toNat * 3)).block, (ad729.add ((x6_1).toNat * 3)).off + 1, none⟩ = some (.int .i64 ((rd_T52 t706 x6_1).f1)) ∧ w'.cell? ⟨(ad729.add ((x6_1).toNat * 3)).block, (ad729.add ((x6_1).toNat * 3)).off + 2, none⟩ = some (.int .i64 ((rd_T52 t706 x6_1).f2)) ∧ w'.cell? (ad729.add ((x6_1).toNat * 3)) = some (.int .i64 ((rd_T52 t706 x6_1).f0)) ∧ w'.cell? ⟨(ad729.add ((x6_1).toNat * 3)).block, (ad729.add ((x6_1).toNat * 3)).off + 1, none⟩ = some (.int .i64 ((rd_T52 t706 x6_1).f1)) ∧ w'.cell? ⟨(ad729.add ((x6_1).toNat * 3)).block, (ad729.add ((x6_1).toNat * 3)).off + 2, none⟩ = some (.int .i64 ((rd_T52 t706 x6_1).f2)) ∧ w'.cell? (ad729.add ((x6_1).toNat * 3)) = some (.int .i64 ((rd_T52 t706 x6_1).f0)) ∧ w'.cell? ⟨(ad729.add ((x6_1).toNat * 3)).block, (ad729.add ((x6_1).toNat * 3)).off + 1, none⟩ = some (.int .i64 ((rd_T52 t706 x6_1).f1)) ∧ w'.cell? ⟨(ad729.add ((x6_1).toNat * 3)).block, (ad729.add ((x6_1).toNat * 3)).off + 2, none⟩ = some (.int .i64 ((rd_T52 t706 x6_1).f2))) (ds := []) #[false, false, false, false, false, false, false, false, false, false, false, false, false, false, false, false, false, false, false, false, false, false, false, false, false, false, false, false, false, false, false, false, false, false, false, false, false, false, false, false, false] (by kernel_rfl) rfl rfl ⟨(blk_cell BK712.out 0).trans rfl, (blk_cell BK712.out 1).trans rfl, hx729_0, hx729_1, hx729_2, hx730_0, hx730_1, hx730_2, hx732_0, hx732_1, hx732_2, hx733_0, hx733_1, hx733_2⟩ (fun hHeld => ?_); refine with_tabW laws_FnIslandNumbers.tab12 laws_FnIslandNumbers.bits12 (fun HT_ HW_ => ?_)
     generalize w48.drew = w49 at HO_4 HO_5 HO_713001 HO723 HO726 BK712 HB hx729_0 hx729_1 hx729_2 hx730_0 hx730_1 hx730_2 hx732_0 hx732_1 hx732_2 hx733_0 hx733_1 hx733_2 hHeld ⊢
     refine pure_ (i := 1) (N := some 53) (v := ?_) (a' := ?_) #[false, true, false, false, false, false, false, false, false, false, false, false, false, false, false, false, false, false, false, false, false, false, false, false, false, false, false, false, false, false, false, false, false, false, false, false, false, false, false, false, false] rfl rfl (any_of HT_.out (by kernel_rfl)) (fun _ _ _ h => h) (Or.inl ⟨by rfl, ?_⟩) ?_ ?_
     rotate_left
     ·
      intro w'
      go_simp
      with_reducible rfl
     rotate_left
     ·
      simp only [Act.put, List.setIfInBounds_toArray, List.set_cons_zero, List.set_cons_succ, i64_w, i32_w]
      rfl
     refine pure_ (i := 2) (N := some 54) (v := ?_) (a' := ?_) #[false, true, true, false, false, false, false, false, false, false, false, false, false, false, false, false, false, false, false, false, false, false, false, false, false, false, false, false, false, false, false, false, false, false, false, false, false, false, false, false, false] rfl rfl (any_of HT_.out (by kernel_rfl)) (fun _ _ _ h => h) (Or.inl ⟨by rfl, ?_⟩) ?_ ?_
     rotate_left
     ·
      intro w'
      go_simp
      with_reducible rfl
     rotate_left
     ·
      simp only [Act.put, List.setIfInBounds_toArray, List.set_cons_zero, List.set_cons_succ, i64_w, i32_w]
      rfl
     refine pure_ (i := 4) (N := some 56) (v := ?_) (a' := ?_) #[false, true, true, false, true, false, false, false, false, false, false, false, false, false, false, false, false, false, false, false, false, false, false, false, false, false, false, false, false, false, false, false, false, false, false, false, false, false, false, false, false] rfl rfl (any_of HT_.out (by kernel_rfl)) (fun _ _ _ h => h) (Or.inl ⟨by rfl, ?_⟩) ?_ ?_
     rotate_left
     ·
      intro w'
      go_simp
      with_reducible rfl
     rotate_left
     ·
      simp only [Act.put, List.setIfInBounds_toArray, List.set_cons_zero, List.set_cons_succ, i64_w, i32_w]
      rfl
     refine pure_ (i := 8) (N := some 60) (v := ?_) (a' := ?_) #[false, true, true, false, true, false, false, false, true, false, false, false, false, false, false, false, false, false, false, false, false, false, false, false, false, false, false, false, false, false, false, false, false, false, false, false, false, false, false, false, false] rfl rfl (any_of HT_.out (by kernel_rfl)) (fun _ _ _ h => h) (Or.inl ⟨by rfl, ?_⟩) ?_ ?_
     rotate_left
     ·
      intro w'
      go_simp
      with_reducible rfl
     rotate_left
     ·
      simp only [Act.put, List.setIfInBounds_toArray, List.set_cons_zero, List.set_cons_succ, i64_w, i32_w]
      rfl
     refine pure_ (i := 10) (N := some 62) (v := ?_) (a' := ?_) #[false, true, true, false, true, false, false, false, true, false, true, false, false, false, false, false, false, false, false, false, false, false, false, false, false, false, false, false, false, false, false, false, false, false, false, false, false, false, false, false, false] rfl rfl (any_of HT_.out (by kernel_rfl)) (fun _ _ _ h => h) (Or.inl ⟨by rfl, ?_⟩) ?_ ?_
     rotate_left
     ·
      intro w'
      go_simp
      with_reducible rfl
     rotate_left
     ·
      simp only [Act.put, List.setIfInBounds_toArray, List.set_cons_zero, List.set_cons_succ, i64_w, i32_w]
      rfl
     refine take_ (i := 0) (N := some 52) (v := ?_) (a' := ?_) #[true, true, true, false, true, false, false, false, true, false, true, false, false, false, false, false, false, false, false, false, false, false, false, false, false, false, false, false, false, false, false, false, false, false, false, false, false, false, false, false, false] rfl rfl (take_ofW HT_.out HW_.out (by kernel_rfl)) (fun _ _ _ h => h) (Or.inl ⟨by rfl, ?_⟩) hHeld ?_ ?_
     rotate_left
     ·
      rintro w' ⟨s0, s1, s2, s3, s4, s5, s6, s7, s8, s9, s10, s11, s12, s13⟩
      go_simp
      with_reducible rfl
     rotate_left
     ·
      simp only [Act.put, List.setIfInBounds_toArray, List.set_cons_zero, List.set_cons_succ, i64_w, i32_w]
      rfl
     refine take_ (i := 3) (N := some 55) (v := ?_) (a' := ?_) #[true, true, true, true, true, false, false, false, true, false, true, false, false, false, false, false, false, false, false, false, false, false, false, false, false, false, false, false, false, false, false, false, false, false, false, false, false, false, false, false, false] rfl rfl (take_ofW HT_.out HW_.out (by kernel_rfl)) (fun _ _ _ h => h) (Or.inl ⟨by rfl, ?_⟩) hHeld ?_ ?_
     rotate_left
     ·
      rintro w' ⟨s0, s1, s2, s3, s4, s5, s6, s7, s8, s9, s10, s11, s12, s13⟩
      go_simp
      with_reducible rfl
     rotate_left
     ·
      simp only [Act.put, List.setIfInBounds_toArray, List.set_cons_zero, List.set_cons_succ, i64_w, i32_w]
      rfl
     refine pure_ (i := 5) (N := some 57) (v := ?_) (a' := ?_) #[true, true, true, true, true, true, false, false, true, false, true, false, false, false, false, false, false, false, false, false, false, false, false, false, false, false, false, false, false, false, false, false, false, false, false, false, false, false, false, false, false] rfl rfl (any_of HT_.out (by kernel_rfl)) (fun _ _ _ h => h) (Or.inl ⟨by rfl, ?_⟩) ?_ ?_
     rotate_left
     ·
      intro w'
      go_simp
      with_reducible rfl
     rotate_left
     ·
      simp only [Act.put, List.setIfInBounds_toArray, List.set_cons_zero, List.set_cons_succ, i64_w, i32_w]
      rfl
     refine pure_ (i := 6) (N := some 58) (v := ?_) (a' := ?_) #[true, true, true, true, true, true, true, false, true, false, true, false, false, false, false, false, false, false, false, false, false, false, false, false, false, false, false, false, false, false, false, false, false, false, false, false, false, false, false, false, false] rfl rfl (any_of HT_.out (by kernel_rfl)) (fun _ _ _ h => h) (Or.inl ⟨by rfl, ?_⟩) ?_ ?_
     rotate_left
     ·
      intro w'
      go_simp
      with_reducible rfl
     rotate_left
     ·
      simp only [Act.put, List.setIfInBounds_toArray, List.set_cons_zero, List.set_cons_succ, i64_w, i32_w]
      rfl
     refine take_ (i := 7) (N := some 59) (v := ?_) (a' := ?_) #[true, true, true, true, true, true, true, true, true, false, true, false, false, false, false, false, false, false, false, false, false, false, false, false, false, false, false, false, false, false, false, false, false, false, false, false, false, false, false, false, false] rfl rfl (take_ofW HT_.out HW_.out (by kernel_rfl)) (fun _ _ _ h => h) (Or.inl ⟨by rfl, ?_⟩) hHeld ?_ ?_
     rotate_left
     ·
      rintro w' ⟨s0, s1, s2, s3, s4, s5, s6, s7, s8, s9, s10, s11, s12, s13⟩
      go_simp
      with_reducible rfl
     rotate_left
     ·
      simp only [Act.put, List.setIfInBounds_toArray, List.set_cons_zero, List.set_cons_succ, i64_w, i32_w]
      rfl
     refine take_ (i := 9) (N := some 61) (v := ?_) (a' := ?_) #[true, true, true, true, true, true, true, true, true, true, true, false, false, false, false, false, false, false, false, false, false, false, false, false, false, false, false, false, false, false, false, false, false, false, false, false, false, false, false, false, false] rfl rfl (take_ofW HT_.out HW_.out (by kernel_rfl)) (fun _ _ _ h => h) (Or.inl ⟨by rfl, ?_⟩) hHeld ?_ ?_
     rotate_left
     ·
      rintro w' ⟨s0, s1, s2, s3, s4, s5, s6, s7, s8, s9, s10, s11, s12, s13⟩
      go_simp
      with_reducible rfl
     rotate_left
     ·
      simp only [Act.put, List.setIfInBounds_toArray, List.set_cons_zero, List.set_cons_succ, i64_w, i32_w]
      rfl
     refine pure_ (i := 11) (N := some 63) (v := ?_) (a' := ?_) #[true, true, true, true, true, true, true, true, true, true, true, true, false, false, false, false, false, false, false, false, false, false, false, false, false, false, false, false, false, false, false, false, false, false, false, false, false, false, false, false, false] rfl rfl (any_of HT_.out (by kernel_rfl)) (fun _ _ _ h => h) (Or.inl ⟨by rfl, ?_⟩) ?_ ?_
     rotate_left
     ·
      intro w'
      go_simp
      with_reducible rfl
     rotate_left
     ·
      simp only [Act.put, List.setIfInBounds_toArray, List.set_cons_zero, List.set_cons_succ, i64_w, i32_w]
      rfl
     refine pure_ (i := 12) (N := some 64) (v := ?_) (a' := ?_) #[true, true, true, true, true, true, true, true, true, true, true, true, true, false, false, false, false, false, false, false, false, false, false, false, false, false, false, false, false, false, false, false, false, false, false, false, false, false, false, false, false] rfl rfl (any_of HT_.out (by kernel_rfl)) (fun _ _ _ h => h) (Or.inl ⟨by rfl, ?_⟩) ?_ ?_
     rotate_left
     ·
      intro w'
      go_simp
      with_reducible rfl
     rotate_left
     ·
      simp only [Act.put, List.setIfInBounds_toArray, List.set_cons_zero, List.set_cons_succ, i64_w, i32_w]
      rfl
     refine take_ (i := 13) (N := some 65) (v := ?_) (a' := ?_) #[true, true, true, true, true, true, true, true, true, true, true, true, true, true, false, false, false, false, false, false, false, false, false, false, false, false, false, false, false, false, false, false, false, false, false, false, false, false, false, false, false] rfl rfl (take_ofW HT_.out HW_.out (by kernel_rfl)) (fun _ _ _ h => h) (Or.inl ⟨by rfl, ?_⟩) hHeld ?_ ?_
     rotate_left
     ·
      rintro w' ⟨s0, s1, s2, s3, s4, s5, s6, s7, s8, s9, s10, s11, s12, s13⟩
      go_simp
      with_reducible rfl
     rotate_left
     ·
      simp only [Act.put, List.setIfInBounds_toArray, List.set_cons_zero, List.set_cons_succ, i64_w, i32_w]
      rfl
     refine one_ (i := 14) (N := some 66) #[true, true, true, true, true, true, true, true, true, true, true, true, true, true, true, false, false, false, false, false, false, false, false, false, false, false, false, false, false, false, false, false, false, false, false, false, false, false, false, false, false] rfl rfl (one_of HT_.out (by kernel_rfl)) (by decide) (fun K hK => ?_)
     refine goes_ Tryd.func25 (by kernel_rfl) rfl #[.agg #[.int .i64 t705, .slice (some ad729) t706.length co11], .slice Ao45 t721.length co45, .int .i64 ((rd_T52 t706 x6_1).f0), .int .i64 ((rd_T52 t706 x6_1).f1)] (by rfl) rfl rfl mP ?_
     with_reducible refine (impl_SameIsland.calls kj17 t705 _ _ t706 _ _ t721 ((rd_T52 t706 x6_1).f0) ((rd_T52 t706 x6_1).f1) true _ ?side1 ?side2 ?side3 ?side4 A26.out).mono ?_
     (case side1 => exact gC ((Kd.R_reads' HO_713001.out).2.2))
     (case side2 => exact (Kd.R_reads' HO_713001.out).2.1)
     (case side3 => exact gC ((Kd.R_reads' HO723.out).2.2))
     (case side4 => exact (Kd.R_reads' HO723.out).2.1)
     rintro e w50 ⟨rfl, hb⟩
     have HS2_ := (hb.cell (World.block_lt_of_cell? _ _ (hHeld.2.2.1))).trans (hHeld.2.2.1)
     have HS3_ := (hb.cell (World.block_lt_of_cell? _ _ (hHeld.2.2.2.1))).trans (hHeld.2.2.2.1)
     have HS4_ := (hb.cell (World.block_lt_of_cell? _ _ (hHeld.2.2.2.2.1))).trans (hHeld.2.2.2.2.1)
     have HS5_ := (hb.cell (World.block_lt_of_cell? _ _ (hHeld.2.2.2.2.2.1))).trans (hHeld.2.2.2.2.2.1)
     have HS6_ := (hb.cell (World.block_lt_of_cell? _ _ (hHeld.2.2.2.2.2.2.1))).trans (hHeld.2.2.2.2.2.2.1)
     have HS7_ := (hb.cell (World.block_lt_of_cell? _ _ (hHeld.2.2.2.2.2.2.2.1))).trans (hHeld.2.2.2.2.2.2.2.1)
     have HS8_ := (hb.cell (World.block_lt_of_cell? _ _ (hHeld.2.2.2.2.2.2.2.2.1))).trans (hHeld.2.2.2.2.2.2.2.2.1)
     have HS9_ := (hb.cell (World.block_lt_of_cell? _ _ (hHeld.2.2.2.2.2.2.2.2.2.1))).trans (hHeld.2.2.2.2.2.2.2.2.2.1)
     have HS10_ := (hb.cell (World.block_lt_of_cell? _ _ (hHeld.2.2.2.2.2.2.2.2.2.2.1))).trans (hHeld.2.2.2.2.2.2.2.2.2.2.1)
     have HS11_ := (hb.cell (World.block_lt_of_cell? _ _ (hHeld.2.2.2.2.2.2.2.2.2.2.2.1))).trans (hHeld.2.2.2.2.2.2.2.2.2.2.2.1)
     have HS12_ := (hb.cell (World.block_lt_of_cell? _ _ (hHeld.2.2.2.2.2.2.2.2.2.2.2.2.1))).trans (hHeld.2.2.2.2.2.2.2.2.2.2.2.2.1)
     have HS13_ := (hb.cell (World.block_lt_of_cell? _ _ (hHeld.2.2.2.2.2.2.2.2.2.2.2.2.2))).trans (hHeld.2.2.2.2.2.2.2.2.2.2.2.2.2)
     refine ⟨_, rfl, ?_⟩
     have n0_ := Aside0.mk (Kd.R_below (gR (HO_4.out)) hb)
     have n1_ := Aside0.mk (Kd.R_below (gR (HO_5.out)) hb)
     have n2_ := Aside0.mk (Kd.R_below (gR (HO_713001.out)) hb)
     have n3_ := Aside0.mk (Kd.R_below (gR (HO723.out)) hb)
     have n4_ := Aside0.mk (Kd.R_below (gR (HO726.out)) hb)
     have n5_ := Aside0.mk (blk_below (g := gb712) (o := .cells #[.int .i64 t705, .slice (some ad729) t706.length co11] 39 (0, 0)) (gB (BK712.out)) hb)
     have n6_ := Aside0.mk (below_step (bl1 HB GE712) hb)
     clear HO_4
     clear HO_5
     clear HO_713001
     clear HO723
     clear HO726
     clear BK712
     clear HB
     have HO_4 := n0_
     have HO_5 := n1_
     have HO_713001 := n2_
     have HO723 := n3_
     have HO726 := n4_
     have BK712 := n5_
     have HB := n6_
     clear n0_ n1_ n2_ n3_ n4_ n5_ n6_
     (try clear hb)
     (try clear hb2)
     (try clear hk)
     (try clear hi)
     refine hK.out _ _ ⟨(blk_cell BK712.out 0).trans rfl, (blk_cell BK712.out 1).trans rfl, HS2_, HS3_, HS4_, HS5_, HS6_, HS7_, HS8_, HS9_, HS10_, HS11_, HS12_, HS13_⟩ (fun hHeld => ?_)
     clear hK K
     refine norm_ (a' := ?_) ?_ ?_
     rotate_left
     ·
      show Act.put _ (some 66) _ = _
      simp only [Act.put, List.setIfInBounds_toArray, List.set_cons_zero, List.set_cons_succ, i64_w, i32_w]
      rfl
     refine pure_ (i := 15) (N := some 67) (v := ?_) (a' := ?_) #[true, true, true, true, true, true, true, true, true, true, true, true, true, true, true, true, false, false, false, false, false, false, false, false, false, false, false, false, false, false, false, false, false, false, false, false, false, false, false, false, false] rfl rfl (any_of HT_.out (by kernel_rfl)) (fun _ _ _ h => h) (Or.inl ⟨by rfl, ?_⟩) ?_ ?_
     rotate_left
     ·
      intro w'
      go_simp
      with_reducible rfl
     rotate_left
     ·
      simp only [Act.put, List.setIfInBounds_toArray, List.set_cons_zero, List.set_cons_succ, i64_w, i32_w]
      rfl
     refine pure_ (i := 16) (N := some 68) (v := ?_) (a' := ?_) #[true, true, true, true, true, true, true, true, true, true, true, true, true, true, true, true, true, false, false, false, false, false, false, false, false, false, false, false, false, false, false, false, false, false, false, false, false, false, false, false, false] rfl rfl (any_of HT_.out (by kernel_rfl)) (fun _ _ _ h => h) (Or.inl ⟨by rfl, ?_⟩) ?_ ?_
     rotate_left
     ·
      intro w'
      go_simp
      with_reducible rfl
     rotate_left
     ·
      simp only [Act.put, List.setIfInBounds_toArray, List.set_cons_zero, List.set_cons_succ, i64_w, i32_w]
      rfl
     refine pure_ (i := 17) (N := some 69) (v := ?_) (a' := ?_) #[true, true, true, true, true, true, true, true, true, true, true, true, true, true, true, true, true, true, false, false, false, false, false, false, false, false, false, false, false, false, false, false, false, false, false, false, false, false, false, false, false] rfl rfl (any_of HT_.out (by kernel_rfl)) (fun _ _ _ h => h) (Or.inl ⟨by rfl, ?_⟩) ?_ ?_
     rotate_left
     ·
      intro w'
      go_simp
      with_reducible rfl
     rotate_left
     ·
      simp only [Act.put, List.setIfInBounds_toArray, List.set_cons_zero, List.set_cons_succ, i64_w, i32_w]
      rfl
     refine pure_ (i := 18) (N := some 70) (v := ?_) (a' := ?_) #[true, true, true, true, true, true, true, true, true, true, true, true, true, true, true, true, true, true, true, false, false, false, false, false, false, false, false, false, false, false, false, false, false, false, false, false, false, false, false, false, false] rfl rfl (any_of HT_.out (by kernel_rfl)) (fun _ _ _ h => h) (Or.inl ⟨by rfl, ?_⟩) ?_ ?_
     rotate_left
     ·
      intro w'
      go_simp
      with_reducible rfl
     rotate_left
     ·
      simp only [Act.put, List.setIfInBounds_toArray, List.set_cons_zero, List.set_cons_succ, i64_w, i32_w]
      rfl
     refine pure_ (i := 19) (N := some 71) (v := ?_) (a' := ?_) #[true, true, true, true, true, true, true, true, true, true, true, true, true, true, true, true, true, true, true, true, false, false, false, false, false, false, false, false, false, false, false, false, false, false, false, false, false, false, false, false, false] rfl rfl (any_of HT_.out (by kernel_rfl)) (fun _ _ _ h => h) (Or.inl ⟨by rfl, ?_⟩) ?_ ?_
     rotate_left
     ·
      intro w'
      go_simp
      with_reducible rfl
     rotate_left
     ·
      simp only [Act.put, List.setIfInBounds_toArray, List.set_cons_zero, List.set_cons_succ, i64_w, i32_w]
      rfl
     refine pure_ (i := 21) (N := some 73) (v := ?_) (a' := ?_) #[true, true, true, true, true, true, true, true, true, true, true, true, true, true, true, true, true, true, true, true, false, true, false, false, false, false, false, false, false, false, false, false, false, false, false, false, false, false, false, false, false] rfl rfl (any_of HT_.out (by kernel_rfl)) (fun _ _ _ h => h) (Or.inl ⟨by rfl, ?_⟩) ?_ ?_
     rotate_left
     ·
      intro w'
      go_simp
      with_reducible rfl
     rotate_left
     ·
      simp only [Act.put, List.setIfInBounds_toArray, List.set_cons_zero, List.set_cons_succ, i64_w, i32_w]
      rfl
     refine pure_ (i := 22) (N := some 74) (v := ?_) (a' := ?_) #[true, true, true, true, true, true, true, true, true, true, true, true, true, true, true, true, true, true, true, true, false, true, true, false, false, false, false, false, false, false, false, false, false, false, false, false, false, false, false, false, false] rfl rfl (any_of HT_.out (by kernel_rfl)) (fun _ _ _ h => h) (Or.inl ⟨by rfl, ?_⟩) ?_ ?_
     rotate_left
     ·
      intro w'
      go_simp
      with_reducible rfl
     rotate_left
     ·
      simp only [Act.put, List.setIfInBounds_toArray, List.set_cons_zero, List.set_cons_succ, i64_w, i32_w]
      rfl
     refine pure_ (i := 24) (N := some 76) (v := ?_) (a' := ?_) #[true, true, true, true, true, true, true, true, true, true, true, true, true, true, true, true, true, true, true, true, false, true, true, false, true, false, false, false, false, false, false, false, false, false, false, false, false, false, false, false, false] rfl rfl (any_of HT_.out (by kernel_rfl)) (fun _ _ _ h => h) (Or.inl ⟨by rfl, ?_⟩) ?_ ?_
     rotate_left
     ·
      intro w'
      go_simp
      with_reducible rfl
     rotate_left
     ·
      simp only [Act.put, List.setIfInBounds_toArray, List.set_cons_zero, List.set_cons_succ, i64_w, i32_w]
      rfl
     refine pure_ (i := 28) (N := some 80) (v := ?_) (a' := ?_) #[true, true, true, true, true, true, true, true, true, true, true, true, true, true, true, true, true, true, true, true, false, true, true, false, true, false, false, false, true, false, false, false, false, false, false, false, false, false, false, false, false] rfl rfl (any_of HT_.out (by kernel_rfl)) (fun _ _ _ h => h) (Or.inl ⟨by rfl, ?_⟩) ?_ ?_
     rotate_left
     ·
      intro w'
      go_simp
      with_reducible rfl
     rotate_left
     ·
      simp only [Act.put, List.setIfInBounds_toArray, List.set_cons_zero, List.set_cons_succ, i64_w, i32_w]
      rfl
     refine pure_ (i := 30) (N := some 82) (v := ?_) (a' := ?_) #[true, true, true, true, true, true, true, true, true, true, true, true, true, true, true, true, true, true, true, true, false, true, true, false, true, false, false, false, true, false, true, false, false, false, false, false, false, false, false, false, false] rfl rfl (any_of HT_.out (by kernel_rfl)) (fun _ _ _ h => h) (Or.inl ⟨by rfl, ?_⟩) ?_ ?_
     rotate_left
     ·
      intro w'
      go_simp
      with_reducible rfl
     rotate_left
     ·
      simp only [Act.put, List.setIfInBounds_toArray, List.set_cons_zero, List.set_cons_succ, i64_w, i32_w]
      rfl
     refine take_ (i := 20) (N := some 72) (v := ?_) (a' := ?_) #[true, true, true, true, true, true, true, true, true, true, true, true, true, true, true, true, true, true, true, true, true, true, true, false, true, false, false, false, true, false, true, false, false, false, false, false, false, false, false, false, false] rfl rfl (take_ofW HT_.out HW_.out (by kernel_rfl)) (fun _ _ _ h => h) (Or.inl ⟨by rfl, ?_⟩) hHeld ?_ ?_
     rotate_left
     ·
      rintro w' ⟨s0, s1, s2, s3, s4, s5, s6, s7, s8, s9, s10, s11, s12, s13⟩
      go_simp
      with_reducible rfl
     rotate_left
     ·
      simp only [Act.put, List.setIfInBounds_toArray, List.set_cons_zero, List.set_cons_succ, i64_w, i32_w]
      rfl
     refine take_ (i := 23) (N := some 75) (v := ?_) (a' := ?_) #[true, true, true, true, true, true, true, true, true, true, true, true, true, true, true, true, true, true, true, true, true, true, true, true, true, false, false, false, true, false, true, false, false, false, false, false, false, false, false, false, false] rfl rfl (take_ofW HT_.out HW_.out (by kernel_rfl)) (fun _ _ _ h => h) (Or.inl ⟨by rfl, ?_⟩) hHeld ?_ ?_
     rotate_left
     ·
      rintro w' ⟨s0, s1, s2, s3, s4, s5, s6, s7, s8, s9, s10, s11, s12, s13⟩
      go_simp
      with_reducible rfl
     rotate_left
     ·
      simp only [Act.put, List.setIfInBounds_toArray, List.set_cons_zero, List.set_cons_succ, i64_w, i32_w]
      rfl
     refine pure_ (i := 25) (N := some 77) (v := ?_) (a' := ?_) #[true, true, true, true, true, true, true, true, true, true, true, true, true, true, true, true, true, true, true, true, true, true, true, true, true, true, false, false, true, false, true, false, false, false, false, false, false, false, false, false, false] rfl rfl (any_of HT_.out (by kernel_rfl)) (fun _ _ _ h => h) (Or.inl ⟨by rfl, ?_⟩) ?_ ?_
     rotate_left
     ·
      intro w'
      go_simp
      with_reducible rfl
     rotate_left
     ·
      simp only [Act.put, List.setIfInBounds_toArray, List.set_cons_zero, List.set_cons_succ, i64_w, i32_w]
      rfl
     refine pure_ (i := 26) (N := some 78) (v := ?_) (a' := ?_) #[true, true, true, true, true, true, true, true, true, true, true, true, true, true, true, true, true, true, true, true, true, true, true, true, true, true, true, false, true, false, true, false, false, false, false, false, false, false, false, false, false] rfl rfl (any_of HT_.out (by kernel_rfl)) (fun _ _ _ h => h) (Or.inl ⟨by rfl, ?_⟩) ?_ ?_
     rotate_left
     ·
      intro w'
      go_simp
      with_reducible rfl
     rotate_left
     ·
      simp only [Act.put, List.setIfInBounds_toArray, List.set_cons_zero, List.set_cons_succ, i64_w, i32_w]
      rfl
     refine take_ (i := 27) (N := some 79) (v := ?_) (a' := ?_) #[true, true, true, true, true, true, true, true, true, true, true, true, true, true, true, true, true, true, true, true, true, true, true, true, true, true, true, true, true, false, true, false, false, false, false, false, false, false, false, false, false] rfl rfl (take_ofW HT_.out HW_.out (by kernel_rfl)) (fun _ _ _ h => h) (Or.inl ⟨by rfl, ?_⟩) hHeld ?_ ?_
     rotate_left
     ·
      rintro w' ⟨s0, s1, s2, s3, s4, s5, s6, s7, s8, s9, s10, s11, s12, s13⟩
      go_simp
      with_reducible rfl
     rotate_left
     ·
      simp only [Act.put, List.setIfInBounds_toArray, List.set_cons_zero, List.set_cons_succ, i64_w, i32_w]
      rfl
     refine take_ (i := 29) (N := some 81) (v := ?_) (a' := ?_) #[true, true, true, true, true, true, true, true, true, true, true, true, true, true, true, true, true, true, true, true, true, true, true, true, true, true, true, true, true, true, true, false, false, false, false, false, false, false, false, false, false] rfl rfl (take_ofW HT_.out HW_.out (by kernel_rfl)) (fun _ _ _ h => h) (Or.inl ⟨by rfl, ?_⟩) hHeld ?_ ?_
     rotate_left
     ·
      rintro w' ⟨s0, s1, s2, s3, s4, s5, s6, s7, s8, s9, s10, s11, s12, s13⟩
      go_simp
      with_reducible rfl
     rotate_left
     ·
      simp only [Act.put, List.setIfInBounds_toArray, List.set_cons_zero, List.set_cons_succ, i64_w, i32_w]
      rfl
     refine pure_ (i := 31) (N := some 83) (v := ?_) (a' := ?_) #[true, true, true, true, true, true, true, true, true, true, true, true, true, true, true, true, true, true, true, true, true, true, true, true, true, true, true, true, true, true, true, true, false, false, false, false, false, false, false, false, false] rfl rfl (any_of HT_.out (by kernel_rfl)) (fun _ _ _ h => h) (Or.inl ⟨by rfl, ?_⟩) ?_ ?_
     rotate_left
     ·
      intro w'
      go_simp
      with_reducible rfl
     rotate_left
     ·
      simp only [Act.put, List.setIfInBounds_toArray, List.set_cons_zero, List.set_cons_succ, i64_w, i32_w]
      rfl
     refine pure_ (i := 32) (N := some 84) (v := ?_) (a' := ?_) #[true, true, true, true, true, true, true, true, true, true, true, true, true, true, true, true, true, true, true, true, true, true, true, true, true, true, true, true, true, true, true, true, true, false, false, false, false, false, false, false, false] rfl rfl (any_of HT_.out (by kernel_rfl)) (fun _ _ _ h => h) (Or.inl ⟨by rfl, ?_⟩) ?_ ?_
     rotate_left
     ·
      intro w'
      go_simp
      with_reducible rfl
     rotate_left
     ·
      simp only [Act.put, List.setIfInBounds_toArray, List.set_cons_zero, List.set_cons_succ, i64_w, i32_w]
      rfl
     refine take_ (i := 33) (N := some 85) (v := ?_) (a' := ?_) #[true, true, true, true, true, true, true, true, true, true, true, true, true, true, true, true, true, true, true, true, true, true, true, true, true, true, true, true, true, true, true, true, true, true, false, false, false, false, false, false, false] rfl rfl (take_ofW HT_.out HW_.out (by kernel_rfl)) (fun _ _ _ h => h) (Or.inl ⟨by rfl, ?_⟩) hHeld ?_ ?_
     rotate_left
     ·
      rintro w' ⟨s0, s1, s2, s3, s4, s5, s6, s7, s8, s9, s10, s11, s12, s13⟩
      go_simp
      with_reducible rfl
     rotate_left
     ·
      simp only [Act.put, List.setIfInBounds_toArray, List.set_cons_zero, List.set_cons_succ, i64_w, i32_w]
      rfl
     refine one_ (i := 34) (N := some 86) #[true, true, true, true, true, true, true, true, true, true, true, true, true, true, true, true, true, true, true, true, true, true, true, true, true, true, true, true, true, true, true, true, true, true, true, false, false, false, false, false, false] rfl rfl (one_of HT_.out (by kernel_rfl)) (by decide) (fun K hK => ?_)
     refine goes_ Tryd.func25 (by kernel_rfl) rfl #[.agg #[.int .i64 t705, .slice (some ad729) t706.length co11], .slice Ao45 t721.length co45, .int .i64 ((rd_T52 t706 x6_1).f0), .int .i64 ((rd_T52 t706 x6_1).f1)] (by rfl) rfl rfl mP ?_
     with_reducible refine (impl_SameIsland.calls kj17 t705 _ _ t706 _ _ t721 ((rd_T52 t706 x6_1).f0) ((rd_T52 t706 x6_1).f1) false _ ?side1 ?side2 ?side3 ?side4 A29.out).mono ?_
     (case side1 => exact gC ((Kd.R_reads' HO_713001.out).2.2))
     (case side2 => exact (Kd.R_reads' HO_713001.out).2.1)
     (case side3 => exact gC ((Kd.R_reads' HO723.out).2.2))
     (case side4 => exact (Kd.R_reads' HO723.out).2.1)
     rintro e w51 ⟨rfl, hb⟩
     have HS2_ := (hb.cell (World.block_lt_of_cell? _ _ (hHeld.2.2.1))).trans (hHeld.2.2.1)
     have HS3_ := (hb.cell (World.block_lt_of_cell? _ _ (hHeld.2.2.2.1))).trans (hHeld.2.2.2.1)
     have HS4_ := (hb.cell (World.block_lt_of_cell? _ _ (hHeld.2.2.2.2.1))).trans (hHeld.2.2.2.2.1)
     have HS5_ := (hb.cell (World.block_lt_of_cell? _ _ (hHeld.2.2.2.2.2.1))).trans (hHeld.2.2.2.2.2.1)
     have HS6_ := (hb.cell (World.block_lt_of_cell? _ _ (hHeld.2.2.2.2.2.2.1))).trans (hHeld.2.2.2.2.2.2.1)
     have HS7_ := (hb.cell (World.block_lt_of_cell? _ _ (hHeld.2.2.2.2.2.2.2.1))).trans (hHeld.2.2.2.2.2.2.2.1)
     have HS8_ := (hb.cell (World.block_lt_of_cell? _ _ (hHeld.2.2.2.2.2.2.2.2.1))).trans (hHeld.2.2.2.2.2.2.2.2.1)
     have HS9_ := (hb.cell (World.block_lt_of_cell? _ _ (hHeld.2.2.2.2.2.2.2.2.2.1))).trans (hHeld.2.2.2.2.2.2.2.2.2.1)
     have HS10_ := (hb.cell (World.block_lt_of_cell? _ _ (hHeld.2.2.2.2.2.2.2.2.2.2.1))).trans (hHeld.2.2.2.2.2.2.2.2.2.2.1)
     have HS11_ := (hb.cell (World.block_lt_of_cell? _ _ (hHeld.2.2.2.2.2.2.2.2.2.2.2.1))).trans (hHeld.2.2.2.2.2.2.2.2.2.2.2.1)
     have HS12_ := (hb.cell (World.block_lt_of_cell? _ _ (hHeld.2.2.2.2.2.2.2.2.2.2.2.2.1))).trans (hHeld.2.2.2.2.2.2.2.2.2.2.2.2.1)
     have HS13_ := (hb.cell (World.block_lt_of_cell? _ _ (hHeld.2.2.2.2.2.2.2.2.2.2.2.2.2))).trans (hHeld.2.2.2.2.2.2.2.2.2.2.2.2.2)
     refine ⟨_, rfl, ?_⟩
     have n0_ := Aside0.mk (Kd.R_below (gR (HO_4.out)) hb)
     have n1_ := Aside0.mk (Kd.R_below (gR (HO_5.out)) hb)
     have n2_ := Aside0.mk (Kd.R_below (gR (HO_713001.out)) hb)
     have n3_ := Aside0.mk (Kd.R_below (gR (HO723.out)) hb)
     have n4_ := Aside0.mk (Kd.R_below (gR (HO726.out)) hb)
     have n5_ := Aside0.mk (blk_below (g := gb712) (o := .cells #[.int .i64 t705, .slice (some ad729) t706.length co11] 39 (0, 0)) (gB (BK712.out)) hb)
     have n6_ := Aside0.mk (below_step (bl1 HB GE712) hb)
     clear HO_4
     clear HO_5
     clear HO_713001
     clear HO723
     clear HO726
     clear BK712
     clear HB
     have HO_4 := n0_
     have HO_5 := n1_
     have HO_713001 := n2_
     have HO723 := n3_
     have HO726 := n4_
     have BK712 := n5_
     have HB := n6_
     clear n0_ n1_ n2_ n3_ n4_ n5_ n6_
     (try clear hb)
     (try clear hb2)
     (try clear hk)
     (try clear hi)
     refine hK.out _ _ ⟨(blk_cell BK712.out 0).trans rfl, (blk_cell BK712.out 1).trans rfl, HS2_, HS3_, HS4_, HS5_, HS6_, HS7_, HS8_, HS9_, HS10_, HS11_, HS12_, HS13_⟩ (fun hHeld => ?_)
     clear hK K
     refine norm_ (a' := ?_) ?_ ?_
     rotate_left
     ·
      show Act.put _ (some 86) _ = _
      simp only [Act.put, List.setIfInBounds_toArray, List.set_cons_zero, List.set_cons_succ, i64_w, i32_w]
      rfl
     refine pure_ (i := 35) (N := some 87) (v := ?_) (a' := ?_) #[true, true, true, true, true, true, true, true, true, true, true, true, true, true, true, true, true, true, true, true, true, true, true, true, true, true, true, true, true, true, true, true, true, true, true, true, false, false, false, false, false] rfl rfl (any_of HT_.out (by kernel_rfl)) (fun _ _ _ h => h) (Or.inl ⟨by rfl, ?_⟩) ?_ ?_
     rotate_left
     ·
      intro w'
      go_simp
      with_reducible rfl
     rotate_left
     ·
      simp only [Act.put, List.setIfInBounds_toArray, List.set_cons_zero, List.set_cons_succ, i64_w, i32_w]
      rfl
     refine pure_ (i := 36) (N := some 88) (v := ?_) (a' := ?_) #[true, true, true, true, true, true, true, true, true, true, true, true, true, true, true, true, true, true, true, true, true, true, true, true, true, true, true, true, true, true, true, true, true, true, true, true, true, false, false, false, false] rfl rfl (any_of HT_.out (by kernel_rfl)) (fun _ _ _ h => h) (Or.inl ⟨by rfl, ?_⟩) ?_ ?_
     rotate_left
     ·
      intro w'
      go_simp
      with_reducible rfl
     rotate_left
     ·
      simp only [Act.put, List.setIfInBounds_toArray, List.set_cons_zero, List.set_cons_succ, i64_w, i32_w]
      rfl
     refine pure_ (i := 37) (N := some 89) (v := ?_) (a' := ?_) #[true, true, true, true, true, true, true, true, true, true, true, true, true, true, true, true, true, true, true, true, true, true, true, true, true, true, true, true, true, true, true, true, true, true, true, true, true, true, false, false, false] rfl rfl (any_of HT_.out (by kernel_rfl)) (fun _ _ _ h => h) (Or.inl ⟨by rfl, ?_⟩) ?_ ?_
     rotate_left
     ·
      intro w'
      go_simp
      with_reducible rfl
     rotate_left
     ·
      simp only [Act.put, List.setIfInBounds_toArray, List.set_cons_zero, List.set_cons_succ, i64_w, i32_w]
      rfl
     refine pure_ (i := 38) (N := some 90) (v := ?_) (a' := ?_) #[true, true, true, true, true, true, true, true, true, true, true, true, true, true, true, true, true, true, true, true, true, true, true, true, true, true, true, true, true, true, true, true, true, true, true, true, true, true, true, false, false] rfl rfl (any_of HT_.out (by kernel_rfl)) (fun _ _ _ h => h) (Or.inl ⟨by rfl, ?_⟩) ?_ ?_
     rotate_left
     ·
      intro w'
      go_simp
      with_reducible rfl
     rotate_left
     ·
      simp only [Act.put, List.setIfInBounds_toArray, List.set_cons_zero, List.set_cons_succ, i64_w, i32_w]
      rfl
     refine pure_ (i := 39) (N := some 91) (v := ?_) (a' := ?_) #[true, true, true, true, true, true, true, true, true, true, true, true, true, true, true, true, true, true, true, true, true, true, true, true, true, true, true, true, true, true, true, true, true, true, true, true, true, true, true, true, false] rfl rfl (any_of HT_.out (by kernel_rfl)) (fun _ _ _ h => h) (Or.inl ⟨by rfl, ?_⟩) ?_ ?_
     rotate_left
     ·
      intro w'
      go_simp
      with_reducible rfl
     rotate_left
     ·
      simp only [Act.put, List.setIfInBounds_toArray, List.set_cons_zero, List.set_cons_succ, i64_w, i32_w]
      rfl
     refine pure_ (i := 40) (N := some 92) (v := ?_) (a' := ?_) #[true, true, true, true, true, true, true, true, true, true, true, true, true, true, true, true, true, true, true, true, true, true, true, true, true, true, true, true, true, true, true, true, true, true, true, true, true, true, true, true, true] rfl rfl (any_of HT_.out (by kernel_rfl)) (fun _ _ _ h => h) (Or.inl ⟨by rfl, ?_⟩) ?_ ?_
     rotate_left
     ·
      intro w'
      go_simp
      with_reducible rfl
     rotate_left
     ·
      simp only [Act.put, List.setIfInBounds_toArray, List.set_cons_zero, List.set_cons_succ, i64_w, i32_w]
      rfl
     refine done_ (done_of HT_.out (by kernel_rfl)) ?_
     try go_wp2
     go_roundg kj17
     case measure => have := HK1.out; have := HJ17.out; omega
     case rel => exact ⟨(wrap64 (x6_1 + 1)), fS, H', ⟨by have := HK1.out; have := HJ17.out; omega⟩, ⟨by (with_reducible repeat (first | apply Kd.R_alloc | apply Kd.R_drewN | apply Kd.R_drew)); exact Kd.R_mono HO_4.out (fun _ hk => trivial)⟩, ⟨gR (HO_5.out)⟩, ⟨gR (HO_713001.out)⟩, ⟨gB (BK712.out)⟩, ⟨bl1 HB GE712⟩⟩

end Go.Proofs.YthkdkjmnnpcdhaaDoor.P

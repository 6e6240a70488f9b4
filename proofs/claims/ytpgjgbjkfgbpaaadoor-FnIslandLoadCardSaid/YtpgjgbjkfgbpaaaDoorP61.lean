/- Contracts of Go functions of this seat's translation, written by this repo's wip/mk.py: it calls the kit's print.py with contracts typed by hand in place of functions that it does not take. Not trusted: Lean checks it. -/
import Derived.Test.YtpgjgbjkfgbpaaaDoorP0
import Derived.Test.YtpgjgbjkfgbpaaaDoorP37
import Derived.Test.YtpgjgbjkfgbpaaaDoorP39
import Derived.Test.YtpgjgbjkfgbpaaaDoorP40
import Derived.Test.YtpgjgbjkfgbpaaaDoorP59
import Derived.Test.YtpgjgbjkfgbpaaaDoorP60
namespace Go.Proofs.YtpgjgbjkfgbpaaaDoor.P
open Go.RowKit Go.Proofs.YtpgjgbjkfgbpaaaDoorW.PrintWords Go.Proofs.YtpgjgbjkfgbpaaaDoorW.PrintLast Go.Proofs.YtpgjgbjkfgbpaaaDoorW.PrintMore
attribute [local go_sem] max2_int min2_int max_two min_two max_three min_three max_four min_four   -- for this text's walks alone
set_option linter.unusedVariables false
set_option linter.unusedSimpArgs false

/-! ### laws_FnIslandLoad: function 5 -/
mutual
def laws_FnIslandLoad.l0 : Nat → List Bool → List (S33) → Int → Int → Int → Int → Int → List (S79) → Option (Bool)
 | 0, _, _, _, _, _, _, _, _ => none
 | k + 1, x4, x5, x6, x7, x8, x9, x573000, x573001 => if x9 < (x5.length : Int) then ((impl_SameIsland.f k x573000 x573001 x4 x9 x6).bind fun t577 => (if t577 = true then ((impl_IslandLoad.f k x573000 x573001 x4 x5 x9).bind fun t578 => (if t578 = x7 then (laws_FnIslandLoad.l0 k x4 x5 x6 x7 x8 (wrap64 (x9 + 1)) x573000 x573001) else (none))) else (laws_FnIslandLoad.l0 k x4 x5 x6 x7 x8 (wrap64 (x9 + 1)) x573000 x573001))) else ((impl_IslandsOf.f k x573000 x573001 x4).bind fun t579 => (laws_FnIslandLoad.l1 k x4 x5 x8 t579 0 x573000 x573001))
def laws_FnIslandLoad.l1 : Nat → List Bool → List (S33) → Int → List (List Int) → Int → Int → List (S79) → Option (Bool)
 | 0, _, _, _, _, _, _, _ => none
 | k + 1, x4, x5, x8, x10, x11, x573000, x573001 => if x11 < (x10.length : Int) then (if 0 ≤ x11 then (if ((rd_L9 x10 x11).length : Int) = 0 then (none) else (if 0 < ((rd_L9 x10 x11).length : Int) then ((impl_IslandLoad.f k x573000 x573001 x4 x5 (rd (rd_L9 x10 x11) 0)).bind fun t585 => (laws_FnIslandLoad.l1 k x4 x5 (wrap64 (x8 - t585)) x10 (wrap64 (x11 + 1)) x573000 x573001)) else (none))) else (none)) else (some (x8 == 0))
end
def laws_FnIslandLoad.f (k : Nat) (l0 : List Int) : Option (Bool) := if (l0.length : Int) > 1048576 then (some true) else ((spec_DrawIslandLoad.f k l0).bind fun bt561 => ((impl_IslandLoad.f k bt561.1 bt561.2.1 bt561.2.2.1 bt561.2.2.2.1 bt561.2.2.2.2).bind fun t573 => ((spec_IslandLoad.f k bt561.1 bt561.2.1 bt561.2.2.1 bt561.2.2.2.1 bt561.2.2.2.2).bind fun t574 => (if t573 = t574 then (if t573 < 0 then (if t573 = (-1) then ((laws_alive.f k).bind fun t575 => (some t575)) else (none)) else ((laws_loads.f k bt561.2.2.2.1).bind fun t576 => (laws_FnIslandLoad.l0 k bt561.2.2.1 bt561.2.2.2.1 bt561.2.2.2.2 t573 t576 0 bt561.1 bt561.2.1))) else (none)))))
theorem laws_FnIslandLoad.mono_l : ∀ k, (∀ y0 y1 y2 y3 y4 y5 y6 y7, LeO (laws_FnIslandLoad.l0 k y0 y1 y2 y3 y4 y5 y6 y7) (laws_FnIslandLoad.l0 (k + 1) y0 y1 y2 y3 y4 y5 y6 y7)) ∧ (∀ y0 y1 y2 y3 y4 y5 y6, LeO (laws_FnIslandLoad.l1 k y0 y1 y2 y3 y4 y5 y6) (laws_FnIslandLoad.l1 (k + 1) y0 y1 y2 y3 y4 y5 y6))
 | 0 => ⟨fun _ _ _ _ _ _ _ _ r h => by simp [laws_FnIslandLoad.l0] at h, fun _ _ _ _ _ _ _ r h => by simp [laws_FnIslandLoad.l1] at h⟩
 | k + 1 => by
  obtain ⟨ih0, ih1⟩ := laws_FnIslandLoad.mono_l k
  refine ⟨?_, ?_⟩
  ·
   intro y0 y1 y2 y3 y4 y5 y6 y7
   unfold laws_FnIslandLoad.l0
   repeat' first
   | (with_reducible exact ih0 _ _ _ _ _ _ _ _)
   | (with_reducible exact ih1 _ _ _ _ _ _ _)
   | (with_reducible exact impl_IslandLoad.mono _ _ _ _ _ _)
   | (with_reducible exact impl_IslandsOf.mono _ _ _ _)
   | (with_reducible exact impl_SameIsland.mono _ _ _ _ _ _)
   | (with_reducible exact laws_alive.mono _)
   | (with_reducible exact laws_loads.mono _ _)
   | (with_reducible exact spec_DrawIslandLoad.mono _ _)
   | (with_reducible exact spec_IslandLoad.mono _ _ _ _ _ _)
   | (with_reducible exact LeO.refl _)
   | (with_reducible exact LeO.none _)
   | (with_reducible refine LeO.ite ?_ ?_)
   | (with_reducible refine LeO.bind ?_ (fun _ => ?_))
   | exact ih0 _ _ _ _ _ _ _ _
   | exact ih1 _ _ _ _ _ _ _
   | exact impl_IslandLoad.mono _ _ _ _ _ _
   | exact impl_IslandsOf.mono _ _ _ _
   | exact impl_SameIsland.mono _ _ _ _ _ _
   | exact laws_alive.mono _
   | exact laws_loads.mono _ _
   | exact spec_DrawIslandLoad.mono _ _
   | exact spec_IslandLoad.mono _ _ _ _ _ _
   | exact LeO.none _
   | refine LeO.ite ?_ ?_
   | refine LeO.bind ?_ (fun _ => ?_)
  ·
   intro y0 y1 y2 y3 y4 y5 y6
   unfold laws_FnIslandLoad.l1
   repeat' first
   | (with_reducible exact ih0 _ _ _ _ _ _ _ _)
   | (with_reducible exact ih1 _ _ _ _ _ _ _)
   | (with_reducible exact impl_IslandLoad.mono _ _ _ _ _ _)
   | (with_reducible exact impl_IslandsOf.mono _ _ _ _)
   | (with_reducible exact impl_SameIsland.mono _ _ _ _ _ _)
   | (with_reducible exact laws_alive.mono _)
   | (with_reducible exact laws_loads.mono _ _)
   | (with_reducible exact spec_DrawIslandLoad.mono _ _)
   | (with_reducible exact spec_IslandLoad.mono _ _ _ _ _ _)
   | (with_reducible exact LeO.refl _)
   | (with_reducible exact LeO.none _)
   | (with_reducible refine LeO.ite ?_ ?_)
   | (with_reducible refine LeO.bind ?_ (fun _ => ?_))
   | exact ih0 _ _ _ _ _ _ _ _
   | exact ih1 _ _ _ _ _ _ _
   | exact impl_IslandLoad.mono _ _ _ _ _ _
   | exact impl_IslandsOf.mono _ _ _ _
   | exact impl_SameIsland.mono _ _ _ _ _ _
   | exact laws_alive.mono _
   | exact laws_loads.mono _ _
   | exact spec_DrawIslandLoad.mono _ _
   | exact spec_IslandLoad.mono _ _ _ _ _ _
   | exact LeO.none _
   | refine LeO.ite ?_ ?_
   | refine LeO.bind ?_ (fun _ => ?_)
theorem laws_FnIslandLoad.mono : ∀ a0 k, LeO (laws_FnIslandLoad.f k a0) (laws_FnIslandLoad.f (k + 1) a0) := by
 intro a0 k
 obtain ⟨ih0, ih1⟩ := laws_FnIslandLoad.mono_l k
 unfold laws_FnIslandLoad.f
 repeat' first
   | (with_reducible exact ih0 _ _ _ _ _ _ _ _)
   | (with_reducible exact ih1 _ _ _ _ _ _ _)
   | (with_reducible exact impl_IslandLoad.mono _ _ _ _ _ _)
   | (with_reducible exact impl_IslandsOf.mono _ _ _ _)
   | (with_reducible exact impl_SameIsland.mono _ _ _ _ _ _)
   | (with_reducible exact laws_alive.mono _)
   | (with_reducible exact laws_loads.mono _ _)
   | (with_reducible exact spec_DrawIslandLoad.mono _ _)
   | (with_reducible exact spec_IslandLoad.mono _ _ _ _ _ _)
   | (with_reducible exact LeO.refl _)
   | (with_reducible exact LeO.none _)
   | (with_reducible refine LeO.ite ?_ ?_)
   | (with_reducible refine LeO.bind ?_ (fun _ => ?_))
   | exact ih0 _ _ _ _ _ _ _ _
   | exact ih1 _ _ _ _ _ _ _
   | exact impl_IslandLoad.mono _ _ _ _ _ _
   | exact impl_IslandsOf.mono _ _ _ _
   | exact impl_SameIsland.mono _ _ _ _ _ _
   | exact laws_alive.mono _
   | exact laws_loads.mono _ _
   | exact spec_DrawIslandLoad.mono _ _
   | exact spec_IslandLoad.mono _ _ _ _ _ _
   | exact LeO.none _
   | refine LeO.ite ?_ ?_
   | refine LeO.bind ?_ (fun _ => ?_)
def laws_FnIslandLoad.T21 : Bool × List (List Nat × List Nat) := (true, [([], []), ([], []), ([], []), ([], []), ([], []), ([], []), ([4, 5], [4, 5]), ([6], [6]), ([7], [7]), ([8], [8]), ([1, 2, 3, 9], [1, 2, 3, 9]), ([0, 10], [0, 10]), ([11, 10, 0, 1, 2, 3, 4, 5, 6, 7, 8, 9, 10, 11], [0, 11])])
def laws_FnIslandLoad.B21 : List Nat := [0, 0, 0, 0, 0, 0, 48, 112, 240, 496, 1022, 2047, 4095]
theorem laws_FnIslandLoad.tab21 : rtab .any (opsOf Tryd.f5 21) = laws_FnIslandLoad.T21 := by kernel_rfl
theorem laws_FnIslandLoad.bits21 : waitsOk laws_FnIslandLoad.T21.2 laws_FnIslandLoad.B21 = true := by kernel_rfl
set_option maxHeartbeats 8000000 in
set_option maxRecDepth 100000 in
theorem laws_FnIslandLoad.calls (k : Nat) (A0 : Option Addr) (c0 : Nat) (l0 : List Int) (r : Bool) (w : World) (hr0 : Kd.C (Kd.int .u8) w A0 l0.length l0) (hc0 : l0.length ≤ c0) (h : laws_FnIslandLoad.f k l0 = some r) :
  Calls Tryd.prog 5 #[.slice A0 l0.length c0] w fun e w' => e = .returned (.bool r) ∧ Below w.heap.size w w' := by
 have hu25 := Tryd.underlying25
 have HR0 := Aside0.mk hr0
 have HC0 := Aside0.mk hc0
 clear hr0 hc0
 have HB := Aside0.mk (Below.refl w.heap.size w)
 have H : (if (l0.length : Int) > 1048576 then (some true) else ((spec_DrawIslandLoad.f k l0).bind fun bt561 => ((impl_IslandLoad.f k bt561.1 bt561.2.1 bt561.2.2.1 bt561.2.2.2.1 bt561.2.2.2.2).bind fun t573 => ((spec_IslandLoad.f k bt561.1 bt561.2.1 bt561.2.2.1 bt561.2.2.2.1 bt561.2.2.2.2).bind fun t574 => (if t573 = t574 then (if t573 < 0 then (if t573 = (-1) then ((laws_alive.f k).bind fun t575 => (some t575)) else (none)) else ((laws_loads.f k bt561.2.2.2.1).bind fun t576 => (laws_FnIslandLoad.l0 k bt561.2.2.1 bt561.2.2.2.1 bt561.2.2.2.2 t573 t576 0 bt561.1 bt561.2.1))) else (none)))))) = some r := h
 clear h
 by_cases c2 : (l0.length : Int) > 1048576
 ·
  rw [if_pos c2] at H
  have c2b0 : decide (1048576 < (l0.length : Int)) = true := decide_eq_true c2
  have c2b1 : decide (1048576 < l0.length) = true := decide_eq_true (by omega)
  clear c2
  obtain rfl := Option.some.inj H
  go_enter Tryd.func5, Tryd.ntmps5
  go_wp2
  go_ret
  exact ⟨fR, bl0 HB⟩
 rw [if_neg c2] at H
 have c2b0 : decide (1048576 < (l0.length : Int)) = false := decide_eq_false c2
 have c2b1 : decide (1048576 < l0.length) = false := decide_eq_false (by omega)
 clear c2
 replace H := Option.bind_eq_some_iff.mp H
 obtain ⟨⟨t561, t562, t565, t568, t571⟩, A30, H⟩ := H
 replace H : ((impl_IslandLoad.f k t561 t562 t565 t568 t571).bind fun t573 => ((spec_IslandLoad.f k t561 t562 t565 t568 t571).bind fun t574 => (if t573 = t574 then (if t573 < 0 then (if t573 = (-1) then ((laws_alive.f k).bind fun t575 => (some t575)) else (none)) else ((laws_loads.f k t568).bind fun t576 => (laws_FnIslandLoad.l0 k t565 t568 t571 t573 t576 0 t561 t562))) else (none)))) = some r := H
 have A3 := Aside0.mk A30
 clear A30
 replace H := Option.bind_eq_some_iff.mp H
 obtain ⟨t573, A40, H⟩ := H
 replace H : ((spec_IslandLoad.f k t561 t562 t565 t568 t571).bind fun t574 => (if t573 = t574 then (if t573 < 0 then (if t573 = (-1) then ((laws_alive.f k).bind fun t575 => (some t575)) else (none)) else ((laws_loads.f k t568).bind fun t576 => (laws_FnIslandLoad.l0 k t565 t568 t571 t573 t576 0 t561 t562))) else (none))) = some r := H
 have A4 := Aside0.mk A40
 clear A40
 replace H := Option.bind_eq_some_iff.mp H
 obtain ⟨t574, A50, H⟩ := H
 replace H : (if t573 = t574 then (if t573 < 0 then (if t573 = (-1) then ((laws_alive.f k).bind fun t575 => (some t575)) else (none)) else ((laws_loads.f k t568).bind fun t576 => (laws_FnIslandLoad.l0 k t565 t568 t571 t573 t576 0 t561 t562))) else (none)) = some r := H
 have A5 := Aside0.mk A50
 clear A50
 by_cases c6 : t573 = t574
 rotate_left
 ·
  rw [if_neg c6] at H
  exact absurd H (by simp)
 rw [if_pos c6] at H
 have c6b0 : (t573 == t574) = true := beq_iff_eq.mpr c6
 have c6b1 : (t573 != t574) = false := bne_eq_false_iff_eq.mpr c6
 clear c6
 by_cases c7 : t573 < 0
 ·
  rw [if_pos c7] at H
  have c7b0 : decide (t573 < 0) = true := decide_eq_true c7
  clear c7
  by_cases c8 : t573 = (-1)
  rotate_left
  ·
   rw [if_neg c8] at H
   exact absurd H (by simp)
  rw [if_pos c8] at H
  have c8b0 : (t573 == (-1)) = true := beq_iff_eq.mpr c8
  have c8b1 : (t573 != (-1)) = false := bne_eq_false_iff_eq.mpr c8
  clear c8
  replace H := Option.bind_eq_some_iff.mp H
  obtain ⟨t575, A90, H⟩ := H
  replace H : (some t575) = some r := H
  have A9 := Aside0.mk A90
  clear A90
  obtain rfl := Option.some.inj H
  go_enter Tryd.func5, Tryd.ntmps5
  go_wp2_with (first | ((with_reducible refine gate_callee (f := 27) rfl ?_); refine goesL_ (some 17) rfl rfl Tryd.func27 (by kernel_rfl) rfl #[.slice A0 l0.length c0] rfl mP ?_; (with_reducible refine (spec_DrawIslandLoad.calls k _ _ l0 t561 t562 t565 t568 t571 _ ?side1 ?side2 A3.out).mono ?_); (case side1 => exact gC (HR0.out)); (case side2 => exact HC0.out); rintro e w10 ⟨v563, v566, v569, rfl, ho0, ho1, ho2, hb⟩; refine ⟨_, rfl, ?_⟩; have n0_ := Aside0.mk (Kd.R_lower ho0 (below_size (bl0 HB))); have n1_ := Aside0.mk (Kd.R_lower ho1 (below_size (bl0 HB))); have n2_ := Aside0.mk (Kd.R_lower ho2 (below_size (bl0 HB))); have n3_ := Aside0.mk (below_step (bl0 HB) hb); clear HB; have HO564 := n0_; have HO567 := n1_; have HO570 := n2_; have HB := n3_; clear n0_ n1_ n2_ n3_; (try clear hb); (try clear hb2); (try clear hk); (try clear hi); (try clear ho0); (try clear ho1); (try clear ho2)) | ((with_reducible refine gate_dst (N := 3) rfl ?_); refine box_event ?hg (N := 3) ?hd (cs := #[.int .i64 0, .slice none 0 0]) (t := 25) ?hr ?_; (case hd => rfl); (case hg => rfl); (case hr => exact hR); intro gb572 hg w11 hbox hb; have n0_ := Aside0.mk (Kd.R_below (gR (HO564.out)) hb); have n1_ := Aside0.mk (Kd.R_below (gR (HO567.out)) hb); have n2_ := Aside0.mk (Kd.R_below (gR (HO570.out)) hb); have n3_ := Aside0.mk (below_step (bl0 HB) hb); have n4_ := Aside0.mk (hbox); have n5_ := Aside0.mk ((by rw [hg]; exact (below_size (bl0 HB)) : w.heap.size ≤ gb572)); have n6_ := Aside0.mk ((by rw [hg]; exact (below_size (bl0 HB)) : w.heap.size ≤ gb572)); clear HO564; clear HO567; clear HO570; clear HB; have HO564 := n0_; have HO567 := n1_; have HO570 := n2_; have HB := n3_; have BK572 := n4_; have GW572 := n5_; have GE572 := n6_; clear n0_ n1_ n2_ n3_ n4_ n5_ n6_; clear hb hbox hg; have hcz12_0 : w11.cell? ⟨gb572, 0, none⟩ = some (.int .i64 0) := (blk_cell BK572.out 0).trans rfl; have hcz12_1 : w11.cell? ⟨gb572, 1, none⟩ = some (.slice none 0 0) := (blk_cell BK572.out 1).trans rfl; have hfz12_0 := blk_frozen BK572.out 0; have hfz12_1 := blk_frozen BK572.out 1; obtain ⟨Ao13, co13, eo13⟩ := Kd.R_slice HO564.out; subst eo13; obtain ⟨Ao14, co14, eo14⟩ := Kd.R_slice HO567.out; subst eo14; obtain ⟨Ao15, co15, eo15⟩ := Kd.R_slice HO570.out; subst eo15) | ((with_reducible refine gate_callee (f := 28) rfl ?_); refine goesL_ (some 26) rfl rfl Tryd.func28 (by kernel_rfl) rfl #[.agg #[.int .i64 t561, .slice Ao13 t562.length co13], .slice Ao14 t565.length co14, .slice Ao15 t568.length co15, .int .i64 t571] rfl mP ?_; (with_reducible refine (impl_IslandLoad.calls k t561 _ _ t562 _ _ t565 _ _ t568 t571 t573 _ ?side1 ?side2 ?side3 ?side4 ?side5 ?side6 A4.out).mono ?_); (case side1 => refine (Kd.R_reads' (e := 79) (base := w.heap.size) (ok := fun k_ => True) (n := t562.length) (c := co13) ?_).2.2; exact (by (with_reducible repeat (first | apply Kd.R_alloc | apply Kd.R_drewN | apply Kd.R_drew)); exact (Kd.R_mono (Kd.R_far (p := ⟨gb572, 1, none⟩) (Kd.R_far (p := ⟨gb572, 0, none⟩) (Kd.R_types HO564.out BK572.out (by decide)) (fun _ hk => hk.2) (.int .i64 t561)) (fun _ hk => hk.2) (.slice Ao13 t562.length co13)) (fun _ h_ => h_.1)))); (case side2 => exact (Kd.R_reads' HO564.out).2.1); (case side3 => refine (Kd.R_reads' (e := 4) (base := w.heap.size) (ok := fun k_ => True) (n := t565.length) (c := co14) ?_).2.2; exact (by (with_reducible repeat (first | apply Kd.R_alloc | apply Kd.R_drewN | apply Kd.R_drew)); exact (Kd.R_mono (Kd.R_far (p := ⟨gb572, 1, none⟩) (Kd.R_far (p := ⟨gb572, 0, none⟩) (Kd.R_types HO567.out BK572.out (by decide)) (fun _ hk => hk.2) (.int .i64 t561)) (fun _ hk => hk.2) (.slice Ao13 t562.length co13)) (fun _ h_ => h_.1)))); (case side4 => exact (Kd.R_reads' HO567.out).2.1); (case side5 => refine (Kd.R_reads' (e := 33) (base := w.heap.size) (ok := fun k_ => True) (n := t568.length) (c := co15) ?_).2.2; exact (by (with_reducible repeat (first | apply Kd.R_alloc | apply Kd.R_drewN | apply Kd.R_drew)); exact (Kd.R_mono (Kd.R_far (p := ⟨gb572, 1, none⟩) (Kd.R_far (p := ⟨gb572, 0, none⟩) (Kd.R_types HO570.out BK572.out (by decide)) (fun _ hk => hk.2) (.int .i64 t561)) (fun _ hk => hk.2) (.slice Ao13 t562.length co13)) (fun _ h_ => h_.1)))); (case side6 => exact (Kd.R_reads' HO570.out).2.1); rintro e w16 ⟨rfl, hb⟩; refine ⟨_, rfl, ?_⟩; have n0_ := Aside0.mk (Kd.R_below (by (with_reducible repeat (first | apply Kd.R_alloc | apply Kd.R_drewN | apply Kd.R_drew)); exact (Kd.R_mono (Kd.R_far (p := ⟨gb572, 1, none⟩) (Kd.R_far (p := ⟨gb572, 0, none⟩) (Kd.R_types HO564.out BK572.out (by decide)) (fun _ hk => hk.2) (.int .i64 t561)) (fun _ hk => hk.2) (.slice Ao13 t562.length co13)) (fun _ h_ => h_.1))) hb); have n1_ := Aside0.mk (Kd.R_below (by (with_reducible repeat (first | apply Kd.R_alloc | apply Kd.R_drewN | apply Kd.R_drew)); exact (Kd.R_mono (Kd.R_far (p := ⟨gb572, 1, none⟩) (Kd.R_far (p := ⟨gb572, 0, none⟩) (Kd.R_types HO567.out BK572.out (by decide)) (fun _ hk => hk.2) (.int .i64 t561)) (fun _ hk => hk.2) (.slice Ao13 t562.length co13)) (fun _ h_ => h_.1))) hb); have n2_ := Aside0.mk (Kd.R_below (by (with_reducible repeat (first | apply Kd.R_alloc | apply Kd.R_drewN | apply Kd.R_drew)); exact (Kd.R_mono (Kd.R_far (p := ⟨gb572, 1, none⟩) (Kd.R_far (p := ⟨gb572, 0, none⟩) (Kd.R_types HO570.out BK572.out (by decide)) (fun _ hk => hk.2) (.int .i64 t561)) (fun _ hk => hk.2) (.slice Ao13 t562.length co13)) (fun _ h_ => h_.1))) hb); have n3_ := Aside0.mk (blk_below (g := gb572) (o := .cells #[.int .i64 t561, .slice Ao13 t562.length co13] 25 (0, 0)) (by (with_reducible repeat (first | refine blk_drewN ?_ _ | refine blk_drew ?_ | refine blk_alloc ?_ _)); refine blk_put (cs := #[.int .i64 t561, .slice none 0 0]) ?_ 1 _ rfl; (with_reducible repeat (first | refine blk_drewN ?_ _ | refine blk_drew ?_ | refine blk_alloc ?_ _)); refine blk_put (cs := #[.int .i64 0, .slice none 0 0]) ?_ 0 _ rfl; (with_reducible repeat (first | refine blk_drewN ?_ _ | refine blk_drew ?_ | refine blk_alloc ?_ _)); exact BK572.out) hb); have n4_ := Aside0.mk (below_step (bl1 HB GE572) hb); clear HO564; clear HO567; clear HO570; clear BK572; clear HB; have HO564 := n0_; have HO567 := n1_; have HO570 := n2_; have BK572 := n3_; have HB := n4_; clear n0_ n1_ n2_ n3_ n4_; (try clear hb); (try clear hb2); (try clear hk); (try clear hi); have hcz17_0 : w16.cell? ⟨gb572, 0, none⟩ = some (.int .i64 t561) := (blk_cell BK572.out 0).trans rfl; have hcz17_1 : w16.cell? ⟨gb572, 1, none⟩ = some (.slice Ao13 t562.length co13) := (blk_cell BK572.out 1).trans rfl; have hfz17_0 := blk_frozen BK572.out 0; have hfz17_1 := blk_frozen BK572.out 1) | ((with_reducible refine gate_callee (f := 29) rfl ?_); refine goesL_ (some 32) rfl rfl Tryd.func29 (by kernel_rfl) rfl #[.agg #[.int .i64 t561, .slice Ao13 t562.length co13], .slice Ao14 t565.length co14, .slice Ao15 t568.length co15, .int .i64 t571] rfl mP ?_; (with_reducible refine (spec_IslandLoad.calls k t561 _ _ t562 _ _ t565 _ _ t568 t571 t574 _ ?side1 ?side2 ?side3 ?side4 ?side5 ?side6 A5.out).mono ?_); (case side1 => exact gC ((Kd.R_reads' HO564.out).2.2)); (case side2 => exact (Kd.R_reads' HO564.out).2.1); (case side3 => exact gC ((Kd.R_reads' HO567.out).2.2)); (case side4 => exact (Kd.R_reads' HO567.out).2.1); (case side5 => exact gC ((Kd.R_reads' HO570.out).2.2)); (case side6 => exact (Kd.R_reads' HO570.out).2.1); rintro e w18 ⟨rfl, hb⟩; refine ⟨_, rfl, ?_⟩; have n0_ := Aside0.mk (Kd.R_below (gR (HO564.out)) hb); have n1_ := Aside0.mk (Kd.R_below (gR (HO567.out)) hb); have n2_ := Aside0.mk (Kd.R_below (gR (HO570.out)) hb); have n3_ := Aside0.mk (blk_below (g := gb572) (o := .cells #[.int .i64 t561, .slice Ao13 t562.length co13] 25 (0, 0)) (gB (BK572.out)) hb); have n4_ := Aside0.mk (below_step (bl1 HB GE572) hb); clear HO564; clear HO567; clear HO570; clear BK572; clear HB; have HO564 := n0_; have HO567 := n1_; have HO570 := n2_; have BK572 := n3_; have HB := n4_; clear n0_ n1_ n2_ n3_ n4_; (try clear hb); (try clear hb2); (try clear hk); (try clear hi)) | (go_at_call 17; (with_reducible refine (laws_alive.calls k  t575 _ A9.out).mono ?_); rintro e w19 ⟨rfl, hb⟩; have n0_ := Aside0.mk (Kd.R_below (gR (HO564.out)) hb); have n1_ := Aside0.mk (Kd.R_below (gR (HO567.out)) hb); have n2_ := Aside0.mk (Kd.R_below (gR (HO570.out)) hb); have n3_ := Aside0.mk (blk_below (g := gb572) (o := .cells #[.int .i64 t561, .slice Ao13 t562.length co13] 25 (0, 0)) (gB (BK572.out)) hb); have n4_ := Aside0.mk (below_step (bl1 HB GE572) hb); clear HO564; clear HO567; clear HO570; clear BK572; clear HB; have HO564 := n0_; have HO567 := n1_; have HO570 := n2_; have BK572 := n3_; have HB := n4_; clear n0_ n1_ n2_ n3_ n4_; (try clear hb); (try clear hb2); (try clear hk); (try clear hi)))
  go_ret
  exact ⟨fR, bl1 HB GE572⟩
 rw [if_neg c7] at H
 have c7b0 : decide (t573 < 0) = false := decide_eq_false c7
 clear c7
 replace H := Option.bind_eq_some_iff.mp H
 obtain ⟨t576, A200, H⟩ := H
 replace H : (laws_FnIslandLoad.l0 k t565 t568 t571 t573 t576 0 t561 t562) = some r := H
 have A20 := Aside0.mk A200
 clear A200
 have H' := Aside0.mk H
 clear H
 go_enter Tryd.func5, Tryd.ntmps5
 go_wp2_with (first | ((with_reducible refine gate_callee (f := 27) rfl ?_); refine goesL_ (some 17) rfl rfl Tryd.func27 (by kernel_rfl) rfl #[.slice A0 l0.length c0] rfl mP ?_; (with_reducible refine (spec_DrawIslandLoad.calls k _ _ l0 t561 t562 t565 t568 t571 _ ?side1 ?side2 A3.out).mono ?_); (case side1 => exact gC (HR0.out)); (case side2 => exact HC0.out); rintro e w21 ⟨v563, v566, v569, rfl, ho0, ho1, ho2, hb⟩; refine ⟨_, rfl, ?_⟩; have n0_ := Aside0.mk (Kd.R_lower ho0 (below_size (bl0 HB))); have n1_ := Aside0.mk (Kd.R_lower ho1 (below_size (bl0 HB))); have n2_ := Aside0.mk (Kd.R_lower ho2 (below_size (bl0 HB))); have n3_ := Aside0.mk (below_step (bl0 HB) hb); clear HB; have HO564 := n0_; have HO567 := n1_; have HO570 := n2_; have HB := n3_; clear n0_ n1_ n2_ n3_; (try clear hb); (try clear hb2); (try clear hk); (try clear hi); (try clear ho0); (try clear ho1); (try clear ho2)) | ((with_reducible refine gate_dst (N := 3) rfl ?_); refine box_event ?hg (N := 3) ?hd (cs := #[.int .i64 0, .slice none 0 0]) (t := 25) ?hr ?_; (case hd => rfl); (case hg => rfl); (case hr => exact hR); intro gb572 hg w22 hbox hb; have n0_ := Aside0.mk (Kd.R_below (gR (HO564.out)) hb); have n1_ := Aside0.mk (Kd.R_below (gR (HO567.out)) hb); have n2_ := Aside0.mk (Kd.R_below (gR (HO570.out)) hb); have n3_ := Aside0.mk (below_step (bl0 HB) hb); have n4_ := Aside0.mk (hbox); have n5_ := Aside0.mk ((by rw [hg]; exact (below_size (bl0 HB)) : w.heap.size ≤ gb572)); have n6_ := Aside0.mk ((by rw [hg]; exact (below_size (bl0 HB)) : w.heap.size ≤ gb572)); clear HO564; clear HO567; clear HO570; clear HB; have HO564 := n0_; have HO567 := n1_; have HO570 := n2_; have HB := n3_; have BK572 := n4_; have GW572 := n5_; have GE572 := n6_; clear n0_ n1_ n2_ n3_ n4_ n5_ n6_; clear hb hbox hg; have hcz23_0 : w22.cell? ⟨gb572, 0, none⟩ = some (.int .i64 0) := (blk_cell BK572.out 0).trans rfl; have hcz23_1 : w22.cell? ⟨gb572, 1, none⟩ = some (.slice none 0 0) := (blk_cell BK572.out 1).trans rfl; have hfz23_0 := blk_frozen BK572.out 0; have hfz23_1 := blk_frozen BK572.out 1; obtain ⟨Ao24, co24, eo24⟩ := Kd.R_slice HO564.out; subst eo24; obtain ⟨Ao25, co25, eo25⟩ := Kd.R_slice HO567.out; subst eo25; obtain ⟨Ao26, co26, eo26⟩ := Kd.R_slice HO570.out; subst eo26) | ((with_reducible refine gate_callee (f := 28) rfl ?_); refine goesL_ (some 26) rfl rfl Tryd.func28 (by kernel_rfl) rfl #[.agg #[.int .i64 t561, .slice Ao24 t562.length co24], .slice Ao25 t565.length co25, .slice Ao26 t568.length co26, .int .i64 t571] rfl mP ?_; (with_reducible refine (impl_IslandLoad.calls k t561 _ _ t562 _ _ t565 _ _ t568 t571 t573 _ ?side1 ?side2 ?side3 ?side4 ?side5 ?side6 A4.out).mono ?_); (case side1 => refine (Kd.R_reads' (e := 79) (base := w.heap.size) (ok := fun k_ => True) (n := t562.length) (c := co24) ?_).2.2; exact (by (with_reducible repeat (first | apply Kd.R_alloc | apply Kd.R_drewN | apply Kd.R_drew)); exact (Kd.R_mono (Kd.R_far (p := ⟨gb572, 1, none⟩) (Kd.R_far (p := ⟨gb572, 0, none⟩) (Kd.R_types HO564.out BK572.out (by decide)) (fun _ hk => hk.2) (.int .i64 t561)) (fun _ hk => hk.2) (.slice Ao24 t562.length co24)) (fun _ h_ => h_.1)))); (case side2 => exact (Kd.R_reads' HO564.out).2.1); (case side3 => refine (Kd.R_reads' (e := 4) (base := w.heap.size) (ok := fun k_ => True) (n := t565.length) (c := co25) ?_).2.2; exact (by (with_reducible repeat (first | apply Kd.R_alloc | apply Kd.R_drewN | apply Kd.R_drew)); exact (Kd.R_mono (Kd.R_far (p := ⟨gb572, 1, none⟩) (Kd.R_far (p := ⟨gb572, 0, none⟩) (Kd.R_types HO567.out BK572.out (by decide)) (fun _ hk => hk.2) (.int .i64 t561)) (fun _ hk => hk.2) (.slice Ao24 t562.length co24)) (fun _ h_ => h_.1)))); (case side4 => exact (Kd.R_reads' HO567.out).2.1); (case side5 => refine (Kd.R_reads' (e := 33) (base := w.heap.size) (ok := fun k_ => True) (n := t568.length) (c := co26) ?_).2.2; exact (by (with_reducible repeat (first | apply Kd.R_alloc | apply Kd.R_drewN | apply Kd.R_drew)); exact (Kd.R_mono (Kd.R_far (p := ⟨gb572, 1, none⟩) (Kd.R_far (p := ⟨gb572, 0, none⟩) (Kd.R_types HO570.out BK572.out (by decide)) (fun _ hk => hk.2) (.int .i64 t561)) (fun _ hk => hk.2) (.slice Ao24 t562.length co24)) (fun _ h_ => h_.1)))); (case side6 => exact (Kd.R_reads' HO570.out).2.1); rintro e w27 ⟨rfl, hb⟩; refine ⟨_, rfl, ?_⟩; have n0_ := Aside0.mk (Kd.R_below (by (with_reducible repeat (first | apply Kd.R_alloc | apply Kd.R_drewN | apply Kd.R_drew)); exact (Kd.R_mono (Kd.R_far (p := ⟨gb572, 1, none⟩) (Kd.R_far (p := ⟨gb572, 0, none⟩) (Kd.R_types HO564.out BK572.out (by decide)) (fun _ hk => hk.2) (.int .i64 t561)) (fun _ hk => hk.2) (.slice Ao24 t562.length co24)) (fun _ h_ => h_.1))) hb); have n1_ := Aside0.mk (Kd.R_below (by (with_reducible repeat (first | apply Kd.R_alloc | apply Kd.R_drewN | apply Kd.R_drew)); exact (Kd.R_mono (Kd.R_far (p := ⟨gb572, 1, none⟩) (Kd.R_far (p := ⟨gb572, 0, none⟩) (Kd.R_types HO567.out BK572.out (by decide)) (fun _ hk => hk.2) (.int .i64 t561)) (fun _ hk => hk.2) (.slice Ao24 t562.length co24)) (fun _ h_ => h_.1))) hb); have n2_ := Aside0.mk (Kd.R_below (by (with_reducible repeat (first | apply Kd.R_alloc | apply Kd.R_drewN | apply Kd.R_drew)); exact (Kd.R_mono (Kd.R_far (p := ⟨gb572, 1, none⟩) (Kd.R_far (p := ⟨gb572, 0, none⟩) (Kd.R_types HO570.out BK572.out (by decide)) (fun _ hk => hk.2) (.int .i64 t561)) (fun _ hk => hk.2) (.slice Ao24 t562.length co24)) (fun _ h_ => h_.1))) hb); have n3_ := Aside0.mk (blk_below (g := gb572) (o := .cells #[.int .i64 t561, .slice Ao24 t562.length co24] 25 (0, 0)) (by (with_reducible repeat (first | refine blk_drewN ?_ _ | refine blk_drew ?_ | refine blk_alloc ?_ _)); refine blk_put (cs := #[.int .i64 t561, .slice none 0 0]) ?_ 1 _ rfl; (with_reducible repeat (first | refine blk_drewN ?_ _ | refine blk_drew ?_ | refine blk_alloc ?_ _)); refine blk_put (cs := #[.int .i64 0, .slice none 0 0]) ?_ 0 _ rfl; (with_reducible repeat (first | refine blk_drewN ?_ _ | refine blk_drew ?_ | refine blk_alloc ?_ _)); exact BK572.out) hb); have n4_ := Aside0.mk (below_step (bl1 HB GE572) hb); clear HO564; clear HO567; clear HO570; clear BK572; clear HB; have HO564 := n0_; have HO567 := n1_; have HO570 := n2_; have BK572 := n3_; have HB := n4_; clear n0_ n1_ n2_ n3_ n4_; (try clear hb); (try clear hb2); (try clear hk); (try clear hi); have hcz28_0 : w27.cell? ⟨gb572, 0, none⟩ = some (.int .i64 t561) := (blk_cell BK572.out 0).trans rfl; have hcz28_1 : w27.cell? ⟨gb572, 1, none⟩ = some (.slice Ao24 t562.length co24) := (blk_cell BK572.out 1).trans rfl; have hfz28_0 := blk_frozen BK572.out 0; have hfz28_1 := blk_frozen BK572.out 1) | ((with_reducible refine gate_callee (f := 29) rfl ?_); refine goesL_ (some 32) rfl rfl Tryd.func29 (by kernel_rfl) rfl #[.agg #[.int .i64 t561, .slice Ao24 t562.length co24], .slice Ao25 t565.length co25, .slice Ao26 t568.length co26, .int .i64 t571] rfl mP ?_; (with_reducible refine (spec_IslandLoad.calls k t561 _ _ t562 _ _ t565 _ _ t568 t571 t574 _ ?side1 ?side2 ?side3 ?side4 ?side5 ?side6 A5.out).mono ?_); (case side1 => exact gC ((Kd.R_reads' HO564.out).2.2)); (case side2 => exact (Kd.R_reads' HO564.out).2.1); (case side3 => exact gC ((Kd.R_reads' HO567.out).2.2)); (case side4 => exact (Kd.R_reads' HO567.out).2.1); (case side5 => exact gC ((Kd.R_reads' HO570.out).2.2)); (case side6 => exact (Kd.R_reads' HO570.out).2.1); rintro e w29 ⟨rfl, hb⟩; refine ⟨_, rfl, ?_⟩; have n0_ := Aside0.mk (Kd.R_below (gR (HO564.out)) hb); have n1_ := Aside0.mk (Kd.R_below (gR (HO567.out)) hb); have n2_ := Aside0.mk (Kd.R_below (gR (HO570.out)) hb); have n3_ := Aside0.mk (blk_below (g := gb572) (o := .cells #[.int .i64 t561, .slice Ao24 t562.length co24] 25 (0, 0)) (gB (BK572.out)) hb); have n4_ := Aside0.mk (below_step (bl1 HB GE572) hb); clear HO564; clear HO567; clear HO570; clear BK572; clear HB; have HO564 := n0_; have HO567 := n1_; have HO570 := n2_; have BK572 := n3_; have HB := n4_; clear n0_ n1_ n2_ n3_ n4_; (try clear hb); (try clear hb2); (try clear hk); (try clear hi)) | ((with_reducible refine gate_callee (f := 30) rfl ?_); refine goesL_ (some 42) rfl rfl Tryd.func30 (by kernel_rfl) rfl #[.slice Ao26 t568.length co26] rfl mP ?_; (with_reducible refine (laws_loads.calls k _ _ t568 t576 _ ?side1 ?side2 A20.out).mono ?_); (case side1 => exact gC ((Kd.R_reads' HO570.out).2.2)); (case side2 => exact (Kd.R_reads' HO570.out).2.1); rintro e w' ⟨rfl, ⟨nd, rfl⟩⟩; refine ⟨_, rfl, ?_⟩))
 go_loopg [9] k (fun kq v9 w' => ∃ (x9_1 : Int), v9 = .int .i64 x9_1 ∧ Aside0 (laws_FnIslandLoad.l0 kq t565 t568 t571 t573 t576 x9_1 t561 t562 = some r) ∧ Aside0 (kq ≤ k) ∧ Aside0 (Kd.R Kd.bool 4 w' w.heap.size (fun _ => True) (.slice Ao25 t565.length co25) t565) ∧ Aside0 (Kd.R k33 33 w' w.heap.size (fun _ => True) (.slice Ao26 t568.length co26) t568) ∧ Aside0 (Kd.R k79 79 w' w.heap.size (fun _ => True) (.slice Ao24 t562.length co24) t562) ∧ Aside0 (w'.heap[gb572]? = some (.cells #[.int .i64 t561, (.slice Ao24 t562.length co24)] 25 (0, 0))) ∧ Aside0 (Below w.heap.size w w'))
 case atStart => exact ⟨(0), fS, H', ⟨Nat.le_refl _⟩, ⟨gR (HO567.out)⟩, ⟨gR (HO570.out)⟩, ⟨gR (HO564.out)⟩, ⟨gB (BK572.out)⟩, ⟨bl1 HB GE572⟩⟩
 case round =>
  clear H'
  try clear c2
  try clear c2b0
  try clear c2b1
  try clear p2
  try clear c3
  try clear c5
  try clear c6
  try clear c6b0
  try clear c6b1
  try clear c7
  try clear c7b0
  try clear c8
  try clear c8b0
  try clear c8b1
  try clear c27
  try clear c28
  try clear c29
  try clear hcz12_0
  try clear hcz12_1
  try clear hcz17_0
  try clear hcz17_1
  try clear hcz23_0
  try clear hcz23_1
  try clear hcz28_0
  try clear hcz28_1
  try clear hfz12_0
  try clear hfz12_1
  try clear hfz17_0
  try clear hfz17_1
  try clear hfz23_0
  try clear hfz23_1
  try clear hfz28_0
  try clear hfz28_1
  obtain ⟨x9_1, rfl, HA, HK1, HO_4, HO_5, HO_573001, BK572, HB⟩ := hrel
  cases gk with
  | zero => exact absurd HA.out (by simp [laws_FnIslandLoad.l0])
  | succ k1 =>
   have H := HA.out
   clear HA
   simp only [laws_FnIslandLoad.l0] at H
   by_cases c30 : x9_1 < (t568.length : Int)
   ·
    rw [if_pos c30] at H
    have c30b0 : decide (x9_1 < (t568.length : Int)) = true := decide_eq_true c30
    clear c30
    replace H := Option.bind_eq_some_iff.mp H
    obtain ⟨t577, A310, H⟩ := H
    replace H : (if t577 = true then ((impl_IslandLoad.f k1 t561 t562 t565 t568 x9_1).bind fun t578 => (if t578 = t573 then (laws_FnIslandLoad.l0 k1 t565 t568 t571 t573 t576 (wrap64 (x9_1 + 1)) t561 t562) else (none))) else (laws_FnIslandLoad.l0 k1 t565 t568 t571 t573 t576 (wrap64 (x9_1 + 1)) t561 t562)) = some r := H
    have A31 := Aside0.mk A310
    clear A310
    by_cases c32 : t577 = true
    rotate_left
    ·
     replace c32 := Bool.eq_false_iff.mpr c32
     subst c32
     have H1 : (laws_FnIslandLoad.l0 k1 t565 t568 t571 t573 t576 (wrap64 (x9_1 + 1)) t561 t562) = some r := by rw [if_neg (show ¬ (false = true) by decide)] at H; exact H
     clear H
     have H := H1
     clear H1
     have H' := Aside0.mk H
     clear H
     have hcz39_0 : wr.cell? ⟨gb572, 0, none⟩ = some (.int .i64 t561) := (blk_cell BK572.out 0).trans rfl
     have hcz39_1 : wr.cell? ⟨gb572, 1, none⟩ = some (.slice Ao24 t562.length co24) := (blk_cell BK572.out 1).trans rfl
     have hfz39_0 := blk_frozen BK572.out 0
     have hfz39_1 := blk_frozen BK572.out 1
     go_wp2_with (first | ((with_reducible refine gate_callee (f := 18) rfl ?_); refine goesL_ (some 53) rfl rfl Tryd.func18 (by kernel_rfl) rfl #[.agg #[.int .i64 t561, .slice Ao24 t562.length co24], .slice Ao25 t565.length co25, .int .i64 x9_1, .int .i64 t571] rfl mP ?_; (with_reducible refine (impl_SameIsland.calls k1 t561 _ _ t562 _ _ t565 x9_1 t571 false _ ?side1 ?side2 ?side3 ?side4 A31.out).mono ?_); (case side1 => exact gC ((Kd.R_reads' HO_573001.out).2.2)); (case side2 => exact (Kd.R_reads' HO_573001.out).2.1); (case side3 => exact gC ((Kd.R_reads' HO_4.out).2.2)); (case side4 => exact (Kd.R_reads' HO_4.out).2.1); rintro e w40 ⟨rfl, hb⟩; refine ⟨_, rfl, ?_⟩; have n0_ := Aside0.mk (Kd.R_below (gR (HO_4.out)) hb); have n1_ := Aside0.mk (Kd.R_below (gR (HO_5.out)) hb); have n2_ := Aside0.mk (Kd.R_below (gR (HO_573001.out)) hb); have n3_ := Aside0.mk (blk_below (g := gb572) (o := .cells #[.int .i64 t561, .slice Ao24 t562.length co24] 25 (0, 0)) (gB (BK572.out)) hb); have n4_ := Aside0.mk (below_step (bl1 HB GE572) hb); clear HO_4; clear HO_5; clear HO_573001; clear BK572; clear HB; have HO_4 := n0_; have HO_5 := n1_; have HO_573001 := n2_; have BK572 := n3_; have HB := n4_; clear n0_ n1_ n2_ n3_ n4_; (try clear hb); (try clear hb2); (try clear hk); (try clear hi)))
     go_roundg k1
     case measure => have := HK1.out; omega
     case rel => exact ⟨(wrap64 (x9_1 + 1)), fS, H', ⟨by have := HK1.out; omega⟩, ⟨gR (HO_4.out)⟩, ⟨gR (HO_5.out)⟩, ⟨gR (HO_573001.out)⟩, ⟨gB (BK572.out)⟩, ⟨bl1 HB GE572⟩⟩
    subst c32
    have H1 : ((impl_IslandLoad.f k1 t561 t562 t565 t568 x9_1).bind fun t578 => (if t578 = t573 then (laws_FnIslandLoad.l0 k1 t565 t568 t571 t573 t576 (wrap64 (x9_1 + 1)) t561 t562) else (none))) = some r := by rw [if_pos rfl] at H; exact H
    clear H
    have H := H1
    clear H1
    replace H := Option.bind_eq_some_iff.mp H
    obtain ⟨t578, A330, H⟩ := H
    replace H : (if t578 = t573 then (laws_FnIslandLoad.l0 k1 t565 t568 t571 t573 t576 (wrap64 (x9_1 + 1)) t561 t562) else (none)) = some r := H
    have A33 := Aside0.mk A330
    clear A330
    by_cases c34 : t578 = t573
    rotate_left
    ·
     rw [if_neg c34] at H
     exact absurd H (by simp)
    rw [if_pos c34] at H
    have c34b0 : (t578 == t573) = true := beq_iff_eq.mpr c34
    have c34b1 : (t578 != t573) = false := bne_eq_false_iff_eq.mpr c34
    clear c34
    have H' := Aside0.mk H
    clear H
    have hcz35_0 : wr.cell? ⟨gb572, 0, none⟩ = some (.int .i64 t561) := (blk_cell BK572.out 0).trans rfl
    have hcz35_1 : wr.cell? ⟨gb572, 1, none⟩ = some (.slice Ao24 t562.length co24) := (blk_cell BK572.out 1).trans rfl
    have hfz35_0 := blk_frozen BK572.out 0
    have hfz35_1 := blk_frozen BK572.out 1
    go_wp2_with (first | ((with_reducible refine gate_callee (f := 18) rfl ?_); refine goesL_ (some 53) rfl rfl Tryd.func18 (by kernel_rfl) rfl #[.agg #[.int .i64 t561, .slice Ao24 t562.length co24], .slice Ao25 t565.length co25, .int .i64 x9_1, .int .i64 t571] rfl mP ?_; (with_reducible refine (impl_SameIsland.calls k1 t561 _ _ t562 _ _ t565 x9_1 t571 true _ ?side1 ?side2 ?side3 ?side4 A31.out).mono ?_); (case side1 => exact gC ((Kd.R_reads' HO_573001.out).2.2)); (case side2 => exact (Kd.R_reads' HO_573001.out).2.1); (case side3 => exact gC ((Kd.R_reads' HO_4.out).2.2)); (case side4 => exact (Kd.R_reads' HO_4.out).2.1); rintro e w36 ⟨rfl, hb⟩; refine ⟨_, rfl, ?_⟩; have n0_ := Aside0.mk (Kd.R_below (gR (HO_4.out)) hb); have n1_ := Aside0.mk (Kd.R_below (gR (HO_5.out)) hb); have n2_ := Aside0.mk (Kd.R_below (gR (HO_573001.out)) hb); have n3_ := Aside0.mk (blk_below (g := gb572) (o := .cells #[.int .i64 t561, .slice Ao24 t562.length co24] 25 (0, 0)) (gB (BK572.out)) hb); have n4_ := Aside0.mk (below_step (bl1 HB GE572) hb); clear HO_4; clear HO_5; clear HO_573001; clear BK572; clear HB; have HO_4 := n0_; have HO_5 := n1_; have HO_573001 := n2_; have BK572 := n3_; have HB := n4_; clear n0_ n1_ n2_ n3_ n4_; (try clear hb); (try clear hb2); (try clear hk); (try clear hi); have hcz37_0 : w36.cell? ⟨gb572, 0, none⟩ = some (.int .i64 t561) := (blk_cell BK572.out 0).trans rfl; have hcz37_1 : w36.cell? ⟨gb572, 1, none⟩ = some (.slice Ao24 t562.length co24) := (blk_cell BK572.out 1).trans rfl; have hfz37_0 := blk_frozen BK572.out 0; have hfz37_1 := blk_frozen BK572.out 1) | (go_at_call 28; (with_reducible refine (impl_IslandLoad.calls k1 t561 _ _ t562 _ _ t565 _ _ t568 x9_1 t578 _ ?side1 ?side2 ?side3 ?side4 ?side5 ?side6 A33.out).mono ?_); (case side1 => exact gC ((Kd.R_reads' HO_573001.out).2.2)); (case side2 => exact (Kd.R_reads' HO_573001.out).2.1); (case side3 => exact gC ((Kd.R_reads' HO_4.out).2.2)); (case side4 => exact (Kd.R_reads' HO_4.out).2.1); (case side5 => exact gC ((Kd.R_reads' HO_5.out).2.2)); (case side6 => exact (Kd.R_reads' HO_5.out).2.1); rintro e w38 ⟨rfl, hb⟩; have n0_ := Aside0.mk (Kd.R_below (gR (HO_4.out)) hb); have n1_ := Aside0.mk (Kd.R_below (gR (HO_5.out)) hb); have n2_ := Aside0.mk (Kd.R_below (gR (HO_573001.out)) hb); have n3_ := Aside0.mk (blk_below (g := gb572) (o := .cells #[.int .i64 t561, .slice Ao24 t562.length co24] 25 (0, 0)) (gB (BK572.out)) hb); have n4_ := Aside0.mk (below_step (bl1 HB GE572) hb); clear HO_4; clear HO_5; clear HO_573001; clear BK572; clear HB; have HO_4 := n0_; have HO_5 := n1_; have HO_573001 := n2_; have BK572 := n3_; have HB := n4_; clear n0_ n1_ n2_ n3_ n4_; (try clear hb); (try clear hb2); (try clear hk); (try clear hi)))
    go_roundg k1
    case measure => have := HK1.out; omega
    case rel => exact ⟨(wrap64 (x9_1 + 1)), fS, H', ⟨by have := HK1.out; omega⟩, ⟨gR (HO_4.out)⟩, ⟨gR (HO_5.out)⟩, ⟨gR (HO_573001.out)⟩, ⟨gB (BK572.out)⟩, ⟨bl1 HB GE572⟩⟩
   rw [if_neg c30] at H
   have c30b0 : decide (x9_1 < (t568.length : Int)) = false := decide_eq_false c30
   clear c30
   replace H := Option.bind_eq_some_iff.mp H
   obtain ⟨t579, A410, H⟩ := H
   replace H : (laws_FnIslandLoad.l1 k1 t565 t568 t576 t579 0 t561 t562) = some r := H
   have A41 := Aside0.mk A410
   clear A410
   have H' := Aside0.mk H
   clear H
   have hcz42_0 : wr.cell? ⟨gb572, 0, none⟩ = some (.int .i64 t561) := (blk_cell BK572.out 0).trans rfl
   have hcz42_1 : wr.cell? ⟨gb572, 1, none⟩ = some (.slice Ao24 t562.length co24) := (blk_cell BK572.out 1).trans rfl
   have hfz42_0 := blk_frozen BK572.out 0
   have hfz42_1 := blk_frozen BK572.out 1
   go_wp2_with (first | ((with_reducible refine gate_callee (f := 19) rfl ?_); refine goesL_ (some 65) rfl rfl Tryd.func19 (by kernel_rfl) rfl #[.agg #[.int .i64 t561, .slice Ao24 t562.length co24], .slice Ao25 t565.length co25] rfl mP ?_; (with_reducible refine (impl_IslandsOf.calls k1 t561 _ _ t562 _ _ t565 t579 _ ?side1 ?side2 ?side3 ?side4 A41.out).mono ?_); (case side1 => exact gC ((Kd.R_reads' HO_573001.out).2.2)); (case side2 => exact (Kd.R_reads' HO_573001.out).2.1); (case side3 => exact gC ((Kd.R_reads' HO_4.out).2.2)); (case side4 => exact (Kd.R_reads' HO_4.out).2.1); rintro e w43 ⟨v580, rfl, ho0, hb⟩; refine ⟨_, rfl, ?_⟩; have n0_ := Aside0.mk (Kd.R_below (gR (HO_4.out)) hb); have n1_ := Aside0.mk (Kd.R_below (gR (HO_5.out)) hb); have n2_ := Aside0.mk (Kd.R_below (gR (HO_573001.out)) hb); have n3_ := Aside0.mk (Kd.S_lower ho0 (below_size (bl1 HB GE572))); have n4_ := Aside0.mk (blk_below (g := gb572) (o := .cells #[.int .i64 t561, .slice Ao24 t562.length co24] 25 (0, 0)) (gB (BK572.out)) hb); have n5_ := Aside0.mk (below_step (bl1 HB GE572) hb); clear HO_4; clear HO_5; clear HO_573001; clear BK572; clear HB; have HO_4 := n0_; have HO_5 := n1_; have HO_573001 := n2_; have HO581 := n3_; have BK572 := n4_; have HB := n5_; clear n0_ n1_ n2_ n3_ n4_ n5_; (try clear hb); (try clear hb2); (try clear hk); (try clear hi); (try clear ho0)))
   go_loopg [8, 11] k1 (fun kq v8 v11 w' => ∃ (x8_2 : Int) (x11_2 : Int), v8 = .int .i64 x8_2 ∧ v11 = .int .i64 x11_2 ∧ Aside0 (laws_FnIslandLoad.l1 kq t565 t568 x8_2 t579 x11_2 t561 t562 = some r) ∧ Aside0 (kq ≤ k1) ∧ Aside0 (Kd.R Kd.bool 4 w' w.heap.size (fun _ => True) (.slice Ao25 t565.length co25) t565) ∧ Aside0 (Kd.R k33 33 w' w.heap.size (fun _ => True) (.slice Ao26 t568.length co26) t568) ∧ Aside0 (Kd.S (Kd.slice 3 (Kd.int .i64)) 37 w' w.heap.size (fun _ => True) v580 t579) ∧ Aside0 (Kd.R k79 79 w' w.heap.size (fun _ => True) (.slice Ao24 t562.length co24) t562) ∧ Aside0 (w'.heap[gb572]? = some (.cells #[.int .i64 t561, (.slice Ao24 t562.length co24)] 25 (0, 0))) ∧ Aside0 (Below w.heap.size w w'))
   case atStart => exact ⟨(t576), (0), fS, fS, H', ⟨Nat.le_refl _⟩, ⟨gR (HO_4.out)⟩, ⟨gR (HO_5.out)⟩, ⟨gS (HO581.out)⟩, ⟨gR (HO_573001.out)⟩, ⟨gB (BK572.out)⟩, ⟨bl1 HB GE572⟩⟩
   case round =>
    clear H'
    try clear c1
    try clear c2
    try clear c2b0
    try clear c2b1
    try clear p2
    try clear c3
    try clear c5
    try clear c6
    try clear c6b0
    try clear c6b1
    try clear p6
    try clear c7
    try clear c7b0
    try clear c8
    try clear c8b0
    try clear c8b1
    try clear c18
    try clear c19
    try clear c27
    try clear c28
    try clear c29
    try clear c30
    try clear c30b0
    try clear c32
    try clear c34
    try clear c34b0
    try clear c34b1
    try clear hcz12_0
    try clear hcz12_1
    try clear hcz17_0
    try clear hcz17_1
    try clear hcz23_0
    try clear hcz23_1
    try clear hcz28_0
    try clear hcz28_1
    try clear hcz35_0
    try clear hcz35_1
    try clear hcz37_0
    try clear hcz37_1
    try clear hcz39_0
    try clear hcz39_1
    try clear hcz42_0
    try clear hcz42_1
    try clear hfz12_0
    try clear hfz12_1
    try clear hfz17_0
    try clear hfz17_1
    try clear hfz23_0
    try clear hfz23_1
    try clear hfz28_0
    try clear hfz28_1
    try clear hfz35_0
    try clear hfz35_1
    try clear hfz37_0
    try clear hfz37_1
    try clear hfz39_0
    try clear hfz39_1
    try clear hfz42_0
    try clear hfz42_1
    try clear p2
    obtain ⟨x8_2, x11_2, rfl, rfl, HA, HK2, HO_4, HO_5, HO_10, HO_573001, BK572, HB⟩ := hrel
    cases gk with
    | zero => exact absurd HA.out (by simp [laws_FnIslandLoad.l1])
    | succ k2 =>
     have H := HA.out
     clear HA
     simp only [laws_FnIslandLoad.l1] at H
     by_cases c44 : x11_2 < (t579.length : Int)
     rotate_left
     ·
      rw [if_neg c44] at H
      have c44b0 : decide (x11_2 < (t579.length : Int)) = false := decide_eq_false c44
      clear c44
      obtain rfl := Option.some.inj H
      obtain ⟨Ao52, co52, eo52⟩ := Kd.S_slice HO_10.out
      subst eo52
      go_wp2
      go_ret
      exact ⟨fR, bl1 HB GE572⟩
     rw [if_pos c44] at H
     have c44b0 : decide (x11_2 < (t579.length : Int)) = true := decide_eq_true c44
     clear c44
     by_cases c45 : 0 ≤ x11_2
     rotate_left
     ·
      rw [if_neg c45] at H
      exact absurd H (by simp)
     rw [if_pos c45] at H
     have c45b0 : decide (0 ≤ x11_2) = true := decide_eq_true c45
     clear c45
     by_cases c46 : ((rd_L9 t579 x11_2).length : Int) = 0
     ·
      rw [if_pos c46] at H
      exact absurd H (by simp)
     rw [if_neg c46] at H
     have c46b0 : (((rd_L9 t579 x11_2).length : Int) == 0) = false := beq_eq_false_iff_ne.mpr c46
     have c46b1 : (((rd_L9 t579 x11_2).length : Int) != 0) = true := bne_iff_ne.mpr c46
     have c46b2 : ¬ ((rd_L9 t579 x11_2) = []) := fun h_ => c46 (by rw [h_]; rfl)
     by_cases c47 : 0 < ((rd_L9 t579 x11_2).length : Int)
     rotate_left
     ·
      rw [if_neg c47] at H
      exact absurd H (by simp)
     rw [if_pos c47] at H
     have c47b0 : decide (0 < ((rd_L9 t579 x11_2).length : Int)) = true := decide_eq_true c47
     have c47b1 : decide (0 < (rd_L9 t579 x11_2).length) = true := decide_eq_true (by omega)
     clear c47
     replace H := Option.bind_eq_some_iff.mp H
     obtain ⟨t585, A480, H⟩ := H
     replace H : (laws_FnIslandLoad.l1 k2 t565 t568 (wrap64 (x8_2 - t585)) t579 (wrap64 (x11_2 + 1)) t561 t562) = some r := H
     have A48 := Aside0.mk A480
     clear A480
     have H' := Aside0.mk H
     clear H
     obtain ⟨Ao49, co49, eo49⟩ := Kd.S_slice HO_10.out
     subst eo49
     have p582 : 0 ≤ (x11_2 : Int) := oD
     have q582 : x11_2 < (t579.length : Int) := oD
     obtain ⟨ad582, A582_0, c582_0, e582, hx582_0, hl582_0, hi582_0⟩ := at_L9 (Kd.S_reads' HO_10.out).2.2 x11_2 p582 q582
     cases e582
     obtain ⟨ce582, hce582, hMe582, hcc582⟩ := Kd.S_get HO_10.out [] x11_2 p582 (by first | exact q582 | exact oD | (have e_ := (Kd.S_reads' HO_10.out).1; omega))
     obtain ⟨ve582_0, rfl, ge582_0⟩ := hMe582
     have hv582_0 := hcc582 0 _ rfl
     rw [Nat.add_zero, show ((Kd.slice 3 (Kd.int .i64))).sz = 1 from rfl, Nat.mul_one] at hv582_0
     replace hv582_0 := Option.some.inj (hv582_0.symm.trans hx582_0)
     rw [hv582_0] at ge582_0
     have HL582_0 := Aside0.mk (show Kd.R (Kd.int .i64) 3 _ _ _ _ (rd_L9 t579 x11_2) from ge582_0)
     clear hv582_0 ge582_0
     clear hcc582 hce582
     have HR582_0 := Aside0.mk hi582_0
     have HC582_0 := Aside0.mk hl582_0
     clear hi582_0 hl582_0
     replace p582 := eq_true p582
     replace q582 := eq_true q582
     try go_wp2
     have n0_ := Aside0.mk (Kd.R_drew HO_4.out)
     have n1_ := Aside0.mk (Kd.R_drew HO_5.out)
     have n2_ := Aside0.mk (Kd.S_drew HO_10.out)
     have n3_ := Aside0.mk (Kd.R_drew HO_573001.out)
     have n4_ := Aside0.mk (Kd.R_drew HL582_0.out)
     have n5_ := Aside0.mk (blk_drew BK572.out)
     have n6_ := Aside0.mk (Kd.C_drew HR582_0.out)
     have n7_ := Aside0.mk (below_drew1 HB.out)
     clear HO_4
     clear HO_5
     clear HO_10
     clear HO_573001
     clear HL582_0
     clear BK572
     clear HR582_0
     clear HB
     have HO_4 := n0_
     have HO_5 := n1_
     have HO_10 := n2_
     have HO_573001 := n3_
     have HL582_0 := n4_
     have BK572 := n5_
     have HR582_0 := n6_
     have HB := n7_
     clear n0_ n1_ n2_ n3_ n4_ n5_ n6_ n7_
     have p583 : 0 ≤ (x11_2 : Int) := oD
     have q583 : x11_2 < (t579.length : Int) := oD
     obtain ⟨ad583, A583_0, c583_0, e583, hx583_0, hl583_0, hi583_0⟩ := at_L9 (Kd.S_reads' HO_10.out).2.2 x11_2 p583 q583
     obtain rfl : ad582 = ad583 := (by injection e583)
     obtain ⟨ce583, hce583, hMe583, hcc583⟩ := Kd.S_get HO_10.out [] x11_2 p583 (by first | exact q583 | exact oD | (have e_ := (Kd.S_reads' HO_10.out).1; omega))
     obtain ⟨ve583_0, rfl, ge583_0⟩ := hMe583
     have hv583_0 := hcc583 0 _ rfl
     rw [Nat.add_zero, show ((Kd.slice 3 (Kd.int .i64))).sz = 1 from rfl, Nat.mul_one] at hv583_0
     replace hv583_0 := Option.some.inj (hv583_0.symm.trans hx583_0)
     rw [hv583_0] at ge583_0
     have HL583_0 := Aside0.mk (show Kd.R (Kd.int .i64) 3 _ _ _ _ (rd_L9 t579 x11_2) from ge583_0)
     clear hv583_0 ge583_0
     clear hcc583 hce583
     have HR583_0 := Aside0.mk hi583_0
     have HC583_0 := Aside0.mk hl583_0
     clear hi583_0 hl583_0
     replace p583 := eq_true p583
     replace q583 := eq_true q583
     have p584 : 0 ≤ (0 : Int) := (by omega)
     have q584 : 0 < ((rd_L9 t579 x11_2).length : Int) := oD
     obtain ⟨ad584, e584, hx584_0⟩ := Kd.at_int (by repeat (first | (with_reducible exact HR583_0.out) | (with_reducible refine Kd.C_alloc ?_ _) | (with_reducible refine Kd.C_drewN ?_ _) | (with_reducible refine Kd.C_drew ?_) | exact HR583_0.out)) 0 p584 q584
     cases e584
     have qi584 : (0 < (rd_L9 t579 x11_2).length) = True := eq_true (by omega)
     (try rw [show ((0 : Int)).toNat = 0 from rfl] at hx584_0)
     (try rw [Addr.add_zero'] at hx584_0)
     replace p584 := eq_true p584
     replace q584 := eq_true q584
     refine start_ (n := 13) (S := fun w' => w'.cell? ⟨gb572, 0, none⟩ = some (.int .i64 t561) ∧ w'.cell? ⟨gb572, 1, none⟩ = some (.slice Ao24 t562.length co24) ∧ w'.cell? (ad582.add (x11_2).toNat) = some (.slice (some ad584) (rd_L9 t579 x11_2).length c583_0) ∧ w'.cell? ad584 = some (.int .i64 (rd (rd_L9 t579 x11_2) 0))) (ds := []) #[false, false, false, false, false, false, false, false, false, false, false, false, false] (by kernel_rfl) rfl rfl ⟨(blk_cell BK572.out 0).trans rfl, (blk_cell BK572.out 1).trans rfl, hx583_0, hx584_0⟩ (fun hHeld => ?_); refine with_tabW laws_FnIslandLoad.tab21 laws_FnIslandLoad.bits21 (fun HT_ HW_ => ?_)
     generalize wr.drew = w50 at HO_4 HO_5 HO_10 HO_573001 HL582_0 BK572 HR582_0 HB HL583_0 HR583_0 hx583_0 hx584_0 hHeld ⊢
     refine pure_ (i := 0) (N := some 78) (v := ?_) (a' := ?_) #[true, false, false, false, false, false, false, false, false, false, false, false, false] rfl rfl (any_of HT_.out (by kernel_rfl)) (fun _ _ _ h => h) (Or.inl ⟨by rfl, ?_⟩) ?_ ?_
     rotate_left
     ·
      intro w'
      go_simp
      with_reducible rfl
     rotate_left
     ·
      simp only [Act.put, List.setIfInBounds_toArray, List.set_cons_zero, List.set_cons_succ, i64_w, i32_w]
      rfl
     refine pure_ (i := 2) (N := some 80) (v := ?_) (a' := ?_) #[true, false, true, false, false, false, false, false, false, false, false, false, false] rfl rfl (any_of HT_.out (by kernel_rfl)) (fun _ _ _ h => h) (Or.inl ⟨by rfl, ?_⟩) ?_ ?_
     rotate_left
     ·
      intro w'
      go_simp
      with_reducible rfl
     rotate_left
     ·
      simp only [Act.put, List.setIfInBounds_toArray, List.set_cons_zero, List.set_cons_succ, i64_w, i32_w]
      rfl
     refine pure_ (i := 3) (N := some 81) (v := ?_) (a' := ?_) #[true, false, true, true, false, false, false, false, false, false, false, false, false] rfl rfl (any_of HT_.out (by kernel_rfl)) (fun _ _ _ h => h) (Or.inl ⟨by rfl, ?_⟩) ?_ ?_
     rotate_left
     ·
      intro w'
      go_simp
      with_reducible rfl
     rotate_left
     ·
      simp only [Act.put, List.setIfInBounds_toArray, List.set_cons_zero, List.set_cons_succ, i64_w, i32_w]
      rfl
     refine pure_ (i := 4) (N := some 82) (v := ?_) (a' := ?_) #[true, false, true, true, true, false, false, false, false, false, false, false, false] rfl rfl (any_of HT_.out (by kernel_rfl)) (fun _ _ _ h => h) (Or.inl ⟨by rfl, ?_⟩) ?_ ?_
     rotate_left
     ·
      intro w'
      go_simp
      with_reducible rfl
     rotate_left
     ·
      simp only [Act.put, List.setIfInBounds_toArray, List.set_cons_zero, List.set_cons_succ, i64_w, i32_w]
      rfl
     refine pure_ (i := 5) (N := some 83) (v := ?_) (a' := ?_) #[true, false, true, true, true, true, false, false, false, false, false, false, false] rfl rfl (any_of HT_.out (by kernel_rfl)) (fun _ _ _ h => h) (Or.inl ⟨by rfl, ?_⟩) ?_ ?_
     rotate_left
     ·
      intro w'
      go_simp
      with_reducible rfl
     rotate_left
     ·
      simp only [Act.put, List.setIfInBounds_toArray, List.set_cons_zero, List.set_cons_succ, i64_w, i32_w]
      rfl
     refine pure_ (i := 6) (N := some 84) (v := ?_) (a' := ?_) #[true, false, true, true, true, true, true, false, false, false, false, false, false] rfl rfl (any_of HT_.out (by kernel_rfl)) (fun _ _ _ h => h) (Or.inl ⟨by rfl, ?_⟩) ?_ ?_
     rotate_left
     ·
      intro w'
      go_simp
      with_reducible rfl
     rotate_left
     ·
      simp only [Act.put, List.setIfInBounds_toArray, List.set_cons_zero, List.set_cons_succ, i64_w, i32_w]
      rfl
     refine take_ (i := 1) (N := some 79) (v := ?_) (a' := ?_) #[true, true, true, true, true, true, true, false, false, false, false, false, false] rfl rfl (take_ofW HT_.out HW_.out (by kernel_rfl)) (fun _ _ _ h => h) (Or.inl ⟨by rfl, ?_⟩) hHeld ?_ ?_
     rotate_left
     ·
      rintro w' ⟨s0, s1, s2, s3⟩
      go_simp
      with_reducible rfl
     rotate_left
     ·
      simp only [Act.put, List.setIfInBounds_toArray, List.set_cons_zero, List.set_cons_succ, i64_w, i32_w]
      rfl
     refine take_ (i := 7) (N := some 85) (v := ?_) (a' := ?_) #[true, true, true, true, true, true, true, true, false, false, false, false, false] rfl rfl (take_ofW HT_.out HW_.out (by kernel_rfl)) (fun _ _ _ h => h) (Or.inl ⟨by rfl, ?_⟩) hHeld ?_ ?_
     rotate_left
     ·
      rintro w' ⟨s0, s1, s2, s3⟩
      go_simp
      with_reducible rfl
     rotate_left
     ·
      simp only [Act.put, List.setIfInBounds_toArray, List.set_cons_zero, List.set_cons_succ, i64_w, i32_w]
      rfl
     refine pure_ (i := 8) (N := some 86) (v := ?_) (a' := ?_) #[true, true, true, true, true, true, true, true, true, false, false, false, false] rfl rfl (any_of HT_.out (by kernel_rfl)) (fun _ _ _ h => h) (Or.inl ⟨by rfl, ?_⟩) ?_ ?_
     rotate_left
     ·
      intro w'
      go_simp
      with_reducible rfl
     rotate_left
     ·
      simp only [Act.put, List.setIfInBounds_toArray, List.set_cons_zero, List.set_cons_succ, i64_w, i32_w]
      rfl
     refine take_ (i := 9) (N := some 87) (v := ?_) (a' := ?_) #[true, true, true, true, true, true, true, true, true, true, false, false, false] rfl rfl (take_ofW HT_.out HW_.out (by kernel_rfl)) (fun _ _ _ h => h) (Or.inl ⟨by rfl, ?_⟩) hHeld ?_ ?_
     rotate_left
     ·
      rintro w' ⟨s0, s1, s2, s3⟩
      go_simp
      with_reducible rfl
     rotate_left
     ·
      simp only [Act.put, List.setIfInBounds_toArray, List.set_cons_zero, List.set_cons_succ, i64_w, i32_w]
      rfl
     refine one_ (i := 10) (N := some 88) #[true, true, true, true, true, true, true, true, true, true, true, false, false] rfl rfl (one_of HT_.out (by kernel_rfl)) (by decide) (fun K hK => ?_)
     refine goes_ Tryd.func28 (by kernel_rfl) rfl #[.agg #[.int .i64 t561, .slice Ao24 t562.length co24], .slice Ao25 t565.length co25, .slice Ao26 t568.length co26, .int .i64 (rd (rd_L9 t579 x11_2) 0)] (by rfl) rfl rfl mP ?_
     with_reducible refine (impl_IslandLoad.calls k2 t561 _ _ t562 _ _ t565 _ _ t568 (rd (rd_L9 t579 x11_2) 0) t585 _ ?side1 ?side2 ?side3 ?side4 ?side5 ?side6 A48.out).mono ?_
     (case side1 => exact gC ((Kd.R_reads' HO_573001.out).2.2))
     (case side2 => exact (Kd.R_reads' HO_573001.out).2.1)
     (case side3 => exact gC ((Kd.R_reads' HO_4.out).2.2))
     (case side4 => exact (Kd.R_reads' HO_4.out).2.1)
     (case side5 => exact gC ((Kd.R_reads' HO_5.out).2.2))
     (case side6 => exact (Kd.R_reads' HO_5.out).2.1)
     rintro e w51 ⟨rfl, hb⟩
     have HS2_ := (hb.cell (World.block_lt_of_cell? _ _ (hHeld.2.2.1))).trans (hHeld.2.2.1)
     have HS3_ := (hb.cell (World.block_lt_of_cell? _ _ (hHeld.2.2.2))).trans (hHeld.2.2.2)
     refine ⟨_, rfl, ?_⟩
     have n0_ := Aside0.mk (Kd.R_below (gR (HO_4.out)) hb)
     have n1_ := Aside0.mk (Kd.R_below (gR (HO_5.out)) hb)
     have n2_ := Aside0.mk (Kd.S_below (gS (HO_10.out)) hb)
     have n3_ := Aside0.mk (Kd.R_below (gR (HO_573001.out)) hb)
     have n4_ := Aside0.mk (Kd.R_below (gR (HL582_0.out)) hb)
     have n5_ := Aside0.mk (Kd.R_below (gR (HL583_0.out)) hb)
     have n6_ := Aside0.mk (blk_below (g := gb572) (o := .cells #[.int .i64 t561, .slice Ao24 t562.length co24] 25 (0, 0)) (gB (BK572.out)) hb)
     have n7_ := Aside0.mk (Kd.C_below (by repeat (first | (with_reducible exact HR582_0.out) | (with_reducible refine Kd.C_alloc ?_ _) | (with_reducible refine Kd.C_drewN ?_ _) | (with_reducible refine Kd.C_drew ?_) | exact HR582_0.out)) hb)
     have n8_ := Aside0.mk (Kd.C_below (by repeat (first | (with_reducible exact HR583_0.out) | (with_reducible refine Kd.C_alloc ?_ _) | (with_reducible refine Kd.C_drewN ?_ _) | (with_reducible refine Kd.C_drew ?_) | exact HR583_0.out)) hb)
     have n9_ := Aside0.mk (below_step (bl1 HB GE572) hb)
     clear HO_4
     clear HO_5
     clear HO_10
     clear HO_573001
     clear HL582_0
     clear HL583_0
     clear BK572
     clear HR582_0
     clear HR583_0
     clear HB
     have HO_4 := n0_
     have HO_5 := n1_
     have HO_10 := n2_
     have HO_573001 := n3_
     have HL582_0 := n4_
     have HL583_0 := n5_
     have BK572 := n6_
     have HR582_0 := n7_
     have HR583_0 := n8_
     have HB := n9_
     clear n0_ n1_ n2_ n3_ n4_ n5_ n6_ n7_ n8_ n9_
     (try clear hb)
     (try clear hb2)
     (try clear hk)
     (try clear hi)
     refine hK.out _ _ ⟨(blk_cell BK572.out 0).trans rfl, (blk_cell BK572.out 1).trans rfl, HS2_, HS3_⟩ (fun hHeld => ?_)
     clear hK K
     refine norm_ (a' := ?_) ?_ ?_
     rotate_left
     ·
      show Act.put _ (some 88) _ = _
      simp only [Act.put, List.setIfInBounds_toArray, List.set_cons_zero, List.set_cons_succ, i64_w, i32_w]
      rfl
     refine pure_ (i := 11) (N := some 89) (v := ?_) (a' := ?_) #[true, true, true, true, true, true, true, true, true, true, true, true, false] rfl rfl (any_of HT_.out (by kernel_rfl)) (fun _ _ _ h => h) (Or.inl ⟨by rfl, ?_⟩) ?_ ?_
     rotate_left
     ·
      intro w'
      go_simp
      with_reducible rfl
     rotate_left
     ·
      simp only [Act.put, List.setIfInBounds_toArray, List.set_cons_zero, List.set_cons_succ, i64_w, i32_w]
      rfl
     refine pure_ (i := 12) (N := some 8) (v := ?_) (a' := ?_) #[true, true, true, true, true, true, true, true, true, true, true, true, true] rfl rfl (any_of HT_.out (by kernel_rfl)) (fun _ _ _ h => h) (Or.inl ⟨by rfl, ?_⟩) ?_ ?_
     rotate_left
     ·
      intro w'
      go_simp
      with_reducible rfl
     rotate_left
     ·
      simp only [Act.put, List.setIfInBounds_toArray, List.set_cons_zero, List.set_cons_succ, i64_w, i32_w]
      rfl
     refine done_ (done_of HT_.out (by kernel_rfl)) ?_
     try go_wp2
     go_roundg k2
     case measure => have := HK1.out; have := HK2.out; omega
     case rel => exact ⟨(wrap64 (x8_2 - t585)), (wrap64 (x11_2 + 1)), fS, fS, H', ⟨by have := HK1.out; have := HK2.out; omega⟩, ⟨gR (HO_4.out)⟩, ⟨gR (HO_5.out)⟩, ⟨gS (HO_10.out)⟩, ⟨gR (HO_573001.out)⟩, ⟨gB (BK572.out)⟩, ⟨bl1 HB GE572⟩⟩

end Go.Proofs.YtpgjgbjkfgbpaaaDoor.P

/- Contracts of Go functions of this seat's translation, written by this repo's wip/mk.py: it calls the kit's print.py with contracts typed by hand in place of functions that it does not take. Not trusted: Lean checks it. -/
import Derived.Test.YtpgjgbjkfgbpaaaDoorP0
import Derived.Test.YtpgjgbjkfgbpaaaDoorP16
import Derived.Test.YtpgjgbjkfgbpaaaDoorP25
import Derived.Test.YtpgjgbjkfgbpaaaDoorP32
import Derived.Test.YtpgjgbjkfgbpaaaDoorP37
import Derived.Test.YtpgjgbjkfgbpaaaDoorP39
import Derived.Test.YtpgjgbjkfgbpaaaDoorP40
namespace Go.Proofs.YtpgjgbjkfgbpaaaDoor.P
open Go.RowKit Go.Proofs.YtpgjgbjkfgbpaaaDoorW.PrintWords Go.Proofs.YtpgjgbjkfgbpaaaDoorW.PrintLast Go.Proofs.YtpgjgbjkfgbpaaaDoorW.PrintMore
attribute [local go_sem] max2_int min2_int max_two min_two max_three min_three max_four min_four   -- for this text's walks alone
set_option linter.unusedVariables false
set_option linter.unusedSimpArgs false

/-! ### laws_FnIslandFeed: function 3 -/
mutual
def laws_FnIslandFeed.l0 : Nat → List Bool → List (S33) → Int → Int → Int → Int → Int → List (S79) → Option (Bool)
 | 0, _, _, _, _, _, _, _, _ => none
 | k + 1, x4, x5, x6, x7, x8, x9, x413000, x413001 => if x9 < (x5.length : Int) then (if 0 ≤ x9 then ((impl_SameIsland.f k x413000 x413001 x4 x9 x6).bind fun t417 => (if t417 = true then ((impl_IslandFeed.f k x413000 x413001 x4 x5 x9).bind fun t418 => (if t418 = x7 then (laws_FnIslandFeed.l0 k x4 x5 x6 x7 (wrap64 (x8 + ((rd_T33 x5 x9).f0))) (wrap64 (x9 + 1)) x413000 x413001) else (none))) else (laws_FnIslandFeed.l0 k x4 x5 x6 x7 (wrap64 (x8 + ((rd_T33 x5 x9).f0))) (wrap64 (x9 + 1)) x413000 x413001))) else (none)) else ((impl_IslandsOf.f k x413000 x413001 x4).bind fun t419 => (laws_FnIslandFeed.l1 k x4 x5 x8 t419 0 x413000 x413001))
def laws_FnIslandFeed.l1 : Nat → List Bool → List (S33) → Int → List (List Int) → Int → Int → List (S79) → Option (Bool)
 | 0, _, _, _, _, _, _, _ => none
 | k + 1, x4, x5, x8, x10, x11, x413000, x413001 => if x11 < (x10.length : Int) then (if 0 ≤ x11 then (if ((rd_L9 x10 x11).length : Int) = 0 then (none) else (if 0 < ((rd_L9 x10 x11).length : Int) then ((impl_IslandFeed.f k x413000 x413001 x4 x5 (rd (rd_L9 x10 x11) 0)).bind fun t425 => (laws_FnIslandFeed.l1 k x4 x5 (wrap64 (x8 - t425)) x10 (wrap64 (x11 + 1)) x413000 x413001)) else (none))) else (none)) else (some (x8 == 0))
end
def laws_FnIslandFeed.f (k : Nat) (l0 : List Int) : Option (Bool) := if (l0.length : Int) > 1048576 then (some true) else ((spec_DrawIslandFeed.f k l0).bind fun bt401 => ((impl_IslandFeed.f k bt401.1 bt401.2.1 bt401.2.2.1 bt401.2.2.2.1 bt401.2.2.2.2).bind fun t413 => ((spec_IslandFeed.f k bt401.1 bt401.2.1 bt401.2.2.1 bt401.2.2.2.1 bt401.2.2.2.2).bind fun t414 => (if t413 = t414 then (if t413 < 0 then (if t413 = (-1) then ((laws_alive.f k).bind fun t415 => (some t415)) else (none)) else (laws_FnIslandFeed.l0 k bt401.2.2.1 bt401.2.2.2.1 bt401.2.2.2.2 t413 0 0 bt401.1 bt401.2.1)) else (none)))))
theorem laws_FnIslandFeed.mono_l : ∀ k, (∀ y0 y1 y2 y3 y4 y5 y6 y7, LeO (laws_FnIslandFeed.l0 k y0 y1 y2 y3 y4 y5 y6 y7) (laws_FnIslandFeed.l0 (k + 1) y0 y1 y2 y3 y4 y5 y6 y7)) ∧ (∀ y0 y1 y2 y3 y4 y5 y6, LeO (laws_FnIslandFeed.l1 k y0 y1 y2 y3 y4 y5 y6) (laws_FnIslandFeed.l1 (k + 1) y0 y1 y2 y3 y4 y5 y6))
 | 0 => ⟨fun _ _ _ _ _ _ _ _ r h => by simp [laws_FnIslandFeed.l0] at h, fun _ _ _ _ _ _ _ r h => by simp [laws_FnIslandFeed.l1] at h⟩
 | k + 1 => by
  obtain ⟨ih0, ih1⟩ := laws_FnIslandFeed.mono_l k
  refine ⟨?_, ?_⟩
  ·
   intro y0 y1 y2 y3 y4 y5 y6 y7
   unfold laws_FnIslandFeed.l0
   repeat' first
   | (with_reducible exact ih0 _ _ _ _ _ _ _ _)
   | (with_reducible exact ih1 _ _ _ _ _ _ _)
   | (with_reducible exact impl_IslandFeed.mono _ _ _ _ _ _)
   | (with_reducible exact impl_IslandsOf.mono _ _ _ _)
   | (with_reducible exact impl_SameIsland.mono _ _ _ _ _ _)
   | (with_reducible exact laws_alive.mono _)
   | (with_reducible exact spec_DrawIslandFeed.mono _ _)
   | (with_reducible exact spec_IslandFeed.mono _ _ _ _ _ _)
   | (with_reducible exact LeO.refl _)
   | (with_reducible exact LeO.none _)
   | (with_reducible refine LeO.ite ?_ ?_)
   | (with_reducible refine LeO.bind ?_ (fun _ => ?_))
   | exact ih0 _ _ _ _ _ _ _ _
   | exact ih1 _ _ _ _ _ _ _
   | exact impl_IslandFeed.mono _ _ _ _ _ _
   | exact impl_IslandsOf.mono _ _ _ _
   | exact impl_SameIsland.mono _ _ _ _ _ _
   | exact laws_alive.mono _
   | exact spec_DrawIslandFeed.mono _ _
   | exact spec_IslandFeed.mono _ _ _ _ _ _
   | exact LeO.none _
   | refine LeO.ite ?_ ?_
   | refine LeO.bind ?_ (fun _ => ?_)
  ·
   intro y0 y1 y2 y3 y4 y5 y6
   unfold laws_FnIslandFeed.l1
   repeat' first
   | (with_reducible exact ih0 _ _ _ _ _ _ _ _)
   | (with_reducible exact ih1 _ _ _ _ _ _ _)
   | (with_reducible exact impl_IslandFeed.mono _ _ _ _ _ _)
   | (with_reducible exact impl_IslandsOf.mono _ _ _ _)
   | (with_reducible exact impl_SameIsland.mono _ _ _ _ _ _)
   | (with_reducible exact laws_alive.mono _)
   | (with_reducible exact spec_DrawIslandFeed.mono _ _)
   | (with_reducible exact spec_IslandFeed.mono _ _ _ _ _ _)
   | (with_reducible exact LeO.refl _)
   | (with_reducible exact LeO.none _)
   | (with_reducible refine LeO.ite ?_ ?_)
   | (with_reducible refine LeO.bind ?_ (fun _ => ?_))
   | exact ih0 _ _ _ _ _ _ _ _
   | exact ih1 _ _ _ _ _ _ _
   | exact impl_IslandFeed.mono _ _ _ _ _ _
   | exact impl_IslandsOf.mono _ _ _ _
   | exact impl_SameIsland.mono _ _ _ _ _ _
   | exact laws_alive.mono _
   | exact spec_DrawIslandFeed.mono _ _
   | exact spec_IslandFeed.mono _ _ _ _ _ _
   | exact LeO.none _
   | refine LeO.ite ?_ ?_
   | refine LeO.bind ?_ (fun _ => ?_)
theorem laws_FnIslandFeed.mono : ∀ a0 k, LeO (laws_FnIslandFeed.f k a0) (laws_FnIslandFeed.f (k + 1) a0) := by
 intro a0 k
 obtain ⟨ih0, ih1⟩ := laws_FnIslandFeed.mono_l k
 unfold laws_FnIslandFeed.f
 repeat' first
   | (with_reducible exact ih0 _ _ _ _ _ _ _ _)
   | (with_reducible exact ih1 _ _ _ _ _ _ _)
   | (with_reducible exact impl_IslandFeed.mono _ _ _ _ _ _)
   | (with_reducible exact impl_IslandsOf.mono _ _ _ _)
   | (with_reducible exact impl_SameIsland.mono _ _ _ _ _ _)
   | (with_reducible exact laws_alive.mono _)
   | (with_reducible exact spec_DrawIslandFeed.mono _ _)
   | (with_reducible exact spec_IslandFeed.mono _ _ _ _ _ _)
   | (with_reducible exact LeO.refl _)
   | (with_reducible exact LeO.none _)
   | (with_reducible refine LeO.ite ?_ ?_)
   | (with_reducible refine LeO.bind ?_ (fun _ => ?_))
   | exact ih0 _ _ _ _ _ _ _ _
   | exact ih1 _ _ _ _ _ _ _
   | exact impl_IslandFeed.mono _ _ _ _ _ _
   | exact impl_IslandsOf.mono _ _ _ _
   | exact impl_SameIsland.mono _ _ _ _ _ _
   | exact laws_alive.mono _
   | exact spec_DrawIslandFeed.mono _ _
   | exact spec_IslandFeed.mono _ _ _ _ _ _
   | exact LeO.none _
   | refine LeO.ite ?_ ?_
   | refine LeO.bind ?_ (fun _ => ?_)
def laws_FnIslandFeed.T22 : Bool × List (List Nat × List Nat) := (true, [([], []), ([], []), ([], []), ([], []), ([], []), ([], []), ([4, 5], [4, 5]), ([6], [6]), ([7], [7]), ([8], [8]), ([1, 2, 3, 9], [1, 2, 3, 9]), ([0, 10], [0, 10]), ([11, 10, 0, 1, 2, 3, 4, 5, 6, 7, 8, 9, 10, 11], [0, 11])])
def laws_FnIslandFeed.B22 : List Nat := [0, 0, 0, 0, 0, 0, 48, 112, 240, 496, 1022, 2047, 4095]
theorem laws_FnIslandFeed.tab22 : rtab .any (opsOf Tryd.f3 22) = laws_FnIslandFeed.T22 := by kernel_rfl
theorem laws_FnIslandFeed.bits22 : waitsOk laws_FnIslandFeed.T22.2 laws_FnIslandFeed.B22 = true := by kernel_rfl
set_option maxHeartbeats 8000000 in
set_option maxRecDepth 100000 in
theorem laws_FnIslandFeed.calls (k : Nat) (A0 : Option Addr) (c0 : Nat) (l0 : List Int) (r : Bool) (w : World) (hr0 : Kd.C (Kd.int .u8) w A0 l0.length l0) (hc0 : l0.length ≤ c0) (h : laws_FnIslandFeed.f k l0 = some r) :
  Calls Tryd.prog 3 #[.slice A0 l0.length c0] w fun e w' => e = .returned (.bool r) ∧ Below w.heap.size w w' := by
 have hu25 := Tryd.underlying25
 have HR0 := Aside0.mk hr0
 have HC0 := Aside0.mk hc0
 clear hr0 hc0
 have HB := Aside0.mk (Below.refl w.heap.size w)
 have H : (if (l0.length : Int) > 1048576 then (some true) else ((spec_DrawIslandFeed.f k l0).bind fun bt401 => ((impl_IslandFeed.f k bt401.1 bt401.2.1 bt401.2.2.1 bt401.2.2.2.1 bt401.2.2.2.2).bind fun t413 => ((spec_IslandFeed.f k bt401.1 bt401.2.1 bt401.2.2.1 bt401.2.2.2.1 bt401.2.2.2.2).bind fun t414 => (if t413 = t414 then (if t413 < 0 then (if t413 = (-1) then ((laws_alive.f k).bind fun t415 => (some t415)) else (none)) else (laws_FnIslandFeed.l0 k bt401.2.2.1 bt401.2.2.2.1 bt401.2.2.2.2 t413 0 0 bt401.1 bt401.2.1)) else (none)))))) = some r := h
 clear h
 by_cases c2 : (l0.length : Int) > 1048576
 ·
  rw [if_pos c2] at H
  have c2b0 : decide (1048576 < (l0.length : Int)) = true := decide_eq_true c2
  have c2b1 : decide (1048576 < l0.length) = true := decide_eq_true (by omega)
  clear c2
  obtain rfl := Option.some.inj H
  go_enter Tryd.func3, Tryd.ntmps3
  go_wp2
  go_ret
  exact ⟨fR, bl0 HB⟩
 rw [if_neg c2] at H
 have c2b0 : decide (1048576 < (l0.length : Int)) = false := decide_eq_false c2
 have c2b1 : decide (1048576 < l0.length) = false := decide_eq_false (by omega)
 clear c2
 replace H := Option.bind_eq_some_iff.mp H
 obtain ⟨⟨t401, t402, t405, t408, t411⟩, A30, H⟩ := H
 replace H : ((impl_IslandFeed.f k t401 t402 t405 t408 t411).bind fun t413 => ((spec_IslandFeed.f k t401 t402 t405 t408 t411).bind fun t414 => (if t413 = t414 then (if t413 < 0 then (if t413 = (-1) then ((laws_alive.f k).bind fun t415 => (some t415)) else (none)) else (laws_FnIslandFeed.l0 k t405 t408 t411 t413 0 0 t401 t402)) else (none)))) = some r := H
 have A3 := Aside0.mk A30
 clear A30
 replace H := Option.bind_eq_some_iff.mp H
 obtain ⟨t413, A40, H⟩ := H
 replace H : ((spec_IslandFeed.f k t401 t402 t405 t408 t411).bind fun t414 => (if t413 = t414 then (if t413 < 0 then (if t413 = (-1) then ((laws_alive.f k).bind fun t415 => (some t415)) else (none)) else (laws_FnIslandFeed.l0 k t405 t408 t411 t413 0 0 t401 t402)) else (none))) = some r := H
 have A4 := Aside0.mk A40
 clear A40
 replace H := Option.bind_eq_some_iff.mp H
 obtain ⟨t414, A50, H⟩ := H
 replace H : (if t413 = t414 then (if t413 < 0 then (if t413 = (-1) then ((laws_alive.f k).bind fun t415 => (some t415)) else (none)) else (laws_FnIslandFeed.l0 k t405 t408 t411 t413 0 0 t401 t402)) else (none)) = some r := H
 have A5 := Aside0.mk A50
 clear A50
 by_cases c6 : t413 = t414
 rotate_left
 ·
  rw [if_neg c6] at H
  exact absurd H (by simp)
 rw [if_pos c6] at H
 have c6b0 : (t413 == t414) = true := beq_iff_eq.mpr c6
 have c6b1 : (t413 != t414) = false := bne_eq_false_iff_eq.mpr c6
 clear c6
 by_cases c7 : t413 < 0
 ·
  rw [if_pos c7] at H
  have c7b0 : decide (t413 < 0) = true := decide_eq_true c7
  clear c7
  by_cases c8 : t413 = (-1)
  rotate_left
  ·
   rw [if_neg c8] at H
   exact absurd H (by simp)
  rw [if_pos c8] at H
  have c8b0 : (t413 == (-1)) = true := beq_iff_eq.mpr c8
  have c8b1 : (t413 != (-1)) = false := bne_eq_false_iff_eq.mpr c8
  clear c8
  replace H := Option.bind_eq_some_iff.mp H
  obtain ⟨t415, A90, H⟩ := H
  replace H : (some t415) = some r := H
  have A9 := Aside0.mk A90
  clear A90
  obtain rfl := Option.some.inj H
  go_enter Tryd.func3, Tryd.ntmps3
  go_wp2_with (first | ((with_reducible refine gate_callee (f := 14) rfl ?_); refine goesL_ (some 17) rfl rfl Tryd.func14 (by kernel_rfl) rfl #[.slice A0 l0.length c0] rfl mP ?_; (with_reducible refine (spec_DrawIslandFeed.calls k _ _ l0 t401 t402 t405 t408 t411 _ ?side1 ?side2 A3.out).mono ?_); (case side1 => exact gC (HR0.out)); (case side2 => exact HC0.out); rintro e w10 ⟨v403, v406, v409, rfl, ho0, ho1, ho2, hb⟩; refine ⟨_, rfl, ?_⟩; have n0_ := Aside0.mk (Kd.R_lower ho0 (below_size (bl0 HB))); have n1_ := Aside0.mk (Kd.R_lower ho1 (below_size (bl0 HB))); have n2_ := Aside0.mk (Kd.R_lower ho2 (below_size (bl0 HB))); have n3_ := Aside0.mk (below_step (bl0 HB) hb); clear HB; have HO404 := n0_; have HO407 := n1_; have HO410 := n2_; have HB := n3_; clear n0_ n1_ n2_ n3_; (try clear hb); (try clear hb2); (try clear hk); (try clear hi); (try clear ho0); (try clear ho1); (try clear ho2)) | ((with_reducible refine gate_dst (N := 3) rfl ?_); refine box_event ?hg (N := 3) ?hd (cs := #[.int .i64 0, .slice none 0 0]) (t := 25) ?hr ?_; (case hd => rfl); (case hg => rfl); (case hr => exact hR); intro gb412 hg w11 hbox hb; have n0_ := Aside0.mk (Kd.R_below (gR (HO404.out)) hb); have n1_ := Aside0.mk (Kd.R_below (gR (HO407.out)) hb); have n2_ := Aside0.mk (Kd.R_below (gR (HO410.out)) hb); have n3_ := Aside0.mk (below_step (bl0 HB) hb); have n4_ := Aside0.mk (hbox); have n5_ := Aside0.mk ((by rw [hg]; exact (below_size (bl0 HB)) : w.heap.size ≤ gb412)); have n6_ := Aside0.mk ((by rw [hg]; exact (below_size (bl0 HB)) : w.heap.size ≤ gb412)); clear HO404; clear HO407; clear HO410; clear HB; have HO404 := n0_; have HO407 := n1_; have HO410 := n2_; have HB := n3_; have BK412 := n4_; have GW412 := n5_; have GE412 := n6_; clear n0_ n1_ n2_ n3_ n4_ n5_ n6_; clear hb hbox hg; have hcz12_0 : w11.cell? ⟨gb412, 0, none⟩ = some (.int .i64 0) := (blk_cell BK412.out 0).trans rfl; have hcz12_1 : w11.cell? ⟨gb412, 1, none⟩ = some (.slice none 0 0) := (blk_cell BK412.out 1).trans rfl; have hfz12_0 := blk_frozen BK412.out 0; have hfz12_1 := blk_frozen BK412.out 1; obtain ⟨Ao13, co13, eo13⟩ := Kd.R_slice HO404.out; subst eo13; obtain ⟨Ao14, co14, eo14⟩ := Kd.R_slice HO407.out; subst eo14; obtain ⟨Ao15, co15, eo15⟩ := Kd.R_slice HO410.out; subst eo15) | ((with_reducible refine gate_callee (f := 15) rfl ?_); refine goesL_ (some 26) rfl rfl Tryd.func15 (by kernel_rfl) rfl #[.agg #[.int .i64 t401, .slice Ao13 t402.length co13], .slice Ao14 t405.length co14, .slice Ao15 t408.length co15, .int .i64 t411] rfl mP ?_; (with_reducible refine (impl_IslandFeed.calls k t401 _ _ t402 _ _ t405 _ _ t408 t411 t413 _ ?side1 ?side2 ?side3 ?side4 ?side5 ?side6 A4.out).mono ?_); (case side1 => refine (Kd.R_reads' (e := 79) (base := w.heap.size) (ok := fun k_ => True) (n := t402.length) (c := co13) ?_).2.2; exact (by (with_reducible repeat (first | apply Kd.R_alloc | apply Kd.R_drewN | apply Kd.R_drew)); exact (Kd.R_mono (Kd.R_far (p := ⟨gb412, 1, none⟩) (Kd.R_far (p := ⟨gb412, 0, none⟩) (Kd.R_types HO404.out BK412.out (by decide)) (fun _ hk => hk.2) (.int .i64 t401)) (fun _ hk => hk.2) (.slice Ao13 t402.length co13)) (fun _ h_ => h_.1)))); (case side2 => exact (Kd.R_reads' HO404.out).2.1); (case side3 => refine (Kd.R_reads' (e := 4) (base := w.heap.size) (ok := fun k_ => True) (n := t405.length) (c := co14) ?_).2.2; exact (by (with_reducible repeat (first | apply Kd.R_alloc | apply Kd.R_drewN | apply Kd.R_drew)); exact (Kd.R_mono (Kd.R_far (p := ⟨gb412, 1, none⟩) (Kd.R_far (p := ⟨gb412, 0, none⟩) (Kd.R_types HO407.out BK412.out (by decide)) (fun _ hk => hk.2) (.int .i64 t401)) (fun _ hk => hk.2) (.slice Ao13 t402.length co13)) (fun _ h_ => h_.1)))); (case side4 => exact (Kd.R_reads' HO407.out).2.1); (case side5 => refine (Kd.R_reads' (e := 33) (base := w.heap.size) (ok := fun k_ => True) (n := t408.length) (c := co15) ?_).2.2; exact (by (with_reducible repeat (first | apply Kd.R_alloc | apply Kd.R_drewN | apply Kd.R_drew)); exact (Kd.R_mono (Kd.R_far (p := ⟨gb412, 1, none⟩) (Kd.R_far (p := ⟨gb412, 0, none⟩) (Kd.R_types HO410.out BK412.out (by decide)) (fun _ hk => hk.2) (.int .i64 t401)) (fun _ hk => hk.2) (.slice Ao13 t402.length co13)) (fun _ h_ => h_.1)))); (case side6 => exact (Kd.R_reads' HO410.out).2.1); rintro e w16 ⟨rfl, hb⟩; refine ⟨_, rfl, ?_⟩; have n0_ := Aside0.mk (Kd.R_below (by (with_reducible repeat (first | apply Kd.R_alloc | apply Kd.R_drewN | apply Kd.R_drew)); exact (Kd.R_mono (Kd.R_far (p := ⟨gb412, 1, none⟩) (Kd.R_far (p := ⟨gb412, 0, none⟩) (Kd.R_types HO404.out BK412.out (by decide)) (fun _ hk => hk.2) (.int .i64 t401)) (fun _ hk => hk.2) (.slice Ao13 t402.length co13)) (fun _ h_ => h_.1))) hb); have n1_ := Aside0.mk (Kd.R_below (by (with_reducible repeat (first | apply Kd.R_alloc | apply Kd.R_drewN | apply Kd.R_drew)); exact (Kd.R_mono (Kd.R_far (p := ⟨gb412, 1, none⟩) (Kd.R_far (p := ⟨gb412, 0, none⟩) (Kd.R_types HO407.out BK412.out (by decide)) (fun _ hk => hk.2) (.int .i64 t401)) (fun _ hk => hk.2) (.slice Ao13 t402.length co13)) (fun _ h_ => h_.1))) hb); have n2_ := Aside0.mk (Kd.R_below (by (with_reducible repeat (first | apply Kd.R_alloc | apply Kd.R_drewN | apply Kd.R_drew)); exact (Kd.R_mono (Kd.R_far (p := ⟨gb412, 1, none⟩) (Kd.R_far (p := ⟨gb412, 0, none⟩) (Kd.R_types HO410.out BK412.out (by decide)) (fun _ hk => hk.2) (.int .i64 t401)) (fun _ hk => hk.2) (.slice Ao13 t402.length co13)) (fun _ h_ => h_.1))) hb); have n3_ := Aside0.mk (blk_below (g := gb412) (o := .cells #[.int .i64 t401, .slice Ao13 t402.length co13] 25 (0, 0)) (by (with_reducible repeat (first | refine blk_drewN ?_ _ | refine blk_drew ?_ | refine blk_alloc ?_ _)); refine blk_put (cs := #[.int .i64 t401, .slice none 0 0]) ?_ 1 _ rfl; (with_reducible repeat (first | refine blk_drewN ?_ _ | refine blk_drew ?_ | refine blk_alloc ?_ _)); refine blk_put (cs := #[.int .i64 0, .slice none 0 0]) ?_ 0 _ rfl; (with_reducible repeat (first | refine blk_drewN ?_ _ | refine blk_drew ?_ | refine blk_alloc ?_ _)); exact BK412.out) hb); have n4_ := Aside0.mk (below_step (bl1 HB GE412) hb); clear HO404; clear HO407; clear HO410; clear BK412; clear HB; have HO404 := n0_; have HO407 := n1_; have HO410 := n2_; have BK412 := n3_; have HB := n4_; clear n0_ n1_ n2_ n3_ n4_; (try clear hb); (try clear hb2); (try clear hk); (try clear hi); have hcz17_0 : w16.cell? ⟨gb412, 0, none⟩ = some (.int .i64 t401) := (blk_cell BK412.out 0).trans rfl; have hcz17_1 : w16.cell? ⟨gb412, 1, none⟩ = some (.slice Ao13 t402.length co13) := (blk_cell BK412.out 1).trans rfl; have hfz17_0 := blk_frozen BK412.out 0; have hfz17_1 := blk_frozen BK412.out 1) | ((with_reducible refine gate_callee (f := 16) rfl ?_); refine goesL_ (some 32) rfl rfl Tryd.func16 (by kernel_rfl) rfl #[.agg #[.int .i64 t401, .slice Ao13 t402.length co13], .slice Ao14 t405.length co14, .slice Ao15 t408.length co15, .int .i64 t411] rfl mP ?_; (with_reducible refine (spec_IslandFeed.calls k t401 _ _ t402 _ _ t405 _ _ t408 t411 t414 _ ?side1 ?side2 ?side3 ?side4 ?side5 ?side6 A5.out).mono ?_); (case side1 => exact gC ((Kd.R_reads' HO404.out).2.2)); (case side2 => exact (Kd.R_reads' HO404.out).2.1); (case side3 => exact gC ((Kd.R_reads' HO407.out).2.2)); (case side4 => exact (Kd.R_reads' HO407.out).2.1); (case side5 => exact gC ((Kd.R_reads' HO410.out).2.2)); (case side6 => exact (Kd.R_reads' HO410.out).2.1); rintro e w18 ⟨rfl, hb⟩; refine ⟨_, rfl, ?_⟩; have n0_ := Aside0.mk (Kd.R_below (gR (HO404.out)) hb); have n1_ := Aside0.mk (Kd.R_below (gR (HO407.out)) hb); have n2_ := Aside0.mk (Kd.R_below (gR (HO410.out)) hb); have n3_ := Aside0.mk (blk_below (g := gb412) (o := .cells #[.int .i64 t401, .slice Ao13 t402.length co13] 25 (0, 0)) (gB (BK412.out)) hb); have n4_ := Aside0.mk (below_step (bl1 HB GE412) hb); clear HO404; clear HO407; clear HO410; clear BK412; clear HB; have HO404 := n0_; have HO407 := n1_; have HO410 := n2_; have BK412 := n3_; have HB := n4_; clear n0_ n1_ n2_ n3_ n4_; (try clear hb); (try clear hb2); (try clear hk); (try clear hi)) | (go_at_call 17; (with_reducible refine (laws_alive.calls k  t415 _ A9.out).mono ?_); rintro e w19 ⟨rfl, hb⟩; have n0_ := Aside0.mk (Kd.R_below (gR (HO404.out)) hb); have n1_ := Aside0.mk (Kd.R_below (gR (HO407.out)) hb); have n2_ := Aside0.mk (Kd.R_below (gR (HO410.out)) hb); have n3_ := Aside0.mk (blk_below (g := gb412) (o := .cells #[.int .i64 t401, .slice Ao13 t402.length co13] 25 (0, 0)) (gB (BK412.out)) hb); have n4_ := Aside0.mk (below_step (bl1 HB GE412) hb); clear HO404; clear HO407; clear HO410; clear BK412; clear HB; have HO404 := n0_; have HO407 := n1_; have HO410 := n2_; have BK412 := n3_; have HB := n4_; clear n0_ n1_ n2_ n3_ n4_; (try clear hb); (try clear hb2); (try clear hk); (try clear hi)))
  go_ret
  exact ⟨fR, bl1 HB GE412⟩
 rw [if_neg c7] at H
 have c7b0 : decide (t413 < 0) = false := decide_eq_false c7
 clear c7
 have H' := Aside0.mk H
 clear H
 go_enter Tryd.func3, Tryd.ntmps3
 go_wp2_with (first | ((with_reducible refine gate_callee (f := 14) rfl ?_); refine goesL_ (some 17) rfl rfl Tryd.func14 (by kernel_rfl) rfl #[.slice A0 l0.length c0] rfl mP ?_; (with_reducible refine (spec_DrawIslandFeed.calls k _ _ l0 t401 t402 t405 t408 t411 _ ?side1 ?side2 A3.out).mono ?_); (case side1 => exact gC (HR0.out)); (case side2 => exact HC0.out); rintro e w20 ⟨v403, v406, v409, rfl, ho0, ho1, ho2, hb⟩; refine ⟨_, rfl, ?_⟩; have n0_ := Aside0.mk (Kd.R_lower ho0 (below_size (bl0 HB))); have n1_ := Aside0.mk (Kd.R_lower ho1 (below_size (bl0 HB))); have n2_ := Aside0.mk (Kd.R_lower ho2 (below_size (bl0 HB))); have n3_ := Aside0.mk (below_step (bl0 HB) hb); clear HB; have HO404 := n0_; have HO407 := n1_; have HO410 := n2_; have HB := n3_; clear n0_ n1_ n2_ n3_; (try clear hb); (try clear hb2); (try clear hk); (try clear hi); (try clear ho0); (try clear ho1); (try clear ho2)) | ((with_reducible refine gate_dst (N := 3) rfl ?_); refine box_event ?hg (N := 3) ?hd (cs := #[.int .i64 0, .slice none 0 0]) (t := 25) ?hr ?_; (case hd => rfl); (case hg => rfl); (case hr => exact hR); intro gb412 hg w21 hbox hb; have n0_ := Aside0.mk (Kd.R_below (gR (HO404.out)) hb); have n1_ := Aside0.mk (Kd.R_below (gR (HO407.out)) hb); have n2_ := Aside0.mk (Kd.R_below (gR (HO410.out)) hb); have n3_ := Aside0.mk (below_step (bl0 HB) hb); have n4_ := Aside0.mk (hbox); have n5_ := Aside0.mk ((by rw [hg]; exact (below_size (bl0 HB)) : w.heap.size ≤ gb412)); have n6_ := Aside0.mk ((by rw [hg]; exact (below_size (bl0 HB)) : w.heap.size ≤ gb412)); clear HO404; clear HO407; clear HO410; clear HB; have HO404 := n0_; have HO407 := n1_; have HO410 := n2_; have HB := n3_; have BK412 := n4_; have GW412 := n5_; have GE412 := n6_; clear n0_ n1_ n2_ n3_ n4_ n5_ n6_; clear hb hbox hg; have hcz22_0 : w21.cell? ⟨gb412, 0, none⟩ = some (.int .i64 0) := (blk_cell BK412.out 0).trans rfl; have hcz22_1 : w21.cell? ⟨gb412, 1, none⟩ = some (.slice none 0 0) := (blk_cell BK412.out 1).trans rfl; have hfz22_0 := blk_frozen BK412.out 0; have hfz22_1 := blk_frozen BK412.out 1; obtain ⟨Ao23, co23, eo23⟩ := Kd.R_slice HO404.out; subst eo23; obtain ⟨Ao24, co24, eo24⟩ := Kd.R_slice HO407.out; subst eo24; obtain ⟨Ao25, co25, eo25⟩ := Kd.R_slice HO410.out; subst eo25) | ((with_reducible refine gate_callee (f := 15) rfl ?_); refine goesL_ (some 26) rfl rfl Tryd.func15 (by kernel_rfl) rfl #[.agg #[.int .i64 t401, .slice Ao23 t402.length co23], .slice Ao24 t405.length co24, .slice Ao25 t408.length co25, .int .i64 t411] rfl mP ?_; (with_reducible refine (impl_IslandFeed.calls k t401 _ _ t402 _ _ t405 _ _ t408 t411 t413 _ ?side1 ?side2 ?side3 ?side4 ?side5 ?side6 A4.out).mono ?_); (case side1 => refine (Kd.R_reads' (e := 79) (base := w.heap.size) (ok := fun k_ => True) (n := t402.length) (c := co23) ?_).2.2; exact (by (with_reducible repeat (first | apply Kd.R_alloc | apply Kd.R_drewN | apply Kd.R_drew)); exact (Kd.R_mono (Kd.R_far (p := ⟨gb412, 1, none⟩) (Kd.R_far (p := ⟨gb412, 0, none⟩) (Kd.R_types HO404.out BK412.out (by decide)) (fun _ hk => hk.2) (.int .i64 t401)) (fun _ hk => hk.2) (.slice Ao23 t402.length co23)) (fun _ h_ => h_.1)))); (case side2 => exact (Kd.R_reads' HO404.out).2.1); (case side3 => refine (Kd.R_reads' (e := 4) (base := w.heap.size) (ok := fun k_ => True) (n := t405.length) (c := co24) ?_).2.2; exact (by (with_reducible repeat (first | apply Kd.R_alloc | apply Kd.R_drewN | apply Kd.R_drew)); exact (Kd.R_mono (Kd.R_far (p := ⟨gb412, 1, none⟩) (Kd.R_far (p := ⟨gb412, 0, none⟩) (Kd.R_types HO407.out BK412.out (by decide)) (fun _ hk => hk.2) (.int .i64 t401)) (fun _ hk => hk.2) (.slice Ao23 t402.length co23)) (fun _ h_ => h_.1)))); (case side4 => exact (Kd.R_reads' HO407.out).2.1); (case side5 => refine (Kd.R_reads' (e := 33) (base := w.heap.size) (ok := fun k_ => True) (n := t408.length) (c := co25) ?_).2.2; exact (by (with_reducible repeat (first | apply Kd.R_alloc | apply Kd.R_drewN | apply Kd.R_drew)); exact (Kd.R_mono (Kd.R_far (p := ⟨gb412, 1, none⟩) (Kd.R_far (p := ⟨gb412, 0, none⟩) (Kd.R_types HO410.out BK412.out (by decide)) (fun _ hk => hk.2) (.int .i64 t401)) (fun _ hk => hk.2) (.slice Ao23 t402.length co23)) (fun _ h_ => h_.1)))); (case side6 => exact (Kd.R_reads' HO410.out).2.1); rintro e w26 ⟨rfl, hb⟩; refine ⟨_, rfl, ?_⟩; have n0_ := Aside0.mk (Kd.R_below (by (with_reducible repeat (first | apply Kd.R_alloc | apply Kd.R_drewN | apply Kd.R_drew)); exact (Kd.R_mono (Kd.R_far (p := ⟨gb412, 1, none⟩) (Kd.R_far (p := ⟨gb412, 0, none⟩) (Kd.R_types HO404.out BK412.out (by decide)) (fun _ hk => hk.2) (.int .i64 t401)) (fun _ hk => hk.2) (.slice Ao23 t402.length co23)) (fun _ h_ => h_.1))) hb); have n1_ := Aside0.mk (Kd.R_below (by (with_reducible repeat (first | apply Kd.R_alloc | apply Kd.R_drewN | apply Kd.R_drew)); exact (Kd.R_mono (Kd.R_far (p := ⟨gb412, 1, none⟩) (Kd.R_far (p := ⟨gb412, 0, none⟩) (Kd.R_types HO407.out BK412.out (by decide)) (fun _ hk => hk.2) (.int .i64 t401)) (fun _ hk => hk.2) (.slice Ao23 t402.length co23)) (fun _ h_ => h_.1))) hb); have n2_ := Aside0.mk (Kd.R_below (by (with_reducible repeat (first | apply Kd.R_alloc | apply Kd.R_drewN | apply Kd.R_drew)); exact (Kd.R_mono (Kd.R_far (p := ⟨gb412, 1, none⟩) (Kd.R_far (p := ⟨gb412, 0, none⟩) (Kd.R_types HO410.out BK412.out (by decide)) (fun _ hk => hk.2) (.int .i64 t401)) (fun _ hk => hk.2) (.slice Ao23 t402.length co23)) (fun _ h_ => h_.1))) hb); have n3_ := Aside0.mk (blk_below (g := gb412) (o := .cells #[.int .i64 t401, .slice Ao23 t402.length co23] 25 (0, 0)) (by (with_reducible repeat (first | refine blk_drewN ?_ _ | refine blk_drew ?_ | refine blk_alloc ?_ _)); refine blk_put (cs := #[.int .i64 t401, .slice none 0 0]) ?_ 1 _ rfl; (with_reducible repeat (first | refine blk_drewN ?_ _ | refine blk_drew ?_ | refine blk_alloc ?_ _)); refine blk_put (cs := #[.int .i64 0, .slice none 0 0]) ?_ 0 _ rfl; (with_reducible repeat (first | refine blk_drewN ?_ _ | refine blk_drew ?_ | refine blk_alloc ?_ _)); exact BK412.out) hb); have n4_ := Aside0.mk (below_step (bl1 HB GE412) hb); clear HO404; clear HO407; clear HO410; clear BK412; clear HB; have HO404 := n0_; have HO407 := n1_; have HO410 := n2_; have BK412 := n3_; have HB := n4_; clear n0_ n1_ n2_ n3_ n4_; (try clear hb); (try clear hb2); (try clear hk); (try clear hi); have hcz27_0 : w26.cell? ⟨gb412, 0, none⟩ = some (.int .i64 t401) := (blk_cell BK412.out 0).trans rfl; have hcz27_1 : w26.cell? ⟨gb412, 1, none⟩ = some (.slice Ao23 t402.length co23) := (blk_cell BK412.out 1).trans rfl; have hfz27_0 := blk_frozen BK412.out 0; have hfz27_1 := blk_frozen BK412.out 1) | ((with_reducible refine gate_callee (f := 16) rfl ?_); refine goesL_ (some 32) rfl rfl Tryd.func16 (by kernel_rfl) rfl #[.agg #[.int .i64 t401, .slice Ao23 t402.length co23], .slice Ao24 t405.length co24, .slice Ao25 t408.length co25, .int .i64 t411] rfl mP ?_; (with_reducible refine (spec_IslandFeed.calls k t401 _ _ t402 _ _ t405 _ _ t408 t411 t414 _ ?side1 ?side2 ?side3 ?side4 ?side5 ?side6 A5.out).mono ?_); (case side1 => exact gC ((Kd.R_reads' HO404.out).2.2)); (case side2 => exact (Kd.R_reads' HO404.out).2.1); (case side3 => exact gC ((Kd.R_reads' HO407.out).2.2)); (case side4 => exact (Kd.R_reads' HO407.out).2.1); (case side5 => exact gC ((Kd.R_reads' HO410.out).2.2)); (case side6 => exact (Kd.R_reads' HO410.out).2.1); rintro e w28 ⟨rfl, hb⟩; refine ⟨_, rfl, ?_⟩; have n0_ := Aside0.mk (Kd.R_below (gR (HO404.out)) hb); have n1_ := Aside0.mk (Kd.R_below (gR (HO407.out)) hb); have n2_ := Aside0.mk (Kd.R_below (gR (HO410.out)) hb); have n3_ := Aside0.mk (blk_below (g := gb412) (o := .cells #[.int .i64 t401, .slice Ao23 t402.length co23] 25 (0, 0)) (gB (BK412.out)) hb); have n4_ := Aside0.mk (below_step (bl1 HB GE412) hb); clear HO404; clear HO407; clear HO410; clear BK412; clear HB; have HO404 := n0_; have HO407 := n1_; have HO410 := n2_; have BK412 := n3_; have HB := n4_; clear n0_ n1_ n2_ n3_ n4_; (try clear hb); (try clear hb2); (try clear hk); (try clear hi)))
 go_loopg [8, 9] k (fun kq v8 v9 w' => ∃ (x8_1 : Int) (x9_1 : Int), v8 = .int .i64 x8_1 ∧ v9 = .int .i64 x9_1 ∧ Aside0 (laws_FnIslandFeed.l0 kq t405 t408 t411 t413 x8_1 x9_1 t401 t402 = some r) ∧ Aside0 (kq ≤ k) ∧ Aside0 (Kd.R Kd.bool 4 w' w.heap.size (fun _ => True) (.slice Ao24 t405.length co24) t405) ∧ Aside0 (Kd.R k33 33 w' w.heap.size (fun _ => True) (.slice Ao25 t408.length co25) t408) ∧ Aside0 (Kd.R k79 79 w' w.heap.size (fun _ => True) (.slice Ao23 t402.length co23) t402) ∧ Aside0 (w'.heap[gb412]? = some (.cells #[.int .i64 t401, (.slice Ao23 t402.length co23)] 25 (0, 0))) ∧ Aside0 (Below w.heap.size w w'))
 case atStart => exact ⟨(0), (0), fS, fS, H', ⟨Nat.le_refl _⟩, ⟨gR (HO407.out)⟩, ⟨gR (HO410.out)⟩, ⟨gR (HO404.out)⟩, ⟨gB (BK412.out)⟩, ⟨bl1 HB GE412⟩⟩
 case round =>
  clear H'
  try clear c1
  try clear c2
  try clear c2b0
  try clear c2b1
  try clear p2
  try clear c3
  try clear c6
  try clear c6b0
  try clear c6b1
  try clear c7
  try clear c7b0
  try clear c8
  try clear c8b0
  try clear c8b1
  try clear c14
  try clear c15
  try clear c16
  try clear hcz12_0
  try clear hcz12_1
  try clear hcz17_0
  try clear hcz17_1
  try clear hcz22_0
  try clear hcz22_1
  try clear hcz27_0
  try clear hcz27_1
  try clear hfz12_0
  try clear hfz12_1
  try clear hfz17_0
  try clear hfz17_1
  try clear hfz22_0
  try clear hfz22_1
  try clear hfz27_0
  try clear hfz27_1
  obtain ⟨x8_1, x9_1, rfl, rfl, HA, HK1, HO_4, HO_5, HO_413001, BK412, HB⟩ := hrel
  cases gk with
  | zero => exact absurd HA.out (by simp [laws_FnIslandFeed.l0])
  | succ k1 =>
   have H := HA.out
   clear HA
   simp only [laws_FnIslandFeed.l0] at H
   by_cases c29 : x9_1 < (t408.length : Int)
   ·
    rw [if_pos c29] at H
    have c29b0 : decide (x9_1 < (t408.length : Int)) = true := decide_eq_true c29
    clear c29
    by_cases c30 : 0 ≤ x9_1
    rotate_left
    ·
     rw [if_neg c30] at H
     exact absurd H (by simp)
    rw [if_pos c30] at H
    have c30b0 : decide (0 ≤ x9_1) = true := decide_eq_true c30
    clear c30
    replace H := Option.bind_eq_some_iff.mp H
    obtain ⟨t417, A310, H⟩ := H
    replace H : (if t417 = true then ((impl_IslandFeed.f k1 t401 t402 t405 t408 x9_1).bind fun t418 => (if t418 = t413 then (laws_FnIslandFeed.l0 k1 t405 t408 t411 t413 (wrap64 (x8_1 + ((rd_T33 t408 x9_1).f0))) (wrap64 (x9_1 + 1)) t401 t402) else (none))) else (laws_FnIslandFeed.l0 k1 t405 t408 t411 t413 (wrap64 (x8_1 + ((rd_T33 t408 x9_1).f0))) (wrap64 (x9_1 + 1)) t401 t402)) = some r := H
    have A31 := Aside0.mk A310
    clear A310
    by_cases c32 : t417 = true
    rotate_left
    ·
     replace c32 := Bool.eq_false_iff.mpr c32
     subst c32
     have H1 : (laws_FnIslandFeed.l0 k1 t405 t408 t411 t413 (wrap64 (x8_1 + ((rd_T33 t408 x9_1).f0))) (wrap64 (x9_1 + 1)) t401 t402) = some r := by rw [if_neg (show ¬ (false = true) by decide)] at H; exact H
     clear H
     have H := H1
     clear H1
     have H' := Aside0.mk H
     clear H
     have p416 : 0 ≤ (x9_1 : Int) := oD
     have q416 : x9_1 < (t408.length : Int) := oD
     obtain ⟨ad416, e416, hx416_0, hx416_1⟩ := at_T33 (Kd.R_reads' HO_5.out).2.2 x9_1 p416 q416
     cases e416
     replace p416 := eq_true p416
     replace q416 := eq_true q416
     have hcz39_0 : wr.cell? ⟨gb412, 0, none⟩ = some (.int .i64 t401) := (blk_cell BK412.out 0).trans rfl
     have hcz39_1 : wr.cell? ⟨gb412, 1, none⟩ = some (.slice Ao23 t402.length co23) := (blk_cell BK412.out 1).trans rfl
     have hfz39_0 := blk_frozen BK412.out 0
     have hfz39_1 := blk_frozen BK412.out 1
     go_wp2_with (first | ((with_reducible refine gate_callee (f := 18) rfl ?_); refine goesL_ (some 58) rfl rfl Tryd.func18 (by kernel_rfl) rfl #[.agg #[.int .i64 t401, .slice Ao23 t402.length co23], .slice Ao24 t405.length co24, .int .i64 x9_1, .int .i64 t411] rfl mP ?_; (with_reducible refine (impl_SameIsland.calls k1 t401 _ _ t402 _ _ t405 x9_1 t411 false _ ?side1 ?side2 ?side3 ?side4 A31.out).mono ?_); (case side1 => exact gC ((Kd.R_reads' HO_413001.out).2.2)); (case side2 => exact (Kd.R_reads' HO_413001.out).2.1); (case side3 => exact gC ((Kd.R_reads' HO_4.out).2.2)); (case side4 => exact (Kd.R_reads' HO_4.out).2.1); rintro e w40 ⟨rfl, hb⟩; refine ⟨_, rfl, ?_⟩; have n0_ := Aside0.mk (Kd.R_below (gR (HO_4.out)) hb); have n1_ := Aside0.mk (Kd.R_below (gR (HO_5.out)) hb); have n2_ := Aside0.mk (Kd.R_below (gR (HO_413001.out)) hb); have n3_ := Aside0.mk (blk_below (g := gb412) (o := .cells #[.int .i64 t401, .slice Ao23 t402.length co23] 25 (0, 0)) (gB (BK412.out)) hb); have n4_ := Aside0.mk (below_step (bl1 HB GE412) hb); clear HO_4; clear HO_5; clear HO_413001; clear BK412; clear HB; have HO_4 := n0_; have HO_5 := n1_; have HO_413001 := n2_; have BK412 := n3_; have HB := n4_; clear n0_ n1_ n2_ n3_ n4_; (try clear hb); (try clear hb2); (try clear hk); (try clear hi)))
     go_roundg k1
     case measure => have := HK1.out; omega
     case rel => exact ⟨(wrap64 (x8_1 + ((rd_T33 t408 x9_1).f0))), (wrap64 (x9_1 + 1)), fS, fS, H', ⟨by have := HK1.out; omega⟩, ⟨gR (HO_4.out)⟩, ⟨gR (HO_5.out)⟩, ⟨gR (HO_413001.out)⟩, ⟨gB (BK412.out)⟩, ⟨bl1 HB GE412⟩⟩
    subst c32
    have H1 : ((impl_IslandFeed.f k1 t401 t402 t405 t408 x9_1).bind fun t418 => (if t418 = t413 then (laws_FnIslandFeed.l0 k1 t405 t408 t411 t413 (wrap64 (x8_1 + ((rd_T33 t408 x9_1).f0))) (wrap64 (x9_1 + 1)) t401 t402) else (none))) = some r := by rw [if_pos rfl] at H; exact H
    clear H
    have H := H1
    clear H1
    replace H := Option.bind_eq_some_iff.mp H
    obtain ⟨t418, A330, H⟩ := H
    replace H : (if t418 = t413 then (laws_FnIslandFeed.l0 k1 t405 t408 t411 t413 (wrap64 (x8_1 + ((rd_T33 t408 x9_1).f0))) (wrap64 (x9_1 + 1)) t401 t402) else (none)) = some r := H
    have A33 := Aside0.mk A330
    clear A330
    by_cases c34 : t418 = t413
    rotate_left
    ·
     rw [if_neg c34] at H
     exact absurd H (by simp)
    rw [if_pos c34] at H
    have c34b0 : (t418 == t413) = true := beq_iff_eq.mpr c34
    have c34b1 : (t418 != t413) = false := bne_eq_false_iff_eq.mpr c34
    clear c34
    have H' := Aside0.mk H
    clear H
    have p416 : 0 ≤ (x9_1 : Int) := oD
    have q416 : x9_1 < (t408.length : Int) := oD
    obtain ⟨ad416, e416, hx416_0, hx416_1⟩ := at_T33 (Kd.R_reads' HO_5.out).2.2 x9_1 p416 q416
    cases e416
    replace p416 := eq_true p416
    replace q416 := eq_true q416
    have hcz35_0 : wr.cell? ⟨gb412, 0, none⟩ = some (.int .i64 t401) := (blk_cell BK412.out 0).trans rfl
    have hcz35_1 : wr.cell? ⟨gb412, 1, none⟩ = some (.slice Ao23 t402.length co23) := (blk_cell BK412.out 1).trans rfl
    have hfz35_0 := blk_frozen BK412.out 0
    have hfz35_1 := blk_frozen BK412.out 1
    go_wp2_with (first | ((with_reducible refine gate_callee (f := 18) rfl ?_); refine goesL_ (some 58) rfl rfl Tryd.func18 (by kernel_rfl) rfl #[.agg #[.int .i64 t401, .slice Ao23 t402.length co23], .slice Ao24 t405.length co24, .int .i64 x9_1, .int .i64 t411] rfl mP ?_; (with_reducible refine (impl_SameIsland.calls k1 t401 _ _ t402 _ _ t405 x9_1 t411 true _ ?side1 ?side2 ?side3 ?side4 A31.out).mono ?_); (case side1 => exact gC ((Kd.R_reads' HO_413001.out).2.2)); (case side2 => exact (Kd.R_reads' HO_413001.out).2.1); (case side3 => exact gC ((Kd.R_reads' HO_4.out).2.2)); (case side4 => exact (Kd.R_reads' HO_4.out).2.1); rintro e w36 ⟨rfl, hb⟩; refine ⟨_, rfl, ?_⟩; have n0_ := Aside0.mk (Kd.R_below (gR (HO_4.out)) hb); have n1_ := Aside0.mk (Kd.R_below (gR (HO_5.out)) hb); have n2_ := Aside0.mk (Kd.R_below (gR (HO_413001.out)) hb); have n3_ := Aside0.mk (blk_below (g := gb412) (o := .cells #[.int .i64 t401, .slice Ao23 t402.length co23] 25 (0, 0)) (gB (BK412.out)) hb); have n4_ := Aside0.mk (below_step (bl1 HB GE412) hb); clear HO_4; clear HO_5; clear HO_413001; clear BK412; clear HB; have HO_4 := n0_; have HO_5 := n1_; have HO_413001 := n2_; have BK412 := n3_; have HB := n4_; clear n0_ n1_ n2_ n3_ n4_; (try clear hb); (try clear hb2); (try clear hk); (try clear hi); have hcz37_0 : w36.cell? ⟨gb412, 0, none⟩ = some (.int .i64 t401) := (blk_cell BK412.out 0).trans rfl; have hcz37_1 : w36.cell? ⟨gb412, 1, none⟩ = some (.slice Ao23 t402.length co23) := (blk_cell BK412.out 1).trans rfl; have hfz37_0 := blk_frozen BK412.out 0; have hfz37_1 := blk_frozen BK412.out 1) | (go_at_call 15; (with_reducible refine (impl_IslandFeed.calls k1 t401 _ _ t402 _ _ t405 _ _ t408 x9_1 t418 _ ?side1 ?side2 ?side3 ?side4 ?side5 ?side6 A33.out).mono ?_); (case side1 => exact gC ((Kd.R_reads' HO_413001.out).2.2)); (case side2 => exact (Kd.R_reads' HO_413001.out).2.1); (case side3 => exact gC ((Kd.R_reads' HO_4.out).2.2)); (case side4 => exact (Kd.R_reads' HO_4.out).2.1); (case side5 => exact gC ((Kd.R_reads' HO_5.out).2.2)); (case side6 => exact (Kd.R_reads' HO_5.out).2.1); rintro e w38 ⟨rfl, hb⟩; have n0_ := Aside0.mk (Kd.R_below (gR (HO_4.out)) hb); have n1_ := Aside0.mk (Kd.R_below (gR (HO_5.out)) hb); have n2_ := Aside0.mk (Kd.R_below (gR (HO_413001.out)) hb); have n3_ := Aside0.mk (blk_below (g := gb412) (o := .cells #[.int .i64 t401, .slice Ao23 t402.length co23] 25 (0, 0)) (gB (BK412.out)) hb); have n4_ := Aside0.mk (below_step (bl1 HB GE412) hb); clear HO_4; clear HO_5; clear HO_413001; clear BK412; clear HB; have HO_4 := n0_; have HO_5 := n1_; have HO_413001 := n2_; have BK412 := n3_; have HB := n4_; clear n0_ n1_ n2_ n3_ n4_; (try clear hb); (try clear hb2); (try clear hk); (try clear hi)))
    go_roundg k1
    case measure => have := HK1.out; omega
    case rel => exact ⟨(wrap64 (x8_1 + ((rd_T33 t408 x9_1).f0))), (wrap64 (x9_1 + 1)), fS, fS, H', ⟨by have := HK1.out; omega⟩, ⟨gR (HO_4.out)⟩, ⟨gR (HO_5.out)⟩, ⟨gR (HO_413001.out)⟩, ⟨gB (BK412.out)⟩, ⟨bl1 HB GE412⟩⟩
   rw [if_neg c29] at H
   have c29b0 : decide (x9_1 < (t408.length : Int)) = false := decide_eq_false c29
   clear c29
   replace H := Option.bind_eq_some_iff.mp H
   obtain ⟨t419, A410, H⟩ := H
   replace H : (laws_FnIslandFeed.l1 k1 t405 t408 x8_1 t419 0 t401 t402) = some r := H
   have A41 := Aside0.mk A410
   clear A410
   have H' := Aside0.mk H
   clear H
   have hcz42_0 : wr.cell? ⟨gb412, 0, none⟩ = some (.int .i64 t401) := (blk_cell BK412.out 0).trans rfl
   have hcz42_1 : wr.cell? ⟨gb412, 1, none⟩ = some (.slice Ao23 t402.length co23) := (blk_cell BK412.out 1).trans rfl
   have hfz42_0 := blk_frozen BK412.out 0
   have hfz42_1 := blk_frozen BK412.out 1
   go_wp2_with (first | ((with_reducible refine gate_callee (f := 19) rfl ?_); refine goesL_ (some 70) rfl rfl Tryd.func19 (by kernel_rfl) rfl #[.agg #[.int .i64 t401, .slice Ao23 t402.length co23], .slice Ao24 t405.length co24] rfl mP ?_; (with_reducible refine (impl_IslandsOf.calls k1 t401 _ _ t402 _ _ t405 t419 _ ?side1 ?side2 ?side3 ?side4 A41.out).mono ?_); (case side1 => exact gC ((Kd.R_reads' HO_413001.out).2.2)); (case side2 => exact (Kd.R_reads' HO_413001.out).2.1); (case side3 => exact gC ((Kd.R_reads' HO_4.out).2.2)); (case side4 => exact (Kd.R_reads' HO_4.out).2.1); rintro e w43 ⟨v420, rfl, ho0, hb⟩; refine ⟨_, rfl, ?_⟩; have n0_ := Aside0.mk (Kd.R_below (gR (HO_4.out)) hb); have n1_ := Aside0.mk (Kd.R_below (gR (HO_5.out)) hb); have n2_ := Aside0.mk (Kd.R_below (gR (HO_413001.out)) hb); have n3_ := Aside0.mk (Kd.S_lower ho0 (below_size (bl1 HB GE412))); have n4_ := Aside0.mk (blk_below (g := gb412) (o := .cells #[.int .i64 t401, .slice Ao23 t402.length co23] 25 (0, 0)) (gB (BK412.out)) hb); have n5_ := Aside0.mk (below_step (bl1 HB GE412) hb); clear HO_4; clear HO_5; clear HO_413001; clear BK412; clear HB; have HO_4 := n0_; have HO_5 := n1_; have HO_413001 := n2_; have HO421 := n3_; have BK412 := n4_; have HB := n5_; clear n0_ n1_ n2_ n3_ n4_ n5_; (try clear hb); (try clear hb2); (try clear hk); (try clear hi); (try clear ho0)))
   go_loopg [8, 11] k1 (fun kq v8 v11 w' => ∃ (x8_2 : Int) (x11_2 : Int), v8 = .int .i64 x8_2 ∧ v11 = .int .i64 x11_2 ∧ Aside0 (laws_FnIslandFeed.l1 kq t405 t408 x8_2 t419 x11_2 t401 t402 = some r) ∧ Aside0 (kq ≤ k1) ∧ Aside0 (Kd.R Kd.bool 4 w' w.heap.size (fun _ => True) (.slice Ao24 t405.length co24) t405) ∧ Aside0 (Kd.R k33 33 w' w.heap.size (fun _ => True) (.slice Ao25 t408.length co25) t408) ∧ Aside0 (Kd.S (Kd.slice 3 (Kd.int .i64)) 37 w' w.heap.size (fun _ => True) v420 t419) ∧ Aside0 (Kd.R k79 79 w' w.heap.size (fun _ => True) (.slice Ao23 t402.length co23) t402) ∧ Aside0 (w'.heap[gb412]? = some (.cells #[.int .i64 t401, (.slice Ao23 t402.length co23)] 25 (0, 0))) ∧ Aside0 (Below w.heap.size w w'))
   case atStart => exact ⟨(x8_1), (0), fS, fS, H', ⟨Nat.le_refl _⟩, ⟨gR (HO_4.out)⟩, ⟨gR (HO_5.out)⟩, ⟨gS (HO421.out)⟩, ⟨gR (HO_413001.out)⟩, ⟨gB (BK412.out)⟩, ⟨bl1 HB GE412⟩⟩
   case round =>
    clear H'
    try clear c1
    try clear c2
    try clear c2b0
    try clear c2b1
    try clear p2
    try clear c3
    try clear p4
    try clear q4
    try clear hx4
    try clear c6
    try clear c6b0
    try clear c6b1
    try clear p6
    try clear c7
    try clear c7b0
    try clear c8
    try clear c8b0
    try clear c8b1
    try clear c14
    try clear c15
    try clear c16
    try clear c18
    try clear c19
    try clear c29
    try clear c29b0
    try clear c30
    try clear c30b0
    try clear c32
    try clear c34
    try clear c34b0
    try clear c34b1
    try clear p41
    try clear q41
    try clear hx41
    try clear hcz12_0
    try clear hcz12_1
    try clear hcz17_0
    try clear hcz17_1
    try clear hcz22_0
    try clear hcz22_1
    try clear hcz27_0
    try clear hcz27_1
    try clear hcz35_0
    try clear hcz35_1
    try clear hcz37_0
    try clear hcz37_1
    try clear hcz39_0
    try clear hcz39_1
    try clear hcz42_0
    try clear hcz42_1
    try clear hfz12_0
    try clear hfz12_1
    try clear hfz17_0
    try clear hfz17_1
    try clear hfz22_0
    try clear hfz22_1
    try clear hfz27_0
    try clear hfz27_1
    try clear hfz35_0
    try clear hfz35_1
    try clear hfz37_0
    try clear hfz37_1
    try clear hfz39_0
    try clear hfz39_1
    try clear hfz42_0
    try clear hfz42_1
    try clear hx416_0
    try clear hx416_1
    try clear p2
    try clear p416
    try clear q416
    obtain ⟨x8_2, x11_2, rfl, rfl, HA, HK2, HO_4, HO_5, HO_10, HO_413001, BK412, HB⟩ := hrel
    cases gk with
    | zero => exact absurd HA.out (by simp [laws_FnIslandFeed.l1])
    | succ k2 =>
     have H := HA.out
     clear HA
     simp only [laws_FnIslandFeed.l1] at H
     by_cases c44 : x11_2 < (t419.length : Int)
     rotate_left
     ·
      rw [if_neg c44] at H
      have c44b0 : decide (x11_2 < (t419.length : Int)) = false := decide_eq_false c44
      clear c44
      obtain rfl := Option.some.inj H
      obtain ⟨Ao52, co52, eo52⟩ := Kd.S_slice HO_10.out
      subst eo52
      go_wp2
      go_ret
      exact ⟨fR, bl1 HB GE412⟩
     rw [if_pos c44] at H
     have c44b0 : decide (x11_2 < (t419.length : Int)) = true := decide_eq_true c44
     clear c44
     by_cases c45 : 0 ≤ x11_2
     rotate_left
     ·
      rw [if_neg c45] at H
      exact absurd H (by simp)
     rw [if_pos c45] at H
     have c45b0 : decide (0 ≤ x11_2) = true := decide_eq_true c45
     clear c45
     by_cases c46 : ((rd_L9 t419 x11_2).length : Int) = 0
     ·
      rw [if_pos c46] at H
      exact absurd H (by simp)
     rw [if_neg c46] at H
     have c46b0 : (((rd_L9 t419 x11_2).length : Int) == 0) = false := beq_eq_false_iff_ne.mpr c46
     have c46b1 : (((rd_L9 t419 x11_2).length : Int) != 0) = true := bne_iff_ne.mpr c46
     have c46b2 : ¬ ((rd_L9 t419 x11_2) = []) := fun h_ => c46 (by rw [h_]; rfl)
     by_cases c47 : 0 < ((rd_L9 t419 x11_2).length : Int)
     rotate_left
     ·
      rw [if_neg c47] at H
      exact absurd H (by simp)
     rw [if_pos c47] at H
     have c47b0 : decide (0 < ((rd_L9 t419 x11_2).length : Int)) = true := decide_eq_true c47
     have c47b1 : decide (0 < (rd_L9 t419 x11_2).length) = true := decide_eq_true (by omega)
     clear c47
     replace H := Option.bind_eq_some_iff.mp H
     obtain ⟨t425, A480, H⟩ := H
     replace H : (laws_FnIslandFeed.l1 k2 t405 t408 (wrap64 (x8_2 - t425)) t419 (wrap64 (x11_2 + 1)) t401 t402) = some r := H
     have A48 := Aside0.mk A480
     clear A480
     have H' := Aside0.mk H
     clear H
     obtain ⟨Ao49, co49, eo49⟩ := Kd.S_slice HO_10.out
     subst eo49
     have p422 : 0 ≤ (x11_2 : Int) := oD
     have q422 : x11_2 < (t419.length : Int) := oD
     obtain ⟨ad422, A422_0, c422_0, e422, hx422_0, hl422_0, hi422_0⟩ := at_L9 (Kd.S_reads' HO_10.out).2.2 x11_2 p422 q422
     cases e422
     obtain ⟨ce422, hce422, hMe422, hcc422⟩ := Kd.S_get HO_10.out [] x11_2 p422 (by first | exact q422 | exact oD | (have e_ := (Kd.S_reads' HO_10.out).1; omega))
     obtain ⟨ve422_0, rfl, ge422_0⟩ := hMe422
     have hv422_0 := hcc422 0 _ rfl
     rw [Nat.add_zero, show ((Kd.slice 3 (Kd.int .i64))).sz = 1 from rfl, Nat.mul_one] at hv422_0
     replace hv422_0 := Option.some.inj (hv422_0.symm.trans hx422_0)
     rw [hv422_0] at ge422_0
     have HL422_0 := Aside0.mk (show Kd.R (Kd.int .i64) 3 _ _ _ _ (rd_L9 t419 x11_2) from ge422_0)
     clear hv422_0 ge422_0
     clear hcc422 hce422
     have HR422_0 := Aside0.mk hi422_0
     have HC422_0 := Aside0.mk hl422_0
     clear hi422_0 hl422_0
     replace p422 := eq_true p422
     replace q422 := eq_true q422
     try go_wp2
     have n0_ := Aside0.mk (Kd.R_drew HO_4.out)
     have n1_ := Aside0.mk (Kd.R_drew HO_5.out)
     have n2_ := Aside0.mk (Kd.S_drew HO_10.out)
     have n3_ := Aside0.mk (Kd.R_drew HO_413001.out)
     have n4_ := Aside0.mk (Kd.R_drew HL422_0.out)
     have n5_ := Aside0.mk (blk_drew BK412.out)
     have n6_ := Aside0.mk (Kd.C_drew HR422_0.out)
     have n7_ := Aside0.mk (below_drew1 HB.out)
     clear HO_4
     clear HO_5
     clear HO_10
     clear HO_413001
     clear HL422_0
     clear BK412
     clear HR422_0
     clear HB
     have HO_4 := n0_
     have HO_5 := n1_
     have HO_10 := n2_
     have HO_413001 := n3_
     have HL422_0 := n4_
     have BK412 := n5_
     have HR422_0 := n6_
     have HB := n7_
     clear n0_ n1_ n2_ n3_ n4_ n5_ n6_ n7_
     have p423 : 0 ≤ (x11_2 : Int) := oD
     have q423 : x11_2 < (t419.length : Int) := oD
     obtain ⟨ad423, A423_0, c423_0, e423, hx423_0, hl423_0, hi423_0⟩ := at_L9 (Kd.S_reads' HO_10.out).2.2 x11_2 p423 q423
     obtain rfl : ad422 = ad423 := (by injection e423)
     obtain ⟨ce423, hce423, hMe423, hcc423⟩ := Kd.S_get HO_10.out [] x11_2 p423 (by first | exact q423 | exact oD | (have e_ := (Kd.S_reads' HO_10.out).1; omega))
     obtain ⟨ve423_0, rfl, ge423_0⟩ := hMe423
     have hv423_0 := hcc423 0 _ rfl
     rw [Nat.add_zero, show ((Kd.slice 3 (Kd.int .i64))).sz = 1 from rfl, Nat.mul_one] at hv423_0
     replace hv423_0 := Option.some.inj (hv423_0.symm.trans hx423_0)
     rw [hv423_0] at ge423_0
     have HL423_0 := Aside0.mk (show Kd.R (Kd.int .i64) 3 _ _ _ _ (rd_L9 t419 x11_2) from ge423_0)
     clear hv423_0 ge423_0
     clear hcc423 hce423
     have HR423_0 := Aside0.mk hi423_0
     have HC423_0 := Aside0.mk hl423_0
     clear hi423_0 hl423_0
     replace p423 := eq_true p423
     replace q423 := eq_true q423
     have p424 : 0 ≤ (0 : Int) := (by omega)
     have q424 : 0 < ((rd_L9 t419 x11_2).length : Int) := oD
     obtain ⟨ad424, e424, hx424_0⟩ := Kd.at_int (by repeat (first | (with_reducible exact HR423_0.out) | (with_reducible refine Kd.C_alloc ?_ _) | (with_reducible refine Kd.C_drewN ?_ _) | (with_reducible refine Kd.C_drew ?_) | exact HR423_0.out)) 0 p424 q424
     cases e424
     have qi424 : (0 < (rd_L9 t419 x11_2).length) = True := eq_true (by omega)
     (try rw [show ((0 : Int)).toNat = 0 from rfl] at hx424_0)
     (try rw [Addr.add_zero'] at hx424_0)
     replace p424 := eq_true p424
     replace q424 := eq_true q424
     refine start_ (n := 13) (S := fun w' => w'.cell? ⟨gb412, 0, none⟩ = some (.int .i64 t401) ∧ w'.cell? ⟨gb412, 1, none⟩ = some (.slice Ao23 t402.length co23) ∧ w'.cell? (ad422.add (x11_2).toNat) = some (.slice (some ad424) (rd_L9 t419 x11_2).length c423_0) ∧ w'.cell? ad424 = some (.int .i64 (rd (rd_L9 t419 x11_2) 0))) (ds := []) #[false, false, false, false, false, false, false, false, false, false, false, false, false] (by kernel_rfl) rfl rfl ⟨(blk_cell BK412.out 0).trans rfl, (blk_cell BK412.out 1).trans rfl, hx423_0, hx424_0⟩ (fun hHeld => ?_); refine with_tabW laws_FnIslandFeed.tab22 laws_FnIslandFeed.bits22 (fun HT_ HW_ => ?_)
     generalize wr.drew = w50 at HO_4 HO_5 HO_10 HO_413001 HL422_0 BK412 HR422_0 HB HL423_0 HR423_0 hx423_0 hx424_0 hHeld ⊢
     refine pure_ (i := 0) (N := some 83) (v := ?_) (a' := ?_) #[true, false, false, false, false, false, false, false, false, false, false, false, false] rfl rfl (any_of HT_.out (by kernel_rfl)) (fun _ _ _ h => h) (Or.inl ⟨by rfl, ?_⟩) ?_ ?_
     rotate_left
     ·
      intro w'
      go_simp
      with_reducible rfl
     rotate_left
     ·
      simp only [Act.put, List.setIfInBounds_toArray, List.set_cons_zero, List.set_cons_succ, i64_w, i32_w]
      rfl
     refine pure_ (i := 2) (N := some 85) (v := ?_) (a' := ?_) #[true, false, true, false, false, false, false, false, false, false, false, false, false] rfl rfl (any_of HT_.out (by kernel_rfl)) (fun _ _ _ h => h) (Or.inl ⟨by rfl, ?_⟩) ?_ ?_
     rotate_left
     ·
      intro w'
      go_simp
      with_reducible rfl
     rotate_left
     ·
      simp only [Act.put, List.setIfInBounds_toArray, List.set_cons_zero, List.set_cons_succ, i64_w, i32_w]
      rfl
     refine pure_ (i := 3) (N := some 86) (v := ?_) (a' := ?_) #[true, false, true, true, false, false, false, false, false, false, false, false, false] rfl rfl (any_of HT_.out (by kernel_rfl)) (fun _ _ _ h => h) (Or.inl ⟨by rfl, ?_⟩) ?_ ?_
     rotate_left
     ·
      intro w'
      go_simp
      with_reducible rfl
     rotate_left
     ·
      simp only [Act.put, List.setIfInBounds_toArray, List.set_cons_zero, List.set_cons_succ, i64_w, i32_w]
      rfl
     refine pure_ (i := 4) (N := some 87) (v := ?_) (a' := ?_) #[true, false, true, true, true, false, false, false, false, false, false, false, false] rfl rfl (any_of HT_.out (by kernel_rfl)) (fun _ _ _ h => h) (Or.inl ⟨by rfl, ?_⟩) ?_ ?_
     rotate_left
     ·
      intro w'
      go_simp
      with_reducible rfl
     rotate_left
     ·
      simp only [Act.put, List.setIfInBounds_toArray, List.set_cons_zero, List.set_cons_succ, i64_w, i32_w]
      rfl
     refine pure_ (i := 5) (N := some 88) (v := ?_) (a' := ?_) #[true, false, true, true, true, true, false, false, false, false, false, false, false] rfl rfl (any_of HT_.out (by kernel_rfl)) (fun _ _ _ h => h) (Or.inl ⟨by rfl, ?_⟩) ?_ ?_
     rotate_left
     ·
      intro w'
      go_simp
      with_reducible rfl
     rotate_left
     ·
      simp only [Act.put, List.setIfInBounds_toArray, List.set_cons_zero, List.set_cons_succ, i64_w, i32_w]
      rfl
     refine pure_ (i := 6) (N := some 89) (v := ?_) (a' := ?_) #[true, false, true, true, true, true, true, false, false, false, false, false, false] rfl rfl (any_of HT_.out (by kernel_rfl)) (fun _ _ _ h => h) (Or.inl ⟨by rfl, ?_⟩) ?_ ?_
     rotate_left
     ·
      intro w'
      go_simp
      with_reducible rfl
     rotate_left
     ·
      simp only [Act.put, List.setIfInBounds_toArray, List.set_cons_zero, List.set_cons_succ, i64_w, i32_w]
      rfl
     refine take_ (i := 1) (N := some 84) (v := ?_) (a' := ?_) #[true, true, true, true, true, true, true, false, false, false, false, false, false] rfl rfl (take_ofW HT_.out HW_.out (by kernel_rfl)) (fun _ _ _ h => h) (Or.inl ⟨by rfl, ?_⟩) hHeld ?_ ?_
     rotate_left
     ·
      rintro w' ⟨s0, s1, s2, s3⟩
      go_simp
      with_reducible rfl
     rotate_left
     ·
      simp only [Act.put, List.setIfInBounds_toArray, List.set_cons_zero, List.set_cons_succ, i64_w, i32_w]
      rfl
     refine take_ (i := 7) (N := some 90) (v := ?_) (a' := ?_) #[true, true, true, true, true, true, true, true, false, false, false, false, false] rfl rfl (take_ofW HT_.out HW_.out (by kernel_rfl)) (fun _ _ _ h => h) (Or.inl ⟨by rfl, ?_⟩) hHeld ?_ ?_
     rotate_left
     ·
      rintro w' ⟨s0, s1, s2, s3⟩
      go_simp
      with_reducible rfl
     rotate_left
     ·
      simp only [Act.put, List.setIfInBounds_toArray, List.set_cons_zero, List.set_cons_succ, i64_w, i32_w]
      rfl
     refine pure_ (i := 8) (N := some 91) (v := ?_) (a' := ?_) #[true, true, true, true, true, true, true, true, true, false, false, false, false] rfl rfl (any_of HT_.out (by kernel_rfl)) (fun _ _ _ h => h) (Or.inl ⟨by rfl, ?_⟩) ?_ ?_
     rotate_left
     ·
      intro w'
      go_simp
      with_reducible rfl
     rotate_left
     ·
      simp only [Act.put, List.setIfInBounds_toArray, List.set_cons_zero, List.set_cons_succ, i64_w, i32_w]
      rfl
     refine take_ (i := 9) (N := some 92) (v := ?_) (a' := ?_) #[true, true, true, true, true, true, true, true, true, true, false, false, false] rfl rfl (take_ofW HT_.out HW_.out (by kernel_rfl)) (fun _ _ _ h => h) (Or.inl ⟨by rfl, ?_⟩) hHeld ?_ ?_
     rotate_left
     ·
      rintro w' ⟨s0, s1, s2, s3⟩
      go_simp
      with_reducible rfl
     rotate_left
     ·
      simp only [Act.put, List.setIfInBounds_toArray, List.set_cons_zero, List.set_cons_succ, i64_w, i32_w]
      rfl
     refine one_ (i := 10) (N := some 93) #[true, true, true, true, true, true, true, true, true, true, true, false, false] rfl rfl (one_of HT_.out (by kernel_rfl)) (by decide) (fun K hK => ?_)
     refine goes_ Tryd.func15 (by kernel_rfl) rfl #[.agg #[.int .i64 t401, .slice Ao23 t402.length co23], .slice Ao24 t405.length co24, .slice Ao25 t408.length co25, .int .i64 (rd (rd_L9 t419 x11_2) 0)] (by rfl) rfl rfl mP ?_
     with_reducible refine (impl_IslandFeed.calls k2 t401 _ _ t402 _ _ t405 _ _ t408 (rd (rd_L9 t419 x11_2) 0) t425 _ ?side1 ?side2 ?side3 ?side4 ?side5 ?side6 A48.out).mono ?_
     (case side1 => exact gC ((Kd.R_reads' HO_413001.out).2.2))
     (case side2 => exact (Kd.R_reads' HO_413001.out).2.1)
     (case side3 => exact gC ((Kd.R_reads' HO_4.out).2.2))
     (case side4 => exact (Kd.R_reads' HO_4.out).2.1)
     (case side5 => exact gC ((Kd.R_reads' HO_5.out).2.2))
     (case side6 => exact (Kd.R_reads' HO_5.out).2.1)
     rintro e w51 ⟨rfl, hb⟩
     have HS2_ := (hb.cell (World.block_lt_of_cell? _ _ (hHeld.2.2.1))).trans (hHeld.2.2.1)
     have HS3_ := (hb.cell (World.block_lt_of_cell? _ _ (hHeld.2.2.2))).trans (hHeld.2.2.2)
     refine ⟨_, rfl, ?_⟩
     have n0_ := Aside0.mk (Kd.R_below (gR (HO_4.out)) hb)
     have n1_ := Aside0.mk (Kd.R_below (gR (HO_5.out)) hb)
     have n2_ := Aside0.mk (Kd.S_below (gS (HO_10.out)) hb)
     have n3_ := Aside0.mk (Kd.R_below (gR (HO_413001.out)) hb)
     have n4_ := Aside0.mk (Kd.R_below (gR (HL422_0.out)) hb)
     have n5_ := Aside0.mk (Kd.R_below (gR (HL423_0.out)) hb)
     have n6_ := Aside0.mk (blk_below (g := gb412) (o := .cells #[.int .i64 t401, .slice Ao23 t402.length co23] 25 (0, 0)) (gB (BK412.out)) hb)
     have n7_ := Aside0.mk (Kd.C_below (by repeat (first | (with_reducible exact HR422_0.out) | (with_reducible refine Kd.C_alloc ?_ _) | (with_reducible refine Kd.C_drewN ?_ _) | (with_reducible refine Kd.C_drew ?_) | exact HR422_0.out)) hb)
     have n8_ := Aside0.mk (Kd.C_below (by repeat (first | (with_reducible exact HR423_0.out) | (with_reducible refine Kd.C_alloc ?_ _) | (with_reducible refine Kd.C_drewN ?_ _) | (with_reducible refine Kd.C_drew ?_) | exact HR423_0.out)) hb)
     have n9_ := Aside0.mk (below_step (bl1 HB GE412) hb)
     clear HO_4
     clear HO_5
     clear HO_10
     clear HO_413001
     clear HL422_0
     clear HL423_0
     clear BK412
     clear HR422_0
     clear HR423_0
     clear HB
     have HO_4 := n0_
     have HO_5 := n1_
     have HO_10 := n2_
     have HO_413001 := n3_
     have HL422_0 := n4_
     have HL423_0 := n5_
     have BK412 := n6_
     have HR422_0 := n7_
     have HR423_0 := n8_
     have HB := n9_
     clear n0_ n1_ n2_ n3_ n4_ n5_ n6_ n7_ n8_ n9_
     (try clear hb)
     (try clear hb2)
     (try clear hk)
     (try clear hi)
     refine hK.out _ _ ⟨(blk_cell BK412.out 0).trans rfl, (blk_cell BK412.out 1).trans rfl, HS2_, HS3_⟩ (fun hHeld => ?_)
     clear hK K
     refine norm_ (a' := ?_) ?_ ?_
     rotate_left
     ·
      show Act.put _ (some 93) _ = _
      simp only [Act.put, List.setIfInBounds_toArray, List.set_cons_zero, List.set_cons_succ, i64_w, i32_w]
      rfl
     refine pure_ (i := 11) (N := some 94) (v := ?_) (a' := ?_) #[true, true, true, true, true, true, true, true, true, true, true, true, false] rfl rfl (any_of HT_.out (by kernel_rfl)) (fun _ _ _ h => h) (Or.inl ⟨by rfl, ?_⟩) ?_ ?_
     rotate_left
     ·
      intro w'
      go_simp
      with_reducible rfl
     rotate_left
     ·
      simp only [Act.put, List.setIfInBounds_toArray, List.set_cons_zero, List.set_cons_succ, i64_w, i32_w]
      rfl
     refine pure_ (i := 12) (N := some 8) (v := ?_) (a' := ?_) #[true, true, true, true, true, true, true, true, true, true, true, true, true] rfl rfl (any_of HT_.out (by kernel_rfl)) (fun _ _ _ h => h) (Or.inl ⟨by rfl, ?_⟩) ?_ ?_
     rotate_left
     ·
      intro w'
      go_simp
      with_reducible rfl
     rotate_left
     ·
      simp only [Act.put, List.setIfInBounds_toArray, List.set_cons_zero, List.set_cons_succ, i64_w, i32_w]
      rfl
     refine done_ (done_of HT_.out (by kernel_rfl)) ?_
     try go_wp2
     go_roundg k2
     case measure => have := HK1.out; have := HK2.out; omega
     case rel => exact ⟨(wrap64 (x8_2 - t425)), (wrap64 (x11_2 + 1)), fS, fS, H', ⟨by have := HK1.out; have := HK2.out; omega⟩, ⟨gR (HO_4.out)⟩, ⟨gR (HO_5.out)⟩, ⟨gS (HO_10.out)⟩, ⟨gR (HO_413001.out)⟩, ⟨gB (BK412.out)⟩, ⟨bl1 HB GE412⟩⟩

end Go.Proofs.YtpgjgbjkfgbpaaaDoor.P

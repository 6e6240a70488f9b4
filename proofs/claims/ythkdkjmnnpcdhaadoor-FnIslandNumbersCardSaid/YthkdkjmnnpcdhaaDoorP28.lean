/- Contracts of Go functions of this seat's translation, written by this repo's wip/mk.py: it calls the kit's print.py with contracts typed by hand in place of functions that it does not take. Not trusted: Lean checks it. -/
import Derived.Test.YthkdkjmnnpcdhaaDoorP0
import Derived.Test.YthkdkjmnnpcdhaaDoorP3
import Derived.Test.YthkdkjmnnpcdhaaDoorP4
import Derived.Test.YthkdkjmnnpcdhaaDoorP5
import Derived.Test.YthkdkjmnnpcdhaaDoorP15
namespace Go.Proofs.YthkdkjmnnpcdhaaDoor.P
open Go.RowKit Go.Proofs.YthkdkjmnnpcdhaaDoorW.PrintWords Go.Proofs.YthkdkjmnnpcdhaaDoorW.PrintLast Go.Proofs.YthkdkjmnnpcdhaaDoorW.PrintMore
attribute [local go_sem] max2_int min2_int max_two min_two max_three min_three max_four min_four   -- for this text's walks alone
set_option linter.unusedVariables false
set_option linter.unusedSimpArgs false

/-! ### spec_DrawSwitchLine: function 21 -/
def spec_DrawSwitchLine.f (k : Nat) (l0 : List Int) : Option (Int × (List (S52)) × List Bool × Int × Bool) := (spec_l20Open.f l0).bind fun bt329 => ((spec_l20Net.f k bt329.1 bt329.2 9).bind fun bt332 => ((spec_l20State.f k bt329.1 bt332.2.2 bt332.1 bt332.2.1 9).bind fun bt338 => ((spec_l20Rd_pick.f k bt329.1 bt338.2 (wrap64 ((bt338.1.length : Int) + 1))).bind fun bt342 => ((spec_l20Rd_pick.f k bt329.1 bt342.2 9).bind fun bt344 => ((spec_l20Rd_pick.f k bt329.1 bt344.2 2).bind fun bt346 => (some (bt332.1, bt332.2.1, bt338.1, wrap64 (bt342.1 - (wrap64 (Int.tdiv bt344.1 8))), (bt346.1 == 0))))))))
theorem spec_DrawSwitchLine.mono : ∀ a0 k, LeO (spec_DrawSwitchLine.f k a0) (spec_DrawSwitchLine.f (k + 1) a0) := by
 intro a0 k
 unfold spec_DrawSwitchLine.f
 repeat' first
   | (with_reducible exact spec_l20Net.mono _ _ _ _)
   | (with_reducible exact spec_l20Rd_pick.mono _ _ _ _)
   | (with_reducible exact spec_l20State.mono _ _ _ _ _ _)
   | (with_reducible exact LeO.refl _)
   | (with_reducible exact LeO.none _)
   | (with_reducible refine LeO.ite ?_ ?_)
   | (with_reducible refine LeO.bind ?_ (fun _ => ?_))
   | exact spec_l20Net.mono _ _ _ _
   | exact spec_l20Rd_pick.mono _ _ _ _
   | exact spec_l20State.mono _ _ _ _ _ _
   | exact LeO.none _
   | refine LeO.ite ?_ ?_
   | refine LeO.bind ?_ (fun _ => ?_)
def spec_DrawSwitchLine.T4 : Bool × List (List Nat × List Nat) := (true, [([], []), ([], []), ([], []), ([], []), ([3], [3]), ([4], [4]), ([2, 5], [2, 5]), ([], []), ([7, 6], [7]), ([8], [8]), ([6, 9], [6, 9]), ([], []), ([11, 8], [11]), ([12], [12]), ([0, 12, 0], [0]), ([1, 14, 0, 1, 14], [1]), ([10, 15, 0, 1, 2, 3, 4, 5, 6, 7, 8, 9, 10, 14, 15], [10]), ([13, 16, 0, 1, 2, 3, 4, 5, 6, 7, 8, 9, 10, 11, 12, 13, 14, 15, 16], [13])])
def spec_DrawSwitchLine.B4 : List Nat := [0, 0, 0, 0, 8, 24, 60, 0, 252, 508, 1020, 0, 2556, 6652, 6653, 23039, 57343, 131071]
theorem spec_DrawSwitchLine.tab4 : rtab .any (opsOf Tryd.f21 4) = spec_DrawSwitchLine.T4 := by kernel_rfl
theorem spec_DrawSwitchLine.bits4 : waitsOk spec_DrawSwitchLine.T4.2 spec_DrawSwitchLine.B4 = true := by kernel_rfl
set_option maxHeartbeats 8000000 in
set_option maxRecDepth 100000 in
theorem spec_DrawSwitchLine.calls (k : Nat) (A0 : Option Addr) (c0 : Nat) (l0 : List Int) (r1 : Int) (r2 : List (S52)) (r3 : List Bool) (r4 : Int) (r5 : Bool) (w : World) (hr0 : Kd.C (Kd.int .u8) w A0 l0.length l0) (hc0 : l0.length ≤ c0) (h : spec_DrawSwitchLine.f k l0 = some (r1, r2, r3, r4, r5)) :
  Calls Tryd.prog 21 #[.slice A0 l0.length c0] w fun e w' => ∃ v1_ v2_ : Value, e = .returned (.tuple #[.agg #[.int .i64 r1, v1_], v2_, .int .i64 r4, .bool r5]) ∧ Kd.R k52 52 w' w.heap.size (fun _ => True) v1_ r2 ∧ Kd.R Kd.bool 4 w' w.heap.size (fun _ => True) v2_ r3 ∧ Below w.heap.size w w' := by
 have hu39 := Tryd.underlying39
 have HR0 := Aside0.mk hr0
 have HC0 := Aside0.mk hc0
 clear hr0 hc0
 have HB := Aside0.mk (Below.refl w.heap.size w)
 have H : ((spec_l20Open.f l0).bind fun bt329 => ((spec_l20Net.f k bt329.1 bt329.2 9).bind fun bt332 => ((spec_l20State.f k bt329.1 bt332.2.2 bt332.1 bt332.2.1 9).bind fun bt338 => ((spec_l20Rd_pick.f k bt329.1 bt338.2 (wrap64 ((bt338.1.length : Int) + 1))).bind fun bt342 => ((spec_l20Rd_pick.f k bt329.1 bt342.2 9).bind fun bt344 => ((spec_l20Rd_pick.f k bt329.1 bt344.2 2).bind fun bt346 => (some (bt332.1, bt332.2.1, bt338.1, wrap64 (bt342.1 - (wrap64 (Int.tdiv bt344.1 8))), (bt346.1 == 0))))))))) = some (r1, r2, r3, r4, r5) := h
 clear h
 replace H := Option.bind_eq_some_iff.mp H
 obtain ⟨⟨t329, t330⟩, A20, H⟩ := H
 replace H : ((spec_l20Net.f k t329 t330 9).bind fun bt332 => ((spec_l20State.f k t329 bt332.2.2 bt332.1 bt332.2.1 9).bind fun bt338 => ((spec_l20Rd_pick.f k t329 bt338.2 (wrap64 ((bt338.1.length : Int) + 1))).bind fun bt342 => ((spec_l20Rd_pick.f k t329 bt342.2 9).bind fun bt344 => ((spec_l20Rd_pick.f k t329 bt344.2 2).bind fun bt346 => (some (bt332.1, bt332.2.1, bt338.1, wrap64 (bt342.1 - (wrap64 (Int.tdiv bt344.1 8))), (bt346.1 == 0)))))))) = some (r1, r2, r3, r4, r5) := H
 have A2 := Aside0.mk A20
 clear A20
 replace H := Option.bind_eq_some_iff.mp H
 obtain ⟨⟨t332, t333, t336⟩, A30, H⟩ := H
 replace H : ((spec_l20State.f k t329 t336 t332 t333 9).bind fun bt338 => ((spec_l20Rd_pick.f k t329 bt338.2 (wrap64 ((bt338.1.length : Int) + 1))).bind fun bt342 => ((spec_l20Rd_pick.f k t329 bt342.2 9).bind fun bt344 => ((spec_l20Rd_pick.f k t329 bt344.2 2).bind fun bt346 => (some (t332, t333, bt338.1, wrap64 (bt342.1 - (wrap64 (Int.tdiv bt344.1 8))), (bt346.1 == 0))))))) = some (r1, r2, r3, r4, r5) := H
 have A3 := Aside0.mk A30
 clear A30
 replace H := Option.bind_eq_some_iff.mp H
 obtain ⟨⟨t338, t341⟩, A40, H⟩ := H
 replace H : ((spec_l20Rd_pick.f k t329 t341 (wrap64 ((t338.length : Int) + 1))).bind fun bt342 => ((spec_l20Rd_pick.f k t329 bt342.2 9).bind fun bt344 => ((spec_l20Rd_pick.f k t329 bt344.2 2).bind fun bt346 => (some (t332, t333, t338, wrap64 (bt342.1 - (wrap64 (Int.tdiv bt344.1 8))), (bt346.1 == 0)))))) = some (r1, r2, r3, r4, r5) := H
 have A4 := Aside0.mk A40
 clear A40
 replace H := Option.bind_eq_some_iff.mp H
 obtain ⟨⟨t342, t343⟩, A50, H⟩ := H
 replace H : ((spec_l20Rd_pick.f k t329 t343 9).bind fun bt344 => ((spec_l20Rd_pick.f k t329 bt344.2 2).bind fun bt346 => (some (t332, t333, t338, wrap64 (t342 - (wrap64 (Int.tdiv bt344.1 8))), (bt346.1 == 0))))) = some (r1, r2, r3, r4, r5) := H
 have A5 := Aside0.mk A50
 clear A50
 replace H := Option.bind_eq_some_iff.mp H
 obtain ⟨⟨t344, t345⟩, A60, H⟩ := H
 replace H : ((spec_l20Rd_pick.f k t329 t345 2).bind fun bt346 => (some (t332, t333, t338, wrap64 (t342 - (wrap64 (Int.tdiv t344 8))), (bt346.1 == 0)))) = some (r1, r2, r3, r4, r5) := H
 have A6 := Aside0.mk A60
 clear A60
 replace H := Option.bind_eq_some_iff.mp H
 obtain ⟨⟨t346, t347⟩, A70, H⟩ := H
 replace H : (some (t332, t333, t338, wrap64 (t342 - (wrap64 (Int.tdiv t344 8))), (t346 == 0))) = some (r1, r2, r3, r4, r5) := H
 have A7 := Aside0.mk A70
 clear A70
 simp only [Option.some.injEq, Prod.mk.injEq] at H
 obtain ⟨rfl, rfl, rfl, rfl, rfl⟩ := H
 go_enter Tryd.func21, Tryd.ntmps21
 try go_wp2_with (first | ((with_reducible refine gate_dst (N := 2) rfl ?_); refine box_event ?hg (N := 2) ?hd (cs := #[.int .i64 0, .slice none 0 0]) (t := 39) ?hr ?_; (case hd => rfl); (case hg => rfl); (case hr => exact hR); intro gb328 hg w8 hbox hb; have n0_ := Aside0.mk (below_step (bl0 HB) hb); have n1_ := Aside0.mk (hbox); have n2_ := Aside0.mk ((by rw [hg]; exact (below_size (bl0 HB)) : w.heap.size ≤ gb328)); have n3_ := Aside0.mk ((by rw [hg]; exact (below_size (bl0 HB)) : w.heap.size ≤ gb328)); clear HB; have HB := n0_; have BK328 := n1_; have GW328 := n2_; have GE328 := n3_; clear n0_ n1_ n2_ n3_; clear hb hbox hg) | ((with_reducible refine gate_callee (f := 45) rfl ?_); refine goesL_ (some 10) rfl rfl Tryd.func45 (by kernel_rfl) rfl #[.slice A0 l0.length c0] rfl mP ?_; (with_reducible refine (spec_l20Open.calls _ _ l0 t329 t330 w _ ?side1 ?side2 ?side3 A2.out).mono ?_); (case side1 => repeat (first | (with_reducible first | exact HB.out | apply below_alloc | apply pw_below_drewN | apply below_drew1 | refine below_set ?_ GE328.out) | exact HB.out)); (case side2 => exact HR0.out); (case side3 => exact HC0.out); rintro e w9 ⟨g331, rfl, hi, hb, hb2⟩; refine ⟨_, rfl, ?_⟩; have n0_ := Aside0.mk (blk_below (g := gb328) (o := .cells #[.int .i64 0, .slice none 0 0] 39 (0, 0)) (gB (BK328.out)) hb2); have n1_ := Aside0.mk (hb); have n2_ := Aside0.mk (hi); have n3_ := Aside0.mk (IsS80.ne_blk hi (blk_below (g := gb328) (o := .cells #[.int .i64 0, .slice none 0 0] 39 (0, 0)) (gB (BK328.out)) hb2) (by decide)); have n4_ := Aside0.mk (Ne.symm (IsS80.ne_blk hi (blk_below (g := gb328) (o := .cells #[.int .i64 0, .slice none 0 0] 39 (0, 0)) (gB (BK328.out)) hb2) (by decide))); clear BK328; clear HB; have BK328 := n0_; have HB := n1_; have HI331 := n2_; have NB331_328 := n3_; have NB328_331 := n4_; clear n0_ n1_ n2_ n3_ n4_; (try clear hb); (try clear hb2); (try clear hk); (try clear hi)) | ((with_reducible refine gate_callee (f := 47) rfl ?_); refine goesL_ (some 12) rfl rfl Tryd.func47 (by kernel_rfl) rfl #[.pointer (some ⟨g331, 0, none⟩), .int .i64 9] rfl mP ?_; (with_reducible refine (spec_l20Net.calls k g331 t329 t330 9 t332 t333 t336 w _ ?side1 ?side2 A3.out).mono ?_); (case side1 => repeat (first | (with_reducible first | exact HI331.out | apply IsS80.alloc | apply IsS80.drewN | apply IsS80.drew | apply IsS80.set_1 | refine IsS80.far ?_ NB331_328.out _) | exact HI331.out)); (case side2 => repeat (first | (with_reducible first | exact HB.out | apply below_alloc | apply pw_below_drewN | apply below_drew1 | refine below_set ?_ (IsS80.ge HI331.out) | refine below_set ?_ GE328.out) | exact HB.out)); rintro e w10 ⟨v334, rfl, ho0, hi, hb, hk⟩; refine ⟨_, rfl, ?_⟩; have n0_ := Aside0.mk (KeepBut.blk hk (g' := gb328) (o := .cells #[.int .i64 0, .slice none 0 0] 39 (0, 0)) (gB (BK328.out)) NB328_331.out (by simp)); have n1_ := Aside0.mk (Kd.R_lower ho0 (below_size (by repeat (first | (with_reducible first | exact HB.out | apply below_alloc | apply pw_below_drewN | apply below_drew1 | refine below_set ?_ (IsS80.ge HI331.out) | refine below_set ?_ GE328.out) | exact HB.out)))); have n2_ := Aside0.mk (hb); have n3_ := Aside0.mk (hi); clear BK328; clear HB; clear HI331; have BK328 := n0_; have HO335 := n1_; have HB := n2_; have HI331 := n3_; clear n0_ n1_ n2_ n3_; (try clear hb); (try clear hb2); (try clear hk); (try clear hi); (try clear ho0)) | ((with_reducible refine gate_dst (N := 7) rfl ?_); refine box_event ?hg (N := 7) ?hd (cs := #[.int .i64 0, .slice none 0 0]) (t := 39) ?hr ?_; (case hd => rfl); (case hg => rfl); (case hr => exact hR); intro gb337 hg w11 hbox hb; have n0_ := Aside0.mk (Kd.R_below (gR (HO335.out)) hb); have n1_ := Aside0.mk (blk_below (g := gb328) (o := .cells #[.int .i64 0, .slice none 0 0] 39 (0, 0)) (gB (BK328.out)) hb); have n2_ := Aside0.mk (IsS80.below (by repeat (first | (with_reducible first | exact HI331.out | apply IsS80.alloc | apply IsS80.drewN | apply IsS80.drew | apply IsS80.set_1 | refine IsS80.far ?_ NB331_328.out _) | exact HI331.out)) hb); have n3_ := Aside0.mk (below_step (by repeat (first | (with_reducible first | exact HB.out | apply below_alloc | apply pw_below_drewN | apply below_drew1 | refine below_set ?_ (IsS80.ge HI331.out) | refine below_set ?_ GE328.out) | exact HB.out)) hb); have n4_ := Aside0.mk (hbox); have n5_ := Aside0.mk ((by rw [hg]; exact (below_size (by repeat (first | (with_reducible first | exact HB.out | apply below_alloc | apply pw_below_drewN | apply below_drew1 | refine below_set ?_ (IsS80.ge HI331.out) | refine below_set ?_ GE328.out) | exact HB.out))) : w.heap.size ≤ gb337)); have n6_ := Aside0.mk ((by rw [hg]; exact (below_size (by repeat (first | (with_reducible first | exact HB.out | apply below_alloc | apply pw_below_drewN | apply below_drew1 | refine below_set ?_ (IsS80.ge HI331.out) | refine below_set ?_ GE328.out) | exact HB.out))) : w.heap.size ≤ gb337)); have n7_ := Aside0.mk ((by rw [hg]; exact Nat.ne_of_lt (blk_lt (g := gb328) (o := .cells #[.int .i64 0, .slice none 0 0] 39 (0, 0)) (gB (BK328.out))) : gb328 ≠ gb337)); have n8_ := Aside0.mk ((by rw [hg]; exact Nat.ne_of_gt (blk_lt (g := gb328) (o := .cells #[.int .i64 0, .slice none 0 0] 39 (0, 0)) (gB (BK328.out))) : gb337 ≠ gb328)); have n9_ := Aside0.mk ((by rw [hg]; exact Nat.ne_of_lt (IsS80.lt (show IsS80 w _ g331 t329 t336 from by repeat (first | (with_reducible first | exact HI331.out | apply IsS80.alloc | apply IsS80.drewN | apply IsS80.drew | apply IsS80.set_1 | refine IsS80.far ?_ NB331_328.out _) | exact HI331.out))) : g331 ≠ gb337)); have n10_ := Aside0.mk ((by rw [hg]; exact Nat.ne_of_gt (IsS80.lt (show IsS80 w _ g331 t329 t336 from by repeat (first | (with_reducible first | exact HI331.out | apply IsS80.alloc | apply IsS80.drewN | apply IsS80.drew | apply IsS80.set_1 | refine IsS80.far ?_ NB331_328.out _) | exact HI331.out))) : gb337 ≠ g331)); clear HO335; clear BK328; clear HI331; clear HB; have HO335 := n0_; have BK328 := n1_; have HI331 := n2_; have HB := n3_; have BK337 := n4_; have GW337 := n5_; have GE337 := n6_; have NB328_337 := n7_; have NB337_328 := n8_; have NB331_337 := n9_; have NB337_331 := n10_; clear n0_ n1_ n2_ n3_ n4_ n5_ n6_ n7_ n8_ n9_ n10_; clear hb hbox hg; have hnb12 := NB337_328.out; have hnc12 := NB328_337.out; have hnb13 := NB337_331.out; have hnc13 := NB331_337.out; have hcz14_0 : w11.cell? ⟨gb337, 0, none⟩ = some (.int .i64 0) := (blk_cell BK337.out 0).trans rfl; have hcz14_1 : w11.cell? ⟨gb337, 1, none⟩ = some (.slice none 0 0) := (blk_cell BK337.out 1).trans rfl; have hfz14_0 := blk_frozen BK337.out 0; have hfz14_1 := blk_frozen BK337.out 1; obtain ⟨Ao15, co15, eo15⟩ := Kd.R_slice HO335.out; subst eo15) | ((with_reducible refine gate_callee (f := 46) rfl ?_); refine goesL_ (some 15) rfl rfl Tryd.func46 (by kernel_rfl) rfl #[.pointer (some ⟨g331, 0, none⟩), .agg #[.int .i64 t332, .slice Ao15 t333.length co15], .int .i64 9] rfl mP ?_; (with_reducible refine (spec_l20State.calls k g331 t329 t336 t332 _ _ t333 9 t338 t341 w _ ?side1 ?side2 ?side3 ?side4 A4.out).mono ?_); (case side1 => repeat (first | (with_reducible first | exact HI331.out | apply IsS80.alloc | apply IsS80.drewN | apply IsS80.drew | apply IsS80.set_1 | refine IsS80.far ?_ NB331_328.out _ | refine IsS80.far ?_ NB331_337.out _) | exact HI331.out)); (case side2 => repeat (first | (with_reducible first | exact HB.out | apply below_alloc | apply pw_below_drewN | apply below_drew1 | refine below_set ?_ (IsS80.ge HI331.out) | refine below_set ?_ GE328.out | refine below_set ?_ GE337.out) | exact HB.out)); (case side3 => exact Kd.C_foot_own (IsS80.apart (show IsS80 w _ g331 t329 t336 from by repeat (first | (with_reducible first | exact HI331.out | apply IsS80.alloc | apply IsS80.drewN | apply IsS80.drew | apply IsS80.set_1 | refine IsS80.far ?_ NB331_328.out _ | refine IsS80.far ?_ NB331_337.out _) | exact HI331.out)) (by (with_reducible repeat (first | apply Kd.R_alloc | apply Kd.R_drewN | apply Kd.R_drew)); exact (Kd.R_mono (Kd.R_far (p := ⟨gb337, 1, none⟩) (Kd.R_far (p := ⟨gb337, 0, none⟩) (Kd.R_types HO335.out BK337.out (by decide)) (fun _ hk => hk.2) (.int .i64 t332)) (fun _ hk => hk.2) (.slice Ao15 t333.length co15)) (fun _ h_ => h_.1))) (by decide)) (fun _ h_ => h_.2)); (case side4 => exact (Kd.R_reads' HO335.out).2.1); rintro e w16 ⟨v339, rfl, ho0, hi, hb, hk⟩; refine ⟨_, rfl, ?_⟩; have n0_ := Aside0.mk (KeepBut.blk hk (g' := gb328) (o := .cells #[.int .i64 0, .slice none 0 0] 39 (0, 0)) (by (with_reducible repeat (first | refine blk_drewN ?_ _ | refine blk_drew ?_ | refine blk_alloc ?_ _)); refine blk_far ?_ NB328_337.out _; (with_reducible repeat (first | refine blk_drewN ?_ _ | refine blk_drew ?_ | refine blk_alloc ?_ _)); refine blk_far ?_ NB328_337.out _; (with_reducible repeat (first | refine blk_drewN ?_ _ | refine blk_drew ?_ | refine blk_alloc ?_ _)); exact BK328.out) NB328_331.out (by simp)); have n1_ := Aside0.mk (Kd.R_mono (Kd.R_keep (IsS80.apart (show IsS80 w _ g331 t329 t336 from by repeat (first | (with_reducible first | exact HI331.out | apply IsS80.alloc | apply IsS80.drewN | apply IsS80.drew | apply IsS80.set_1 | refine IsS80.far ?_ NB331_328.out _ | refine IsS80.far ?_ NB331_337.out _) | exact HI331.out)) (by (with_reducible repeat (first | apply Kd.R_alloc | apply Kd.R_drewN | apply Kd.R_drew)); exact (Kd.R_mono (Kd.R_far (p := ⟨gb337, 1, none⟩) (Kd.R_far (p := ⟨gb337, 0, none⟩) (Kd.R_types HO335.out BK337.out (by decide)) (fun _ hk => hk.2) (.int .i64 t332)) (fun _ hk => hk.2) (.slice Ao15 t333.length co15)) (fun _ h_ => h_.1))) (by decide)) hk (fun _ h => h.2)) (fun _ h => h.1)); have n2_ := Aside0.mk (KeepBut.blk hk (g' := gb337) (o := .cells #[.int .i64 t332, .slice Ao15 t333.length co15] 39 (0, 0)) (by (with_reducible repeat (first | refine blk_drewN ?_ _ | refine blk_drew ?_ | refine blk_alloc ?_ _)); refine blk_put (cs := #[.int .i64 t332, .slice none 0 0]) ?_ 1 _ rfl; (with_reducible repeat (first | refine blk_drewN ?_ _ | refine blk_drew ?_ | refine blk_alloc ?_ _)); refine blk_put (cs := #[.int .i64 0, .slice none 0 0]) ?_ 0 _ rfl; (with_reducible repeat (first | refine blk_drewN ?_ _ | refine blk_drew ?_ | refine blk_alloc ?_ _)); exact BK337.out) NB337_331.out (by simp)); have n3_ := Aside0.mk (Kd.R_lower ho0 (below_size (by repeat (first | (with_reducible first | exact HB.out | apply below_alloc | apply pw_below_drewN | apply below_drew1 | refine below_set ?_ (IsS80.ge HI331.out) | refine below_set ?_ GE328.out | refine below_set ?_ GE337.out) | exact HB.out)))); have n4_ := Aside0.mk (hb); have n5_ := Aside0.mk (hi); clear BK328; clear HO335; clear BK337; clear HB; clear HI331; have BK328 := n0_; have HO335 := n1_; have BK337 := n2_; have HO340 := n3_; have HB := n4_; have HI331 := n5_; clear n0_ n1_ n2_ n3_ n4_ n5_; (try clear hb); (try clear hb2); (try clear hk); (try clear hi); (try clear ho0)))
 have n0_ := Aside0.mk (Kd.R_drew HO335.out)
 have n1_ := Aside0.mk (Kd.R_drew HO340.out)
 have n2_ := Aside0.mk (blk_drew BK328.out)
 have n3_ := Aside0.mk (blk_drew BK337.out)
 have n4_ := Aside0.mk (IsS80.drew HI331.out)
 have n5_ := Aside0.mk (below_drew1 HB.out)
 clear HO335
 clear HO340
 clear BK328
 clear BK337
 clear HI331
 clear HB
 have HO335 := n0_
 have HO340 := n1_
 have BK328 := n2_
 have BK337 := n3_
 have HI331 := n4_
 have HB := n5_
 clear n0_ n1_ n2_ n3_ n4_ n5_
 obtain ⟨Ao18, co18, eo18⟩ := Kd.R_slice HO340.out
 (first | subst eo18 | (injection eo18 with f1_ f2_ f3_; have f4_ := f1_.symm; have f5_ := f3_.symm; clear f1_ f2_ f3_; subst f4_; subst f5_))
 refine start_ (n := 18) (S := fun w' => w'.cell? ⟨gb337, 0, none⟩ = some (.int .i64 t332) ∧ w'.cell? ⟨gb337, 1, none⟩ = some (.slice Ao15 t333.length co15)) (ds := []) #[false, false, false, false, false, false, false, false, false, false, false, false, false, false, false, false, false, false] (by kernel_rfl) rfl rfl ⟨(blk_cell BK337.out 0).trans rfl, (blk_cell BK337.out 1).trans rfl⟩ (fun hHeld => ?_); refine with_tabW spec_DrawSwitchLine.tab4 spec_DrawSwitchLine.bits4 (fun HT_ HW_ => ?_)
 generalize w16.drew = w17 at HO335 HO340 BK328 BK337 HI331 HB hHeld ⊢
 refine pure_ (i := 1) (N := some 17) (v := ?_) (a' := ?_) #[false, true, false, false, false, false, false, false, false, false, false, false, false, false, false, false, false, false] rfl rfl (any_of HT_.out (by kernel_rfl)) (fun _ _ _ h => h) (Or.inl ⟨by rfl, ?_⟩) ?_ ?_
 rotate_left
 ·
  intro w'
  go_simp
  with_reducible rfl
 rotate_left
 ·
  simp only [Act.put, List.setIfInBounds_toArray, List.set_cons_zero, List.set_cons_succ, i64_w, i32_w]
  rfl
 refine pure_ (i := 2) (N := some 18) (v := ?_) (a' := ?_) #[false, true, true, false, false, false, false, false, false, false, false, false, false, false, false, false, false, false] rfl rfl (any_of HT_.out (by kernel_rfl)) (fun _ _ _ h => h) (Or.inl ⟨by rfl, ?_⟩) ?_ ?_
 rotate_left
 ·
  intro w'
  go_simp
  with_reducible rfl
 rotate_left
 ·
  simp only [Act.put, List.setIfInBounds_toArray, List.set_cons_zero, List.set_cons_succ, i64_w, i32_w]
  rfl
 refine pure_ (i := 3) (N := some 19) (v := ?_) (a' := ?_) #[false, true, true, true, false, false, false, false, false, false, false, false, false, false, false, false, false, false] rfl rfl (any_of HT_.out (by kernel_rfl)) (fun _ _ _ h => h) (Or.inl ⟨by rfl, ?_⟩) ?_ ?_
 rotate_left
 ·
  intro w'
  go_simp
  with_reducible rfl
 rotate_left
 ·
  simp only [Act.put, List.setIfInBounds_toArray, List.set_cons_zero, List.set_cons_succ, i64_w, i32_w]
  rfl
 refine pure_ (i := 4) (N := some 20) (v := ?_) (a' := ?_) #[false, true, true, true, true, false, false, false, false, false, false, false, false, false, false, false, false, false] rfl rfl (any_of HT_.out (by kernel_rfl)) (fun _ _ _ h => h) (Or.inl ⟨by rfl, ?_⟩) ?_ ?_
 rotate_left
 ·
  intro w'
  go_simp
  with_reducible rfl
 rotate_left
 ·
  simp only [Act.put, List.setIfInBounds_toArray, List.set_cons_zero, List.set_cons_succ, i64_w, i32_w]
  rfl
 refine pure_ (i := 5) (N := some 21) (v := ?_) (a' := ?_) #[false, true, true, true, true, true, false, false, false, false, false, false, false, false, false, false, false, false] rfl rfl (any_of HT_.out (by kernel_rfl)) (fun _ _ _ h => h) (Or.inl ⟨by rfl, ?_⟩) ?_ ?_
 rotate_left
 ·
  intro w'
  go_simp
  with_reducible rfl
 rotate_left
 ·
  simp only [Act.put, List.setIfInBounds_toArray, List.set_cons_zero, List.set_cons_succ, i64_w, i32_w]
  rfl
 refine pure_ (i := 7) (N := some 23) (v := ?_) (a' := ?_) #[false, true, true, true, true, true, false, true, false, false, false, false, false, false, false, false, false, false] rfl rfl (any_of HT_.out (by kernel_rfl)) (fun _ _ _ h => h) (Or.inl ⟨by rfl, ?_⟩) ?_ ?_
 rotate_left
 ·
  intro w'
  go_simp
  with_reducible rfl
 rotate_left
 ·
  simp only [Act.put, List.setIfInBounds_toArray, List.set_cons_zero, List.set_cons_succ, i64_w, i32_w]
  rfl
 refine pure_ (i := 11) (N := some 27) (v := ?_) (a' := ?_) #[false, true, true, true, true, true, false, true, false, false, false, true, false, false, false, false, false, false] rfl rfl (any_of HT_.out (by kernel_rfl)) (fun _ _ _ h => h) (Or.inl ⟨by rfl, ?_⟩) ?_ ?_
 rotate_left
 ·
  intro w'
  go_simp
  with_reducible rfl
 rotate_left
 ·
  simp only [Act.put, List.setIfInBounds_toArray, List.set_cons_zero, List.set_cons_succ, i64_w, i32_w]
  rfl
 refine take_ (i := 0) (N := some 16) (v := ?_) (a' := ?_) #[true, true, true, true, true, true, false, true, false, false, false, true, false, false, false, false, false, false] rfl rfl (take_ofW HT_.out HW_.out (by kernel_rfl)) (fun _ _ _ h => h) (Or.inl ⟨by rfl, ?_⟩) hHeld ?_ ?_
 rotate_left
 ·
  rintro w' ⟨s0, s1⟩
  go_simp
  with_reducible rfl
 rotate_left
 ·
  simp only [Act.put, List.setIfInBounds_toArray, List.set_cons_zero, List.set_cons_succ, i64_w, i32_w]
  rfl
 refine one_ (i := 6) (N := some 22) #[true, true, true, true, true, true, true, true, false, false, false, true, false, false, false, false, false, false] rfl rfl (one_of HT_.out (by kernel_rfl)) (by decide) (fun K hK => ?_)
 refine goes_ Tryd.func48 (by kernel_rfl) rfl #[.pointer (some ⟨g331, 0, none⟩), .int .i64 (wrap64 ((t338.length : Int) + 1))] (by rfl) rfl rfl mP ?_
 with_reducible refine (spec_l20Rd_pick.calls k g331 t329 t341 (wrap64 ((t338.length : Int) + 1)) t342 t343 w _ ?side1 ?side2 A5.out).mono ?_
 (case side1 => repeat (first | (with_reducible first | exact HI331.out | apply IsS80.alloc | apply IsS80.drewN | apply IsS80.drew | apply IsS80.set_1 | refine IsS80.far ?_ NB331_328.out _ | refine IsS80.far ?_ NB331_337.out _) | exact HI331.out))
 (case side2 => repeat (first | (with_reducible first | exact HB.out | apply below_alloc | apply pw_below_drewN | apply below_drew1 | refine below_set ?_ (IsS80.ge HI331.out) | refine below_set ?_ GE328.out | refine below_set ?_ GE337.out) | exact HB.out))
 rintro e w19 ⟨rfl, hi, hb, hk⟩
 refine ⟨_, rfl, ?_⟩
 have n0_ := Aside0.mk (KeepBut.blk hk (g' := gb328) (o := .cells #[.int .i64 0, .slice none 0 0] 39 (0, 0)) (gB (BK328.out)) NB328_331.out (by simp))
 have n1_ := Aside0.mk (Kd.R_mono (Kd.R_keep (IsS80.apart (show IsS80 w _ g331 t329 t341 from by repeat (first | (with_reducible first | exact HI331.out | apply IsS80.alloc | apply IsS80.drewN | apply IsS80.drew | apply IsS80.set_1 | refine IsS80.far ?_ NB331_328.out _ | refine IsS80.far ?_ NB331_337.out _) | exact HI331.out)) (gR (HO335.out)) (by decide)) hk (fun _ h => h.2)) (fun _ h => h.1))
 have n2_ := Aside0.mk (KeepBut.blk hk (g' := gb337) (o := .cells #[.int .i64 t332, .slice Ao15 t333.length co15] 39 (0, 0)) (gB (BK337.out)) NB337_331.out (by simp))
 have n3_ := Aside0.mk (Kd.R_mono (Kd.R_keep (IsS80.apart (show IsS80 w _ g331 t329 t341 from by repeat (first | (with_reducible first | exact HI331.out | apply IsS80.alloc | apply IsS80.drewN | apply IsS80.drew | apply IsS80.set_1 | refine IsS80.far ?_ NB331_328.out _ | refine IsS80.far ?_ NB331_337.out _) | exact HI331.out)) (gR (HO340.out)) (by decide)) hk (fun _ h => h.2)) (fun _ h => h.1))
 have n4_ := Aside0.mk (hb)
 have n5_ := Aside0.mk (hi)
 clear BK328
 clear HO335
 clear BK337
 clear HO340
 clear HB
 clear HI331
 have BK328 := n0_
 have HO335 := n1_
 have BK337 := n2_
 have HO340 := n3_
 have HB := n4_
 have HI331 := n5_
 clear n0_ n1_ n2_ n3_ n4_ n5_
 (try clear hb)
 (try clear hb2)
 (try clear hk)
 (try clear hi)
 refine hK.out _ _ ⟨(blk_cell BK337.out 0).trans rfl, (blk_cell BK337.out 1).trans rfl⟩ (fun hHeld => ?_)
 clear hK K
 refine norm_ (a' := ?_) ?_ ?_
 rotate_left
 ·
  show Act.put _ (some 22) _ = _
  simp only [Act.put, List.setIfInBounds_toArray, List.set_cons_zero, List.set_cons_succ, i64_w, i32_w]
  rfl
 refine one_ (i := 8) (N := some 24) #[true, true, true, true, true, true, true, true, true, false, false, true, false, false, false, false, false, false] rfl rfl (one_of HT_.out (by kernel_rfl)) (by decide) (fun K hK => ?_)
 refine goes_ Tryd.func48 (by kernel_rfl) rfl #[.pointer (some ⟨g331, 0, none⟩), .int .i64 9] (by rfl) rfl rfl mP ?_
 with_reducible refine (spec_l20Rd_pick.calls k g331 t329 t343 9 t344 t345 w _ ?side1 ?side2 A6.out).mono ?_
 (case side1 => repeat (first | (with_reducible first | exact HI331.out | apply IsS80.alloc | apply IsS80.drewN | apply IsS80.drew | apply IsS80.set_1 | refine IsS80.far ?_ NB331_328.out _ | refine IsS80.far ?_ NB331_337.out _) | exact HI331.out))
 (case side2 => repeat (first | (with_reducible first | exact HB.out | apply below_alloc | apply pw_below_drewN | apply below_drew1 | refine below_set ?_ (IsS80.ge HI331.out) | refine below_set ?_ GE328.out | refine below_set ?_ GE337.out) | exact HB.out))
 rintro e w20 ⟨rfl, hi, hb, hk⟩
 refine ⟨_, rfl, ?_⟩
 have n0_ := Aside0.mk (KeepBut.blk hk (g' := gb328) (o := .cells #[.int .i64 0, .slice none 0 0] 39 (0, 0)) (gB (BK328.out)) NB328_331.out (by simp))
 have n1_ := Aside0.mk (Kd.R_mono (Kd.R_keep (IsS80.apart (show IsS80 w _ g331 t329 t343 from by repeat (first | (with_reducible first | exact HI331.out | apply IsS80.alloc | apply IsS80.drewN | apply IsS80.drew | apply IsS80.set_1 | refine IsS80.far ?_ NB331_328.out _ | refine IsS80.far ?_ NB331_337.out _) | exact HI331.out)) (gR (HO335.out)) (by decide)) hk (fun _ h => h.2)) (fun _ h => h.1))
 have n2_ := Aside0.mk (KeepBut.blk hk (g' := gb337) (o := .cells #[.int .i64 t332, .slice Ao15 t333.length co15] 39 (0, 0)) (gB (BK337.out)) NB337_331.out (by simp))
 have n3_ := Aside0.mk (Kd.R_mono (Kd.R_keep (IsS80.apart (show IsS80 w _ g331 t329 t343 from by repeat (first | (with_reducible first | exact HI331.out | apply IsS80.alloc | apply IsS80.drewN | apply IsS80.drew | apply IsS80.set_1 | refine IsS80.far ?_ NB331_328.out _ | refine IsS80.far ?_ NB331_337.out _) | exact HI331.out)) (gR (HO340.out)) (by decide)) hk (fun _ h => h.2)) (fun _ h => h.1))
 have n4_ := Aside0.mk (hb)
 have n5_ := Aside0.mk (hi)
 clear BK328
 clear HO335
 clear BK337
 clear HO340
 clear HB
 clear HI331
 have BK328 := n0_
 have HO335 := n1_
 have BK337 := n2_
 have HO340 := n3_
 have HB := n4_
 have HI331 := n5_
 clear n0_ n1_ n2_ n3_ n4_ n5_
 (try clear hb)
 (try clear hb2)
 (try clear hk)
 (try clear hi)
 refine hK.out _ _ ⟨(blk_cell BK337.out 0).trans rfl, (blk_cell BK337.out 1).trans rfl⟩ (fun hHeld => ?_)
 clear hK K
 refine norm_ (a' := ?_) ?_ ?_
 rotate_left
 ·
  show Act.put _ (some 24) _ = _
  simp only [Act.put, List.setIfInBounds_toArray, List.set_cons_zero, List.set_cons_succ, i64_w, i32_w]
  rfl
 refine pure_ (i := 9) (N := some 25) (v := ?_) (a' := ?_) #[true, true, true, true, true, true, true, true, true, true, false, true, false, false, false, false, false, false] rfl rfl (any_of HT_.out (by kernel_rfl)) (fun _ _ _ h => h) (Or.inl ⟨by rfl, ?_⟩) ?_ ?_
 rotate_left
 ·
  intro w'
  go_simp
  with_reducible rfl
 rotate_left
 ·
  simp only [Act.put, List.setIfInBounds_toArray, List.set_cons_zero, List.set_cons_succ, i64_w, i32_w]
  rfl
 refine pure_ (i := 10) (N := some 26) (v := ?_) (a' := ?_) #[true, true, true, true, true, true, true, true, true, true, true, true, false, false, false, false, false, false] rfl rfl (any_of HT_.out (by kernel_rfl)) (fun _ _ _ h => h) (Or.inl ⟨by rfl, ?_⟩) ?_ ?_
 rotate_left
 ·
  intro w'
  go_simp
  with_reducible rfl
 rotate_left
 ·
  simp only [Act.put, List.setIfInBounds_toArray, List.set_cons_zero, List.set_cons_succ, i64_w, i32_w]
  rfl
 refine one_ (i := 12) (N := some 28) #[true, true, true, true, true, true, true, true, true, true, true, true, true, false, false, false, false, false] rfl rfl (one_of HT_.out (by kernel_rfl)) (by decide) (fun K hK => ?_)
 refine goes_ Tryd.func48 (by kernel_rfl) rfl #[.pointer (some ⟨g331, 0, none⟩), .int .i64 2] (by rfl) rfl rfl mP ?_
 with_reducible refine (spec_l20Rd_pick.calls k g331 t329 t345 2 t346 t347 w _ ?side1 ?side2 A7.out).mono ?_
 (case side1 => repeat (first | (with_reducible first | exact HI331.out | apply IsS80.alloc | apply IsS80.drewN | apply IsS80.drew | apply IsS80.set_1 | refine IsS80.far ?_ NB331_328.out _ | refine IsS80.far ?_ NB331_337.out _) | exact HI331.out))
 (case side2 => repeat (first | (with_reducible first | exact HB.out | apply below_alloc | apply pw_below_drewN | apply below_drew1 | refine below_set ?_ (IsS80.ge HI331.out) | refine below_set ?_ GE328.out | refine below_set ?_ GE337.out) | exact HB.out))
 rintro e w21 ⟨rfl, hi, hb, hk⟩
 refine ⟨_, rfl, ?_⟩
 have n0_ := Aside0.mk (KeepBut.blk hk (g' := gb328) (o := .cells #[.int .i64 0, .slice none 0 0] 39 (0, 0)) (gB (BK328.out)) NB328_331.out (by simp))
 have n1_ := Aside0.mk (Kd.R_mono (Kd.R_keep (IsS80.apart (show IsS80 w _ g331 t329 t345 from by repeat (first | (with_reducible first | exact HI331.out | apply IsS80.alloc | apply IsS80.drewN | apply IsS80.drew | apply IsS80.set_1 | refine IsS80.far ?_ NB331_328.out _ | refine IsS80.far ?_ NB331_337.out _) | exact HI331.out)) (gR (HO335.out)) (by decide)) hk (fun _ h => h.2)) (fun _ h => h.1))
 have n2_ := Aside0.mk (KeepBut.blk hk (g' := gb337) (o := .cells #[.int .i64 t332, .slice Ao15 t333.length co15] 39 (0, 0)) (gB (BK337.out)) NB337_331.out (by simp))
 have n3_ := Aside0.mk (Kd.R_mono (Kd.R_keep (IsS80.apart (show IsS80 w _ g331 t329 t345 from by repeat (first | (with_reducible first | exact HI331.out | apply IsS80.alloc | apply IsS80.drewN | apply IsS80.drew | apply IsS80.set_1 | refine IsS80.far ?_ NB331_328.out _ | refine IsS80.far ?_ NB331_337.out _) | exact HI331.out)) (gR (HO340.out)) (by decide)) hk (fun _ h => h.2)) (fun _ h => h.1))
 have n4_ := Aside0.mk (hb)
 have n5_ := Aside0.mk (hi)
 clear BK328
 clear HO335
 clear BK337
 clear HO340
 clear HB
 clear HI331
 have BK328 := n0_
 have HO335 := n1_
 have BK337 := n2_
 have HO340 := n3_
 have HB := n4_
 have HI331 := n5_
 clear n0_ n1_ n2_ n3_ n4_ n5_
 (try clear hb)
 (try clear hb2)
 (try clear hk)
 (try clear hi)
 refine hK.out _ _ ⟨(blk_cell BK337.out 0).trans rfl, (blk_cell BK337.out 1).trans rfl⟩ (fun hHeld => ?_)
 clear hK K
 refine norm_ (a' := ?_) ?_ ?_
 rotate_left
 ·
  show Act.put _ (some 28) _ = _
  simp only [Act.put, List.setIfInBounds_toArray, List.set_cons_zero, List.set_cons_succ, i64_w, i32_w]
  rfl
 refine pure_ (i := 13) (N := some 29) (v := ?_) (a' := ?_) #[true, true, true, true, true, true, true, true, true, true, true, true, true, true, false, false, false, false] rfl rfl (any_of HT_.out (by kernel_rfl)) (fun _ _ _ h => h) (Or.inl ⟨by rfl, ?_⟩) ?_ ?_
 rotate_left
 ·
  intro w'
  go_simp
  with_reducible rfl
 rotate_left
 ·
  simp only [Act.put, List.setIfInBounds_toArray, List.set_cons_zero, List.set_cons_succ, i64_w, i32_w]
  rfl
 refine one_ (i := 14) (N := none) #[true, true, true, true, true, true, true, true, true, true, true, true, true, true, true, false, false, false] rfl rfl (one_of HT_.out (by kernel_rfl)) (by decide) (fun K hK => ?_)
 have hs22 : w21.cell? ⟨gb328, 0, none⟩ = some (.int .i64 0) := (blk_cell BK328.out 0).trans rfl
 have hfs22 := blk_frozen BK328.out 0
 have hns22_1 := NB337_328.out
 have hms22_1 := NB328_337.out
 have hs23 : w21.cell? ⟨gb328, 1, none⟩ = some (.slice none 0 0) := (blk_cell BK328.out 1).trans rfl
 have hfs23 := blk_frozen BK328.out 1
 have hns23_1 := NB337_328.out
 have hms23_1 := NB328_337.out
 refine skip_ (w1 := ?_) (by rfl) rfl ?_ ?_
 rotate_left
 ·
  go_simp
  rfl
 refine hK.out _ _ ⟨((cell_far (p := ⟨gb328, _, none⟩) NB337_328.out _).trans (((cell_far (p := ⟨gb328, _, none⟩) NB337_328.out _).trans (hHeld.1)))), ((cell_far (p := ⟨gb328, _, none⟩) NB337_328.out _).trans (((cell_far (p := ⟨gb328, _, none⟩) NB337_328.out _).trans (hHeld.2))))⟩ (fun hHeld => ?_)
 clear hK K
 refine pure_ (i := 15) (N := some 3) (v := ?_) (a' := ?_) #[true, true, true, true, true, true, true, true, true, true, true, true, true, true, true, true, false, false] rfl rfl (any_of HT_.out (by kernel_rfl)) (fun _ _ _ h => h) (Or.inl ⟨by rfl, ?_⟩) ?_ ?_
 rotate_left
 ·
  intro w'
  go_simp
  with_reducible rfl
 rotate_left
 ·
  simp only [Act.put, List.setIfInBounds_toArray, List.set_cons_zero, List.set_cons_succ, i64_w, i32_w]
  rfl
 refine pure_ (i := 16) (N := some 4) (v := ?_) (a' := ?_) #[true, true, true, true, true, true, true, true, true, true, true, true, true, true, true, true, true, false] rfl rfl (any_of HT_.out (by kernel_rfl)) (fun _ _ _ h => h) (Or.inl ⟨by rfl, ?_⟩) ?_ ?_
 rotate_left
 ·
  intro w'
  go_simp
  with_reducible rfl
 rotate_left
 ·
  simp only [Act.put, List.setIfInBounds_toArray, List.set_cons_zero, List.set_cons_succ, i64_w, i32_w]
  rfl
 refine pure_ (i := 17) (N := some 5) (v := ?_) (a' := ?_) #[true, true, true, true, true, true, true, true, true, true, true, true, true, true, true, true, true, true] rfl rfl (any_of HT_.out (by kernel_rfl)) (fun _ _ _ h => h) (Or.inl ⟨by rfl, ?_⟩) ?_ ?_
 rotate_left
 ·
  intro w'
  go_simp
  with_reducible rfl
 rotate_left
 ·
  simp only [Act.put, List.setIfInBounds_toArray, List.set_cons_zero, List.set_cons_succ, i64_w, i32_w]
  rfl
 refine done_ (done_of HT_.out (by kernel_rfl)) ?_
 try go_wp2
 refine bodyPost_ret (results_list (rs := [.cell 2 39, .tmp 3, .tmp 4, .tmp 5]) rfl (by simp) (.cell gb328 39 #[.int .i64 t332, .slice Ao15 t333.length co15] (0, 0) _ rfl (by (with_reducible repeat (first | refine blk_drewN ?_ _ | refine blk_drew ?_ | refine blk_alloc ?_ _)); refine blk_put (cs := #[.int .i64 t332, .slice none 0 0]) ?_ 1 _ rfl; (with_reducible repeat (first | refine blk_drewN ?_ _ | refine blk_drew ?_ | refine blk_alloc ?_ _)); refine blk_put (cs := #[.int .i64 0, .slice none 0 0]) ?_ 0 _ rfl; (with_reducible repeat (first | refine blk_drewN ?_ _ | refine blk_drew ?_ | refine blk_alloc ?_ _)); exact BK328.out) Tryd.underlying39 rfl (by kernel_rfl) (.tmp (.tmp (.tmp .nil))))) rfl ?_
 exact ⟨_, _, fR, by (with_reducible repeat (first | apply Kd.R_alloc | apply Kd.R_drewN | apply Kd.R_drew)); exact Kd.R_mono (Kd.R_far (p := ⟨gb328, 1, none⟩) (Kd.R_far (p := ⟨gb328, 0, none⟩) (Kd.R_types HO335.out BK328.out (by decide)) (fun _ hk => hk.2) (.int .i64 t332)) (fun _ hk => hk.2) (.slice Ao15 t333.length co15)) (fun _ hk => trivial), by (with_reducible repeat (first | apply Kd.R_alloc | apply Kd.R_drewN | apply Kd.R_drew)); exact Kd.R_mono (Kd.R_far (p := ⟨gb328, 1, none⟩) (Kd.R_far (p := ⟨gb328, 0, none⟩) (Kd.R_types HO340.out BK328.out (by decide)) (fun _ hk => hk.2) (.int .i64 t332)) (fun _ hk => hk.2) (.slice Ao15 t333.length co15)) (fun _ hk => trivial), by repeat (first | (with_reducible first | exact HB.out | apply below_alloc | apply pw_below_drewN | apply below_drew1 | refine below_set ?_ (IsS80.ge HI331.out) | refine below_set ?_ GE328.out | refine below_set ?_ GE337.out) | exact HB.out)⟩

end Go.Proofs.YthkdkjmnnpcdhaaDoor.P
namespace Go.Proofs.YthkdkjmnnpcdhaaDoor.P
open Go.RowKit Go.Proofs.YthkdkjmnnpcdhaaDoorW.PrintWords Go.Proofs.YthkdkjmnnpcdhaaDoorW.PrintLast Go.Proofs.YthkdkjmnnpcdhaaDoorW.PrintMore
attribute [local go_sem] max2_int min2_int max_two min_two max_three min_three max_four min_four   -- for this text's walks alone
set_option linter.unusedVariables false
set_option linter.unusedSimpArgs false

/-! ### impl_StateValid: function 54 -/
def impl_StateValid.f (k : Nat) (a0_0 : Int) (l0_1 : List (S52)) (l1 : List Bool) : Option (Bool) := (impl_NetValid.f k a0_0 l0_1).bind fun t349 => (if t349 = true then (some ((l1.length : Int) == (l0_1.length : Int))) else (some false))
theorem impl_StateValid.mono : ∀ a0 a1 a2 k, LeO (impl_StateValid.f k a0 a1 a2) (impl_StateValid.f (k + 1) a0 a1 a2) := by
 intro a0 a1 a2 k
 unfold impl_StateValid.f
 repeat' first
   | (with_reducible exact impl_NetValid.mono _ _ _)
   | (with_reducible exact LeO.refl _)
   | (with_reducible exact LeO.none _)
   | (with_reducible refine LeO.ite ?_ ?_)
   | (with_reducible refine LeO.bind ?_ (fun _ => ?_))
   | exact impl_NetValid.mono _ _ _
   | exact LeO.none _
   | refine LeO.ite ?_ ?_
   | refine LeO.bind ?_ (fun _ => ?_)
set_option maxHeartbeats 8000000 in
set_option maxRecDepth 100000 in
theorem impl_StateValid.calls (k : Nat) (a0_0 : Int) (A0_1 : Option Addr) (c0_1 : Nat) (l0_1 : List (S52)) (A1 : Option Addr) (c1 : Nat) (l1 : List Bool) (r : Bool) (w : World) (hr0_1 : Kd.C k52 w A0_1 l0_1.length l0_1) (hc0_1 : l0_1.length ≤ c0_1) (hr1 : Kd.C Kd.bool w A1 l1.length l1) (hc1 : l1.length ≤ c1) (h : impl_StateValid.f k a0_0 l0_1 l1 = some r) :
  Calls Tryd.prog 54 #[.agg #[.int .i64 a0_0, .slice A0_1 l0_1.length c0_1], .slice A1 l1.length c1] w fun e w' => e = .returned (.bool r) ∧ Below w.heap.size w w' := by
 have hu39 := Tryd.underlying39
 have HR0_1 := Aside0.mk hr0_1
 have HC0_1 := Aside0.mk hc0_1
 clear hr0_1 hc0_1
 have HR1 := Aside0.mk hr1
 have HC1 := Aside0.mk hc1
 clear hr1 hc1
 have HB := Aside0.mk (Below.refl w.heap.size w)
 have H : ((impl_NetValid.f k a0_0 l0_1).bind fun t349 => (if t349 = true then (some ((l1.length : Int) == (l0_1.length : Int))) else (some false))) = some r := h
 clear h
 replace H := Option.bind_eq_some_iff.mp H
 obtain ⟨t349, A30, H⟩ := H
 replace H : (if t349 = true then (some ((l1.length : Int) == (l0_1.length : Int))) else (some false)) = some r := H
 have A3 := Aside0.mk A30
 clear A30
 by_cases c4 : t349 = true
 rotate_left
 ·
  replace c4 := Bool.eq_false_iff.mpr c4
  subst c4
  have H1 : (some false) = some r := by rw [if_neg (show ¬ (false = true) by decide)] at H; exact H
  clear H
  have H := H1
  clear H1
  obtain rfl := Option.some.inj H
  go_enter Tryd.func54, Tryd.ntmps54
  go_wp2_with (first | ((with_reducible refine gate_dst (N := 2) rfl ?_); refine box_event ?hg (N := 2) ?hd (cs := #[.int .i64 a0_0, .slice A0_1 l0_1.length c0_1]) (t := 39) ?hr ?_; (case hd => rfl); (case hg => rfl); (case hr => exact hR); intro gb348 hg w9 hbox hb; have n0_ := Aside0.mk (below_step (bl0 HB) hb); have n1_ := Aside0.mk (hbox); have n2_ := Aside0.mk ((by rw [hg]; exact (below_size (bl0 HB)) : w.heap.size ≤ gb348)); have n3_ := Aside0.mk ((by rw [hg]; exact (below_size (bl0 HB)) : w.heap.size ≤ gb348)); clear HB; have HB := n0_; have BK348 := n1_; have GW348 := n2_; have GE348 := n3_; clear n0_ n1_ n2_ n3_; clear hb hbox hg; have hcz10_0 : w9.cell? ⟨gb348, 0, none⟩ = some (.int .i64 a0_0) := (blk_cell BK348.out 0).trans rfl; have hcz10_1 : w9.cell? ⟨gb348, 1, none⟩ = some (.slice A0_1 l0_1.length c0_1) := (blk_cell BK348.out 1).trans rfl; have hfz10_0 := blk_frozen BK348.out 0; have hfz10_1 := blk_frozen BK348.out 1) | ((with_reducible refine gate_callee (f := 68) rfl ?_); refine goesL_ (some 6) rfl rfl Tryd.func68 (by kernel_rfl) rfl #[.agg #[.int .i64 a0_0, .slice A0_1 l0_1.length c0_1]] rfl mP ?_; (with_reducible refine (impl_NetValid.calls k a0_0 _ _ l0_1 false _ ?side1 ?side2 A3.out).mono ?_); (case side1 => exact gC ((Kd.C_below HR0_1.out HB.out))); (case side2 => exact HC0_1.out); rintro e w11 ⟨rfl, hb⟩; refine ⟨_, rfl, ?_⟩; have n0_ := Aside0.mk (blk_below (g := gb348) (o := .cells #[.int .i64 a0_0, .slice A0_1 l0_1.length c0_1] 39 (0, 0)) (gB (BK348.out)) hb); have n1_ := Aside0.mk (below_step (bl1 HB GE348) hb); clear BK348; clear HB; have BK348 := n0_; have HB := n1_; clear n0_ n1_; (try clear hb); (try clear hb2); (try clear hk); (try clear hi)))
  go_ret
  exact ⟨fR, bl1 HB GE348⟩
 subst c4
 have H1 : (some ((l1.length : Int) == (l0_1.length : Int))) = some r := by rw [if_pos rfl] at H; exact H
 clear H
 have H := H1
 clear H1
 obtain rfl := Option.some.inj H
 go_enter Tryd.func54, Tryd.ntmps54
 go_wp2_with (first | ((with_reducible refine gate_dst (N := 2) rfl ?_); refine box_event ?hg (N := 2) ?hd (cs := #[.int .i64 a0_0, .slice A0_1 l0_1.length c0_1]) (t := 39) ?hr ?_; (case hd => rfl); (case hg => rfl); (case hr => exact hR); intro gb348 hg w5 hbox hb; have n0_ := Aside0.mk (below_step (bl0 HB) hb); have n1_ := Aside0.mk (hbox); have n2_ := Aside0.mk ((by rw [hg]; exact (below_size (bl0 HB)) : w.heap.size ≤ gb348)); have n3_ := Aside0.mk ((by rw [hg]; exact (below_size (bl0 HB)) : w.heap.size ≤ gb348)); clear HB; have HB := n0_; have BK348 := n1_; have GW348 := n2_; have GE348 := n3_; clear n0_ n1_ n2_ n3_; clear hb hbox hg; have hcz6_0 : w5.cell? ⟨gb348, 0, none⟩ = some (.int .i64 a0_0) := (blk_cell BK348.out 0).trans rfl; have hcz6_1 : w5.cell? ⟨gb348, 1, none⟩ = some (.slice A0_1 l0_1.length c0_1) := (blk_cell BK348.out 1).trans rfl; have hfz6_0 := blk_frozen BK348.out 0; have hfz6_1 := blk_frozen BK348.out 1) | ((with_reducible refine gate_callee (f := 68) rfl ?_); refine goesL_ (some 6) rfl rfl Tryd.func68 (by kernel_rfl) rfl #[.agg #[.int .i64 a0_0, .slice A0_1 l0_1.length c0_1]] rfl mP ?_; (with_reducible refine (impl_NetValid.calls k a0_0 _ _ l0_1 true _ ?side1 ?side2 A3.out).mono ?_); (case side1 => exact gC ((Kd.C_below HR0_1.out HB.out))); (case side2 => exact HC0_1.out); rintro e w7 ⟨rfl, hb⟩; refine ⟨_, rfl, ?_⟩; have n0_ := Aside0.mk (blk_below (g := gb348) (o := .cells #[.int .i64 a0_0, .slice A0_1 l0_1.length c0_1] 39 (0, 0)) (gB (BK348.out)) hb); have n1_ := Aside0.mk (below_step (bl1 HB GE348) hb); clear BK348; clear HB; have BK348 := n0_; have HB := n1_; clear n0_ n1_; (try clear hb); (try clear hb2); (try clear hk); (try clear hi); have hcz8_0 : w7.cell? ⟨gb348, 0, none⟩ = some (.int .i64 a0_0) := (blk_cell BK348.out 0).trans rfl; have hcz8_1 : w7.cell? ⟨gb348, 1, none⟩ = some (.slice A0_1 l0_1.length c0_1) := (blk_cell BK348.out 1).trans rfl; have hfz8_0 := blk_frozen BK348.out 0; have hfz8_1 := blk_frozen BK348.out 1))
 go_ret
 exact ⟨fR, bl1 HB GE348⟩

end Go.Proofs.YthkdkjmnnpcdhaaDoor.P

/- Contracts of Go functions of this seat's translation, written by this repo's wip/mk.py: it calls the kit's print.py with contracts typed by hand in place of functions that it does not take. Not trusted: Lean checks it. -/
import Derived.Test.YthkdkjmnnpcdhaaDoorP0
import Derived.Test.YthkdkjmnnpcdhaaDoorP3
import Derived.Test.YthkdkjmnnpcdhaaDoorP34
namespace Go.Proofs.YthkdkjmnnpcdhaaDoor.P
open Go.RowKit Go.Proofs.YthkdkjmnnpcdhaaDoorW.PrintWords Go.Proofs.YthkdkjmnnpcdhaaDoorW.PrintLast Go.Proofs.YthkdkjmnnpcdhaaDoorW.PrintMore
attribute [local go_sem] max2_int min2_int max_two min_two max_three min_three max_four min_four   -- for this text's walks alone
set_option linter.unusedVariables false
set_option linter.unusedSimpArgs false

/-! ### spec_DrawSameIsland: function 24 -/
def spec_DrawSameIsland.f (k : Nat) (l0 : List Int) : Option (Int × (List (S52)) × List Bool × Int × Int) := (spec_l20Open.f l0).bind fun bt420 => ((spec_l20Switched.f k bt420.1 bt420.2 6).bind fun bt423 => ((spec_l20Rd_pick.f k bt420.1 bt423.2.2.2 (wrap64 (bt423.1 + 1))).bind fun bt432 => ((spec_l20Rd_pick.f k bt420.1 bt432.2 9).bind fun bt434 => ((spec_l20Rd_pick.f k bt420.1 bt434.2 (wrap64 (bt423.1 + 1))).bind fun bt436 => (some (bt423.1, bt423.2.1, bt423.2.2.1, wrap64 (bt432.1 - (wrap64 (Int.tdiv bt434.1 8))), bt436.1))))))
theorem spec_DrawSameIsland.mono : ∀ a0 k, LeO (spec_DrawSameIsland.f k a0) (spec_DrawSameIsland.f (k + 1) a0) := by
 intro a0 k
 unfold spec_DrawSameIsland.f
 repeat' first
   | (with_reducible exact spec_l20Rd_pick.mono _ _ _ _)
   | (with_reducible exact spec_l20Switched.mono _ _ _ _)
   | (with_reducible exact LeO.refl _)
   | (with_reducible exact LeO.none _)
   | (with_reducible refine LeO.ite ?_ ?_)
   | (with_reducible refine LeO.bind ?_ (fun _ => ?_))
   | exact spec_l20Rd_pick.mono _ _ _ _
   | exact spec_l20Switched.mono _ _ _ _
   | exact LeO.none _
   | refine LeO.ite ?_ ?_
   | refine LeO.bind ?_ (fun _ => ?_)
def spec_DrawSameIsland.T3 : Bool × List (List Nat × List Nat) := (true, [([], []), ([], []), ([], []), ([], []), ([3], [3]), ([4], [4]), ([2, 5], [2, 5]), ([], []), ([7, 6], [7]), ([8], [8]), ([6, 9], [6, 9]), ([], []), ([], []), ([12], [12]), ([13], [13]), ([11, 14, 8], [11, 14]), ([0, 15, 0], [0]), ([1, 16, 0, 1, 16], [1]), ([10, 17, 0, 1, 2, 3, 4, 5, 6, 7, 8, 9, 10, 16, 17], [10]), ([15, 18, 0, 1, 2, 3, 4, 5, 6, 7, 8, 9, 10, 11, 12, 13, 14, 15, 16, 17, 18], [15])])
def spec_DrawSameIsland.B3 : List Nat := [0, 0, 0, 0, 8, 24, 60, 0, 252, 508, 1020, 0, 0, 4096, 12288, 31228, 63997, 129535, 262143, 524287]
theorem spec_DrawSameIsland.tab3 : rtab .any (opsOf Tryd.f24 3) = spec_DrawSameIsland.T3 := by kernel_rfl
theorem spec_DrawSameIsland.bits3 : waitsOk spec_DrawSameIsland.T3.2 spec_DrawSameIsland.B3 = true := by kernel_rfl
set_option maxHeartbeats 8000000 in
set_option maxRecDepth 100000 in
theorem spec_DrawSameIsland.calls (k : Nat) (A0 : Option Addr) (c0 : Nat) (l0 : List Int) (r1 : Int) (r2 : List (S52)) (r3 : List Bool) (r4 : Int) (r5 : Int) (w : World) (hr0 : Kd.C (Kd.int .u8) w A0 l0.length l0) (hc0 : l0.length ≤ c0) (h : spec_DrawSameIsland.f k l0 = some (r1, r2, r3, r4, r5)) :
  Calls Tryd.prog 24 #[.slice A0 l0.length c0] w fun e w' => ∃ v1_ v2_ : Value, e = .returned (.tuple #[.agg #[.int .i64 r1, v1_], v2_, .int .i64 r4, .int .i64 r5]) ∧ Kd.R k52 52 w' w.heap.size (fun _ => True) v1_ r2 ∧ Kd.R Kd.bool 4 w' w.heap.size (fun _ => True) v2_ r3 ∧ Below w.heap.size w w' := by
 have hu39 := Tryd.underlying39
 have HR0 := Aside0.mk hr0
 have HC0 := Aside0.mk hc0
 clear hr0 hc0
 have HB := Aside0.mk (Below.refl w.heap.size w)
 have H : ((spec_l20Open.f l0).bind fun bt420 => ((spec_l20Switched.f k bt420.1 bt420.2 6).bind fun bt423 => ((spec_l20Rd_pick.f k bt420.1 bt423.2.2.2 (wrap64 (bt423.1 + 1))).bind fun bt432 => ((spec_l20Rd_pick.f k bt420.1 bt432.2 9).bind fun bt434 => ((spec_l20Rd_pick.f k bt420.1 bt434.2 (wrap64 (bt423.1 + 1))).bind fun bt436 => (some (bt423.1, bt423.2.1, bt423.2.2.1, wrap64 (bt432.1 - (wrap64 (Int.tdiv bt434.1 8))), bt436.1))))))) = some (r1, r2, r3, r4, r5) := h
 clear h
 replace H := Option.bind_eq_some_iff.mp H
 obtain ⟨⟨t420, t421⟩, A20, H⟩ := H
 replace H : ((spec_l20Switched.f k t420 t421 6).bind fun bt423 => ((spec_l20Rd_pick.f k t420 bt423.2.2.2 (wrap64 (bt423.1 + 1))).bind fun bt432 => ((spec_l20Rd_pick.f k t420 bt432.2 9).bind fun bt434 => ((spec_l20Rd_pick.f k t420 bt434.2 (wrap64 (bt423.1 + 1))).bind fun bt436 => (some (bt423.1, bt423.2.1, bt423.2.2.1, wrap64 (bt432.1 - (wrap64 (Int.tdiv bt434.1 8))), bt436.1)))))) = some (r1, r2, r3, r4, r5) := H
 have A2 := Aside0.mk A20
 clear A20
 replace H := Option.bind_eq_some_iff.mp H
 obtain ⟨⟨t423, t424, t427, t430⟩, A30, H⟩ := H
 replace H : ((spec_l20Rd_pick.f k t420 t430 (wrap64 (t423 + 1))).bind fun bt432 => ((spec_l20Rd_pick.f k t420 bt432.2 9).bind fun bt434 => ((spec_l20Rd_pick.f k t420 bt434.2 (wrap64 (t423 + 1))).bind fun bt436 => (some (t423, t424, t427, wrap64 (bt432.1 - (wrap64 (Int.tdiv bt434.1 8))), bt436.1))))) = some (r1, r2, r3, r4, r5) := H
 have A3 := Aside0.mk A30
 clear A30
 replace H := Option.bind_eq_some_iff.mp H
 obtain ⟨⟨t432, t433⟩, A40, H⟩ := H
 replace H : ((spec_l20Rd_pick.f k t420 t433 9).bind fun bt434 => ((spec_l20Rd_pick.f k t420 bt434.2 (wrap64 (t423 + 1))).bind fun bt436 => (some (t423, t424, t427, wrap64 (t432 - (wrap64 (Int.tdiv bt434.1 8))), bt436.1)))) = some (r1, r2, r3, r4, r5) := H
 have A4 := Aside0.mk A40
 clear A40
 replace H := Option.bind_eq_some_iff.mp H
 obtain ⟨⟨t434, t435⟩, A50, H⟩ := H
 replace H : ((spec_l20Rd_pick.f k t420 t435 (wrap64 (t423 + 1))).bind fun bt436 => (some (t423, t424, t427, wrap64 (t432 - (wrap64 (Int.tdiv t434 8))), bt436.1))) = some (r1, r2, r3, r4, r5) := H
 have A5 := Aside0.mk A50
 clear A50
 replace H := Option.bind_eq_some_iff.mp H
 obtain ⟨⟨t436, t437⟩, A60, H⟩ := H
 replace H : (some (t423, t424, t427, wrap64 (t432 - (wrap64 (Int.tdiv t434 8))), t436)) = some (r1, r2, r3, r4, r5) := H
 have A6 := Aside0.mk A60
 clear A60
 simp only [Option.some.injEq, Prod.mk.injEq] at H
 obtain ⟨rfl, rfl, rfl, rfl, rfl⟩ := H
 go_enter Tryd.func24, Tryd.ntmps24
 try go_wp2_with (first | ((with_reducible refine gate_dst (N := 2) rfl ?_); refine box_event ?hg (N := 2) ?hd (cs := #[.int .i64 0, .slice none 0 0]) (t := 39) ?hr ?_; (case hd => rfl); (case hg => rfl); (case hr => first | (go_simp; done) | (go_simp; rfl)); intro gb419 hg w7 hbox hb; have n0_ := Aside0.mk (below_step (by repeat (first | (with_reducible first | exact HB.out | apply below_alloc | apply pw_below_drewN | apply below_drew1) | exact HB.out)) hb); have n1_ := Aside0.mk (hbox); have n2_ := Aside0.mk ((by rw [hg]; exact (below_size (by repeat (first | (with_reducible first | exact HB.out | apply below_alloc | apply pw_below_drewN | apply below_drew1) | exact HB.out))) : w.heap.size ≤ gb419)); have n3_ := Aside0.mk ((by rw [hg]; exact (below_size (by repeat (first | (with_reducible first | exact HB.out | apply below_alloc | apply pw_below_drewN | apply below_drew1) | exact HB.out))) : w.heap.size ≤ gb419)); clear HB; have HB := n0_; have BK419 := n1_; have GW419 := n2_; have GE419 := n3_; clear n0_ n1_ n2_ n3_; clear hb hbox hg) | ((with_reducible refine gate_callee (f := 45) rfl ?_); refine goesL_ (some 10) rfl rfl Tryd.func45 (by kernel_rfl) rfl #[.slice A0 l0.length c0] rfl (by (try simp only [List.map_toArray, List.map_cons, List.map_nil]); first | done | rfl | (simp only [List.length_drop, List.length_take]; rfl)) ?_; (with_reducible refine (spec_l20Open.calls _ _ l0 t420 t421 w _ ?side1 ?side2 ?side3 A2.out).mono ?_); (case side1 => repeat (first | (with_reducible first | exact HB.out | apply below_alloc | apply pw_below_drewN | apply below_drew1 | refine below_set ?_ GE419.out) | exact HB.out)); (case side2 => exact HR0.out); (case side3 => exact HC0.out); rintro e w8 ⟨g422, rfl, hi, hb, hb2⟩; refine ⟨_, rfl, ?_⟩; have n0_ := Aside0.mk (blk_below (g := gb419) (o := .cells #[.int .i64 0, .slice none 0 0] 39 (0, 0)) (by (with_reducible repeat (first | refine blk_drewN ?_ _ | refine blk_drew ?_ | refine blk_alloc ?_ _)); exact BK419.out) hb2); have n1_ := Aside0.mk (hb); have n2_ := Aside0.mk (hi); have n3_ := Aside0.mk (IsS80.ne_blk hi (blk_below (g := gb419) (o := .cells #[.int .i64 0, .slice none 0 0] 39 (0, 0)) (by (with_reducible repeat (first | refine blk_drewN ?_ _ | refine blk_drew ?_ | refine blk_alloc ?_ _)); exact BK419.out) hb2) (by decide)); have n4_ := Aside0.mk (Ne.symm (IsS80.ne_blk hi (blk_below (g := gb419) (o := .cells #[.int .i64 0, .slice none 0 0] 39 (0, 0)) (by (with_reducible repeat (first | refine blk_drewN ?_ _ | refine blk_drew ?_ | refine blk_alloc ?_ _)); exact BK419.out) hb2) (by decide))); clear BK419; clear HB; have BK419 := n0_; have HB := n1_; have HI422 := n2_; have NB422_419 := n3_; have NB419_422 := n4_; clear n0_ n1_ n2_ n3_ n4_; (try clear hb); (try clear hb2); (try clear hk); (try clear hi)) | ((with_reducible refine gate_callee (f := 56) rfl ?_); refine goesL_ (some 13) rfl rfl Tryd.func56 (by kernel_rfl) rfl #[.pointer (some ⟨g422, 0, none⟩), .int .i64 6] rfl (by (try simp only [List.map_toArray, List.map_cons, List.map_nil]); first | done | rfl | (simp only [List.length_drop, List.length_take]; rfl)) ?_; (with_reducible refine (spec_l20Switched.calls k g422 t420 t421 6 t423 t424 t427 t430 w _ ?side1 ?side2 A3.out).mono ?_); (case side1 => repeat (first | (with_reducible first | exact HI422.out | apply IsS80.alloc | apply IsS80.drewN | apply IsS80.drew | apply IsS80.set_1 | refine IsS80.far ?_ NB422_419.out _) | exact HI422.out)); (case side2 => repeat (first | (with_reducible first | exact HB.out | apply below_alloc | apply pw_below_drewN | apply below_drew1 | refine below_set ?_ (IsS80.ge HI422.out) | refine below_set ?_ GE419.out) | exact HB.out)); rintro e w9 ⟨v425, v428, rfl, ho0, ho1, hi, hb, hk⟩; refine ⟨_, rfl, ?_⟩; have n0_ := Aside0.mk (KeepBut.blk hk (g' := gb419) (o := .cells #[.int .i64 0, .slice none 0 0] 39 (0, 0)) (by (with_reducible repeat (first | refine blk_drewN ?_ _ | refine blk_drew ?_ | refine blk_alloc ?_ _)); exact BK419.out) NB419_422.out (by simp)); have n1_ := Aside0.mk (Kd.R_lower ho0 (below_size (by repeat (first | (with_reducible first | exact HB.out | apply below_alloc | apply pw_below_drewN | apply below_drew1 | refine below_set ?_ (IsS80.ge HI422.out) | refine below_set ?_ GE419.out) | exact HB.out)))); have n2_ := Aside0.mk (Kd.R_lower ho1 (below_size (by repeat (first | (with_reducible first | exact HB.out | apply below_alloc | apply pw_below_drewN | apply below_drew1 | refine below_set ?_ (IsS80.ge HI422.out) | refine below_set ?_ GE419.out) | exact HB.out)))); have n3_ := Aside0.mk (hb); have n4_ := Aside0.mk (hi); clear BK419; clear HB; clear HI422; have BK419 := n0_; have HO426 := n1_; have HO429 := n2_; have HB := n3_; have HI422 := n4_; clear n0_ n1_ n2_ n3_ n4_; (try clear hb); (try clear hb2); (try clear hk); (try clear hi); (try clear ho0); (try clear ho1)) | ((with_reducible refine gate_dst (N := 7) rfl ?_); refine box_event ?hg (N := 7) ?hd (cs := #[.int .i64 0, .slice none 0 0]) (t := 39) ?hr ?_; (case hd => rfl); (case hg => rfl); (case hr => first | (go_simp; done) | (go_simp; rfl)); intro gb431 hg w10 hbox hb; have n0_ := Aside0.mk (Kd.R_below (by (with_reducible repeat (first | apply Kd.R_alloc | apply Kd.R_drewN | apply Kd.R_drew)); exact HO426.out) hb); have n1_ := Aside0.mk (Kd.R_below (by (with_reducible repeat (first | apply Kd.R_alloc | apply Kd.R_drewN | apply Kd.R_drew)); exact HO429.out) hb); have n2_ := Aside0.mk (blk_below (g := gb419) (o := .cells #[.int .i64 0, .slice none 0 0] 39 (0, 0)) (by (with_reducible repeat (first | refine blk_drewN ?_ _ | refine blk_drew ?_ | refine blk_alloc ?_ _)); exact BK419.out) hb); have n3_ := Aside0.mk (IsS80.below (by repeat (first | (with_reducible first | exact HI422.out | apply IsS80.alloc | apply IsS80.drewN | apply IsS80.drew | apply IsS80.set_1 | refine IsS80.far ?_ NB422_419.out _) | exact HI422.out)) hb); have n4_ := Aside0.mk (below_step (by repeat (first | (with_reducible first | exact HB.out | apply below_alloc | apply pw_below_drewN | apply below_drew1 | refine below_set ?_ (IsS80.ge HI422.out) | refine below_set ?_ GE419.out) | exact HB.out)) hb); have n5_ := Aside0.mk (hbox); have n6_ := Aside0.mk ((by rw [hg]; exact (below_size (by repeat (first | (with_reducible first | exact HB.out | apply below_alloc | apply pw_below_drewN | apply below_drew1 | refine below_set ?_ (IsS80.ge HI422.out) | refine below_set ?_ GE419.out) | exact HB.out))) : w.heap.size ≤ gb431)); have n7_ := Aside0.mk ((by rw [hg]; exact (below_size (by repeat (first | (with_reducible first | exact HB.out | apply below_alloc | apply pw_below_drewN | apply below_drew1 | refine below_set ?_ (IsS80.ge HI422.out) | refine below_set ?_ GE419.out) | exact HB.out))) : w.heap.size ≤ gb431)); have n8_ := Aside0.mk ((by rw [hg]; exact Nat.ne_of_lt (blk_lt (g := gb419) (o := .cells #[.int .i64 0, .slice none 0 0] 39 (0, 0)) (by (with_reducible repeat (first | refine blk_drewN ?_ _ | refine blk_drew ?_ | refine blk_alloc ?_ _)); exact BK419.out)) : gb419 ≠ gb431)); have n9_ := Aside0.mk ((by rw [hg]; exact Nat.ne_of_gt (blk_lt (g := gb419) (o := .cells #[.int .i64 0, .slice none 0 0] 39 (0, 0)) (by (with_reducible repeat (first | refine blk_drewN ?_ _ | refine blk_drew ?_ | refine blk_alloc ?_ _)); exact BK419.out)) : gb431 ≠ gb419)); have n10_ := Aside0.mk ((by rw [hg]; exact Nat.ne_of_lt (IsS80.lt (show IsS80 w _ g422 t420 t430 from by repeat (first | (with_reducible first | exact HI422.out | apply IsS80.alloc | apply IsS80.drewN | apply IsS80.drew | apply IsS80.set_1 | refine IsS80.far ?_ NB422_419.out _) | exact HI422.out))) : g422 ≠ gb431)); have n11_ := Aside0.mk ((by rw [hg]; exact Nat.ne_of_gt (IsS80.lt (show IsS80 w _ g422 t420 t430 from by repeat (first | (with_reducible first | exact HI422.out | apply IsS80.alloc | apply IsS80.drewN | apply IsS80.drew | apply IsS80.set_1 | refine IsS80.far ?_ NB422_419.out _) | exact HI422.out))) : gb431 ≠ g422)); clear HO426; clear HO429; clear BK419; clear HI422; clear HB; have HO426 := n0_; have HO429 := n1_; have BK419 := n2_; have HI422 := n3_; have HB := n4_; have BK431 := n5_; have GW431 := n6_; have GE431 := n7_; have NB419_431 := n8_; have NB431_419 := n9_; have NB422_431 := n10_; have NB431_422 := n11_; clear n0_ n1_ n2_ n3_ n4_ n5_ n6_ n7_ n8_ n9_ n10_ n11_; clear hb hbox hg; have hnb11 := NB431_419.out; have hnc11 := NB419_431.out; have hnb12 := NB431_422.out; have hnc12 := NB422_431.out; have hcz13_0 : w10.cell? ⟨gb431, 0, none⟩ = some (.int .i64 0) := (blk_cell BK431.out 0).trans rfl; have hcz13_1 : w10.cell? ⟨gb431, 1, none⟩ = some (.slice none 0 0) := (blk_cell BK431.out 1).trans rfl; have hfz13_0 := blk_frozen BK431.out 0; have hfz13_1 := blk_frozen BK431.out 1; obtain ⟨Ao14, co14, eo14⟩ := Kd.R_slice HO426.out; subst eo14))
 have n0_ : Aside0 (Kd.R k52 52 ((w10.setCell ⟨gb431, 0, none⟩ (.int .i64 t423)).setCell ⟨gb431, 1, none⟩ (.slice Ao14 t424.length co14)) w.heap.size (fun _ => True) (.slice Ao14 t424.length co14) t424) := ⟨by (with_reducible repeat (first | apply Kd.R_alloc | apply Kd.R_drewN | apply Kd.R_drew)); exact Kd.R_mono (Kd.R_far (p := ⟨gb431, 1, none⟩) (Kd.R_far (p := ⟨gb431, 0, none⟩) (Kd.R_types HO426.out BK431.out (by decide)) (fun _ hk => hk.2) (.int .i64 t423)) (fun _ hk => hk.2) (.slice Ao14 t424.length co14)) (fun _ hk => trivial)⟩
 have n1_ : Aside0 (Kd.R Kd.bool 4 ((w10.setCell ⟨gb431, 0, none⟩ (.int .i64 t423)).setCell ⟨gb431, 1, none⟩ (.slice Ao14 t424.length co14)) w.heap.size (fun _ => True) v428 t427) := ⟨by (with_reducible repeat (first | apply Kd.R_alloc | apply Kd.R_drewN | apply Kd.R_drew)); exact Kd.R_mono (Kd.R_far (p := ⟨gb431, 1, none⟩) (Kd.R_far (p := ⟨gb431, 0, none⟩) (Kd.R_types HO429.out BK431.out (by decide)) (fun _ hk => hk.2) (.int .i64 t423)) (fun _ hk => hk.2) (.slice Ao14 t424.length co14)) (fun _ hk => trivial)⟩
 have n2_ : Aside0 (((w10.setCell ⟨gb431, 0, none⟩ (.int .i64 t423)).setCell ⟨gb431, 1, none⟩ (.slice Ao14 t424.length co14)).heap[gb419]? = some (.cells #[.int .i64 0, .slice none 0 0] 39 (0, 0))) := ⟨by (with_reducible repeat (first | refine blk_drewN ?_ _ | refine blk_drew ?_ | refine blk_alloc ?_ _)); refine blk_far ?_ NB419_431.out _; (with_reducible repeat (first | refine blk_drewN ?_ _ | refine blk_drew ?_ | refine blk_alloc ?_ _)); refine blk_far ?_ NB419_431.out _; (with_reducible repeat (first | refine blk_drewN ?_ _ | refine blk_drew ?_ | refine blk_alloc ?_ _)); exact BK419.out⟩
 have n3_ : Aside0 (((w10.setCell ⟨gb431, 0, none⟩ (.int .i64 t423)).setCell ⟨gb431, 1, none⟩ (.slice Ao14 t424.length co14)).heap[gb431]? = some (.cells #[.int .i64 t423, .slice Ao14 t424.length co14] 39 (0, 0))) := ⟨by (with_reducible repeat (first | refine blk_drewN ?_ _ | refine blk_drew ?_ | refine blk_alloc ?_ _)); refine blk_put (cs := #[.int .i64 t423, .slice none 0 0]) ?_ 1 _ rfl; (with_reducible repeat (first | refine blk_drewN ?_ _ | refine blk_drew ?_ | refine blk_alloc ?_ _)); refine blk_put (cs := #[.int .i64 0, .slice none 0 0]) ?_ 0 _ rfl; (with_reducible repeat (first | refine blk_drewN ?_ _ | refine blk_drew ?_ | refine blk_alloc ?_ _)); exact BK431.out⟩
 have n4_ : Aside0 (IsS80 w ((w10.setCell ⟨gb431, 0, none⟩ (.int .i64 t423)).setCell ⟨gb431, 1, none⟩ (.slice Ao14 t424.length co14)) g422 t420 t430) := ⟨by repeat (first | (with_reducible first | exact HI422.out | apply IsS80.alloc | apply IsS80.drewN | apply IsS80.drew | apply IsS80.set_1 | refine IsS80.far ?_ NB422_419.out _ | refine IsS80.far ?_ NB422_431.out _) | exact HI422.out)⟩
 have n5_ : Aside0 (Below w.heap.size w ((w10.setCell ⟨gb431, 0, none⟩ (.int .i64 t423)).setCell ⟨gb431, 1, none⟩ (.slice Ao14 t424.length co14))) := ⟨by repeat (first | (with_reducible first | exact HB.out | apply below_alloc | apply pw_below_drewN | apply below_drew1 | refine below_set ?_ (IsS80.ge HI422.out) | refine below_set ?_ GE419.out | refine below_set ?_ GE431.out) | exact HB.out)⟩
 (try clear HO426)
 (try clear HO429)
 (try clear BK419)
 (try clear BK431)
 (try clear HI422)
 (try clear HB)
 generalize ((w10.setCell ⟨gb431, 0, none⟩ (.int .i64 t423)).setCell ⟨gb431, 1, none⟩ (.slice Ao14 t424.length co14)) = w15 at n0_ n1_ n2_ n3_ n4_ n5_ ⊢
 have HO426 := n0_
 have HO429 := n1_
 have BK419 := n2_
 have BK431 := n3_
 have HI422 := n4_
 have HB := n5_
 clear n0_ n1_ n2_ n3_ n4_ n5_
 have n0_ := Aside0.mk (Kd.R_drew HO426.out)
 have n1_ := Aside0.mk (Kd.R_drew HO429.out)
 have n2_ := Aside0.mk (blk_drew BK419.out)
 have n3_ := Aside0.mk (blk_drew BK431.out)
 have n4_ := Aside0.mk (IsS80.drew HI422.out)
 have n5_ := Aside0.mk (below_drew1 HB.out)
 clear HO426
 clear HO429
 clear BK419
 clear BK431
 clear HI422
 clear HB
 have HO426 := n0_
 have HO429 := n1_
 have BK419 := n2_
 have BK431 := n3_
 have HI422 := n4_
 have HB := n5_
 clear n0_ n1_ n2_ n3_ n4_ n5_
 refine start_ (n := 20) (S := fun w' => w'.cell? ⟨gb431, 0, none⟩ = some (.int .i64 t423) ∧ w'.cell? ⟨gb431, 1, none⟩ = some (.slice Ao14 t424.length co14)) (ds := []) #[false, false, false, false, false, false, false, false, false, false, false, false, false, false, false, false, false, false, false, false] (by kernel_rfl) rfl rfl ⟨(blk_cell BK431.out 0).trans rfl, (blk_cell BK431.out 1).trans rfl⟩ (fun hHeld => ?_); refine with_tabW spec_DrawSameIsland.tab3 spec_DrawSameIsland.bits3 (fun HT_ HW_ => ?_)
 generalize w15.drew = w16 at HO426 HO429 BK419 BK431 HI422 HB hHeld ⊢
 refine pure_ (i := 1) (N := some 17) (v := ?_) (a' := ?_) #[false, true, false, false, false, false, false, false, false, false, false, false, false, false, false, false, false, false, false, false] rfl rfl (any_of HT_.out (by kernel_rfl)) (fun _ _ _ h => h) (Or.inl ⟨by rfl, ?_⟩) ?_ ?_
 rotate_left
 ·
  intro w'
  go_simp
  with_reducible rfl
 rotate_left
 ·
  simp only [Act.put, List.setIfInBounds_toArray, List.set_cons_zero, List.set_cons_succ, i64_w, i32_w]
  rfl
 refine pure_ (i := 2) (N := some 18) (v := ?_) (a' := ?_) #[false, true, true, false, false, false, false, false, false, false, false, false, false, false, false, false, false, false, false, false] rfl rfl (any_of HT_.out (by kernel_rfl)) (fun _ _ _ h => h) (Or.inl ⟨by rfl, ?_⟩) ?_ ?_
 rotate_left
 ·
  intro w'
  go_simp
  with_reducible rfl
 rotate_left
 ·
  simp only [Act.put, List.setIfInBounds_toArray, List.set_cons_zero, List.set_cons_succ, i64_w, i32_w]
  rfl
 refine pure_ (i := 3) (N := some 19) (v := ?_) (a' := ?_) #[false, true, true, true, false, false, false, false, false, false, false, false, false, false, false, false, false, false, false, false] rfl rfl (any_of HT_.out (by kernel_rfl)) (fun _ _ _ h => h) (Or.inl ⟨by rfl, ?_⟩) ?_ ?_
 rotate_left
 ·
  intro w'
  go_simp
  with_reducible rfl
 rotate_left
 ·
  simp only [Act.put, List.setIfInBounds_toArray, List.set_cons_zero, List.set_cons_succ, i64_w, i32_w]
  rfl
 refine pure_ (i := 7) (N := some 23) (v := ?_) (a' := ?_) #[false, true, true, true, false, false, false, true, false, false, false, false, false, false, false, false, false, false, false, false] rfl rfl (any_of HT_.out (by kernel_rfl)) (fun _ _ _ h => h) (Or.inl ⟨by rfl, ?_⟩) ?_ ?_
 rotate_left
 ·
  intro w'
  go_simp
  with_reducible rfl
 rotate_left
 ·
  simp only [Act.put, List.setIfInBounds_toArray, List.set_cons_zero, List.set_cons_succ, i64_w, i32_w]
  rfl
 refine pure_ (i := 11) (N := some 27) (v := ?_) (a' := ?_) #[false, true, true, true, false, false, false, true, false, false, false, true, false, false, false, false, false, false, false, false] rfl rfl (any_of HT_.out (by kernel_rfl)) (fun _ _ _ h => h) (Or.inl ⟨by rfl, ?_⟩) ?_ ?_
 rotate_left
 ·
  intro w'
  go_simp
  with_reducible rfl
 rotate_left
 ·
  simp only [Act.put, List.setIfInBounds_toArray, List.set_cons_zero, List.set_cons_succ, i64_w, i32_w]
  rfl
 refine pure_ (i := 12) (N := some 28) (v := ?_) (a' := ?_) #[false, true, true, true, false, false, false, true, false, false, false, true, true, false, false, false, false, false, false, false] rfl rfl (any_of HT_.out (by kernel_rfl)) (fun _ _ _ h => h) (Or.inl ⟨by rfl, ?_⟩) ?_ ?_
 rotate_left
 ·
  intro w'
  go_simp
  with_reducible rfl
 rotate_left
 ·
  simp only [Act.put, List.setIfInBounds_toArray, List.set_cons_zero, List.set_cons_succ, i64_w, i32_w]
  rfl
 refine take_ (i := 0) (N := some 16) (v := ?_) (a' := ?_) #[true, true, true, true, false, false, false, true, false, false, false, true, true, false, false, false, false, false, false, false] rfl rfl (take_ofW HT_.out HW_.out (by kernel_rfl)) (fun _ _ _ h => h) (Or.inl ⟨by rfl, ?_⟩) hHeld ?_ ?_
 rotate_left
 ·
  rintro w' ⟨s0, s1⟩
  go_simp
  with_reducible rfl
 rotate_left
 ·
  simp only [Act.put, List.setIfInBounds_toArray, List.set_cons_zero, List.set_cons_succ, i64_w, i32_w]
  rfl
 refine take_ (i := 4) (N := some 20) (v := ?_) (a' := ?_) #[true, true, true, true, true, false, false, true, false, false, false, true, true, false, false, false, false, false, false, false] rfl rfl (take_ofW HT_.out HW_.out (by kernel_rfl)) (fun _ _ _ h => h) (Or.inl ⟨by rfl, ?_⟩) hHeld ?_ ?_
 rotate_left
 ·
  rintro w' ⟨s0, s1⟩
  go_simp
  with_reducible rfl
 rotate_left
 ·
  simp only [Act.put, List.setIfInBounds_toArray, List.set_cons_zero, List.set_cons_succ, i64_w, i32_w]
  rfl
 refine pure_ (i := 5) (N := some 21) (v := ?_) (a' := ?_) #[true, true, true, true, true, true, false, true, false, false, false, true, true, false, false, false, false, false, false, false] rfl rfl (any_of HT_.out (by kernel_rfl)) (fun _ _ _ h => h) (Or.inl ⟨by rfl, ?_⟩) ?_ ?_
 rotate_left
 ·
  intro w'
  go_simp
  with_reducible rfl
 rotate_left
 ·
  simp only [Act.put, List.setIfInBounds_toArray, List.set_cons_zero, List.set_cons_succ, i64_w, i32_w]
  rfl
 refine take_ (i := 13) (N := some 29) (v := ?_) (a' := ?_) #[true, true, true, true, true, true, false, true, false, false, false, true, true, true, false, false, false, false, false, false] rfl rfl (take_ofW HT_.out HW_.out (by kernel_rfl)) (fun _ _ _ h => h) (Or.inl ⟨by rfl, ?_⟩) hHeld ?_ ?_
 rotate_left
 ·
  rintro w' ⟨s0, s1⟩
  go_simp
  with_reducible rfl
 rotate_left
 ·
  simp only [Act.put, List.setIfInBounds_toArray, List.set_cons_zero, List.set_cons_succ, i64_w, i32_w]
  rfl
 refine pure_ (i := 14) (N := some 30) (v := ?_) (a' := ?_) #[true, true, true, true, true, true, false, true, false, false, false, true, true, true, true, false, false, false, false, false] rfl rfl (any_of HT_.out (by kernel_rfl)) (fun _ _ _ h => h) (Or.inl ⟨by rfl, ?_⟩) ?_ ?_
 rotate_left
 ·
  intro w'
  go_simp
  with_reducible rfl
 rotate_left
 ·
  simp only [Act.put, List.setIfInBounds_toArray, List.set_cons_zero, List.set_cons_succ, i64_w, i32_w]
  rfl
 refine one_ (i := 6) (N := some 22) #[true, true, true, true, true, true, true, true, false, false, false, true, true, true, true, false, false, false, false, false] rfl rfl (one_of HT_.out (by kernel_rfl)) (by decide) (fun K hK => ?_)
 refine goes_ Tryd.func48 (by kernel_rfl) rfl #[.pointer (some ⟨g422, 0, none⟩), .int .i64 (wrap64 (t423 + 1))] (by rfl) rfl rfl (by (try simp only [List.map_toArray, List.map_cons, List.map_nil]); first | done | rfl | (simp only [List.length_drop, List.length_take]; rfl)) ?_
 with_reducible refine (spec_l20Rd_pick.calls k g422 t420 t430 (wrap64 (t423 + 1)) t432 t433 w _ ?side1 ?side2 A4.out).mono ?_
 (case side1 => repeat (first | (with_reducible first | exact HI422.out | apply IsS80.alloc | apply IsS80.drewN | apply IsS80.drew | apply IsS80.set_1 | refine IsS80.far ?_ NB422_419.out _ | refine IsS80.far ?_ NB422_431.out _) | exact HI422.out))
 (case side2 => repeat (first | (with_reducible first | exact HB.out | apply below_alloc | apply pw_below_drewN | apply below_drew1 | refine below_set ?_ (IsS80.ge HI422.out) | refine below_set ?_ GE419.out | refine below_set ?_ GE431.out) | exact HB.out))
 rintro e w17 ⟨rfl, hi, hb, hk⟩
 refine ⟨_, rfl, ?_⟩
 have n0_ := Aside0.mk (KeepBut.blk hk (g' := gb419) (o := .cells #[.int .i64 0, .slice none 0 0] 39 (0, 0)) (by (with_reducible repeat (first | refine blk_drewN ?_ _ | refine blk_drew ?_ | refine blk_alloc ?_ _)); exact BK419.out) NB419_422.out (by simp))
 have n1_ := Aside0.mk (Kd.R_mono (Kd.R_keep (IsS80.apart (show IsS80 w _ g422 t420 t430 from by repeat (first | (with_reducible first | exact HI422.out | apply IsS80.alloc | apply IsS80.drewN | apply IsS80.drew | apply IsS80.set_1 | refine IsS80.far ?_ NB422_419.out _ | refine IsS80.far ?_ NB422_431.out _) | exact HI422.out)) (by (with_reducible repeat (first | apply Kd.R_alloc | apply Kd.R_drewN | apply Kd.R_drew)); exact HO426.out) (by decide)) hk (fun _ h => h.2)) (fun _ h => h.1))
 have n2_ := Aside0.mk (Kd.R_mono (Kd.R_keep (IsS80.apart (show IsS80 w _ g422 t420 t430 from by repeat (first | (with_reducible first | exact HI422.out | apply IsS80.alloc | apply IsS80.drewN | apply IsS80.drew | apply IsS80.set_1 | refine IsS80.far ?_ NB422_419.out _ | refine IsS80.far ?_ NB422_431.out _) | exact HI422.out)) (by (with_reducible repeat (first | apply Kd.R_alloc | apply Kd.R_drewN | apply Kd.R_drew)); exact HO429.out) (by decide)) hk (fun _ h => h.2)) (fun _ h => h.1))
 have n3_ := Aside0.mk (KeepBut.blk hk (g' := gb431) (o := .cells #[.int .i64 t423, .slice Ao14 t424.length co14] 39 (0, 0)) (by (with_reducible repeat (first | refine blk_drewN ?_ _ | refine blk_drew ?_ | refine blk_alloc ?_ _)); exact BK431.out) NB431_422.out (by simp))
 have n4_ := Aside0.mk (hb)
 have n5_ := Aside0.mk (hi)
 clear BK419
 clear HO426
 clear HO429
 clear BK431
 clear HB
 clear HI422
 have BK419 := n0_
 have HO426 := n1_
 have HO429 := n2_
 have BK431 := n3_
 have HB := n4_
 have HI422 := n5_
 clear n0_ n1_ n2_ n3_ n4_ n5_
 (try clear hb)
 (try clear hb2)
 (try clear hk)
 (try clear hi)
 refine hK.out _ _ ⟨(blk_cell BK431.out 0).trans rfl, (blk_cell BK431.out 1).trans rfl⟩ (fun hHeld => ?_)
 clear hK K
 refine norm_ (a' := ?_) ?_ ?_
 rotate_left
 ·
  show Act.put _ (some 22) _ = _
  simp only [Act.put, List.setIfInBounds_toArray, List.set_cons_zero, List.set_cons_succ, i64_w, i32_w]
  rfl
 refine one_ (i := 8) (N := some 24) #[true, true, true, true, true, true, true, true, true, false, false, true, true, true, true, false, false, false, false, false] rfl rfl (one_of HT_.out (by kernel_rfl)) (by decide) (fun K hK => ?_)
 refine goes_ Tryd.func48 (by kernel_rfl) rfl #[.pointer (some ⟨g422, 0, none⟩), .int .i64 9] (by rfl) rfl rfl (by (try simp only [List.map_toArray, List.map_cons, List.map_nil]); first | done | rfl | (simp only [List.length_drop, List.length_take]; rfl)) ?_
 with_reducible refine (spec_l20Rd_pick.calls k g422 t420 t433 9 t434 t435 w _ ?side1 ?side2 A5.out).mono ?_
 (case side1 => repeat (first | (with_reducible first | exact HI422.out | apply IsS80.alloc | apply IsS80.drewN | apply IsS80.drew | apply IsS80.set_1 | refine IsS80.far ?_ NB422_419.out _ | refine IsS80.far ?_ NB422_431.out _) | exact HI422.out))
 (case side2 => repeat (first | (with_reducible first | exact HB.out | apply below_alloc | apply pw_below_drewN | apply below_drew1 | refine below_set ?_ (IsS80.ge HI422.out) | refine below_set ?_ GE419.out | refine below_set ?_ GE431.out) | exact HB.out))
 rintro e w18 ⟨rfl, hi, hb, hk⟩
 refine ⟨_, rfl, ?_⟩
 have n0_ := Aside0.mk (KeepBut.blk hk (g' := gb419) (o := .cells #[.int .i64 0, .slice none 0 0] 39 (0, 0)) (by (with_reducible repeat (first | refine blk_drewN ?_ _ | refine blk_drew ?_ | refine blk_alloc ?_ _)); exact BK419.out) NB419_422.out (by simp))
 have n1_ := Aside0.mk (Kd.R_mono (Kd.R_keep (IsS80.apart (show IsS80 w _ g422 t420 t433 from by repeat (first | (with_reducible first | exact HI422.out | apply IsS80.alloc | apply IsS80.drewN | apply IsS80.drew | apply IsS80.set_1 | refine IsS80.far ?_ NB422_419.out _ | refine IsS80.far ?_ NB422_431.out _) | exact HI422.out)) (by (with_reducible repeat (first | apply Kd.R_alloc | apply Kd.R_drewN | apply Kd.R_drew)); exact HO426.out) (by decide)) hk (fun _ h => h.2)) (fun _ h => h.1))
 have n2_ := Aside0.mk (Kd.R_mono (Kd.R_keep (IsS80.apart (show IsS80 w _ g422 t420 t433 from by repeat (first | (with_reducible first | exact HI422.out | apply IsS80.alloc | apply IsS80.drewN | apply IsS80.drew | apply IsS80.set_1 | refine IsS80.far ?_ NB422_419.out _ | refine IsS80.far ?_ NB422_431.out _) | exact HI422.out)) (by (with_reducible repeat (first | apply Kd.R_alloc | apply Kd.R_drewN | apply Kd.R_drew)); exact HO429.out) (by decide)) hk (fun _ h => h.2)) (fun _ h => h.1))
 have n3_ := Aside0.mk (KeepBut.blk hk (g' := gb431) (o := .cells #[.int .i64 t423, .slice Ao14 t424.length co14] 39 (0, 0)) (by (with_reducible repeat (first | refine blk_drewN ?_ _ | refine blk_drew ?_ | refine blk_alloc ?_ _)); exact BK431.out) NB431_422.out (by simp))
 have n4_ := Aside0.mk (hb)
 have n5_ := Aside0.mk (hi)
 clear BK419
 clear HO426
 clear HO429
 clear BK431
 clear HB
 clear HI422
 have BK419 := n0_
 have HO426 := n1_
 have HO429 := n2_
 have BK431 := n3_
 have HB := n4_
 have HI422 := n5_
 clear n0_ n1_ n2_ n3_ n4_ n5_
 (try clear hb)
 (try clear hb2)
 (try clear hk)
 (try clear hi)
 refine hK.out _ _ ⟨(blk_cell BK431.out 0).trans rfl, (blk_cell BK431.out 1).trans rfl⟩ (fun hHeld => ?_)
 clear hK K
 refine norm_ (a' := ?_) ?_ ?_
 rotate_left
 ·
  show Act.put _ (some 24) _ = _
  simp only [Act.put, List.setIfInBounds_toArray, List.set_cons_zero, List.set_cons_succ, i64_w, i32_w]
  rfl
 refine pure_ (i := 9) (N := some 25) (v := ?_) (a' := ?_) #[true, true, true, true, true, true, true, true, true, true, false, true, true, true, true, false, false, false, false, false] rfl rfl (any_of HT_.out (by kernel_rfl)) (fun _ _ _ h => h) (Or.inl ⟨by rfl, ?_⟩) ?_ ?_
 rotate_left
 ·
  intro w'
  go_simp
  with_reducible rfl
 rotate_left
 ·
  simp only [Act.put, List.setIfInBounds_toArray, List.set_cons_zero, List.set_cons_succ, i64_w, i32_w]
  rfl
 refine pure_ (i := 10) (N := some 26) (v := ?_) (a' := ?_) #[true, true, true, true, true, true, true, true, true, true, true, true, true, true, true, false, false, false, false, false] rfl rfl (any_of HT_.out (by kernel_rfl)) (fun _ _ _ h => h) (Or.inl ⟨by rfl, ?_⟩) ?_ ?_
 rotate_left
 ·
  intro w'
  go_simp
  with_reducible rfl
 rotate_left
 ·
  simp only [Act.put, List.setIfInBounds_toArray, List.set_cons_zero, List.set_cons_succ, i64_w, i32_w]
  rfl
 refine one_ (i := 15) (N := some 31) #[true, true, true, true, true, true, true, true, true, true, true, true, true, true, true, true, false, false, false, false] rfl rfl (one_of HT_.out (by kernel_rfl)) (by decide) (fun K hK => ?_)
 refine goes_ Tryd.func48 (by kernel_rfl) rfl #[.pointer (some ⟨g422, 0, none⟩), .int .i64 (wrap64 (t423 + 1))] (by rfl) rfl rfl (by (try simp only [List.map_toArray, List.map_cons, List.map_nil]); first | done | rfl | (simp only [List.length_drop, List.length_take]; rfl)) ?_
 with_reducible refine (spec_l20Rd_pick.calls k g422 t420 t435 (wrap64 (t423 + 1)) t436 t437 w _ ?side1 ?side2 A6.out).mono ?_
 (case side1 => repeat (first | (with_reducible first | exact HI422.out | apply IsS80.alloc | apply IsS80.drewN | apply IsS80.drew | apply IsS80.set_1 | refine IsS80.far ?_ NB422_419.out _ | refine IsS80.far ?_ NB422_431.out _) | exact HI422.out))
 (case side2 => repeat (first | (with_reducible first | exact HB.out | apply below_alloc | apply pw_below_drewN | apply below_drew1 | refine below_set ?_ (IsS80.ge HI422.out) | refine below_set ?_ GE419.out | refine below_set ?_ GE431.out) | exact HB.out))
 rintro e w19 ⟨rfl, hi, hb, hk⟩
 refine ⟨_, rfl, ?_⟩
 have n0_ := Aside0.mk (KeepBut.blk hk (g' := gb419) (o := .cells #[.int .i64 0, .slice none 0 0] 39 (0, 0)) (by (with_reducible repeat (first | refine blk_drewN ?_ _ | refine blk_drew ?_ | refine blk_alloc ?_ _)); exact BK419.out) NB419_422.out (by simp))
 have n1_ := Aside0.mk (Kd.R_mono (Kd.R_keep (IsS80.apart (show IsS80 w _ g422 t420 t435 from by repeat (first | (with_reducible first | exact HI422.out | apply IsS80.alloc | apply IsS80.drewN | apply IsS80.drew | apply IsS80.set_1 | refine IsS80.far ?_ NB422_419.out _ | refine IsS80.far ?_ NB422_431.out _) | exact HI422.out)) (by (with_reducible repeat (first | apply Kd.R_alloc | apply Kd.R_drewN | apply Kd.R_drew)); exact HO426.out) (by decide)) hk (fun _ h => h.2)) (fun _ h => h.1))
 have n2_ := Aside0.mk (Kd.R_mono (Kd.R_keep (IsS80.apart (show IsS80 w _ g422 t420 t435 from by repeat (first | (with_reducible first | exact HI422.out | apply IsS80.alloc | apply IsS80.drewN | apply IsS80.drew | apply IsS80.set_1 | refine IsS80.far ?_ NB422_419.out _ | refine IsS80.far ?_ NB422_431.out _) | exact HI422.out)) (by (with_reducible repeat (first | apply Kd.R_alloc | apply Kd.R_drewN | apply Kd.R_drew)); exact HO429.out) (by decide)) hk (fun _ h => h.2)) (fun _ h => h.1))
 have n3_ := Aside0.mk (KeepBut.blk hk (g' := gb431) (o := .cells #[.int .i64 t423, .slice Ao14 t424.length co14] 39 (0, 0)) (by (with_reducible repeat (first | refine blk_drewN ?_ _ | refine blk_drew ?_ | refine blk_alloc ?_ _)); exact BK431.out) NB431_422.out (by simp))
 have n4_ := Aside0.mk (hb)
 have n5_ := Aside0.mk (hi)
 clear BK419
 clear HO426
 clear HO429
 clear BK431
 clear HB
 clear HI422
 have BK419 := n0_
 have HO426 := n1_
 have HO429 := n2_
 have BK431 := n3_
 have HB := n4_
 have HI422 := n5_
 clear n0_ n1_ n2_ n3_ n4_ n5_
 (try clear hb)
 (try clear hb2)
 (try clear hk)
 (try clear hi)
 refine hK.out _ _ ⟨(blk_cell BK431.out 0).trans rfl, (blk_cell BK431.out 1).trans rfl⟩ (fun hHeld => ?_)
 clear hK K
 refine norm_ (a' := ?_) ?_ ?_
 rotate_left
 ·
  show Act.put _ (some 31) _ = _
  simp only [Act.put, List.setIfInBounds_toArray, List.set_cons_zero, List.set_cons_succ, i64_w, i32_w]
  rfl
 refine one_ (i := 16) (N := none) #[true, true, true, true, true, true, true, true, true, true, true, true, true, true, true, true, true, false, false, false] rfl rfl (one_of HT_.out (by kernel_rfl)) (by decide) (fun K hK => ?_)
 have hs20 : w19.cell? ⟨gb419, 0, none⟩ = some (.int .i64 0) := (blk_cell BK419.out 0).trans rfl
 have hfs20 := blk_frozen BK419.out 0
 have hns20_1 := NB431_419.out
 have hms20_1 := NB419_431.out
 have hs21 : w19.cell? ⟨gb419, 1, none⟩ = some (.slice none 0 0) := (blk_cell BK419.out 1).trans rfl
 have hfs21 := blk_frozen BK419.out 1
 have hns21_1 := NB431_419.out
 have hms21_1 := NB419_431.out
 refine skip_ (w1 := ?_) (by rfl) rfl ?_ ?_
 rotate_left
 ·
  go_simp
  rfl
 refine hK.out _ _ ⟨((cell_far (p := ⟨gb419, _, none⟩) NB431_419.out _).trans (((cell_far (p := ⟨gb419, _, none⟩) NB431_419.out _).trans (hHeld.1)))), ((cell_far (p := ⟨gb419, _, none⟩) NB431_419.out _).trans (((cell_far (p := ⟨gb419, _, none⟩) NB431_419.out _).trans (hHeld.2))))⟩ (fun hHeld => ?_)
 clear hK K
 refine pure_ (i := 17) (N := some 3) (v := ?_) (a' := ?_) #[true, true, true, true, true, true, true, true, true, true, true, true, true, true, true, true, true, true, false, false] rfl rfl (any_of HT_.out (by kernel_rfl)) (fun _ _ _ h => h) (Or.inl ⟨by rfl, ?_⟩) ?_ ?_
 rotate_left
 ·
  intro w'
  go_simp
  with_reducible rfl
 rotate_left
 ·
  simp only [Act.put, List.setIfInBounds_toArray, List.set_cons_zero, List.set_cons_succ, i64_w, i32_w]
  rfl
 refine pure_ (i := 18) (N := some 4) (v := ?_) (a' := ?_) #[true, true, true, true, true, true, true, true, true, true, true, true, true, true, true, true, true, true, true, false] rfl rfl (any_of HT_.out (by kernel_rfl)) (fun _ _ _ h => h) (Or.inl ⟨by rfl, ?_⟩) ?_ ?_
 rotate_left
 ·
  intro w'
  go_simp
  with_reducible rfl
 rotate_left
 ·
  simp only [Act.put, List.setIfInBounds_toArray, List.set_cons_zero, List.set_cons_succ, i64_w, i32_w]
  rfl
 refine pure_ (i := 19) (N := some 5) (v := ?_) (a' := ?_) #[true, true, true, true, true, true, true, true, true, true, true, true, true, true, true, true, true, true, true, true] rfl rfl (any_of HT_.out (by kernel_rfl)) (fun _ _ _ h => h) (Or.inl ⟨by rfl, ?_⟩) ?_ ?_
 rotate_left
 ·
  intro w'
  go_simp
  with_reducible rfl
 rotate_left
 ·
  simp only [Act.put, List.setIfInBounds_toArray, List.set_cons_zero, List.set_cons_succ, i64_w, i32_w]
  rfl
 refine done_ (done_of HT_.out (by kernel_rfl)) ?_
 try go_wp2
 refine bodyPost_ret (results_list (rs := [.cell 2 39, .tmp 3, .tmp 4, .tmp 5]) rfl (by simp) (.cell gb419 39 #[.int .i64 t423, .slice Ao14 t424.length co14] (0, 0) _ rfl (by (with_reducible repeat (first | refine blk_drewN ?_ _ | refine blk_drew ?_ | refine blk_alloc ?_ _)); refine blk_put (cs := #[.int .i64 t423, .slice none 0 0]) ?_ 1 _ rfl; (with_reducible repeat (first | refine blk_drewN ?_ _ | refine blk_drew ?_ | refine blk_alloc ?_ _)); refine blk_put (cs := #[.int .i64 0, .slice none 0 0]) ?_ 0 _ rfl; (with_reducible repeat (first | refine blk_drewN ?_ _ | refine blk_drew ?_ | refine blk_alloc ?_ _)); exact BK419.out) Tryd.underlying39 rfl (by kernel_rfl) (.tmp (.tmp (.tmp .nil))))) rfl ?_
 exact ⟨_, _, by first | rfl | (simp [errW_none, errW_some] <;> rfl) | (simp [*, errW_none, errW_some] <;> rfl), by (with_reducible repeat (first | apply Kd.R_alloc | apply Kd.R_drewN | apply Kd.R_drew)); exact Kd.R_mono (Kd.R_far (p := ⟨gb419, 1, none⟩) (Kd.R_far (p := ⟨gb419, 0, none⟩) (Kd.R_types HO426.out BK419.out (by decide)) (fun _ hk => hk.2) (.int .i64 t423)) (fun _ hk => hk.2) (.slice Ao14 t424.length co14)) (fun _ hk => trivial), by (with_reducible repeat (first | apply Kd.R_alloc | apply Kd.R_drewN | apply Kd.R_drew)); exact Kd.R_mono (Kd.R_far (p := ⟨gb419, 1, none⟩) (Kd.R_far (p := ⟨gb419, 0, none⟩) (Kd.R_types HO429.out BK419.out (by decide)) (fun _ hk => hk.2) (.int .i64 t423)) (fun _ hk => hk.2) (.slice Ao14 t424.length co14)) (fun _ hk => trivial), by repeat (first | (with_reducible first | exact HB.out | apply below_alloc | apply pw_below_drewN | apply below_drew1 | refine below_set ?_ (IsS80.ge HI422.out) | refine below_set ?_ GE419.out | refine below_set ?_ GE431.out) | exact HB.out)⟩

end Go.Proofs.YthkdkjmnnpcdhaaDoor.P

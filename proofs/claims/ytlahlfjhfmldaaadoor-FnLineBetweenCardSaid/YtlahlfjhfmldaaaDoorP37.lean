/- Contracts of Go functions of this seat's translation, written by this repo's wip/mk.py: it calls the kit's print.py with contracts typed by hand in place of functions that it does not take. Not trusted: Lean checks it. -/
import Derived.Test.YtlahlfjhfmldaaaDoorP0
import Derived.Test.YtlahlfjhfmldaaaDoorP2
import Derived.Test.YtlahlfjhfmldaaaDoorP3
import Derived.Test.YtlahlfjhfmldaaaDoorP6
namespace Go.Proofs.YtlahlfjhfmldaaaDoor.P
open Go.RowKit Go.Proofs.YtlahlfjhfmldaaaDoorW.PrintWords Go.Proofs.YtlahlfjhfmldaaaDoorW.PrintLast Go.Proofs.YtlahlfjhfmldaaaDoorW.PrintMore
attribute [local go_sem] max2_int min2_int max_two min_two max_three min_three max_four min_four   -- for this text's walks alone
set_option linter.unusedVariables false
set_option linter.unusedSimpArgs false

/-! ### spec_DrawLineBetween: function 29 -/
def spec_DrawLineBetween.f (k : Nat) (l0 : List Int) : Option (Int × (List (S30)) × Int × Int) := (spec_l20Open.f l0).bind fun bt374 => ((spec_l20Net.f k bt374.1 bt374.2 9).bind fun bt377 => ((spec_l20Rd_pick.f k bt374.1 bt377.2.2 6).bind fun bt383 => ((spec_l20Rd_pick.f k bt374.1 bt383.2 9).bind fun bt385 => ((spec_l20Rd_pick.f k bt374.1 bt385.2 6).bind fun bt387 => (some (bt377.1, bt377.2.1, wrap64 (bt383.1 - (wrap64 (Int.tdiv bt385.1 8))), bt387.1))))))
theorem spec_DrawLineBetween.mono : ∀ a0 k, LeO (spec_DrawLineBetween.f k a0) (spec_DrawLineBetween.f (k + 1) a0) := by
  intro a0 k
  unfold spec_DrawLineBetween.f
  repeat' first
      | (with_reducible exact spec_l20Net.mono _ _ _ _)
      | (with_reducible exact spec_l20Rd_pick.mono _ _ _ _)
      | (with_reducible exact LeO.refl _)
      | (with_reducible exact LeO.none _)
      | (with_reducible refine LeO.ite ?_ ?_)
      | (with_reducible refine LeO.bind ?_ (fun _ => ?_))
      | exact spec_l20Net.mono _ _ _ _
      | exact spec_l20Rd_pick.mono _ _ _ _
      | exact LeO.none _
      | refine LeO.ite ?_ ?_
      | refine LeO.bind ?_ (fun _ => ?_)
def spec_DrawLineBetween.T3 : Bool × List (List Nat × List Nat) := (true, [([], []), ([], []), ([1], [1]), ([], []), ([3, 2], [3]), ([4], [4]), ([2, 5], [2, 5]), ([], []), ([7, 4], [7]), ([0, 8, 0], [0]), ([6, 9, 0, 1, 2, 3, 4, 5, 6, 9], [6]), ([8, 10, 0, 1, 2, 3, 4, 5, 6, 7, 8, 9, 10], [8])])
def spec_DrawLineBetween.B3 : List Nat := [0, 0, 2, 0, 14, 30, 62, 0, 158, 415, 1023, 2047]
theorem spec_DrawLineBetween.tab3 : rtab .any (opsOf Tryd.f29 3) = spec_DrawLineBetween.T3 := by kernel_rfl
theorem spec_DrawLineBetween.bits3 : waitsOk spec_DrawLineBetween.T3.2 spec_DrawLineBetween.B3 = true := by kernel_rfl
set_option maxHeartbeats 8000000 in
set_option maxRecDepth 100000 in
theorem spec_DrawLineBetween.calls (k : Nat) (A0 : Option Addr) (c0 : Nat) (l0 : List Int) (r1 : Int) (r2 : List (S30)) (r3 : Int) (r4 : Int) (w : World) (hr0 : Kd.C (Kd.int .u8) w A0 l0.length l0) (hc0 : l0.length ≤ c0) (h : spec_DrawLineBetween.f k l0 = some (r1, r2, r3, r4)) :
    Calls Tryd.prog 29 #[.slice A0 l0.length c0] w fun e w' => ∃ v1_ : Value, e = .returned (.tuple #[.agg #[.int .i64 r1, v1_], .int .i64 r3, .int .i64 r4]) ∧ Kd.R k30 30 w' w.heap.size (fun _ => True) v1_ r2 ∧ Below w.heap.size w w' := by
  have hu25 := Tryd.underlying25
  have HR0 := Aside0.mk hr0
  have HC0 := Aside0.mk hc0
  clear hr0 hc0
  have HB := Aside0.mk (Below.refl w.heap.size w)
  have H : ((spec_l20Open.f l0).bind fun bt374 => ((spec_l20Net.f k bt374.1 bt374.2 9).bind fun bt377 => ((spec_l20Rd_pick.f k bt374.1 bt377.2.2 6).bind fun bt383 => ((spec_l20Rd_pick.f k bt374.1 bt383.2 9).bind fun bt385 => ((spec_l20Rd_pick.f k bt374.1 bt385.2 6).bind fun bt387 => (some (bt377.1, bt377.2.1, wrap64 (bt383.1 - (wrap64 (Int.tdiv bt385.1 8))), bt387.1))))))) = some (r1, r2, r3, r4) := h
  clear h
  replace H := Option.bind_eq_some_iff.mp H
  obtain ⟨⟨t374, t375⟩, A20, H⟩ := H
  replace H : ((spec_l20Net.f k t374 t375 9).bind fun bt377 => ((spec_l20Rd_pick.f k t374 bt377.2.2 6).bind fun bt383 => ((spec_l20Rd_pick.f k t374 bt383.2 9).bind fun bt385 => ((spec_l20Rd_pick.f k t374 bt385.2 6).bind fun bt387 => (some (bt377.1, bt377.2.1, wrap64 (bt383.1 - (wrap64 (Int.tdiv bt385.1 8))), bt387.1)))))) = some (r1, r2, r3, r4) := H
  have A2 := Aside0.mk A20
  clear A20
  replace H := Option.bind_eq_some_iff.mp H
  obtain ⟨⟨t377, t378, t381⟩, A30, H⟩ := H
  replace H : ((spec_l20Rd_pick.f k t374 t381 6).bind fun bt383 => ((spec_l20Rd_pick.f k t374 bt383.2 9).bind fun bt385 => ((spec_l20Rd_pick.f k t374 bt385.2 6).bind fun bt387 => (some (t377, t378, wrap64 (bt383.1 - (wrap64 (Int.tdiv bt385.1 8))), bt387.1))))) = some (r1, r2, r3, r4) := H
  have A3 := Aside0.mk A30
  clear A30
  replace H := Option.bind_eq_some_iff.mp H
  obtain ⟨⟨t383, t384⟩, A40, H⟩ := H
  replace H : ((spec_l20Rd_pick.f k t374 t384 9).bind fun bt385 => ((spec_l20Rd_pick.f k t374 bt385.2 6).bind fun bt387 => (some (t377, t378, wrap64 (t383 - (wrap64 (Int.tdiv bt385.1 8))), bt387.1)))) = some (r1, r2, r3, r4) := H
  have A4 := Aside0.mk A40
  clear A40
  replace H := Option.bind_eq_some_iff.mp H
  obtain ⟨⟨t385, t386⟩, A50, H⟩ := H
  replace H : ((spec_l20Rd_pick.f k t374 t386 6).bind fun bt387 => (some (t377, t378, wrap64 (t383 - (wrap64 (Int.tdiv t385 8))), bt387.1))) = some (r1, r2, r3, r4) := H
  have A5 := Aside0.mk A50
  clear A50
  replace H := Option.bind_eq_some_iff.mp H
  obtain ⟨⟨t387, t388⟩, A60, H⟩ := H
  replace H : (some (t377, t378, wrap64 (t383 - (wrap64 (Int.tdiv t385 8))), t387)) = some (r1, r2, r3, r4) := H
  have A6 := Aside0.mk A60
  clear A60
  simp only [Option.some.injEq, Prod.mk.injEq] at H
  obtain ⟨rfl, rfl, rfl, rfl⟩ := H
  go_enter Tryd.func29, Tryd.ntmps29
  try go_wp2_with (first | ((with_reducible refine gate_dst (N := 2) rfl ?_); refine box_event ?hg (N := 2) ?hd (cs := #[.int .i64 0, .slice none 0 0]) (t := 25) ?hr ?_; (case hd => rfl); (case hg => rfl); (case hr => first | (go_simp; done) | (go_simp; rfl)); intro gb373 hg w7 hbox hb; have n0_ := Aside0.mk (below_step (by repeat (first | (with_reducible first | exact HB.out | apply below_alloc | apply pw_below_drewN | apply below_drew1) | exact HB.out)) hb); have n1_ := Aside0.mk (hbox); have n2_ := Aside0.mk ((by rw [hg]; exact (below_size (by repeat (first | (with_reducible first | exact HB.out | apply below_alloc | apply pw_below_drewN | apply below_drew1) | exact HB.out))) : w.heap.size ≤ gb373)); have n3_ := Aside0.mk ((by rw [hg]; exact (below_size (by repeat (first | (with_reducible first | exact HB.out | apply below_alloc | apply pw_below_drewN | apply below_drew1) | exact HB.out))) : w.heap.size ≤ gb373)); clear HB; have HB := n0_; have BK373 := n1_; have GW373 := n2_; have GE373 := n3_; clear n0_ n1_ n2_ n3_; clear hb hbox hg) | ((with_reducible refine gate_callee (f := 47) rfl ?_); refine goesL_ (some 8) rfl rfl Tryd.func47 (by kernel_rfl) rfl #[.slice A0 l0.length c0] rfl (by (try simp only [List.map_toArray, List.map_cons, List.map_nil]); first | done | rfl | (simp only [List.length_drop, List.length_take]; rfl)) ?_; (with_reducible refine (spec_l20Open.calls _ _ l0 t374 t375 w _ ?side1 ?side2 ?side3 A2.out).mono ?_); (case side1 => repeat (first | (with_reducible first | exact HB.out | apply below_alloc | apply pw_below_drewN | apply below_drew1 | refine below_set ?_ GE373.out) | exact HB.out)); (case side2 => exact HR0.out); (case side3 => exact HC0.out); rintro e w8 ⟨g376, rfl, hi, hb, hb2⟩; refine ⟨_, rfl, ?_⟩; have n0_ := Aside0.mk (blk_below (g := gb373) (o := .cells #[.int .i64 0, .slice none 0 0] 25 (0, 0)) (by (with_reducible repeat (first | refine blk_drewN ?_ _ | refine blk_drew ?_ | refine blk_alloc ?_ _)); exact BK373.out) hb2); have n1_ := Aside0.mk (hb); have n2_ := Aside0.mk (hi); have n3_ := Aside0.mk (IsS89.ne_blk hi (blk_below (g := gb373) (o := .cells #[.int .i64 0, .slice none 0 0] 25 (0, 0)) (by (with_reducible repeat (first | refine blk_drewN ?_ _ | refine blk_drew ?_ | refine blk_alloc ?_ _)); exact BK373.out) hb2) (by decide)); have n4_ := Aside0.mk (Ne.symm (IsS89.ne_blk hi (blk_below (g := gb373) (o := .cells #[.int .i64 0, .slice none 0 0] 25 (0, 0)) (by (with_reducible repeat (first | refine blk_drewN ?_ _ | refine blk_drew ?_ | refine blk_alloc ?_ _)); exact BK373.out) hb2) (by decide))); clear BK373; clear HB; have BK373 := n0_; have HB := n1_; have HI376 := n2_; have NB376_373 := n3_; have NB373_376 := n4_; clear n0_ n1_ n2_ n3_ n4_; (try clear hb); (try clear hb2); (try clear hk); (try clear hi)) | ((with_reducible refine gate_callee (f := 46) rfl ?_); refine goesL_ (some 10) rfl rfl Tryd.func46 (by kernel_rfl) rfl #[.pointer (some ⟨g376, 0, none⟩), .int .i64 9] rfl (by (try simp only [List.map_toArray, List.map_cons, List.map_nil]); first | done | rfl | (simp only [List.length_drop, List.length_take]; rfl)) ?_; (with_reducible refine (spec_l20Net.calls k g376 t374 t375 9 t377 t378 t381 w _ ?side1 ?side2 A3.out).mono ?_); (case side1 => repeat (first | (with_reducible first | exact HI376.out | apply IsS89.alloc | apply IsS89.drewN | apply IsS89.drew | apply IsS89.set_1 | refine IsS89.far ?_ NB376_373.out _) | exact HI376.out)); (case side2 => repeat (first | (with_reducible first | exact HB.out | apply below_alloc | apply pw_below_drewN | apply below_drew1 | refine below_set ?_ (IsS89.ge HI376.out) | refine below_set ?_ GE373.out) | exact HB.out)); rintro e w9 ⟨v379, rfl, ho0, hi, hb, hk⟩; refine ⟨_, rfl, ?_⟩; have n0_ := Aside0.mk (KeepBut.blk hk (g' := gb373) (o := .cells #[.int .i64 0, .slice none 0 0] 25 (0, 0)) (by (with_reducible repeat (first | refine blk_drewN ?_ _ | refine blk_drew ?_ | refine blk_alloc ?_ _)); exact BK373.out) NB373_376.out (by simp)); have n1_ := Aside0.mk (Kd.R_lower ho0 (below_size (by repeat (first | (with_reducible first | exact HB.out | apply below_alloc | apply pw_below_drewN | apply below_drew1 | refine below_set ?_ (IsS89.ge HI376.out) | refine below_set ?_ GE373.out) | exact HB.out)))); have n2_ := Aside0.mk (hb); have n3_ := Aside0.mk (hi); clear BK373; clear HB; clear HI376; have BK373 := n0_; have HO380 := n1_; have HB := n2_; have HI376 := n3_; clear n0_ n1_ n2_ n3_; (try clear hb); (try clear hb2); (try clear hk); (try clear hi); (try clear ho0)) | ((with_reducible refine gate_dst (N := 6) rfl ?_); refine box_event ?hg (N := 6) ?hd (cs := #[.int .i64 0, .slice none 0 0]) (t := 25) ?hr ?_; (case hd => rfl); (case hg => rfl); (case hr => first | (go_simp; done) | (go_simp; rfl)); intro gb382 hg w10 hbox hb; have n0_ := Aside0.mk (Kd.R_below (by (with_reducible repeat (first | apply Kd.R_alloc | apply Kd.R_drewN | apply Kd.R_drew)); exact HO380.out) hb); have n1_ := Aside0.mk (blk_below (g := gb373) (o := .cells #[.int .i64 0, .slice none 0 0] 25 (0, 0)) (by (with_reducible repeat (first | refine blk_drewN ?_ _ | refine blk_drew ?_ | refine blk_alloc ?_ _)); exact BK373.out) hb); have n2_ := Aside0.mk (IsS89.below (by repeat (first | (with_reducible first | exact HI376.out | apply IsS89.alloc | apply IsS89.drewN | apply IsS89.drew | apply IsS89.set_1 | refine IsS89.far ?_ NB376_373.out _) | exact HI376.out)) hb); have n3_ := Aside0.mk (below_step (by repeat (first | (with_reducible first | exact HB.out | apply below_alloc | apply pw_below_drewN | apply below_drew1 | refine below_set ?_ (IsS89.ge HI376.out) | refine below_set ?_ GE373.out) | exact HB.out)) hb); have n4_ := Aside0.mk (hbox); have n5_ := Aside0.mk ((by rw [hg]; exact (below_size (by repeat (first | (with_reducible first | exact HB.out | apply below_alloc | apply pw_below_drewN | apply below_drew1 | refine below_set ?_ (IsS89.ge HI376.out) | refine below_set ?_ GE373.out) | exact HB.out))) : w.heap.size ≤ gb382)); have n6_ := Aside0.mk ((by rw [hg]; exact (below_size (by repeat (first | (with_reducible first | exact HB.out | apply below_alloc | apply pw_below_drewN | apply below_drew1 | refine below_set ?_ (IsS89.ge HI376.out) | refine below_set ?_ GE373.out) | exact HB.out))) : w.heap.size ≤ gb382)); have n7_ := Aside0.mk ((by rw [hg]; exact Nat.ne_of_lt (blk_lt (g := gb373) (o := .cells #[.int .i64 0, .slice none 0 0] 25 (0, 0)) (by (with_reducible repeat (first | refine blk_drewN ?_ _ | refine blk_drew ?_ | refine blk_alloc ?_ _)); exact BK373.out)) : gb373 ≠ gb382)); have n8_ := Aside0.mk ((by rw [hg]; exact Nat.ne_of_gt (blk_lt (g := gb373) (o := .cells #[.int .i64 0, .slice none 0 0] 25 (0, 0)) (by (with_reducible repeat (first | refine blk_drewN ?_ _ | refine blk_drew ?_ | refine blk_alloc ?_ _)); exact BK373.out)) : gb382 ≠ gb373)); have n9_ := Aside0.mk ((by rw [hg]; exact Nat.ne_of_lt (IsS89.lt (show IsS89 w _ g376 t374 t381 from by repeat (first | (with_reducible first | exact HI376.out | apply IsS89.alloc | apply IsS89.drewN | apply IsS89.drew | apply IsS89.set_1 | refine IsS89.far ?_ NB376_373.out _) | exact HI376.out))) : g376 ≠ gb382)); have n10_ := Aside0.mk ((by rw [hg]; exact Nat.ne_of_gt (IsS89.lt (show IsS89 w _ g376 t374 t381 from by repeat (first | (with_reducible first | exact HI376.out | apply IsS89.alloc | apply IsS89.drewN | apply IsS89.drew | apply IsS89.set_1 | refine IsS89.far ?_ NB376_373.out _) | exact HI376.out))) : gb382 ≠ g376)); clear HO380; clear BK373; clear HI376; clear HB; have HO380 := n0_; have BK373 := n1_; have HI376 := n2_; have HB := n3_; have BK382 := n4_; have GW382 := n5_; have GE382 := n6_; have NB373_382 := n7_; have NB382_373 := n8_; have NB376_382 := n9_; have NB382_376 := n10_; clear n0_ n1_ n2_ n3_ n4_ n5_ n6_ n7_ n8_ n9_ n10_; clear hb hbox hg; have hnb11 := NB382_373.out; have hnc11 := NB373_382.out; have hnb12 := NB382_376.out; have hnc12 := NB376_382.out; have hcz13_0 : w10.cell? ⟨gb382, 0, none⟩ = some (.int .i64 0) := (blk_cell BK382.out 0).trans rfl; have hcz13_1 : w10.cell? ⟨gb382, 1, none⟩ = some (.slice none 0 0) := (blk_cell BK382.out 1).trans rfl; have hfz13_0 := blk_frozen BK382.out 0; have hfz13_1 := blk_frozen BK382.out 1; obtain ⟨Ao14, co14, eo14⟩ := Kd.R_slice HO380.out; subst eo14))
  have n0_ : Aside0 (Kd.R k30 30 ((w10.setCell ⟨gb382, 0, none⟩ (.int .i64 t377)).setCell ⟨gb382, 1, none⟩ (.slice Ao14 t378.length co14)) w.heap.size (fun _ => True) (.slice Ao14 t378.length co14) t378) := ⟨by (with_reducible repeat (first | apply Kd.R_alloc | apply Kd.R_drewN | apply Kd.R_drew)); exact Kd.R_mono (Kd.R_far (p := ⟨gb382, 1, none⟩) (Kd.R_far (p := ⟨gb382, 0, none⟩) (Kd.R_types HO380.out BK382.out (by decide)) (fun _ hk => hk.2) (.int .i64 t377)) (fun _ hk => hk.2) (.slice Ao14 t378.length co14)) (fun _ hk => trivial)⟩
  have n1_ : Aside0 (((w10.setCell ⟨gb382, 0, none⟩ (.int .i64 t377)).setCell ⟨gb382, 1, none⟩ (.slice Ao14 t378.length co14)).heap[gb373]? = some (.cells #[.int .i64 0, .slice none 0 0] 25 (0, 0))) := ⟨by (with_reducible repeat (first | refine blk_drewN ?_ _ | refine blk_drew ?_ | refine blk_alloc ?_ _)); refine blk_far ?_ NB373_382.out _; (with_reducible repeat (first | refine blk_drewN ?_ _ | refine blk_drew ?_ | refine blk_alloc ?_ _)); refine blk_far ?_ NB373_382.out _; (with_reducible repeat (first | refine blk_drewN ?_ _ | refine blk_drew ?_ | refine blk_alloc ?_ _)); exact BK373.out⟩
  have n2_ : Aside0 (((w10.setCell ⟨gb382, 0, none⟩ (.int .i64 t377)).setCell ⟨gb382, 1, none⟩ (.slice Ao14 t378.length co14)).heap[gb382]? = some (.cells #[.int .i64 t377, .slice Ao14 t378.length co14] 25 (0, 0))) := ⟨by (with_reducible repeat (first | refine blk_drewN ?_ _ | refine blk_drew ?_ | refine blk_alloc ?_ _)); refine blk_put (cs := #[.int .i64 t377, .slice none 0 0]) ?_ 1 _ rfl; (with_reducible repeat (first | refine blk_drewN ?_ _ | refine blk_drew ?_ | refine blk_alloc ?_ _)); refine blk_put (cs := #[.int .i64 0, .slice none 0 0]) ?_ 0 _ rfl; (with_reducible repeat (first | refine blk_drewN ?_ _ | refine blk_drew ?_ | refine blk_alloc ?_ _)); exact BK382.out⟩
  have n3_ : Aside0 (IsS89 w ((w10.setCell ⟨gb382, 0, none⟩ (.int .i64 t377)).setCell ⟨gb382, 1, none⟩ (.slice Ao14 t378.length co14)) g376 t374 t381) := ⟨by repeat (first | (with_reducible first | exact HI376.out | apply IsS89.alloc | apply IsS89.drewN | apply IsS89.drew | apply IsS89.set_1 | refine IsS89.far ?_ NB376_373.out _ | refine IsS89.far ?_ NB376_382.out _) | exact HI376.out)⟩
  have n4_ : Aside0 (Below w.heap.size w ((w10.setCell ⟨gb382, 0, none⟩ (.int .i64 t377)).setCell ⟨gb382, 1, none⟩ (.slice Ao14 t378.length co14))) := ⟨by repeat (first | (with_reducible first | exact HB.out | apply below_alloc | apply pw_below_drewN | apply below_drew1 | refine below_set ?_ (IsS89.ge HI376.out) | refine below_set ?_ GE373.out | refine below_set ?_ GE382.out) | exact HB.out)⟩
  (try clear HO380)
  (try clear BK373)
  (try clear BK382)
  (try clear HI376)
  (try clear HB)
  generalize ((w10.setCell ⟨gb382, 0, none⟩ (.int .i64 t377)).setCell ⟨gb382, 1, none⟩ (.slice Ao14 t378.length co14)) = w15 at n0_ n1_ n2_ n3_ n4_ ⊢
  have HO380 := n0_
  have BK373 := n1_
  have BK382 := n2_
  have HI376 := n3_
  have HB := n4_
  clear n0_ n1_ n2_ n3_ n4_
  have n0_ := Aside0.mk (Kd.R_drew HO380.out)
  have n1_ := Aside0.mk (blk_drew BK373.out)
  have n2_ := Aside0.mk (blk_drew BK382.out)
  have n3_ := Aside0.mk (IsS89.drew HI376.out)
  have n4_ := Aside0.mk (below_drew1 HB.out)
  clear HO380
  clear BK373
  clear BK382
  clear HI376
  clear HB
  have HO380 := n0_
  have BK373 := n1_
  have BK382 := n2_
  have HI376 := n3_
  have HB := n4_
  clear n0_ n1_ n2_ n3_ n4_
  refine start_ (n := 12) (S := fun w' => w'.cell? ⟨gb382, 0, none⟩ = some (.int .i64 t377) ∧ w'.cell? ⟨gb382, 1, none⟩ = some (.slice Ao14 t378.length co14)) (ds := []) #[false, false, false, false, false, false, false, false, false, false, false, false] (by kernel_rfl) rfl rfl ⟨(blk_cell BK382.out 0).trans rfl, (blk_cell BK382.out 1).trans rfl⟩ (fun hHeld => ?_); refine with_tabW spec_DrawLineBetween.tab3 spec_DrawLineBetween.bits3 (fun HT_ HW_ => ?_)
  generalize w15.drew = w16 at HO380 BK373 BK382 HI376 HB hHeld ⊢
  refine pure_ (i := 1) (N := some 12) (v := ?_) (a' := ?_) #[false, true, false, false, false, false, false, false, false, false, false, false] rfl rfl (any_of HT_.out (by kernel_rfl)) (fun _ _ _ h => h) (Or.inl ⟨by rfl, ?_⟩) ?_ ?_
  rotate_left
  · intro w'
    go_simp
    with_reducible rfl
  rotate_left
  · simp only [Act.put, List.setIfInBounds_toArray, List.set_cons_zero, List.set_cons_succ, i64_w, i32_w]
    rfl
  refine pure_ (i := 3) (N := some 14) (v := ?_) (a' := ?_) #[false, true, false, true, false, false, false, false, false, false, false, false] rfl rfl (any_of HT_.out (by kernel_rfl)) (fun _ _ _ h => h) (Or.inl ⟨by rfl, ?_⟩) ?_ ?_
  rotate_left
  · intro w'
    go_simp
    with_reducible rfl
  rotate_left
  · simp only [Act.put, List.setIfInBounds_toArray, List.set_cons_zero, List.set_cons_succ, i64_w, i32_w]
    rfl
  refine pure_ (i := 7) (N := some 18) (v := ?_) (a' := ?_) #[false, true, false, true, false, false, false, true, false, false, false, false] rfl rfl (any_of HT_.out (by kernel_rfl)) (fun _ _ _ h => h) (Or.inl ⟨by rfl, ?_⟩) ?_ ?_
  rotate_left
  · intro w'
    go_simp
    with_reducible rfl
  rotate_left
  · simp only [Act.put, List.setIfInBounds_toArray, List.set_cons_zero, List.set_cons_succ, i64_w, i32_w]
    rfl
  refine take_ (i := 0) (N := some 11) (v := ?_) (a' := ?_) #[true, true, false, true, false, false, false, true, false, false, false, false] rfl rfl (take_ofW HT_.out HW_.out (by kernel_rfl)) (fun _ _ _ h => h) (Or.inl ⟨by rfl, ?_⟩) hHeld ?_ ?_
  rotate_left
  · rintro w' ⟨s0, s1⟩
    go_simp
    with_reducible rfl
  rotate_left
  · simp only [Act.put, List.setIfInBounds_toArray, List.set_cons_zero, List.set_cons_succ, i64_w, i32_w]
    rfl
  refine one_ (i := 2) (N := some 13) #[true, true, true, true, false, false, false, true, false, false, false, false] rfl rfl (one_of HT_.out (by kernel_rfl)) (by decide) (fun K hK => ?_)
  refine goes_ Tryd.func50 (by kernel_rfl) rfl #[.pointer (some ⟨g376, 0, none⟩), .int .i64 6] (by rfl) rfl rfl (by (try simp only [List.map_toArray, List.map_cons, List.map_nil]); first | done | rfl | (simp only [List.length_drop, List.length_take]; rfl)) ?_
  with_reducible refine (spec_l20Rd_pick.calls k g376 t374 t381 6 t383 t384 w _ ?side1 ?side2 A4.out).mono ?_
  (case side1 => repeat (first | (with_reducible first | exact HI376.out | apply IsS89.alloc | apply IsS89.drewN | apply IsS89.drew | apply IsS89.set_1 | refine IsS89.far ?_ NB376_373.out _ | refine IsS89.far ?_ NB376_382.out _) | exact HI376.out))
  (case side2 => repeat (first | (with_reducible first | exact HB.out | apply below_alloc | apply pw_below_drewN | apply below_drew1 | refine below_set ?_ (IsS89.ge HI376.out) | refine below_set ?_ GE373.out | refine below_set ?_ GE382.out) | exact HB.out))
  rintro e w17 ⟨rfl, hi, hb, hk⟩
  refine ⟨_, rfl, ?_⟩
  have n0_ := Aside0.mk (KeepBut.blk hk (g' := gb373) (o := .cells #[.int .i64 0, .slice none 0 0] 25 (0, 0)) (by (with_reducible repeat (first | refine blk_drewN ?_ _ | refine blk_drew ?_ | refine blk_alloc ?_ _)); exact BK373.out) NB373_376.out (by simp))
  have n1_ := Aside0.mk (Kd.R_mono (Kd.R_keep (IsS89.apart (show IsS89 w _ g376 t374 t381 from by repeat (first | (with_reducible first | exact HI376.out | apply IsS89.alloc | apply IsS89.drewN | apply IsS89.drew | apply IsS89.set_1 | refine IsS89.far ?_ NB376_373.out _ | refine IsS89.far ?_ NB376_382.out _) | exact HI376.out)) (by (with_reducible repeat (first | apply Kd.R_alloc | apply Kd.R_drewN | apply Kd.R_drew)); exact HO380.out) (by decide)) hk (fun _ h => h.2)) (fun _ h => h.1))
  have n2_ := Aside0.mk (KeepBut.blk hk (g' := gb382) (o := .cells #[.int .i64 t377, .slice Ao14 t378.length co14] 25 (0, 0)) (by (with_reducible repeat (first | refine blk_drewN ?_ _ | refine blk_drew ?_ | refine blk_alloc ?_ _)); exact BK382.out) NB382_376.out (by simp))
  have n3_ := Aside0.mk (hb)
  have n4_ := Aside0.mk (hi)
  clear BK373
  clear HO380
  clear BK382
  clear HB
  clear HI376
  have BK373 := n0_
  have HO380 := n1_
  have BK382 := n2_
  have HB := n3_
  have HI376 := n4_
  clear n0_ n1_ n2_ n3_ n4_
  (try clear hb)
  (try clear hb2)
  (try clear hk)
  (try clear hi)
  refine hK.out _ _ ⟨(blk_cell BK382.out 0).trans rfl, (blk_cell BK382.out 1).trans rfl⟩ (fun hHeld => ?_)
  clear hK K
  refine norm_ (a' := ?_) ?_ ?_
  rotate_left
  · show Act.put _ (some 13) _ = _
    simp only [Act.put, List.setIfInBounds_toArray, List.set_cons_zero, List.set_cons_succ, i64_w, i32_w]
    rfl
  refine one_ (i := 4) (N := some 15) #[true, true, true, true, true, false, false, true, false, false, false, false] rfl rfl (one_of HT_.out (by kernel_rfl)) (by decide) (fun K hK => ?_)
  refine goes_ Tryd.func50 (by kernel_rfl) rfl #[.pointer (some ⟨g376, 0, none⟩), .int .i64 9] (by rfl) rfl rfl (by (try simp only [List.map_toArray, List.map_cons, List.map_nil]); first | done | rfl | (simp only [List.length_drop, List.length_take]; rfl)) ?_
  with_reducible refine (spec_l20Rd_pick.calls k g376 t374 t384 9 t385 t386 w _ ?side1 ?side2 A5.out).mono ?_
  (case side1 => repeat (first | (with_reducible first | exact HI376.out | apply IsS89.alloc | apply IsS89.drewN | apply IsS89.drew | apply IsS89.set_1 | refine IsS89.far ?_ NB376_373.out _ | refine IsS89.far ?_ NB376_382.out _) | exact HI376.out))
  (case side2 => repeat (first | (with_reducible first | exact HB.out | apply below_alloc | apply pw_below_drewN | apply below_drew1 | refine below_set ?_ (IsS89.ge HI376.out) | refine below_set ?_ GE373.out | refine below_set ?_ GE382.out) | exact HB.out))
  rintro e w18 ⟨rfl, hi, hb, hk⟩
  refine ⟨_, rfl, ?_⟩
  have n0_ := Aside0.mk (KeepBut.blk hk (g' := gb373) (o := .cells #[.int .i64 0, .slice none 0 0] 25 (0, 0)) (by (with_reducible repeat (first | refine blk_drewN ?_ _ | refine blk_drew ?_ | refine blk_alloc ?_ _)); exact BK373.out) NB373_376.out (by simp))
  have n1_ := Aside0.mk (Kd.R_mono (Kd.R_keep (IsS89.apart (show IsS89 w _ g376 t374 t384 from by repeat (first | (with_reducible first | exact HI376.out | apply IsS89.alloc | apply IsS89.drewN | apply IsS89.drew | apply IsS89.set_1 | refine IsS89.far ?_ NB376_373.out _ | refine IsS89.far ?_ NB376_382.out _) | exact HI376.out)) (by (with_reducible repeat (first | apply Kd.R_alloc | apply Kd.R_drewN | apply Kd.R_drew)); exact HO380.out) (by decide)) hk (fun _ h => h.2)) (fun _ h => h.1))
  have n2_ := Aside0.mk (KeepBut.blk hk (g' := gb382) (o := .cells #[.int .i64 t377, .slice Ao14 t378.length co14] 25 (0, 0)) (by (with_reducible repeat (first | refine blk_drewN ?_ _ | refine blk_drew ?_ | refine blk_alloc ?_ _)); exact BK382.out) NB382_376.out (by simp))
  have n3_ := Aside0.mk (hb)
  have n4_ := Aside0.mk (hi)
  clear BK373
  clear HO380
  clear BK382
  clear HB
  clear HI376
  have BK373 := n0_
  have HO380 := n1_
  have BK382 := n2_
  have HB := n3_
  have HI376 := n4_
  clear n0_ n1_ n2_ n3_ n4_
  (try clear hb)
  (try clear hb2)
  (try clear hk)
  (try clear hi)
  refine hK.out _ _ ⟨(blk_cell BK382.out 0).trans rfl, (blk_cell BK382.out 1).trans rfl⟩ (fun hHeld => ?_)
  clear hK K
  refine norm_ (a' := ?_) ?_ ?_
  rotate_left
  · show Act.put _ (some 15) _ = _
    simp only [Act.put, List.setIfInBounds_toArray, List.set_cons_zero, List.set_cons_succ, i64_w, i32_w]
    rfl
  refine pure_ (i := 5) (N := some 16) (v := ?_) (a' := ?_) #[true, true, true, true, true, true, false, true, false, false, false, false] rfl rfl (any_of HT_.out (by kernel_rfl)) (fun _ _ _ h => h) (Or.inl ⟨by rfl, ?_⟩) ?_ ?_
  rotate_left
  · intro w'
    go_simp
    with_reducible rfl
  rotate_left
  · simp only [Act.put, List.setIfInBounds_toArray, List.set_cons_zero, List.set_cons_succ, i64_w, i32_w]
    rfl
  refine pure_ (i := 6) (N := some 17) (v := ?_) (a' := ?_) #[true, true, true, true, true, true, true, true, false, false, false, false] rfl rfl (any_of HT_.out (by kernel_rfl)) (fun _ _ _ h => h) (Or.inl ⟨by rfl, ?_⟩) ?_ ?_
  rotate_left
  · intro w'
    go_simp
    with_reducible rfl
  rotate_left
  · simp only [Act.put, List.setIfInBounds_toArray, List.set_cons_zero, List.set_cons_succ, i64_w, i32_w]
    rfl
  refine one_ (i := 8) (N := some 19) #[true, true, true, true, true, true, true, true, true, false, false, false] rfl rfl (one_of HT_.out (by kernel_rfl)) (by decide) (fun K hK => ?_)
  refine goes_ Tryd.func50 (by kernel_rfl) rfl #[.pointer (some ⟨g376, 0, none⟩), .int .i64 6] (by rfl) rfl rfl (by (try simp only [List.map_toArray, List.map_cons, List.map_nil]); first | done | rfl | (simp only [List.length_drop, List.length_take]; rfl)) ?_
  with_reducible refine (spec_l20Rd_pick.calls k g376 t374 t386 6 t387 t388 w _ ?side1 ?side2 A6.out).mono ?_
  (case side1 => repeat (first | (with_reducible first | exact HI376.out | apply IsS89.alloc | apply IsS89.drewN | apply IsS89.drew | apply IsS89.set_1 | refine IsS89.far ?_ NB376_373.out _ | refine IsS89.far ?_ NB376_382.out _) | exact HI376.out))
  (case side2 => repeat (first | (with_reducible first | exact HB.out | apply below_alloc | apply pw_below_drewN | apply below_drew1 | refine below_set ?_ (IsS89.ge HI376.out) | refine below_set ?_ GE373.out | refine below_set ?_ GE382.out) | exact HB.out))
  rintro e w19 ⟨rfl, hi, hb, hk⟩
  refine ⟨_, rfl, ?_⟩
  have n0_ := Aside0.mk (KeepBut.blk hk (g' := gb373) (o := .cells #[.int .i64 0, .slice none 0 0] 25 (0, 0)) (by (with_reducible repeat (first | refine blk_drewN ?_ _ | refine blk_drew ?_ | refine blk_alloc ?_ _)); exact BK373.out) NB373_376.out (by simp))
  have n1_ := Aside0.mk (Kd.R_mono (Kd.R_keep (IsS89.apart (show IsS89 w _ g376 t374 t386 from by repeat (first | (with_reducible first | exact HI376.out | apply IsS89.alloc | apply IsS89.drewN | apply IsS89.drew | apply IsS89.set_1 | refine IsS89.far ?_ NB376_373.out _ | refine IsS89.far ?_ NB376_382.out _) | exact HI376.out)) (by (with_reducible repeat (first | apply Kd.R_alloc | apply Kd.R_drewN | apply Kd.R_drew)); exact HO380.out) (by decide)) hk (fun _ h => h.2)) (fun _ h => h.1))
  have n2_ := Aside0.mk (KeepBut.blk hk (g' := gb382) (o := .cells #[.int .i64 t377, .slice Ao14 t378.length co14] 25 (0, 0)) (by (with_reducible repeat (first | refine blk_drewN ?_ _ | refine blk_drew ?_ | refine blk_alloc ?_ _)); exact BK382.out) NB382_376.out (by simp))
  have n3_ := Aside0.mk (hb)
  have n4_ := Aside0.mk (hi)
  clear BK373
  clear HO380
  clear BK382
  clear HB
  clear HI376
  have BK373 := n0_
  have HO380 := n1_
  have BK382 := n2_
  have HB := n3_
  have HI376 := n4_
  clear n0_ n1_ n2_ n3_ n4_
  (try clear hb)
  (try clear hb2)
  (try clear hk)
  (try clear hi)
  refine hK.out _ _ ⟨(blk_cell BK382.out 0).trans rfl, (blk_cell BK382.out 1).trans rfl⟩ (fun hHeld => ?_)
  clear hK K
  refine norm_ (a' := ?_) ?_ ?_
  rotate_left
  · show Act.put _ (some 19) _ = _
    simp only [Act.put, List.setIfInBounds_toArray, List.set_cons_zero, List.set_cons_succ, i64_w, i32_w]
    rfl
  refine one_ (i := 9) (N := none) #[true, true, true, true, true, true, true, true, true, true, false, false] rfl rfl (one_of HT_.out (by kernel_rfl)) (by decide) (fun K hK => ?_)
  have hs20 : w19.cell? ⟨gb373, 0, none⟩ = some (.int .i64 0) := (blk_cell BK373.out 0).trans rfl
  have hfs20 := blk_frozen BK373.out 0
  have hns20_1 := NB382_373.out
  have hms20_1 := NB373_382.out
  have hs21 : w19.cell? ⟨gb373, 1, none⟩ = some (.slice none 0 0) := (blk_cell BK373.out 1).trans rfl
  have hfs21 := blk_frozen BK373.out 1
  have hns21_1 := NB382_373.out
  have hms21_1 := NB373_382.out
  refine skip_ (w1 := ?_) (by rfl) rfl ?_ ?_
  rotate_left
  · go_simp
    rfl
  refine hK.out _ _ ⟨((cell_far (p := ⟨gb373, _, none⟩) NB382_373.out _).trans (((cell_far (p := ⟨gb373, _, none⟩) NB382_373.out _).trans (hHeld.1)))), ((cell_far (p := ⟨gb373, _, none⟩) NB382_373.out _).trans (((cell_far (p := ⟨gb373, _, none⟩) NB382_373.out _).trans (hHeld.2))))⟩ (fun hHeld => ?_)
  clear hK K
  refine pure_ (i := 10) (N := some 3) (v := ?_) (a' := ?_) #[true, true, true, true, true, true, true, true, true, true, true, false] rfl rfl (any_of HT_.out (by kernel_rfl)) (fun _ _ _ h => h) (Or.inl ⟨by rfl, ?_⟩) ?_ ?_
  rotate_left
  · intro w'
    go_simp
    with_reducible rfl
  rotate_left
  · simp only [Act.put, List.setIfInBounds_toArray, List.set_cons_zero, List.set_cons_succ, i64_w, i32_w]
    rfl
  refine pure_ (i := 11) (N := some 4) (v := ?_) (a' := ?_) #[true, true, true, true, true, true, true, true, true, true, true, true] rfl rfl (any_of HT_.out (by kernel_rfl)) (fun _ _ _ h => h) (Or.inl ⟨by rfl, ?_⟩) ?_ ?_
  rotate_left
  · intro w'
    go_simp
    with_reducible rfl
  rotate_left
  · simp only [Act.put, List.setIfInBounds_toArray, List.set_cons_zero, List.set_cons_succ, i64_w, i32_w]
    rfl
  refine done_ (done_of HT_.out (by kernel_rfl)) ?_
  try go_wp2
  refine bodyPost_ret (results_ctt rfl _ _ gb373 25 #[.int .i64 t377, .slice Ao14 t378.length co14] (0, 0) _ rfl (by (with_reducible repeat (first | refine blk_drewN ?_ _ | refine blk_drew ?_ | refine blk_alloc ?_ _)); refine blk_put (cs := #[.int .i64 t377, .slice none 0 0]) ?_ 1 _ rfl; (with_reducible repeat (first | refine blk_drewN ?_ _ | refine blk_drew ?_ | refine blk_alloc ?_ _)); refine blk_put (cs := #[.int .i64 0, .slice none 0 0]) ?_ 0 _ rfl; (with_reducible repeat (first | refine blk_drewN ?_ _ | refine blk_drew ?_ | refine blk_alloc ?_ _)); exact BK373.out) Tryd.underlying25 rfl (by kernel_rfl)) rfl ?_
  exact ⟨_, by first | rfl | (simp [errW_none, errW_some] <;> rfl) | (simp [*, errW_none, errW_some] <;> rfl), by (with_reducible repeat (first | apply Kd.R_alloc | apply Kd.R_drewN | apply Kd.R_drew)); exact Kd.R_mono (Kd.R_far (p := ⟨gb373, 1, none⟩) (Kd.R_far (p := ⟨gb373, 0, none⟩) (Kd.R_types HO380.out BK373.out (by decide)) (fun _ hk => hk.2) (.int .i64 t377)) (fun _ hk => hk.2) (.slice Ao14 t378.length co14)) (fun _ hk => trivial), by repeat (first | (with_reducible first | exact HB.out | apply below_alloc | apply pw_below_drewN | apply below_drew1 | refine below_set ?_ (IsS89.ge HI376.out) | refine below_set ?_ GE373.out | refine below_set ?_ GE382.out) | exact HB.out)⟩

end Go.Proofs.YtlahlfjhfmldaaaDoor.P

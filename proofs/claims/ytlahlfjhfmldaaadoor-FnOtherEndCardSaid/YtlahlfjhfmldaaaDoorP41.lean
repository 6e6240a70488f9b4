/- Contracts of Go functions of this seat's translation, written by this repo's wip/mk.py: it calls the kit's print.py with contracts typed by hand in place of functions that it does not take. Not trusted: Lean checks it. -/
import Derived.Test.YtlahlfjhfmldaaaDoorP0
import Derived.Test.YtlahlfjhfmldaaaDoorP2
import Derived.Test.YtlahlfjhfmldaaaDoorP3
import Derived.Test.YtlahlfjhfmldaaaDoorP6
import Derived.Test.YtlahlfjhfmldaaaDoorP8
namespace Go.Proofs.YtlahlfjhfmldaaaDoor.P
open Go.RowKit Go.Proofs.YtlahlfjhfmldaaaDoorW.PrintWords Go.Proofs.YtlahlfjhfmldaaaDoorW.PrintLast Go.Proofs.YtlahlfjhfmldaaaDoorW.PrintMore
attribute [local go_sem] max2_int min2_int max_two min_two max_three min_three max_four min_four   -- for this text's walks alone
set_option linter.unusedVariables false
set_option linter.unusedSimpArgs false

/-! ### spec_DrawOtherEnd: function 33 -/
def spec_DrawOtherEnd.f (k : Nat) (l0 : List Int) : Option (Int × (List (S30)) × Int × Int) := (spec_l20Open.f l0).bind fun bt412 => ((spec_l20Net.f k bt412.1 bt412.2 9).bind fun bt415 => ((spec_l20Rd_pick.f k bt412.1 bt415.2.2 (wrap64 ((bt415.2.1.length : Int) + 2))).bind fun bt421 => ((spec_l1In.f (wrap64 (bt421.1 - 1)) 0 (wrap64 ((bt415.2.1.length : Int) - 1))).bind fun t423 => (if t423 = true then ((spec_l20Rd_pick.f k bt412.1 bt421.2 3).bind fun bt424 => (if bt424.1 > 0 then (if 0 ≤ (wrap64 (bt421.1 - 1)) then (if (wrap64 (bt421.1 - 1)) < (bt415.2.1.length : Int) then (some (bt415.1, bt415.2.1, wrap64 (bt421.1 - 1), (rd_T30 bt415.2.1 (wrap64 (bt421.1 - 1))).f1)) else (none)) else (none)) else ((spec_l20Rd_pick.f k bt412.1 bt424.2 8).bind fun bt427 => (some (bt415.1, bt415.2.1, wrap64 (bt421.1 - 1), bt427.1))))) else ((spec_l20Rd_pick.f k bt412.1 bt421.2 8).bind fun bt429 => (some (bt415.1, bt415.2.1, wrap64 (bt421.1 - 1), bt429.1)))))))
theorem spec_DrawOtherEnd.mono : ∀ a0 k, LeO (spec_DrawOtherEnd.f k a0) (spec_DrawOtherEnd.f (k + 1) a0) := by
  intro a0 k
  unfold spec_DrawOtherEnd.f
  repeat' first
      | (with_reducible exact spec_l20Net.mono _ _ _ _)
      | (with_reducible exact spec_l20Rd_pick.mono _ _ _ _)
      | (with_reducible exact LeO.refl _)
      | (with_reducible exact LeO.none _)
      | (with_reducible refine LeO.ite ?_ ?_)
      | (with_reducible refine LeO.bind ?_ (fun _ => ?_))
      | exact spec_l20Net.mono _ _ _ _
      | exact spec_l20Rd_pick.mono _ _ _ _
      | exact LeO.none _
      | refine LeO.ite ?_ ?_
      | refine LeO.bind ?_ (fun _ => ?_)
def spec_DrawOtherEnd.T5 : Bool × List (List Nat × List Nat) := (true, [([], []), ([], []), ([], []), ([2], [2]), ([], []), ([3, 4], [3, 4]), ([5], [5]), ([6], [6]), ([0, 0], [0]), ([1, 8, 0, 1, 8], [1]), ([7, 9, 0, 1, 2, 3, 4, 5, 6, 7, 8, 9], [7])])
def spec_DrawOtherEnd.B5 : List Nat := [0, 0, 0, 4, 0, 28, 60, 124, 1, 259, 1023]
theorem spec_DrawOtherEnd.tab5 : rtab .any (opsOf Tryd.f33 5) = spec_DrawOtherEnd.T5 := by kernel_rfl
theorem spec_DrawOtherEnd.bits5 : waitsOk spec_DrawOtherEnd.T5.2 spec_DrawOtherEnd.B5 = true := by kernel_rfl
set_option maxHeartbeats 8000000 in
set_option maxRecDepth 100000 in
theorem spec_DrawOtherEnd.calls (k : Nat) (A0 : Option Addr) (c0 : Nat) (l0 : List Int) (r1 : Int) (r2 : List (S30)) (r3 : Int) (r4 : Int) (w : World) (hr0 : Kd.C (Kd.int .u8) w A0 l0.length l0) (hc0 : l0.length ≤ c0) (h : spec_DrawOtherEnd.f k l0 = some (r1, r2, r3, r4)) :
    Calls Tryd.prog 33 #[.slice A0 l0.length c0] w fun e w' => ∃ v1_ : Value, e = .returned (.tuple #[.agg #[.int .i64 r1, v1_], .int .i64 r3, .int .i64 r4]) ∧ Kd.R k30 30 w' w.heap.size (fun _ => True) v1_ r2 ∧ Below w.heap.size w w' := by
  have hu25 := Tryd.underlying25
  have HR0 := Aside0.mk hr0
  have HC0 := Aside0.mk hc0
  clear hr0 hc0
  have HB := Aside0.mk (Below.refl w.heap.size w)
  have H : ((spec_l20Open.f l0).bind fun bt412 => ((spec_l20Net.f k bt412.1 bt412.2 9).bind fun bt415 => ((spec_l20Rd_pick.f k bt412.1 bt415.2.2 (wrap64 ((bt415.2.1.length : Int) + 2))).bind fun bt421 => ((spec_l1In.f (wrap64 (bt421.1 - 1)) 0 (wrap64 ((bt415.2.1.length : Int) - 1))).bind fun t423 => (if t423 = true then ((spec_l20Rd_pick.f k bt412.1 bt421.2 3).bind fun bt424 => (if bt424.1 > 0 then (if 0 ≤ (wrap64 (bt421.1 - 1)) then (if (wrap64 (bt421.1 - 1)) < (bt415.2.1.length : Int) then (some (bt415.1, bt415.2.1, wrap64 (bt421.1 - 1), (rd_T30 bt415.2.1 (wrap64 (bt421.1 - 1))).f1)) else (none)) else (none)) else ((spec_l20Rd_pick.f k bt412.1 bt424.2 8).bind fun bt427 => (some (bt415.1, bt415.2.1, wrap64 (bt421.1 - 1), bt427.1))))) else ((spec_l20Rd_pick.f k bt412.1 bt421.2 8).bind fun bt429 => (some (bt415.1, bt415.2.1, wrap64 (bt421.1 - 1), bt429.1)))))))) = some (r1, r2, r3, r4) := h
  clear h
  replace H := Option.bind_eq_some_iff.mp H
  obtain ⟨⟨t412, t413⟩, A20, H⟩ := H
  replace H : ((spec_l20Net.f k t412 t413 9).bind fun bt415 => ((spec_l20Rd_pick.f k t412 bt415.2.2 (wrap64 ((bt415.2.1.length : Int) + 2))).bind fun bt421 => ((spec_l1In.f (wrap64 (bt421.1 - 1)) 0 (wrap64 ((bt415.2.1.length : Int) - 1))).bind fun t423 => (if t423 = true then ((spec_l20Rd_pick.f k t412 bt421.2 3).bind fun bt424 => (if bt424.1 > 0 then (if 0 ≤ (wrap64 (bt421.1 - 1)) then (if (wrap64 (bt421.1 - 1)) < (bt415.2.1.length : Int) then (some (bt415.1, bt415.2.1, wrap64 (bt421.1 - 1), (rd_T30 bt415.2.1 (wrap64 (bt421.1 - 1))).f1)) else (none)) else (none)) else ((spec_l20Rd_pick.f k t412 bt424.2 8).bind fun bt427 => (some (bt415.1, bt415.2.1, wrap64 (bt421.1 - 1), bt427.1))))) else ((spec_l20Rd_pick.f k t412 bt421.2 8).bind fun bt429 => (some (bt415.1, bt415.2.1, wrap64 (bt421.1 - 1), bt429.1))))))) = some (r1, r2, r3, r4) := H
  have A2 := Aside0.mk A20
  clear A20
  replace H := Option.bind_eq_some_iff.mp H
  obtain ⟨⟨t415, t416, t419⟩, A30, H⟩ := H
  replace H : ((spec_l20Rd_pick.f k t412 t419 (wrap64 ((t416.length : Int) + 2))).bind fun bt421 => ((spec_l1In.f (wrap64 (bt421.1 - 1)) 0 (wrap64 ((t416.length : Int) - 1))).bind fun t423 => (if t423 = true then ((spec_l20Rd_pick.f k t412 bt421.2 3).bind fun bt424 => (if bt424.1 > 0 then (if 0 ≤ (wrap64 (bt421.1 - 1)) then (if (wrap64 (bt421.1 - 1)) < (t416.length : Int) then (some (t415, t416, wrap64 (bt421.1 - 1), (rd_T30 t416 (wrap64 (bt421.1 - 1))).f1)) else (none)) else (none)) else ((spec_l20Rd_pick.f k t412 bt424.2 8).bind fun bt427 => (some (t415, t416, wrap64 (bt421.1 - 1), bt427.1))))) else ((spec_l20Rd_pick.f k t412 bt421.2 8).bind fun bt429 => (some (t415, t416, wrap64 (bt421.1 - 1), bt429.1)))))) = some (r1, r2, r3, r4) := H
  have A3 := Aside0.mk A30
  clear A30
  replace H := Option.bind_eq_some_iff.mp H
  obtain ⟨⟨t421, t422⟩, A40, H⟩ := H
  replace H : ((spec_l1In.f (wrap64 (t421 - 1)) 0 (wrap64 ((t416.length : Int) - 1))).bind fun t423 => (if t423 = true then ((spec_l20Rd_pick.f k t412 t422 3).bind fun bt424 => (if bt424.1 > 0 then (if 0 ≤ (wrap64 (t421 - 1)) then (if (wrap64 (t421 - 1)) < (t416.length : Int) then (some (t415, t416, wrap64 (t421 - 1), (rd_T30 t416 (wrap64 (t421 - 1))).f1)) else (none)) else (none)) else ((spec_l20Rd_pick.f k t412 bt424.2 8).bind fun bt427 => (some (t415, t416, wrap64 (t421 - 1), bt427.1))))) else ((spec_l20Rd_pick.f k t412 t422 8).bind fun bt429 => (some (t415, t416, wrap64 (t421 - 1), bt429.1))))) = some (r1, r2, r3, r4) := H
  have A4 := Aside0.mk A40
  clear A40
  replace H := Option.bind_eq_some_iff.mp H
  obtain ⟨t423, A50, H⟩ := H
  replace H : (if t423 = true then ((spec_l20Rd_pick.f k t412 t422 3).bind fun bt424 => (if bt424.1 > 0 then (if 0 ≤ (wrap64 (t421 - 1)) then (if (wrap64 (t421 - 1)) < (t416.length : Int) then (some (t415, t416, wrap64 (t421 - 1), (rd_T30 t416 (wrap64 (t421 - 1))).f1)) else (none)) else (none)) else ((spec_l20Rd_pick.f k t412 bt424.2 8).bind fun bt427 => (some (t415, t416, wrap64 (t421 - 1), bt427.1))))) else ((spec_l20Rd_pick.f k t412 t422 8).bind fun bt429 => (some (t415, t416, wrap64 (t421 - 1), bt429.1)))) = some (r1, r2, r3, r4) := H
  have A5 := Aside0.mk A50
  clear A50
  by_cases c6 : t423 = true
  · subst c6
    have H1 : ((spec_l20Rd_pick.f k t412 t422 3).bind fun bt424 => (if bt424.1 > 0 then (if 0 ≤ (wrap64 (t421 - 1)) then (if (wrap64 (t421 - 1)) < (t416.length : Int) then (some (t415, t416, wrap64 (t421 - 1), (rd_T30 t416 (wrap64 (t421 - 1))).f1)) else (none)) else (none)) else ((spec_l20Rd_pick.f k t412 bt424.2 8).bind fun bt427 => (some (t415, t416, wrap64 (t421 - 1), bt427.1))))) = some (r1, r2, r3, r4) := by rw [if_pos rfl] at H; exact H
    clear H
    have H := H1
    clear H1
    replace H := Option.bind_eq_some_iff.mp H
    obtain ⟨⟨t424, t425⟩, A70, H⟩ := H
    replace H : (if t424 > 0 then (if 0 ≤ (wrap64 (t421 - 1)) then (if (wrap64 (t421 - 1)) < (t416.length : Int) then (some (t415, t416, wrap64 (t421 - 1), (rd_T30 t416 (wrap64 (t421 - 1))).f1)) else (none)) else (none)) else ((spec_l20Rd_pick.f k t412 t425 8).bind fun bt427 => (some (t415, t416, wrap64 (t421 - 1), bt427.1)))) = some (r1, r2, r3, r4) := H
    have A7 := Aside0.mk A70
    clear A70
    by_cases c8 : t424 > 0
    · rw [if_pos c8] at H
      have c8b0 : decide (0 < t424) = true := decide_eq_true c8
      clear c8
      obtain ⟨ji9, hji9⟩ : ∃ j_ : Int, (wrap64 (t421 - 1)) = j_ := ⟨_, rfl⟩
      replace H : (if 0 ≤ (ji9) then (if (ji9) < (t416.length : Int) then (some (t415, t416, ji9, (rd_T30 t416 (ji9)).f1)) else (none)) else (none)) = some (r1, r2, r3, r4) := by first | (rw [hji9] at H; exact H) | (simp only [hji9] at H ⊢; exact H)
      (try rw [hji9] at A2)
      (try rw [hji9] at A3)
      (try rw [hji9] at A4)
      (try rw [hji9] at A5)
      (try rw [hji9] at A7)
      have hji9w : (IntKind.i64.wrap (t421 - 1)) = ji9 := (i64_w _).trans hji9
      by_cases c10 : 0 ≤ (ji9)
      · rw [if_pos c10] at H
        have c10b0 : decide (0 ≤ (ji9)) = true := decide_eq_true c10
        clear c10
        by_cases c11 : (ji9) < (t416.length : Int)
        · rw [if_pos c11] at H
          have c11b0 : decide ((ji9) < (t416.length : Int)) = true := decide_eq_true c11
          clear c11
          simp only [Option.some.injEq, Prod.mk.injEq] at H
          obtain ⟨rfl, rfl, rfl, rfl⟩ := H
          go_enter Tryd.func33, Tryd.ntmps33
          try go_wp2_with (first | ((with_reducible refine gate_dst (N := 2) rfl ?_); refine box_event ?hg (N := 2) ?hd (cs := #[.int .i64 0, .slice none 0 0]) (t := 25) ?hr ?_; (case hd => rfl); (case hg => rfl); (case hr => first | (go_simp; done) | (go_simp; rfl)); intro gb411 hg w12 hbox hb; have n0_ := Aside0.mk (below_step (by repeat (first | (with_reducible first | exact HB.out | apply below_alloc | apply pw_below_drewN | apply below_drew1) | exact HB.out)) hb); have n1_ := Aside0.mk (hbox); have n2_ := Aside0.mk ((by rw [hg]; exact (below_size (by repeat (first | (with_reducible first | exact HB.out | apply below_alloc | apply pw_below_drewN | apply below_drew1) | exact HB.out))) : w.heap.size ≤ gb411)); have n3_ := Aside0.mk ((by rw [hg]; exact (below_size (by repeat (first | (with_reducible first | exact HB.out | apply below_alloc | apply pw_below_drewN | apply below_drew1) | exact HB.out))) : w.heap.size ≤ gb411)); clear HB; have HB := n0_; have BK411 := n1_; have GW411 := n2_; have GE411 := n3_; clear n0_ n1_ n2_ n3_; clear hb hbox hg) | ((with_reducible refine gate_callee (f := 47) rfl ?_); refine goesL_ (some 9) rfl rfl Tryd.func47 (by kernel_rfl) rfl #[.slice A0 l0.length c0] rfl (by (try simp only [List.map_toArray, List.map_cons, List.map_nil]); first | done | rfl | (simp only [List.length_drop, List.length_take]; rfl)) ?_; (with_reducible refine (spec_l20Open.calls _ _ l0 t412 t413 w _ ?side1 ?side2 ?side3 A2.out).mono ?_); (case side1 => repeat (first | (with_reducible first | exact HB.out | apply below_alloc | apply pw_below_drewN | apply below_drew1 | refine below_set ?_ GE411.out) | exact HB.out)); (case side2 => exact HR0.out); (case side3 => exact HC0.out); rintro e w13 ⟨g414, rfl, hi, hb, hb2⟩; refine ⟨_, rfl, ?_⟩; have n0_ := Aside0.mk (blk_below (g := gb411) (o := .cells #[.int .i64 0, .slice none 0 0] 25 (0, 0)) (by (with_reducible repeat (first | refine blk_drewN ?_ _ | refine blk_drew ?_ | refine blk_alloc ?_ _)); exact BK411.out) hb2); have n1_ := Aside0.mk (hb); have n2_ := Aside0.mk (hi); have n3_ := Aside0.mk (IsS89.ne_blk hi (blk_below (g := gb411) (o := .cells #[.int .i64 0, .slice none 0 0] 25 (0, 0)) (by (with_reducible repeat (first | refine blk_drewN ?_ _ | refine blk_drew ?_ | refine blk_alloc ?_ _)); exact BK411.out) hb2) (by decide)); have n4_ := Aside0.mk (Ne.symm (IsS89.ne_blk hi (blk_below (g := gb411) (o := .cells #[.int .i64 0, .slice none 0 0] 25 (0, 0)) (by (with_reducible repeat (first | refine blk_drewN ?_ _ | refine blk_drew ?_ | refine blk_alloc ?_ _)); exact BK411.out) hb2) (by decide))); clear BK411; clear HB; have BK411 := n0_; have HB := n1_; have HI414 := n2_; have NB414_411 := n3_; have NB411_414 := n4_; clear n0_ n1_ n2_ n3_ n4_; (try clear hb); (try clear hb2); (try clear hk); (try clear hi)) | ((with_reducible refine gate_callee (f := 46) rfl ?_); refine goesL_ (some 11) rfl rfl Tryd.func46 (by kernel_rfl) rfl #[.pointer (some ⟨g414, 0, none⟩), .int .i64 9] rfl (by (try simp only [List.map_toArray, List.map_cons, List.map_nil]); first | done | rfl | (simp only [List.length_drop, List.length_take]; rfl)) ?_; (with_reducible refine (spec_l20Net.calls k g414 t412 t413 9 t415 t416 t419 w _ ?side1 ?side2 A3.out).mono ?_); (case side1 => repeat (first | (with_reducible first | exact HI414.out | apply IsS89.alloc | apply IsS89.drewN | apply IsS89.drew | apply IsS89.set_1 | refine IsS89.far ?_ NB414_411.out _) | exact HI414.out)); (case side2 => repeat (first | (with_reducible first | exact HB.out | apply below_alloc | apply pw_below_drewN | apply below_drew1 | refine below_set ?_ (IsS89.ge HI414.out) | refine below_set ?_ GE411.out) | exact HB.out)); rintro e w14 ⟨v417, rfl, ho0, hi, hb, hk⟩; refine ⟨_, rfl, ?_⟩; have n0_ := Aside0.mk (KeepBut.blk hk (g' := gb411) (o := .cells #[.int .i64 0, .slice none 0 0] 25 (0, 0)) (by (with_reducible repeat (first | refine blk_drewN ?_ _ | refine blk_drew ?_ | refine blk_alloc ?_ _)); exact BK411.out) NB411_414.out (by simp)); have n1_ := Aside0.mk (Kd.R_lower ho0 (below_size (by repeat (first | (with_reducible first | exact HB.out | apply below_alloc | apply pw_below_drewN | apply below_drew1 | refine below_set ?_ (IsS89.ge HI414.out) | refine below_set ?_ GE411.out) | exact HB.out)))); have n2_ := Aside0.mk (hb); have n3_ := Aside0.mk (hi); clear BK411; clear HB; clear HI414; have BK411 := n0_; have HO418 := n1_; have HB := n2_; have HI414 := n3_; clear n0_ n1_ n2_ n3_; (try clear hb); (try clear hb2); (try clear hk); (try clear hi); (try clear ho0)) | ((with_reducible refine gate_dst (N := 6) rfl ?_); refine box_event ?hg (N := 6) ?hd (cs := #[.int .i64 0, .slice none 0 0]) (t := 25) ?hr ?_; (case hd => rfl); (case hg => rfl); (case hr => first | (go_simp; done) | (go_simp; rfl)); intro gb420 hg w15 hbox hb; have n0_ := Aside0.mk (Kd.R_below (by (with_reducible repeat (first | apply Kd.R_alloc | apply Kd.R_drewN | apply Kd.R_drew)); exact HO418.out) hb); have n1_ := Aside0.mk (blk_below (g := gb411) (o := .cells #[.int .i64 0, .slice none 0 0] 25 (0, 0)) (by (with_reducible repeat (first | refine blk_drewN ?_ _ | refine blk_drew ?_ | refine blk_alloc ?_ _)); exact BK411.out) hb); have n2_ := Aside0.mk (IsS89.below (by repeat (first | (with_reducible first | exact HI414.out | apply IsS89.alloc | apply IsS89.drewN | apply IsS89.drew | apply IsS89.set_1 | refine IsS89.far ?_ NB414_411.out _) | exact HI414.out)) hb); have n3_ := Aside0.mk (below_step (by repeat (first | (with_reducible first | exact HB.out | apply below_alloc | apply pw_below_drewN | apply below_drew1 | refine below_set ?_ (IsS89.ge HI414.out) | refine below_set ?_ GE411.out) | exact HB.out)) hb); have n4_ := Aside0.mk (hbox); have n5_ := Aside0.mk ((by rw [hg]; exact (below_size (by repeat (first | (with_reducible first | exact HB.out | apply below_alloc | apply pw_below_drewN | apply below_drew1 | refine below_set ?_ (IsS89.ge HI414.out) | refine below_set ?_ GE411.out) | exact HB.out))) : w.heap.size ≤ gb420)); have n6_ := Aside0.mk ((by rw [hg]; exact (below_size (by repeat (first | (with_reducible first | exact HB.out | apply below_alloc | apply pw_below_drewN | apply below_drew1 | refine below_set ?_ (IsS89.ge HI414.out) | refine below_set ?_ GE411.out) | exact HB.out))) : w.heap.size ≤ gb420)); have n7_ := Aside0.mk ((by rw [hg]; exact Nat.ne_of_lt (blk_lt (g := gb411) (o := .cells #[.int .i64 0, .slice none 0 0] 25 (0, 0)) (by (with_reducible repeat (first | refine blk_drewN ?_ _ | refine blk_drew ?_ | refine blk_alloc ?_ _)); exact BK411.out)) : gb411 ≠ gb420)); have n8_ := Aside0.mk ((by rw [hg]; exact Nat.ne_of_gt (blk_lt (g := gb411) (o := .cells #[.int .i64 0, .slice none 0 0] 25 (0, 0)) (by (with_reducible repeat (first | refine blk_drewN ?_ _ | refine blk_drew ?_ | refine blk_alloc ?_ _)); exact BK411.out)) : gb420 ≠ gb411)); have n9_ := Aside0.mk ((by rw [hg]; exact Nat.ne_of_lt (IsS89.lt (show IsS89 w _ g414 t412 t419 from by repeat (first | (with_reducible first | exact HI414.out | apply IsS89.alloc | apply IsS89.drewN | apply IsS89.drew | apply IsS89.set_1 | refine IsS89.far ?_ NB414_411.out _) | exact HI414.out))) : g414 ≠ gb420)); have n10_ := Aside0.mk ((by rw [hg]; exact Nat.ne_of_gt (IsS89.lt (show IsS89 w _ g414 t412 t419 from by repeat (first | (with_reducible first | exact HI414.out | apply IsS89.alloc | apply IsS89.drewN | apply IsS89.drew | apply IsS89.set_1 | refine IsS89.far ?_ NB414_411.out _) | exact HI414.out))) : gb420 ≠ g414)); clear HO418; clear BK411; clear HI414; clear HB; have HO418 := n0_; have BK411 := n1_; have HI414 := n2_; have HB := n3_; have BK420 := n4_; have GW420 := n5_; have GE420 := n6_; have NB411_420 := n7_; have NB420_411 := n8_; have NB414_420 := n9_; have NB420_414 := n10_; clear n0_ n1_ n2_ n3_ n4_ n5_ n6_ n7_ n8_ n9_ n10_; clear hb hbox hg; have hnb16 := NB420_411.out; have hnc16 := NB411_420.out; have hnb17 := NB420_414.out; have hnc17 := NB414_420.out; have hcz18_0 : w15.cell? ⟨gb420, 0, none⟩ = some (.int .i64 0) := (blk_cell BK420.out 0).trans rfl; have hcz18_1 : w15.cell? ⟨gb420, 1, none⟩ = some (.slice none 0 0) := (blk_cell BK420.out 1).trans rfl; have hfz18_0 := blk_frozen BK420.out 0; have hfz18_1 := blk_frozen BK420.out 1; obtain ⟨Ao19, co19, eo19⟩ := Kd.R_slice HO418.out; subst eo19) | ((with_reducible refine gate_callee (f := 50) rfl ?_); refine goesL_ (some 17) rfl rfl Tryd.func50 (by kernel_rfl) rfl #[.pointer (some ⟨g414, 0, none⟩), .int .i64 (wrap64 ((t416.length : Int) + 2))] rfl (by (try simp only [List.map_toArray, List.map_cons, List.map_nil]); first | done | rfl | (simp only [List.length_drop, List.length_take]; rfl)) ?_; (with_reducible refine (spec_l20Rd_pick.calls k g414 t412 t419 (wrap64 ((t416.length : Int) + 2)) t421 t422 w _ ?side1 ?side2 A4.out).mono ?_); (case side1 => repeat (first | (with_reducible first | exact HI414.out | apply IsS89.alloc | apply IsS89.drewN | apply IsS89.drew | apply IsS89.set_1 | refine IsS89.far ?_ NB414_411.out _ | refine IsS89.far ?_ NB414_420.out _) | exact HI414.out)); (case side2 => repeat (first | (with_reducible first | exact HB.out | apply below_alloc | apply pw_below_drewN | apply below_drew1 | refine below_set ?_ (IsS89.ge HI414.out) | refine below_set ?_ GE411.out | refine below_set ?_ GE420.out) | exact HB.out)); rintro e w20 ⟨rfl, hi, hb, hk⟩; refine ⟨_, rfl, ?_⟩; have n0_ := Aside0.mk (KeepBut.blk hk (g' := gb411) (o := .cells #[.int .i64 0, .slice none 0 0] 25 (0, 0)) (by (with_reducible repeat (first | refine blk_drewN ?_ _ | refine blk_drew ?_ | refine blk_alloc ?_ _)); refine blk_far ?_ NB411_420.out _; (with_reducible repeat (first | refine blk_drewN ?_ _ | refine blk_drew ?_ | refine blk_alloc ?_ _)); refine blk_far ?_ NB411_420.out _; (with_reducible repeat (first | refine blk_drewN ?_ _ | refine blk_drew ?_ | refine blk_alloc ?_ _)); exact BK411.out) NB411_414.out (by simp)); have n1_ := Aside0.mk (Kd.R_mono (Kd.R_keep (IsS89.apart (show IsS89 w _ g414 t412 t419 from by repeat (first | (with_reducible first | exact HI414.out | apply IsS89.alloc | apply IsS89.drewN | apply IsS89.drew | apply IsS89.set_1 | refine IsS89.far ?_ NB414_411.out _ | refine IsS89.far ?_ NB414_420.out _) | exact HI414.out)) (by (with_reducible repeat (first | apply Kd.R_alloc | apply Kd.R_drewN | apply Kd.R_drew)); exact (Kd.R_mono (Kd.R_far (p := ⟨gb420, 1, none⟩) (Kd.R_far (p := ⟨gb420, 0, none⟩) (Kd.R_types HO418.out BK420.out (by decide)) (fun _ hk => hk.2) (.int .i64 t415)) (fun _ hk => hk.2) (.slice Ao19 t416.length co19)) (fun _ h_ => h_.1))) (by decide)) hk (fun _ h => h.2)) (fun _ h => h.1)); have n2_ := Aside0.mk (KeepBut.blk hk (g' := gb420) (o := .cells #[.int .i64 t415, .slice Ao19 t416.length co19] 25 (0, 0)) (by (with_reducible repeat (first | refine blk_drewN ?_ _ | refine blk_drew ?_ | refine blk_alloc ?_ _)); refine blk_put (cs := #[.int .i64 t415, .slice none 0 0]) ?_ 1 _ rfl; (with_reducible repeat (first | refine blk_drewN ?_ _ | refine blk_drew ?_ | refine blk_alloc ?_ _)); refine blk_put (cs := #[.int .i64 0, .slice none 0 0]) ?_ 0 _ rfl; (with_reducible repeat (first | refine blk_drewN ?_ _ | refine blk_drew ?_ | refine blk_alloc ?_ _)); exact BK420.out) NB420_414.out (by simp)); have n3_ := Aside0.mk (hb); have n4_ := Aside0.mk (hi); clear BK411; clear HO418; clear BK420; clear HB; clear HI414; have BK411 := n0_; have HO418 := n1_; have BK420 := n2_; have HB := n3_; have HI414 := n4_; clear n0_ n1_ n2_ n3_ n4_; (try clear hb); (try clear hb2); (try clear hk); (try clear hi); have hcz21_0 : w20.cell? ⟨gb420, 0, none⟩ = some (.int .i64 t415) := (blk_cell BK420.out 0).trans rfl; have hcz21_1 : w20.cell? ⟨gb420, 1, none⟩ = some (.slice Ao19 t416.length co19) := (blk_cell BK420.out 1).trans rfl; have hfz21_0 := blk_frozen BK420.out 0; have hfz21_1 := blk_frozen BK420.out 1) | ((with_reducible refine gate_callee (f := 49) rfl ?_); refine goesL_ (some 24) rfl rfl Tryd.func49 (by kernel_rfl) rfl #[.int .i64 ji9, .int .i64 0, .int .i64 (wrap64 ((t416.length : Int) - 1))] rfl (by (try simp only [List.map_toArray, List.map_cons, List.map_nil]); first | done | (simp only [hji9]; rfl) | rfl | (simp only [List.length_drop, List.length_take]; rfl)) ?_; (with_reducible refine (spec_l1In.calls ji9 0 (wrap64 ((t416.length : Int) - 1)) true _ A5.out).mono ?_); rintro e w' ⟨rfl, ⟨nd, rfl⟩⟩; refine ⟨_, rfl, ?_⟩; (try (rw [drewN_self w20]; generalize hq_ : World.drewN w20 _ = w20; have n0_ : Aside0 (Kd.R k30 30 w20 w.heap.size (fun _ => True) (.slice Ao19 t416.length co19) t416) := ⟨by rw [← hq_]; exact (by (with_reducible repeat (first | apply Kd.R_alloc | apply Kd.R_drewN | apply Kd.R_drew)); exact HO418.out)⟩; have n1_ : Aside0 (w20.heap[gb411]? = some (.cells #[.int .i64 0, .slice none 0 0] 25 (0, 0))) := ⟨by rw [← hq_]; exact (by (with_reducible repeat (first | refine blk_drewN ?_ _ | refine blk_drew ?_ | refine blk_alloc ?_ _)); exact BK411.out)⟩; have n2_ : Aside0 (w20.heap[gb420]? = some (.cells #[.int .i64 t415, .slice Ao19 t416.length co19] 25 (0, 0))) := ⟨by rw [← hq_]; exact (by (with_reducible repeat (first | refine blk_drewN ?_ _ | refine blk_drew ?_ | refine blk_alloc ?_ _)); exact BK420.out)⟩; have n3_ : Aside0 (IsS89 w w20 g414 t412 t422) := ⟨by rw [← hq_]; exact (by repeat (first | (with_reducible first | exact HI414.out | apply IsS89.alloc | apply IsS89.drewN | apply IsS89.drew | apply IsS89.set_1 | refine IsS89.far ?_ NB414_411.out _ | refine IsS89.far ?_ NB414_420.out _) | exact HI414.out))⟩; have n4_ : Aside0 (Below w.heap.size w w20) := ⟨by rw [← hq_]; exact (by repeat (first | (with_reducible first | exact HB.out | apply below_alloc | apply pw_below_drewN | apply below_drew1 | refine below_set ?_ (IsS89.ge HI414.out) | refine below_set ?_ GE411.out | refine below_set ?_ GE420.out) | exact HB.out))⟩; clear HO418 BK411 BK420 HI414 HB hq_; have HO418 := n0_; have BK411 := n1_; have BK420 := n2_; have HI414 := n3_; have HB := n4_; clear n0_ n1_ n2_ n3_ n4_))) | (go_at_call 50; (with_reducible refine (spec_l20Rd_pick.calls k g414 t412 t422 3 t424 t425 w _ ?side1 ?side2 A7.out).mono ?_); (case side1 => repeat (first | (with_reducible first | exact HI414.out | apply IsS89.alloc | apply IsS89.drewN | apply IsS89.drew | apply IsS89.set_1 | refine IsS89.far ?_ NB414_411.out _ | refine IsS89.far ?_ NB414_420.out _) | exact HI414.out)); (case side2 => repeat (first | (with_reducible first | exact HB.out | apply below_alloc | apply pw_below_drewN | apply below_drew1 | refine below_set ?_ (IsS89.ge HI414.out) | refine below_set ?_ GE411.out | refine below_set ?_ GE420.out) | exact HB.out)); rintro e w22 ⟨rfl, hi, hb, hk⟩; have n0_ := Aside0.mk (KeepBut.blk hk (g' := gb411) (o := .cells #[.int .i64 0, .slice none 0 0] 25 (0, 0)) (by (with_reducible repeat (first | refine blk_drewN ?_ _ | refine blk_drew ?_ | refine blk_alloc ?_ _)); exact BK411.out) NB411_414.out (by simp)); have n1_ := Aside0.mk (Kd.R_mono (Kd.R_keep (IsS89.apart (show IsS89 w _ g414 t412 t422 from by repeat (first | (with_reducible first | exact HI414.out | apply IsS89.alloc | apply IsS89.drewN | apply IsS89.drew | apply IsS89.set_1 | refine IsS89.far ?_ NB414_411.out _ | refine IsS89.far ?_ NB414_420.out _) | exact HI414.out)) (by (with_reducible repeat (first | apply Kd.R_alloc | apply Kd.R_drewN | apply Kd.R_drew)); exact HO418.out) (by decide)) hk (fun _ h => h.2)) (fun _ h => h.1)); have n2_ := Aside0.mk (KeepBut.blk hk (g' := gb420) (o := .cells #[.int .i64 t415, .slice Ao19 t416.length co19] 25 (0, 0)) (by (with_reducible repeat (first | refine blk_drewN ?_ _ | refine blk_drew ?_ | refine blk_alloc ?_ _)); exact BK420.out) NB420_414.out (by simp)); have n3_ := Aside0.mk (hb); have n4_ := Aside0.mk (hi); clear BK411; clear HO418; clear BK420; clear HB; clear HI414; have BK411 := n0_; have HO418 := n1_; have BK420 := n2_; have HB := n3_; have HI414 := n4_; clear n0_ n1_ n2_ n3_ n4_; (try clear hb); (try clear hb2); (try clear hk); (try clear hi)))
          have n0_ := Aside0.mk (Kd.R_drew HO418.out)
          have n1_ := Aside0.mk (blk_drew BK411.out)
          have n2_ := Aside0.mk (blk_drew BK420.out)
          have n3_ := Aside0.mk (IsS89.drew HI414.out)
          have n4_ := Aside0.mk (below_drew1 HB.out)
          clear HO418
          clear BK411
          clear BK420
          clear HI414
          clear HB
          have HO418 := n0_
          have BK411 := n1_
          have BK420 := n2_
          have HI414 := n3_
          have HB := n4_
          clear n0_ n1_ n2_ n3_ n4_
          have p426 : 0 ≤ ((ji9) : Int) := of_decide_eq_true (by first | (with_reducible assumption) | assumption)
          have q426 : (ji9) < (t416.length : Int) := of_decide_eq_true (by first | (with_reducible assumption) | assumption)
          obtain ⟨ad426, e426, hx426_0, hx426_1, hx426_2⟩ := at_T30 (Kd.R_reads' HO418.out).2.2 (ji9) p426 q426
          cases e426
          replace p426 := eq_true p426
          replace q426 := eq_true q426
          refine start_ (n := 11) (S := fun w' => w'.cell? ⟨gb420, 0, none⟩ = some (.int .i64 t415) ∧ w'.cell? ⟨gb420, 1, none⟩ = some (.slice (some ad426) t416.length co19) ∧ w'.cell? (ad426.add (((ji9)).toNat * 3)) = some (.int .i64 ((rd_T30 t416 (ji9)).f0)) ∧ w'.cell? ⟨(ad426.add (((ji9)).toNat * 3)).block, (ad426.add (((ji9)).toNat * 3)).off + 1, none⟩ = some (.int .i64 ((rd_T30 t416 (ji9)).f1)) ∧ w'.cell? ⟨(ad426.add (((ji9)).toNat * 3)).block, (ad426.add (((ji9)).toNat * 3)).off + 2, none⟩ = some (.int .i64 ((rd_T30 t416 (ji9)).f2))) (ds := []) #[false, false, false, false, false, false, false, false, false, false, false] (by kernel_rfl) rfl rfl ⟨(blk_cell BK420.out 0).trans rfl, (blk_cell BK420.out 1).trans rfl, hx426_0, hx426_1, hx426_2⟩ (fun hHeld => ?_); refine with_tabW spec_DrawOtherEnd.tab5 spec_DrawOtherEnd.bits5 (fun HT_ HW_ => ?_)
          generalize w22.drew = w23 at HO418 BK411 BK420 HI414 HB hx426_0 hx426_1 hx426_2 hHeld ⊢
          refine pure_ (i := 1) (N := some 31) (v := ?_) (a' := ?_) #[false, true, false, false, false, false, false, false, false, false, false] rfl rfl (any_of HT_.out (by kernel_rfl)) (fun _ _ _ h => h) (Or.inl ⟨by rfl, ?_⟩) ?_ ?_
          rotate_left
          · intro w'
            go_simp
            with_reducible rfl
          rotate_left
          · simp only [Act.put, List.setIfInBounds_toArray, List.set_cons_zero, List.set_cons_succ, i64_w, i32_w]
            rfl
          refine pure_ (i := 2) (N := some 32) (v := ?_) (a' := ?_) #[false, true, true, false, false, false, false, false, false, false, false] rfl rfl (any_of HT_.out (by kernel_rfl)) (fun _ _ _ h => h) (Or.inl ⟨by rfl, ?_⟩) ?_ ?_
          rotate_left
          · intro w'
            go_simp
            with_reducible rfl
          rotate_left
          · simp only [Act.put, List.setIfInBounds_toArray, List.set_cons_zero, List.set_cons_succ, i64_w, i32_w]
            rfl
          refine pure_ (i := 4) (N := some 34) (v := ?_) (a' := ?_) #[false, true, true, false, true, false, false, false, false, false, false] rfl rfl (any_of HT_.out (by kernel_rfl)) (fun _ _ _ h => h) (Or.inl ⟨by rfl, ?_⟩) ?_ ?_
          rotate_left
          · intro w'
            go_simp
            with_reducible rfl
          rotate_left
          · simp only [Act.put, List.setIfInBounds_toArray, List.set_cons_zero, List.set_cons_succ, i64_w, i32_w]
            rfl
          refine take_ (i := 0) (N := some 30) (v := ?_) (a' := ?_) #[true, true, true, false, true, false, false, false, false, false, false] rfl rfl (take_ofW HT_.out HW_.out (by kernel_rfl)) (fun _ _ _ h => h) (Or.inl ⟨by rfl, ?_⟩) hHeld ?_ ?_
          rotate_left
          · rintro w' ⟨s0, s1, s2, s3, s4⟩
            go_simp
            with_reducible rfl
          rotate_left
          · simp only [Act.put, List.setIfInBounds_toArray, List.set_cons_zero, List.set_cons_succ, i64_w, i32_w]
            rfl
          refine take_ (i := 3) (N := some 33) (v := ?_) (a' := ?_) #[true, true, true, true, true, false, false, false, false, false, false] rfl rfl (take_ofW HT_.out HW_.out (by kernel_rfl)) (fun _ _ _ h => h) (Or.inl ⟨by rfl, ?_⟩) hHeld ?_ ?_
          rotate_left
          · rintro w' ⟨s0, s1, s2, s3, s4⟩
            go_simp
            with_reducible rfl
          rotate_left
          · simp only [Act.put, List.setIfInBounds_toArray, List.set_cons_zero, List.set_cons_succ, i64_w, i32_w]
            rfl
          refine pure_ (i := 5) (N := some 35) (v := ?_) (a' := ?_) #[true, true, true, true, true, true, false, false, false, false, false] rfl rfl (any_of HT_.out (by kernel_rfl)) (fun _ _ _ h => h) (Or.inl ⟨by rfl, ?_⟩) ?_ ?_
          rotate_left
          · intro w'
            go_simp
            with_reducible rfl
          rotate_left
          · simp only [Act.put, List.setIfInBounds_toArray, List.set_cons_zero, List.set_cons_succ, i64_w, i32_w]
            rfl
          refine pure_ (i := 6) (N := some 36) (v := ?_) (a' := ?_) #[true, true, true, true, true, true, true, false, false, false, false] rfl rfl (any_of HT_.out (by kernel_rfl)) (fun _ _ _ h => h) (Or.inl ⟨by rfl, ?_⟩) ?_ ?_
          rotate_left
          · intro w'
            go_simp
            with_reducible rfl
          rotate_left
          · simp only [Act.put, List.setIfInBounds_toArray, List.set_cons_zero, List.set_cons_succ, i64_w, i32_w]
            rfl
          refine take_ (i := 7) (N := some 37) (v := ?_) (a' := ?_) #[true, true, true, true, true, true, true, true, false, false, false] rfl rfl (take_ofW HT_.out HW_.out (by kernel_rfl)) (fun _ _ _ h => h) (Or.inl ⟨by rfl, ?_⟩) hHeld ?_ ?_
          rotate_left
          · rintro w' ⟨s0, s1, s2, s3, s4⟩
            go_simp
            with_reducible rfl
          rotate_left
          · simp only [Act.put, List.setIfInBounds_toArray, List.set_cons_zero, List.set_cons_succ, i64_w, i32_w]
            rfl
          refine one_ (i := 8) (N := none) #[true, true, true, true, true, true, true, true, true, false, false] rfl rfl (one_of HT_.out (by kernel_rfl)) (by decide) (fun K hK => ?_)
          have hs24 : w23.cell? ⟨gb411, 0, none⟩ = some (.int .i64 0) := (blk_cell BK411.out 0).trans rfl
          have hfs24 := blk_frozen BK411.out 0
          have hns24_1 := NB420_411.out
          have hms24_1 := NB411_420.out
          have hs25 : w23.cell? ⟨gb411, 1, none⟩ = some (.slice none 0 0) := (blk_cell BK411.out 1).trans rfl
          have hfs25 := blk_frozen BK411.out 1
          have hns25_1 := NB420_411.out
          have hms25_1 := NB411_420.out
          refine skip_ (w1 := ?_) (by rfl) rfl ?_ ?_
          rotate_left
          · go_simp
            rfl
          refine hK.out _ _ ⟨((cell_far (p := ⟨gb411, _, none⟩) NB420_411.out _).trans (((cell_far (p := ⟨gb411, _, none⟩) NB420_411.out _).trans (hHeld.1)))), ((cell_far (p := ⟨gb411, _, none⟩) NB420_411.out _).trans (((cell_far (p := ⟨gb411, _, none⟩) NB420_411.out _).trans (hHeld.2.1)))), ((cell_far (p := ⟨gb411, _, none⟩) (by first | exact Kd.own_blk (Kd.R_ne HO418.out BK411.out (by decide)) | (rw [add_block]; exact Kd.own_blk (Kd.R_ne HO418.out BK411.out (by decide))) | (show (Addr.add _ _).block ≠ _; rw [add_block]; exact Kd.own_blk (Kd.R_ne HO418.out BK411.out (by decide))) | (dsimp only; exact Kd.own_blk (Kd.R_ne HO418.out BK411.out (by decide)))) _).trans (((cell_far (p := ⟨gb411, _, none⟩) (by first | exact Kd.own_blk (Kd.R_ne HO418.out BK411.out (by decide)) | (rw [add_block]; exact Kd.own_blk (Kd.R_ne HO418.out BK411.out (by decide))) | (show (Addr.add _ _).block ≠ _; rw [add_block]; exact Kd.own_blk (Kd.R_ne HO418.out BK411.out (by decide))) | (dsimp only; exact Kd.own_blk (Kd.R_ne HO418.out BK411.out (by decide)))) _).trans (hHeld.2.2.1)))), ((cell_far (p := ⟨gb411, _, none⟩) (by first | exact Kd.own_blk (Kd.R_ne HO418.out BK411.out (by decide)) | (rw [add_block]; exact Kd.own_blk (Kd.R_ne HO418.out BK411.out (by decide))) | (show (Addr.add _ _).block ≠ _; rw [add_block]; exact Kd.own_blk (Kd.R_ne HO418.out BK411.out (by decide))) | (dsimp only; exact Kd.own_blk (Kd.R_ne HO418.out BK411.out (by decide)))) _).trans (((cell_far (p := ⟨gb411, _, none⟩) (by first | exact Kd.own_blk (Kd.R_ne HO418.out BK411.out (by decide)) | (rw [add_block]; exact Kd.own_blk (Kd.R_ne HO418.out BK411.out (by decide))) | (show (Addr.add _ _).block ≠ _; rw [add_block]; exact Kd.own_blk (Kd.R_ne HO418.out BK411.out (by decide))) | (dsimp only; exact Kd.own_blk (Kd.R_ne HO418.out BK411.out (by decide)))) _).trans (hHeld.2.2.2.1)))), ((cell_far (p := ⟨gb411, _, none⟩) (by first | exact Kd.own_blk (Kd.R_ne HO418.out BK411.out (by decide)) | (rw [add_block]; exact Kd.own_blk (Kd.R_ne HO418.out BK411.out (by decide))) | (show (Addr.add _ _).block ≠ _; rw [add_block]; exact Kd.own_blk (Kd.R_ne HO418.out BK411.out (by decide))) | (dsimp only; exact Kd.own_blk (Kd.R_ne HO418.out BK411.out (by decide)))) _).trans (((cell_far (p := ⟨gb411, _, none⟩) (by first | exact Kd.own_blk (Kd.R_ne HO418.out BK411.out (by decide)) | (rw [add_block]; exact Kd.own_blk (Kd.R_ne HO418.out BK411.out (by decide))) | (show (Addr.add _ _).block ≠ _; rw [add_block]; exact Kd.own_blk (Kd.R_ne HO418.out BK411.out (by decide))) | (dsimp only; exact Kd.own_blk (Kd.R_ne HO418.out BK411.out (by decide)))) _).trans (hHeld.2.2.2.2))))⟩ (fun hHeld => ?_)
          clear hK K
          refine pure_ (i := 9) (N := some 3) (v := ?_) (a' := ?_) #[true, true, true, true, true, true, true, true, true, true, false] rfl rfl (any_of HT_.out (by kernel_rfl)) (fun _ _ _ h => h) (Or.inl ⟨by rfl, ?_⟩) ?_ ?_
          rotate_left
          · intro w'
            go_simp
            with_reducible rfl
          rotate_left
          · simp only [Act.put, List.setIfInBounds_toArray, List.set_cons_zero, List.set_cons_succ, i64_w, i32_w]
            rfl
          refine pure_ (i := 10) (N := some 4) (v := ?_) (a' := ?_) #[true, true, true, true, true, true, true, true, true, true, true] rfl rfl (any_of HT_.out (by kernel_rfl)) (fun _ _ _ h => h) (Or.inl ⟨by rfl, ?_⟩) ?_ ?_
          rotate_left
          · intro w'
            go_simp
            with_reducible rfl
          rotate_left
          · simp only [Act.put, List.setIfInBounds_toArray, List.set_cons_zero, List.set_cons_succ, i64_w, i32_w]
            rfl
          refine done_ (done_of HT_.out (by kernel_rfl)) ?_
          try go_wp2
          refine bodyPost_ret (results_ctt rfl _ _ gb411 25 #[.int .i64 t415, .slice (some ad426) t416.length co19] (0, 0) _ rfl (by (with_reducible repeat (first | refine blk_drewN ?_ _ | refine blk_drew ?_ | refine blk_alloc ?_ _)); refine blk_put (cs := #[.int .i64 t415, .slice none 0 0]) ?_ 1 _ rfl; (with_reducible repeat (first | refine blk_drewN ?_ _ | refine blk_drew ?_ | refine blk_alloc ?_ _)); refine blk_put (cs := #[.int .i64 0, .slice none 0 0]) ?_ 0 _ rfl; (with_reducible repeat (first | refine blk_drewN ?_ _ | refine blk_drew ?_ | refine blk_alloc ?_ _)); exact BK411.out) Tryd.underlying25 rfl (by kernel_rfl)) rfl ?_
          exact ⟨_, by first | rfl | (simp [errW_none, errW_some] <;> rfl) | (simp only [← hji9]; first | rfl | (simp [errW_none, errW_some] <;> rfl)) | (simp [*, errW_none, errW_some] <;> rfl), by (with_reducible repeat (first | apply Kd.R_alloc | apply Kd.R_drewN | apply Kd.R_drew)); exact Kd.R_mono (Kd.R_far (p := ⟨gb411, 1, none⟩) (Kd.R_far (p := ⟨gb411, 0, none⟩) (Kd.R_types HO418.out BK411.out (by decide)) (fun _ hk => hk.2) (.int .i64 t415)) (fun _ hk => hk.2) (.slice (some ad426) t416.length co19)) (fun _ hk => trivial), by repeat (first | (with_reducible first | exact HB.out | apply below_alloc | apply pw_below_drewN | apply below_drew1 | refine below_set ?_ (IsS89.ge HI414.out) | refine below_set ?_ GE411.out | refine below_set ?_ GE420.out) | exact HB.out)⟩
        · rw [if_neg c11] at H
          exact absurd H (by simp)
      · rw [if_neg c10] at H
        exact absurd H (by simp)
    · rw [if_neg c8] at H
      have c8b0 : decide (0 < t424) = false := decide_eq_false c8
      clear c8
      replace H := Option.bind_eq_some_iff.mp H
      obtain ⟨⟨t427, t428⟩, A260, H⟩ := H
      replace H : (some (t415, t416, wrap64 (t421 - 1), t427)) = some (r1, r2, r3, r4) := H
      have A26 := Aside0.mk A260
      clear A260
      simp only [Option.some.injEq, Prod.mk.injEq] at H
      obtain ⟨rfl, rfl, rfl, rfl⟩ := H
      go_enter Tryd.func33, Tryd.ntmps33
      try go_wp2_with (first | ((with_reducible refine gate_dst (N := 2) rfl ?_); refine box_event ?hg (N := 2) ?hd (cs := #[.int .i64 0, .slice none 0 0]) (t := 25) ?hr ?_; (case hd => rfl); (case hg => rfl); (case hr => first | (go_simp; done) | (go_simp; rfl)); intro gb411 hg w27 hbox hb; have n0_ := Aside0.mk (below_step (by repeat (first | (with_reducible first | exact HB.out | apply below_alloc | apply pw_below_drewN | apply below_drew1) | exact HB.out)) hb); have n1_ := Aside0.mk (hbox); have n2_ := Aside0.mk ((by rw [hg]; exact (below_size (by repeat (first | (with_reducible first | exact HB.out | apply below_alloc | apply pw_below_drewN | apply below_drew1) | exact HB.out))) : w.heap.size ≤ gb411)); have n3_ := Aside0.mk ((by rw [hg]; exact (below_size (by repeat (first | (with_reducible first | exact HB.out | apply below_alloc | apply pw_below_drewN | apply below_drew1) | exact HB.out))) : w.heap.size ≤ gb411)); clear HB; have HB := n0_; have BK411 := n1_; have GW411 := n2_; have GE411 := n3_; clear n0_ n1_ n2_ n3_; clear hb hbox hg) | ((with_reducible refine gate_callee (f := 47) rfl ?_); refine goesL_ (some 9) rfl rfl Tryd.func47 (by kernel_rfl) rfl #[.slice A0 l0.length c0] rfl (by (try simp only [List.map_toArray, List.map_cons, List.map_nil]); first | done | rfl | (simp only [List.length_drop, List.length_take]; rfl)) ?_; (with_reducible refine (spec_l20Open.calls _ _ l0 t412 t413 w _ ?side1 ?side2 ?side3 A2.out).mono ?_); (case side1 => repeat (first | (with_reducible first | exact HB.out | apply below_alloc | apply pw_below_drewN | apply below_drew1 | refine below_set ?_ GE411.out) | exact HB.out)); (case side2 => exact HR0.out); (case side3 => exact HC0.out); rintro e w28 ⟨g414, rfl, hi, hb, hb2⟩; refine ⟨_, rfl, ?_⟩; have n0_ := Aside0.mk (blk_below (g := gb411) (o := .cells #[.int .i64 0, .slice none 0 0] 25 (0, 0)) (by (with_reducible repeat (first | refine blk_drewN ?_ _ | refine blk_drew ?_ | refine blk_alloc ?_ _)); exact BK411.out) hb2); have n1_ := Aside0.mk (hb); have n2_ := Aside0.mk (hi); have n3_ := Aside0.mk (IsS89.ne_blk hi (blk_below (g := gb411) (o := .cells #[.int .i64 0, .slice none 0 0] 25 (0, 0)) (by (with_reducible repeat (first | refine blk_drewN ?_ _ | refine blk_drew ?_ | refine blk_alloc ?_ _)); exact BK411.out) hb2) (by decide)); have n4_ := Aside0.mk (Ne.symm (IsS89.ne_blk hi (blk_below (g := gb411) (o := .cells #[.int .i64 0, .slice none 0 0] 25 (0, 0)) (by (with_reducible repeat (first | refine blk_drewN ?_ _ | refine blk_drew ?_ | refine blk_alloc ?_ _)); exact BK411.out) hb2) (by decide))); clear BK411; clear HB; have BK411 := n0_; have HB := n1_; have HI414 := n2_; have NB414_411 := n3_; have NB411_414 := n4_; clear n0_ n1_ n2_ n3_ n4_; (try clear hb); (try clear hb2); (try clear hk); (try clear hi)) | ((with_reducible refine gate_callee (f := 46) rfl ?_); refine goesL_ (some 11) rfl rfl Tryd.func46 (by kernel_rfl) rfl #[.pointer (some ⟨g414, 0, none⟩), .int .i64 9] rfl (by (try simp only [List.map_toArray, List.map_cons, List.map_nil]); first | done | rfl | (simp only [List.length_drop, List.length_take]; rfl)) ?_; (with_reducible refine (spec_l20Net.calls k g414 t412 t413 9 t415 t416 t419 w _ ?side1 ?side2 A3.out).mono ?_); (case side1 => repeat (first | (with_reducible first | exact HI414.out | apply IsS89.alloc | apply IsS89.drewN | apply IsS89.drew | apply IsS89.set_1 | refine IsS89.far ?_ NB414_411.out _) | exact HI414.out)); (case side2 => repeat (first | (with_reducible first | exact HB.out | apply below_alloc | apply pw_below_drewN | apply below_drew1 | refine below_set ?_ (IsS89.ge HI414.out) | refine below_set ?_ GE411.out) | exact HB.out)); rintro e w29 ⟨v417, rfl, ho0, hi, hb, hk⟩; refine ⟨_, rfl, ?_⟩; have n0_ := Aside0.mk (KeepBut.blk hk (g' := gb411) (o := .cells #[.int .i64 0, .slice none 0 0] 25 (0, 0)) (by (with_reducible repeat (first | refine blk_drewN ?_ _ | refine blk_drew ?_ | refine blk_alloc ?_ _)); exact BK411.out) NB411_414.out (by simp)); have n1_ := Aside0.mk (Kd.R_lower ho0 (below_size (by repeat (first | (with_reducible first | exact HB.out | apply below_alloc | apply pw_below_drewN | apply below_drew1 | refine below_set ?_ (IsS89.ge HI414.out) | refine below_set ?_ GE411.out) | exact HB.out)))); have n2_ := Aside0.mk (hb); have n3_ := Aside0.mk (hi); clear BK411; clear HB; clear HI414; have BK411 := n0_; have HO418 := n1_; have HB := n2_; have HI414 := n3_; clear n0_ n1_ n2_ n3_; (try clear hb); (try clear hb2); (try clear hk); (try clear hi); (try clear ho0)) | ((with_reducible refine gate_dst (N := 6) rfl ?_); refine box_event ?hg (N := 6) ?hd (cs := #[.int .i64 0, .slice none 0 0]) (t := 25) ?hr ?_; (case hd => rfl); (case hg => rfl); (case hr => first | (go_simp; done) | (go_simp; rfl)); intro gb420 hg w30 hbox hb; have n0_ := Aside0.mk (Kd.R_below (by (with_reducible repeat (first | apply Kd.R_alloc | apply Kd.R_drewN | apply Kd.R_drew)); exact HO418.out) hb); have n1_ := Aside0.mk (blk_below (g := gb411) (o := .cells #[.int .i64 0, .slice none 0 0] 25 (0, 0)) (by (with_reducible repeat (first | refine blk_drewN ?_ _ | refine blk_drew ?_ | refine blk_alloc ?_ _)); exact BK411.out) hb); have n2_ := Aside0.mk (IsS89.below (by repeat (first | (with_reducible first | exact HI414.out | apply IsS89.alloc | apply IsS89.drewN | apply IsS89.drew | apply IsS89.set_1 | refine IsS89.far ?_ NB414_411.out _) | exact HI414.out)) hb); have n3_ := Aside0.mk (below_step (by repeat (first | (with_reducible first | exact HB.out | apply below_alloc | apply pw_below_drewN | apply below_drew1 | refine below_set ?_ (IsS89.ge HI414.out) | refine below_set ?_ GE411.out) | exact HB.out)) hb); have n4_ := Aside0.mk (hbox); have n5_ := Aside0.mk ((by rw [hg]; exact (below_size (by repeat (first | (with_reducible first | exact HB.out | apply below_alloc | apply pw_below_drewN | apply below_drew1 | refine below_set ?_ (IsS89.ge HI414.out) | refine below_set ?_ GE411.out) | exact HB.out))) : w.heap.size ≤ gb420)); have n6_ := Aside0.mk ((by rw [hg]; exact (below_size (by repeat (first | (with_reducible first | exact HB.out | apply below_alloc | apply pw_below_drewN | apply below_drew1 | refine below_set ?_ (IsS89.ge HI414.out) | refine below_set ?_ GE411.out) | exact HB.out))) : w.heap.size ≤ gb420)); have n7_ := Aside0.mk ((by rw [hg]; exact Nat.ne_of_lt (blk_lt (g := gb411) (o := .cells #[.int .i64 0, .slice none 0 0] 25 (0, 0)) (by (with_reducible repeat (first | refine blk_drewN ?_ _ | refine blk_drew ?_ | refine blk_alloc ?_ _)); exact BK411.out)) : gb411 ≠ gb420)); have n8_ := Aside0.mk ((by rw [hg]; exact Nat.ne_of_gt (blk_lt (g := gb411) (o := .cells #[.int .i64 0, .slice none 0 0] 25 (0, 0)) (by (with_reducible repeat (first | refine blk_drewN ?_ _ | refine blk_drew ?_ | refine blk_alloc ?_ _)); exact BK411.out)) : gb420 ≠ gb411)); have n9_ := Aside0.mk ((by rw [hg]; exact Nat.ne_of_lt (IsS89.lt (show IsS89 w _ g414 t412 t419 from by repeat (first | (with_reducible first | exact HI414.out | apply IsS89.alloc | apply IsS89.drewN | apply IsS89.drew | apply IsS89.set_1 | refine IsS89.far ?_ NB414_411.out _) | exact HI414.out))) : g414 ≠ gb420)); have n10_ := Aside0.mk ((by rw [hg]; exact Nat.ne_of_gt (IsS89.lt (show IsS89 w _ g414 t412 t419 from by repeat (first | (with_reducible first | exact HI414.out | apply IsS89.alloc | apply IsS89.drewN | apply IsS89.drew | apply IsS89.set_1 | refine IsS89.far ?_ NB414_411.out _) | exact HI414.out))) : gb420 ≠ g414)); clear HO418; clear BK411; clear HI414; clear HB; have HO418 := n0_; have BK411 := n1_; have HI414 := n2_; have HB := n3_; have BK420 := n4_; have GW420 := n5_; have GE420 := n6_; have NB411_420 := n7_; have NB420_411 := n8_; have NB414_420 := n9_; have NB420_414 := n10_; clear n0_ n1_ n2_ n3_ n4_ n5_ n6_ n7_ n8_ n9_ n10_; clear hb hbox hg; have hnb31 := NB420_411.out; have hnc31 := NB411_420.out; have hnb32 := NB420_414.out; have hnc32 := NB414_420.out; have hcz33_0 : w30.cell? ⟨gb420, 0, none⟩ = some (.int .i64 0) := (blk_cell BK420.out 0).trans rfl; have hcz33_1 : w30.cell? ⟨gb420, 1, none⟩ = some (.slice none 0 0) := (blk_cell BK420.out 1).trans rfl; have hfz33_0 := blk_frozen BK420.out 0; have hfz33_1 := blk_frozen BK420.out 1; obtain ⟨Ao34, co34, eo34⟩ := Kd.R_slice HO418.out; subst eo34) | ((with_reducible refine gate_callee (f := 50) rfl ?_); refine goesL_ (some 17) rfl rfl Tryd.func50 (by kernel_rfl) rfl #[.pointer (some ⟨g414, 0, none⟩), .int .i64 (wrap64 ((t416.length : Int) + 2))] rfl (by (try simp only [List.map_toArray, List.map_cons, List.map_nil]); first | done | rfl | (simp only [List.length_drop, List.length_take]; rfl)) ?_; (with_reducible refine (spec_l20Rd_pick.calls k g414 t412 t419 (wrap64 ((t416.length : Int) + 2)) t421 t422 w _ ?side1 ?side2 A4.out).mono ?_); (case side1 => repeat (first | (with_reducible first | exact HI414.out | apply IsS89.alloc | apply IsS89.drewN | apply IsS89.drew | apply IsS89.set_1 | refine IsS89.far ?_ NB414_411.out _ | refine IsS89.far ?_ NB414_420.out _) | exact HI414.out)); (case side2 => repeat (first | (with_reducible first | exact HB.out | apply below_alloc | apply pw_below_drewN | apply below_drew1 | refine below_set ?_ (IsS89.ge HI414.out) | refine below_set ?_ GE411.out | refine below_set ?_ GE420.out) | exact HB.out)); rintro e w35 ⟨rfl, hi, hb, hk⟩; refine ⟨_, rfl, ?_⟩; have n0_ := Aside0.mk (KeepBut.blk hk (g' := gb411) (o := .cells #[.int .i64 0, .slice none 0 0] 25 (0, 0)) (by (with_reducible repeat (first | refine blk_drewN ?_ _ | refine blk_drew ?_ | refine blk_alloc ?_ _)); refine blk_far ?_ NB411_420.out _; (with_reducible repeat (first | refine blk_drewN ?_ _ | refine blk_drew ?_ | refine blk_alloc ?_ _)); refine blk_far ?_ NB411_420.out _; (with_reducible repeat (first | refine blk_drewN ?_ _ | refine blk_drew ?_ | refine blk_alloc ?_ _)); exact BK411.out) NB411_414.out (by simp)); have n1_ := Aside0.mk (Kd.R_mono (Kd.R_keep (IsS89.apart (show IsS89 w _ g414 t412 t419 from by repeat (first | (with_reducible first | exact HI414.out | apply IsS89.alloc | apply IsS89.drewN | apply IsS89.drew | apply IsS89.set_1 | refine IsS89.far ?_ NB414_411.out _ | refine IsS89.far ?_ NB414_420.out _) | exact HI414.out)) (by (with_reducible repeat (first | apply Kd.R_alloc | apply Kd.R_drewN | apply Kd.R_drew)); exact (Kd.R_mono (Kd.R_far (p := ⟨gb420, 1, none⟩) (Kd.R_far (p := ⟨gb420, 0, none⟩) (Kd.R_types HO418.out BK420.out (by decide)) (fun _ hk => hk.2) (.int .i64 t415)) (fun _ hk => hk.2) (.slice Ao34 t416.length co34)) (fun _ h_ => h_.1))) (by decide)) hk (fun _ h => h.2)) (fun _ h => h.1)); have n2_ := Aside0.mk (KeepBut.blk hk (g' := gb420) (o := .cells #[.int .i64 t415, .slice Ao34 t416.length co34] 25 (0, 0)) (by (with_reducible repeat (first | refine blk_drewN ?_ _ | refine blk_drew ?_ | refine blk_alloc ?_ _)); refine blk_put (cs := #[.int .i64 t415, .slice none 0 0]) ?_ 1 _ rfl; (with_reducible repeat (first | refine blk_drewN ?_ _ | refine blk_drew ?_ | refine blk_alloc ?_ _)); refine blk_put (cs := #[.int .i64 0, .slice none 0 0]) ?_ 0 _ rfl; (with_reducible repeat (first | refine blk_drewN ?_ _ | refine blk_drew ?_ | refine blk_alloc ?_ _)); exact BK420.out) NB420_414.out (by simp)); have n3_ := Aside0.mk (hb); have n4_ := Aside0.mk (hi); clear BK411; clear HO418; clear BK420; clear HB; clear HI414; have BK411 := n0_; have HO418 := n1_; have BK420 := n2_; have HB := n3_; have HI414 := n4_; clear n0_ n1_ n2_ n3_ n4_; (try clear hb); (try clear hb2); (try clear hk); (try clear hi); have hcz36_0 : w35.cell? ⟨gb420, 0, none⟩ = some (.int .i64 t415) := (blk_cell BK420.out 0).trans rfl; have hcz36_1 : w35.cell? ⟨gb420, 1, none⟩ = some (.slice Ao34 t416.length co34) := (blk_cell BK420.out 1).trans rfl; have hfz36_0 := blk_frozen BK420.out 0; have hfz36_1 := blk_frozen BK420.out 1) | ((with_reducible refine gate_callee (f := 49) rfl ?_); refine goesL_ (some 24) rfl rfl Tryd.func49 (by kernel_rfl) rfl #[.int .i64 (wrap64 (t421 - 1)), .int .i64 0, .int .i64 (wrap64 ((t416.length : Int) - 1))] rfl (by (try simp only [List.map_toArray, List.map_cons, List.map_nil]); first | done | rfl | (simp only [List.length_drop, List.length_take]; rfl)) ?_; (with_reducible refine (spec_l1In.calls (wrap64 (t421 - 1)) 0 (wrap64 ((t416.length : Int) - 1)) true _ A5.out).mono ?_); rintro e w' ⟨rfl, ⟨nd, rfl⟩⟩; refine ⟨_, rfl, ?_⟩; (try (rw [drewN_self w35]; generalize hq_ : World.drewN w35 _ = w35; have n0_ : Aside0 (Kd.R k30 30 w35 w.heap.size (fun _ => True) (.slice Ao34 t416.length co34) t416) := ⟨by rw [← hq_]; exact (by (with_reducible repeat (first | apply Kd.R_alloc | apply Kd.R_drewN | apply Kd.R_drew)); exact HO418.out)⟩; have n1_ : Aside0 (w35.heap[gb411]? = some (.cells #[.int .i64 0, .slice none 0 0] 25 (0, 0))) := ⟨by rw [← hq_]; exact (by (with_reducible repeat (first | refine blk_drewN ?_ _ | refine blk_drew ?_ | refine blk_alloc ?_ _)); exact BK411.out)⟩; have n2_ : Aside0 (w35.heap[gb420]? = some (.cells #[.int .i64 t415, .slice Ao34 t416.length co34] 25 (0, 0))) := ⟨by rw [← hq_]; exact (by (with_reducible repeat (first | refine blk_drewN ?_ _ | refine blk_drew ?_ | refine blk_alloc ?_ _)); exact BK420.out)⟩; have n3_ : Aside0 (IsS89 w w35 g414 t412 t422) := ⟨by rw [← hq_]; exact (by repeat (first | (with_reducible first | exact HI414.out | apply IsS89.alloc | apply IsS89.drewN | apply IsS89.drew | apply IsS89.set_1 | refine IsS89.far ?_ NB414_411.out _ | refine IsS89.far ?_ NB414_420.out _) | exact HI414.out))⟩; have n4_ : Aside0 (Below w.heap.size w w35) := ⟨by rw [← hq_]; exact (by repeat (first | (with_reducible first | exact HB.out | apply below_alloc | apply pw_below_drewN | apply below_drew1 | refine below_set ?_ (IsS89.ge HI414.out) | refine below_set ?_ GE411.out | refine below_set ?_ GE420.out) | exact HB.out))⟩; clear HO418 BK411 BK420 HI414 HB hq_; have HO418 := n0_; have BK411 := n1_; have BK420 := n2_; have HI414 := n3_; have HB := n4_; clear n0_ n1_ n2_ n3_ n4_))) | (go_at_call 50; (with_reducible refine (spec_l20Rd_pick.calls k g414 t412 t422 3 t424 t425 w _ ?side1 ?side2 A7.out).mono ?_); (case side1 => repeat (first | (with_reducible first | exact HI414.out | apply IsS89.alloc | apply IsS89.drewN | apply IsS89.drew | apply IsS89.set_1 | refine IsS89.far ?_ NB414_411.out _ | refine IsS89.far ?_ NB414_420.out _) | exact HI414.out)); (case side2 => repeat (first | (with_reducible first | exact HB.out | apply below_alloc | apply pw_below_drewN | apply below_drew1 | refine below_set ?_ (IsS89.ge HI414.out) | refine below_set ?_ GE411.out | refine below_set ?_ GE420.out) | exact HB.out)); rintro e w37 ⟨rfl, hi, hb, hk⟩; have n0_ := Aside0.mk (KeepBut.blk hk (g' := gb411) (o := .cells #[.int .i64 0, .slice none 0 0] 25 (0, 0)) (by (with_reducible repeat (first | refine blk_drewN ?_ _ | refine blk_drew ?_ | refine blk_alloc ?_ _)); exact BK411.out) NB411_414.out (by simp)); have n1_ := Aside0.mk (Kd.R_mono (Kd.R_keep (IsS89.apart (show IsS89 w _ g414 t412 t422 from by repeat (first | (with_reducible first | exact HI414.out | apply IsS89.alloc | apply IsS89.drewN | apply IsS89.drew | apply IsS89.set_1 | refine IsS89.far ?_ NB414_411.out _ | refine IsS89.far ?_ NB414_420.out _) | exact HI414.out)) (by (with_reducible repeat (first | apply Kd.R_alloc | apply Kd.R_drewN | apply Kd.R_drew)); exact HO418.out) (by decide)) hk (fun _ h => h.2)) (fun _ h => h.1)); have n2_ := Aside0.mk (KeepBut.blk hk (g' := gb420) (o := .cells #[.int .i64 t415, .slice Ao34 t416.length co34] 25 (0, 0)) (by (with_reducible repeat (first | refine blk_drewN ?_ _ | refine blk_drew ?_ | refine blk_alloc ?_ _)); exact BK420.out) NB420_414.out (by simp)); have n3_ := Aside0.mk (hb); have n4_ := Aside0.mk (hi); clear BK411; clear HO418; clear BK420; clear HB; clear HI414; have BK411 := n0_; have HO418 := n1_; have BK420 := n2_; have HB := n3_; have HI414 := n4_; clear n0_ n1_ n2_ n3_ n4_; (try clear hb); (try clear hb2); (try clear hk); (try clear hi)))
      have n0_ := Aside0.mk (Kd.R_drew HO418.out)
      have n1_ := Aside0.mk (blk_drew BK411.out)
      have n2_ := Aside0.mk (blk_drew BK420.out)
      have n3_ := Aside0.mk (IsS89.drew HI414.out)
      have n4_ := Aside0.mk (below_drew1 HB.out)
      clear HO418
      clear BK411
      clear BK420
      clear HI414
      clear HB
      have HO418 := n0_
      have BK411 := n1_
      have BK420 := n2_
      have HI414 := n3_
      have HB := n4_
      clear n0_ n1_ n2_ n3_ n4_
      refine start_ (n := 7) (S := fun w' => w'.cell? ⟨gb420, 0, none⟩ = some (.int .i64 t415) ∧ w'.cell? ⟨gb420, 1, none⟩ = some (.slice Ao34 t416.length co34)) (ds := []) #[false, false, false, false, false, false, false] (by kernel_rfl) rfl rfl ⟨(blk_cell BK420.out 0).trans rfl, (blk_cell BK420.out 1).trans rfl⟩ (fun hHeld => ?_)
      generalize w37.drew = w38 at HO418 BK411 BK420 HI414 HB hHeld ⊢
      refine pure_ (i := 1) (N := some 39) (v := ?_) (a' := ?_) #[false, true, false, false, false, false, false] rfl rfl (by kernel_rfl) (fun _ _ _ h => h) (Or.inl ⟨by rfl, ?_⟩) ?_ ?_
      rotate_left
      · intro w'
        go_simp
        with_reducible rfl
      rotate_left
      · simp only [Act.put, List.setIfInBounds_toArray, List.set_cons_zero, List.set_cons_succ, i64_w, i32_w]
        rfl
      refine pure_ (i := 2) (N := some 40) (v := ?_) (a' := ?_) #[false, true, true, false, false, false, false] rfl rfl (by kernel_rfl) (fun _ _ _ h => h) (Or.inl ⟨by rfl, ?_⟩) ?_ ?_
      rotate_left
      · intro w'
        go_simp
        with_reducible rfl
      rotate_left
      · simp only [Act.put, List.setIfInBounds_toArray, List.set_cons_zero, List.set_cons_succ, i64_w, i32_w]
        rfl
      refine take_ (i := 0) (N := some 38) (v := ?_) (a' := ?_) #[true, true, true, false, false, false, false] rfl rfl (by kernel_rfl) (fun _ _ _ h => h) (Or.inl ⟨by rfl, ?_⟩) hHeld ?_ ?_
      rotate_left
      · rintro w' ⟨s0, s1⟩
        go_simp
        with_reducible rfl
      rotate_left
      · simp only [Act.put, List.setIfInBounds_toArray, List.set_cons_zero, List.set_cons_succ, i64_w, i32_w]
        rfl
      refine one_ (i := 3) (N := some 41) #[true, true, true, true, false, false, false] rfl rfl (by kernel_rfl) (by decide) (fun K hK => ?_)
      refine goes_ Tryd.func50 (by kernel_rfl) rfl #[.pointer (some ⟨g414, 0, none⟩), .int .i64 8] (by rfl) rfl rfl (by (try simp only [List.map_toArray, List.map_cons, List.map_nil]); first | done | rfl | (simp only [List.length_drop, List.length_take]; rfl)) ?_
      with_reducible refine (spec_l20Rd_pick.calls k g414 t412 t425 8 t427 t428 w _ ?side1 ?side2 A26.out).mono ?_
      (case side1 => repeat (first | (with_reducible first | exact HI414.out | apply IsS89.alloc | apply IsS89.drewN | apply IsS89.drew | apply IsS89.set_1 | refine IsS89.far ?_ NB414_411.out _ | refine IsS89.far ?_ NB414_420.out _) | exact HI414.out))
      (case side2 => repeat (first | (with_reducible first | exact HB.out | apply below_alloc | apply pw_below_drewN | apply below_drew1 | refine below_set ?_ (IsS89.ge HI414.out) | refine below_set ?_ GE411.out | refine below_set ?_ GE420.out) | exact HB.out))
      rintro e w39 ⟨rfl, hi, hb, hk⟩
      refine ⟨_, rfl, ?_⟩
      have n0_ := Aside0.mk (KeepBut.blk hk (g' := gb411) (o := .cells #[.int .i64 0, .slice none 0 0] 25 (0, 0)) (by (with_reducible repeat (first | refine blk_drewN ?_ _ | refine blk_drew ?_ | refine blk_alloc ?_ _)); exact BK411.out) NB411_414.out (by simp))
      have n1_ := Aside0.mk (Kd.R_mono (Kd.R_keep (IsS89.apart (show IsS89 w _ g414 t412 t425 from by repeat (first | (with_reducible first | exact HI414.out | apply IsS89.alloc | apply IsS89.drewN | apply IsS89.drew | apply IsS89.set_1 | refine IsS89.far ?_ NB414_411.out _ | refine IsS89.far ?_ NB414_420.out _) | exact HI414.out)) (by (with_reducible repeat (first | apply Kd.R_alloc | apply Kd.R_drewN | apply Kd.R_drew)); exact HO418.out) (by decide)) hk (fun _ h => h.2)) (fun _ h => h.1))
      have n2_ := Aside0.mk (KeepBut.blk hk (g' := gb420) (o := .cells #[.int .i64 t415, .slice Ao34 t416.length co34] 25 (0, 0)) (by (with_reducible repeat (first | refine blk_drewN ?_ _ | refine blk_drew ?_ | refine blk_alloc ?_ _)); exact BK420.out) NB420_414.out (by simp))
      have n3_ := Aside0.mk (hb)
      have n4_ := Aside0.mk (hi)
      clear BK411
      clear HO418
      clear BK420
      clear HB
      clear HI414
      have BK411 := n0_
      have HO418 := n1_
      have BK420 := n2_
      have HB := n3_
      have HI414 := n4_
      clear n0_ n1_ n2_ n3_ n4_
      (try clear hb)
      (try clear hb2)
      (try clear hk)
      (try clear hi)
      refine hK.out _ _ ⟨(blk_cell BK420.out 0).trans rfl, (blk_cell BK420.out 1).trans rfl⟩ (fun hHeld => ?_)
      clear hK K
      refine norm_ (a' := ?_) ?_ ?_
      rotate_left
      · show Act.put _ (some 41) _ = _
        simp only [Act.put, List.setIfInBounds_toArray, List.set_cons_zero, List.set_cons_succ, i64_w, i32_w]
        rfl
      refine one_ (i := 4) (N := none) #[true, true, true, true, true, false, false] rfl rfl (by kernel_rfl) (by decide) (fun K hK => ?_)
      have hs40 : w39.cell? ⟨gb411, 0, none⟩ = some (.int .i64 0) := (blk_cell BK411.out 0).trans rfl
      have hfs40 := blk_frozen BK411.out 0
      have hns40_1 := NB420_411.out
      have hms40_1 := NB411_420.out
      have hs41 : w39.cell? ⟨gb411, 1, none⟩ = some (.slice none 0 0) := (blk_cell BK411.out 1).trans rfl
      have hfs41 := blk_frozen BK411.out 1
      have hns41_1 := NB420_411.out
      have hms41_1 := NB411_420.out
      refine skip_ (w1 := ?_) (by rfl) rfl ?_ ?_
      rotate_left
      · go_simp
        rfl
      refine hK.out _ _ ⟨((cell_far (p := ⟨gb411, _, none⟩) NB420_411.out _).trans (((cell_far (p := ⟨gb411, _, none⟩) NB420_411.out _).trans (hHeld.1)))), ((cell_far (p := ⟨gb411, _, none⟩) NB420_411.out _).trans (((cell_far (p := ⟨gb411, _, none⟩) NB420_411.out _).trans (hHeld.2))))⟩ (fun hHeld => ?_)
      clear hK K
      refine pure_ (i := 5) (N := some 3) (v := ?_) (a' := ?_) #[true, true, true, true, true, true, false] rfl rfl (by kernel_rfl) (fun _ _ _ h => h) (Or.inl ⟨by rfl, ?_⟩) ?_ ?_
      rotate_left
      · intro w'
        go_simp
        with_reducible rfl
      rotate_left
      · simp only [Act.put, List.setIfInBounds_toArray, List.set_cons_zero, List.set_cons_succ, i64_w, i32_w]
        rfl
      refine pure_ (i := 6) (N := some 4) (v := ?_) (a' := ?_) #[true, true, true, true, true, true, true] rfl rfl (by kernel_rfl) (fun _ _ _ h => h) (Or.inl ⟨by rfl, ?_⟩) ?_ ?_
      rotate_left
      · intro w'
        go_simp
        with_reducible rfl
      rotate_left
      · simp only [Act.put, List.setIfInBounds_toArray, List.set_cons_zero, List.set_cons_succ, i64_w, i32_w]
        rfl
      refine done_ (by kernel_rfl) ?_
      try go_wp2
      refine bodyPost_ret (results_ctt rfl _ _ gb411 25 #[.int .i64 t415, .slice Ao34 t416.length co34] (0, 0) _ rfl (by (with_reducible repeat (first | refine blk_drewN ?_ _ | refine blk_drew ?_ | refine blk_alloc ?_ _)); refine blk_put (cs := #[.int .i64 t415, .slice none 0 0]) ?_ 1 _ rfl; (with_reducible repeat (first | refine blk_drewN ?_ _ | refine blk_drew ?_ | refine blk_alloc ?_ _)); refine blk_put (cs := #[.int .i64 0, .slice none 0 0]) ?_ 0 _ rfl; (with_reducible repeat (first | refine blk_drewN ?_ _ | refine blk_drew ?_ | refine blk_alloc ?_ _)); exact BK411.out) Tryd.underlying25 rfl (by kernel_rfl)) rfl ?_
      exact ⟨_, by first | rfl | (simp [errW_none, errW_some] <;> rfl) | (simp [*, errW_none, errW_some] <;> rfl), by (with_reducible repeat (first | apply Kd.R_alloc | apply Kd.R_drewN | apply Kd.R_drew)); exact Kd.R_mono (Kd.R_far (p := ⟨gb411, 1, none⟩) (Kd.R_far (p := ⟨gb411, 0, none⟩) (Kd.R_types HO418.out BK411.out (by decide)) (fun _ hk => hk.2) (.int .i64 t415)) (fun _ hk => hk.2) (.slice Ao34 t416.length co34)) (fun _ hk => trivial), by repeat (first | (with_reducible first | exact HB.out | apply below_alloc | apply pw_below_drewN | apply below_drew1 | refine below_set ?_ (IsS89.ge HI414.out) | refine below_set ?_ GE411.out | refine below_set ?_ GE420.out) | exact HB.out)⟩
  · replace c6 := Bool.eq_false_iff.mpr c6
    subst c6
    have H1 : ((spec_l20Rd_pick.f k t412 t422 8).bind fun bt429 => (some (t415, t416, wrap64 (t421 - 1), bt429.1))) = some (r1, r2, r3, r4) := by rw [if_neg (show ¬ (false = true) by decide)] at H; exact H
    clear H
    have H := H1
    clear H1
    replace H := Option.bind_eq_some_iff.mp H
    obtain ⟨⟨t429, t430⟩, A420, H⟩ := H
    replace H : (some (t415, t416, wrap64 (t421 - 1), t429)) = some (r1, r2, r3, r4) := H
    have A42 := Aside0.mk A420
    clear A420
    simp only [Option.some.injEq, Prod.mk.injEq] at H
    obtain ⟨rfl, rfl, rfl, rfl⟩ := H
    go_enter Tryd.func33, Tryd.ntmps33
    try go_wp2_with (first | ((with_reducible refine gate_dst (N := 2) rfl ?_); refine box_event ?hg (N := 2) ?hd (cs := #[.int .i64 0, .slice none 0 0]) (t := 25) ?hr ?_; (case hd => rfl); (case hg => rfl); (case hr => first | (go_simp; done) | (go_simp; rfl)); intro gb411 hg w43 hbox hb; have n0_ := Aside0.mk (below_step (by repeat (first | (with_reducible first | exact HB.out | apply below_alloc | apply pw_below_drewN | apply below_drew1) | exact HB.out)) hb); have n1_ := Aside0.mk (hbox); have n2_ := Aside0.mk ((by rw [hg]; exact (below_size (by repeat (first | (with_reducible first | exact HB.out | apply below_alloc | apply pw_below_drewN | apply below_drew1) | exact HB.out))) : w.heap.size ≤ gb411)); have n3_ := Aside0.mk ((by rw [hg]; exact (below_size (by repeat (first | (with_reducible first | exact HB.out | apply below_alloc | apply pw_below_drewN | apply below_drew1) | exact HB.out))) : w.heap.size ≤ gb411)); clear HB; have HB := n0_; have BK411 := n1_; have GW411 := n2_; have GE411 := n3_; clear n0_ n1_ n2_ n3_; clear hb hbox hg) | ((with_reducible refine gate_callee (f := 47) rfl ?_); refine goesL_ (some 9) rfl rfl Tryd.func47 (by kernel_rfl) rfl #[.slice A0 l0.length c0] rfl (by (try simp only [List.map_toArray, List.map_cons, List.map_nil]); first | done | rfl | (simp only [List.length_drop, List.length_take]; rfl)) ?_; (with_reducible refine (spec_l20Open.calls _ _ l0 t412 t413 w _ ?side1 ?side2 ?side3 A2.out).mono ?_); (case side1 => repeat (first | (with_reducible first | exact HB.out | apply below_alloc | apply pw_below_drewN | apply below_drew1 | refine below_set ?_ GE411.out) | exact HB.out)); (case side2 => exact HR0.out); (case side3 => exact HC0.out); rintro e w44 ⟨g414, rfl, hi, hb, hb2⟩; refine ⟨_, rfl, ?_⟩; have n0_ := Aside0.mk (blk_below (g := gb411) (o := .cells #[.int .i64 0, .slice none 0 0] 25 (0, 0)) (by (with_reducible repeat (first | refine blk_drewN ?_ _ | refine blk_drew ?_ | refine blk_alloc ?_ _)); exact BK411.out) hb2); have n1_ := Aside0.mk (hb); have n2_ := Aside0.mk (hi); have n3_ := Aside0.mk (IsS89.ne_blk hi (blk_below (g := gb411) (o := .cells #[.int .i64 0, .slice none 0 0] 25 (0, 0)) (by (with_reducible repeat (first | refine blk_drewN ?_ _ | refine blk_drew ?_ | refine blk_alloc ?_ _)); exact BK411.out) hb2) (by decide)); have n4_ := Aside0.mk (Ne.symm (IsS89.ne_blk hi (blk_below (g := gb411) (o := .cells #[.int .i64 0, .slice none 0 0] 25 (0, 0)) (by (with_reducible repeat (first | refine blk_drewN ?_ _ | refine blk_drew ?_ | refine blk_alloc ?_ _)); exact BK411.out) hb2) (by decide))); clear BK411; clear HB; have BK411 := n0_; have HB := n1_; have HI414 := n2_; have NB414_411 := n3_; have NB411_414 := n4_; clear n0_ n1_ n2_ n3_ n4_; (try clear hb); (try clear hb2); (try clear hk); (try clear hi)) | ((with_reducible refine gate_callee (f := 46) rfl ?_); refine goesL_ (some 11) rfl rfl Tryd.func46 (by kernel_rfl) rfl #[.pointer (some ⟨g414, 0, none⟩), .int .i64 9] rfl (by (try simp only [List.map_toArray, List.map_cons, List.map_nil]); first | done | rfl | (simp only [List.length_drop, List.length_take]; rfl)) ?_; (with_reducible refine (spec_l20Net.calls k g414 t412 t413 9 t415 t416 t419 w _ ?side1 ?side2 A3.out).mono ?_); (case side1 => repeat (first | (with_reducible first | exact HI414.out | apply IsS89.alloc | apply IsS89.drewN | apply IsS89.drew | apply IsS89.set_1 | refine IsS89.far ?_ NB414_411.out _) | exact HI414.out)); (case side2 => repeat (first | (with_reducible first | exact HB.out | apply below_alloc | apply pw_below_drewN | apply below_drew1 | refine below_set ?_ (IsS89.ge HI414.out) | refine below_set ?_ GE411.out) | exact HB.out)); rintro e w45 ⟨v417, rfl, ho0, hi, hb, hk⟩; refine ⟨_, rfl, ?_⟩; have n0_ := Aside0.mk (KeepBut.blk hk (g' := gb411) (o := .cells #[.int .i64 0, .slice none 0 0] 25 (0, 0)) (by (with_reducible repeat (first | refine blk_drewN ?_ _ | refine blk_drew ?_ | refine blk_alloc ?_ _)); exact BK411.out) NB411_414.out (by simp)); have n1_ := Aside0.mk (Kd.R_lower ho0 (below_size (by repeat (first | (with_reducible first | exact HB.out | apply below_alloc | apply pw_below_drewN | apply below_drew1 | refine below_set ?_ (IsS89.ge HI414.out) | refine below_set ?_ GE411.out) | exact HB.out)))); have n2_ := Aside0.mk (hb); have n3_ := Aside0.mk (hi); clear BK411; clear HB; clear HI414; have BK411 := n0_; have HO418 := n1_; have HB := n2_; have HI414 := n3_; clear n0_ n1_ n2_ n3_; (try clear hb); (try clear hb2); (try clear hk); (try clear hi); (try clear ho0)) | ((with_reducible refine gate_dst (N := 6) rfl ?_); refine box_event ?hg (N := 6) ?hd (cs := #[.int .i64 0, .slice none 0 0]) (t := 25) ?hr ?_; (case hd => rfl); (case hg => rfl); (case hr => first | (go_simp; done) | (go_simp; rfl)); intro gb420 hg w46 hbox hb; have n0_ := Aside0.mk (Kd.R_below (by (with_reducible repeat (first | apply Kd.R_alloc | apply Kd.R_drewN | apply Kd.R_drew)); exact HO418.out) hb); have n1_ := Aside0.mk (blk_below (g := gb411) (o := .cells #[.int .i64 0, .slice none 0 0] 25 (0, 0)) (by (with_reducible repeat (first | refine blk_drewN ?_ _ | refine blk_drew ?_ | refine blk_alloc ?_ _)); exact BK411.out) hb); have n2_ := Aside0.mk (IsS89.below (by repeat (first | (with_reducible first | exact HI414.out | apply IsS89.alloc | apply IsS89.drewN | apply IsS89.drew | apply IsS89.set_1 | refine IsS89.far ?_ NB414_411.out _) | exact HI414.out)) hb); have n3_ := Aside0.mk (below_step (by repeat (first | (with_reducible first | exact HB.out | apply below_alloc | apply pw_below_drewN | apply below_drew1 | refine below_set ?_ (IsS89.ge HI414.out) | refine below_set ?_ GE411.out) | exact HB.out)) hb); have n4_ := Aside0.mk (hbox); have n5_ := Aside0.mk ((by rw [hg]; exact (below_size (by repeat (first | (with_reducible first | exact HB.out | apply below_alloc | apply pw_below_drewN | apply below_drew1 | refine below_set ?_ (IsS89.ge HI414.out) | refine below_set ?_ GE411.out) | exact HB.out))) : w.heap.size ≤ gb420)); have n6_ := Aside0.mk ((by rw [hg]; exact (below_size (by repeat (first | (with_reducible first | exact HB.out | apply below_alloc | apply pw_below_drewN | apply below_drew1 | refine below_set ?_ (IsS89.ge HI414.out) | refine below_set ?_ GE411.out) | exact HB.out))) : w.heap.size ≤ gb420)); have n7_ := Aside0.mk ((by rw [hg]; exact Nat.ne_of_lt (blk_lt (g := gb411) (o := .cells #[.int .i64 0, .slice none 0 0] 25 (0, 0)) (by (with_reducible repeat (first | refine blk_drewN ?_ _ | refine blk_drew ?_ | refine blk_alloc ?_ _)); exact BK411.out)) : gb411 ≠ gb420)); have n8_ := Aside0.mk ((by rw [hg]; exact Nat.ne_of_gt (blk_lt (g := gb411) (o := .cells #[.int .i64 0, .slice none 0 0] 25 (0, 0)) (by (with_reducible repeat (first | refine blk_drewN ?_ _ | refine blk_drew ?_ | refine blk_alloc ?_ _)); exact BK411.out)) : gb420 ≠ gb411)); have n9_ := Aside0.mk ((by rw [hg]; exact Nat.ne_of_lt (IsS89.lt (show IsS89 w _ g414 t412 t419 from by repeat (first | (with_reducible first | exact HI414.out | apply IsS89.alloc | apply IsS89.drewN | apply IsS89.drew | apply IsS89.set_1 | refine IsS89.far ?_ NB414_411.out _) | exact HI414.out))) : g414 ≠ gb420)); have n10_ := Aside0.mk ((by rw [hg]; exact Nat.ne_of_gt (IsS89.lt (show IsS89 w _ g414 t412 t419 from by repeat (first | (with_reducible first | exact HI414.out | apply IsS89.alloc | apply IsS89.drewN | apply IsS89.drew | apply IsS89.set_1 | refine IsS89.far ?_ NB414_411.out _) | exact HI414.out))) : gb420 ≠ g414)); clear HO418; clear BK411; clear HI414; clear HB; have HO418 := n0_; have BK411 := n1_; have HI414 := n2_; have HB := n3_; have BK420 := n4_; have GW420 := n5_; have GE420 := n6_; have NB411_420 := n7_; have NB420_411 := n8_; have NB414_420 := n9_; have NB420_414 := n10_; clear n0_ n1_ n2_ n3_ n4_ n5_ n6_ n7_ n8_ n9_ n10_; clear hb hbox hg; have hnb47 := NB420_411.out; have hnc47 := NB411_420.out; have hnb48 := NB420_414.out; have hnc48 := NB414_420.out; have hcz49_0 : w46.cell? ⟨gb420, 0, none⟩ = some (.int .i64 0) := (blk_cell BK420.out 0).trans rfl; have hcz49_1 : w46.cell? ⟨gb420, 1, none⟩ = some (.slice none 0 0) := (blk_cell BK420.out 1).trans rfl; have hfz49_0 := blk_frozen BK420.out 0; have hfz49_1 := blk_frozen BK420.out 1; obtain ⟨Ao50, co50, eo50⟩ := Kd.R_slice HO418.out; subst eo50) | ((with_reducible refine gate_callee (f := 50) rfl ?_); refine goesL_ (some 17) rfl rfl Tryd.func50 (by kernel_rfl) rfl #[.pointer (some ⟨g414, 0, none⟩), .int .i64 (wrap64 ((t416.length : Int) + 2))] rfl (by (try simp only [List.map_toArray, List.map_cons, List.map_nil]); first | done | rfl | (simp only [List.length_drop, List.length_take]; rfl)) ?_; (with_reducible refine (spec_l20Rd_pick.calls k g414 t412 t419 (wrap64 ((t416.length : Int) + 2)) t421 t422 w _ ?side1 ?side2 A4.out).mono ?_); (case side1 => repeat (first | (with_reducible first | exact HI414.out | apply IsS89.alloc | apply IsS89.drewN | apply IsS89.drew | apply IsS89.set_1 | refine IsS89.far ?_ NB414_411.out _ | refine IsS89.far ?_ NB414_420.out _) | exact HI414.out)); (case side2 => repeat (first | (with_reducible first | exact HB.out | apply below_alloc | apply pw_below_drewN | apply below_drew1 | refine below_set ?_ (IsS89.ge HI414.out) | refine below_set ?_ GE411.out | refine below_set ?_ GE420.out) | exact HB.out)); rintro e w51 ⟨rfl, hi, hb, hk⟩; refine ⟨_, rfl, ?_⟩; have n0_ := Aside0.mk (KeepBut.blk hk (g' := gb411) (o := .cells #[.int .i64 0, .slice none 0 0] 25 (0, 0)) (by (with_reducible repeat (first | refine blk_drewN ?_ _ | refine blk_drew ?_ | refine blk_alloc ?_ _)); refine blk_far ?_ NB411_420.out _; (with_reducible repeat (first | refine blk_drewN ?_ _ | refine blk_drew ?_ | refine blk_alloc ?_ _)); refine blk_far ?_ NB411_420.out _; (with_reducible repeat (first | refine blk_drewN ?_ _ | refine blk_drew ?_ | refine blk_alloc ?_ _)); exact BK411.out) NB411_414.out (by simp)); have n1_ := Aside0.mk (Kd.R_mono (Kd.R_keep (IsS89.apart (show IsS89 w _ g414 t412 t419 from by repeat (first | (with_reducible first | exact HI414.out | apply IsS89.alloc | apply IsS89.drewN | apply IsS89.drew | apply IsS89.set_1 | refine IsS89.far ?_ NB414_411.out _ | refine IsS89.far ?_ NB414_420.out _) | exact HI414.out)) (by (with_reducible repeat (first | apply Kd.R_alloc | apply Kd.R_drewN | apply Kd.R_drew)); exact (Kd.R_mono (Kd.R_far (p := ⟨gb420, 1, none⟩) (Kd.R_far (p := ⟨gb420, 0, none⟩) (Kd.R_types HO418.out BK420.out (by decide)) (fun _ hk => hk.2) (.int .i64 t415)) (fun _ hk => hk.2) (.slice Ao50 t416.length co50)) (fun _ h_ => h_.1))) (by decide)) hk (fun _ h => h.2)) (fun _ h => h.1)); have n2_ := Aside0.mk (KeepBut.blk hk (g' := gb420) (o := .cells #[.int .i64 t415, .slice Ao50 t416.length co50] 25 (0, 0)) (by (with_reducible repeat (first | refine blk_drewN ?_ _ | refine blk_drew ?_ | refine blk_alloc ?_ _)); refine blk_put (cs := #[.int .i64 t415, .slice none 0 0]) ?_ 1 _ rfl; (with_reducible repeat (first | refine blk_drewN ?_ _ | refine blk_drew ?_ | refine blk_alloc ?_ _)); refine blk_put (cs := #[.int .i64 0, .slice none 0 0]) ?_ 0 _ rfl; (with_reducible repeat (first | refine blk_drewN ?_ _ | refine blk_drew ?_ | refine blk_alloc ?_ _)); exact BK420.out) NB420_414.out (by simp)); have n3_ := Aside0.mk (hb); have n4_ := Aside0.mk (hi); clear BK411; clear HO418; clear BK420; clear HB; clear HI414; have BK411 := n0_; have HO418 := n1_; have BK420 := n2_; have HB := n3_; have HI414 := n4_; clear n0_ n1_ n2_ n3_ n4_; (try clear hb); (try clear hb2); (try clear hk); (try clear hi); have hcz52_0 : w51.cell? ⟨gb420, 0, none⟩ = some (.int .i64 t415) := (blk_cell BK420.out 0).trans rfl; have hcz52_1 : w51.cell? ⟨gb420, 1, none⟩ = some (.slice Ao50 t416.length co50) := (blk_cell BK420.out 1).trans rfl; have hfz52_0 := blk_frozen BK420.out 0; have hfz52_1 := blk_frozen BK420.out 1) | ((with_reducible refine gate_callee (f := 49) rfl ?_); refine goesL_ (some 24) rfl rfl Tryd.func49 (by kernel_rfl) rfl #[.int .i64 (wrap64 (t421 - 1)), .int .i64 0, .int .i64 (wrap64 ((t416.length : Int) - 1))] rfl (by (try simp only [List.map_toArray, List.map_cons, List.map_nil]); first | done | rfl | (simp only [List.length_drop, List.length_take]; rfl)) ?_; (with_reducible refine (spec_l1In.calls (wrap64 (t421 - 1)) 0 (wrap64 ((t416.length : Int) - 1)) false _ A5.out).mono ?_); rintro e w' ⟨rfl, ⟨nd, rfl⟩⟩; refine ⟨_, rfl, ?_⟩; (try (rw [drewN_self w51]; generalize hq_ : World.drewN w51 _ = w51; have n0_ : Aside0 (Kd.R k30 30 w51 w.heap.size (fun _ => True) (.slice Ao50 t416.length co50) t416) := ⟨by rw [← hq_]; exact (by (with_reducible repeat (first | apply Kd.R_alloc | apply Kd.R_drewN | apply Kd.R_drew)); exact HO418.out)⟩; have n1_ : Aside0 (w51.heap[gb411]? = some (.cells #[.int .i64 0, .slice none 0 0] 25 (0, 0))) := ⟨by rw [← hq_]; exact (by (with_reducible repeat (first | refine blk_drewN ?_ _ | refine blk_drew ?_ | refine blk_alloc ?_ _)); exact BK411.out)⟩; have n2_ : Aside0 (w51.heap[gb420]? = some (.cells #[.int .i64 t415, .slice Ao50 t416.length co50] 25 (0, 0))) := ⟨by rw [← hq_]; exact (by (with_reducible repeat (first | refine blk_drewN ?_ _ | refine blk_drew ?_ | refine blk_alloc ?_ _)); exact BK420.out)⟩; have n3_ : Aside0 (IsS89 w w51 g414 t412 t422) := ⟨by rw [← hq_]; exact (by repeat (first | (with_reducible first | exact HI414.out | apply IsS89.alloc | apply IsS89.drewN | apply IsS89.drew | apply IsS89.set_1 | refine IsS89.far ?_ NB414_411.out _ | refine IsS89.far ?_ NB414_420.out _) | exact HI414.out))⟩; have n4_ : Aside0 (Below w.heap.size w w51) := ⟨by rw [← hq_]; exact (by repeat (first | (with_reducible first | exact HB.out | apply below_alloc | apply pw_below_drewN | apply below_drew1 | refine below_set ?_ (IsS89.ge HI414.out) | refine below_set ?_ GE411.out | refine below_set ?_ GE420.out) | exact HB.out))⟩; clear HO418 BK411 BK420 HI414 HB hq_; have HO418 := n0_; have BK411 := n1_; have BK420 := n2_; have HI414 := n3_; have HB := n4_; clear n0_ n1_ n2_ n3_ n4_))))
    have n0_ := Aside0.mk (Kd.R_drew HO418.out)
    have n1_ := Aside0.mk (blk_drew BK411.out)
    have n2_ := Aside0.mk (blk_drew BK420.out)
    have n3_ := Aside0.mk (IsS89.drew HI414.out)
    have n4_ := Aside0.mk (below_drew1 HB.out)
    clear HO418
    clear BK411
    clear BK420
    clear HI414
    clear HB
    have HO418 := n0_
    have BK411 := n1_
    have BK420 := n2_
    have HI414 := n3_
    have HB := n4_
    clear n0_ n1_ n2_ n3_ n4_
    refine start_ (n := 7) (S := fun w' => w'.cell? ⟨gb420, 0, none⟩ = some (.int .i64 t415) ∧ w'.cell? ⟨gb420, 1, none⟩ = some (.slice Ao50 t416.length co50)) (ds := []) #[false, false, false, false, false, false, false] (by kernel_rfl) rfl rfl ⟨(blk_cell BK420.out 0).trans rfl, (blk_cell BK420.out 1).trans rfl⟩ (fun hHeld => ?_)
    generalize w51.drew = w53 at HO418 BK411 BK420 HI414 HB hHeld ⊢
    refine pure_ (i := 1) (N := some 39) (v := ?_) (a' := ?_) #[false, true, false, false, false, false, false] rfl rfl (by kernel_rfl) (fun _ _ _ h => h) (Or.inl ⟨by rfl, ?_⟩) ?_ ?_
    rotate_left
    · intro w'
      go_simp
      with_reducible rfl
    rotate_left
    · simp only [Act.put, List.setIfInBounds_toArray, List.set_cons_zero, List.set_cons_succ, i64_w, i32_w]
      rfl
    refine pure_ (i := 2) (N := some 40) (v := ?_) (a' := ?_) #[false, true, true, false, false, false, false] rfl rfl (by kernel_rfl) (fun _ _ _ h => h) (Or.inl ⟨by rfl, ?_⟩) ?_ ?_
    rotate_left
    · intro w'
      go_simp
      with_reducible rfl
    rotate_left
    · simp only [Act.put, List.setIfInBounds_toArray, List.set_cons_zero, List.set_cons_succ, i64_w, i32_w]
      rfl
    refine take_ (i := 0) (N := some 38) (v := ?_) (a' := ?_) #[true, true, true, false, false, false, false] rfl rfl (by kernel_rfl) (fun _ _ _ h => h) (Or.inl ⟨by rfl, ?_⟩) hHeld ?_ ?_
    rotate_left
    · rintro w' ⟨s0, s1⟩
      go_simp
      with_reducible rfl
    rotate_left
    · simp only [Act.put, List.setIfInBounds_toArray, List.set_cons_zero, List.set_cons_succ, i64_w, i32_w]
      rfl
    refine one_ (i := 3) (N := some 41) #[true, true, true, true, false, false, false] rfl rfl (by kernel_rfl) (by decide) (fun K hK => ?_)
    refine goes_ Tryd.func50 (by kernel_rfl) rfl #[.pointer (some ⟨g414, 0, none⟩), .int .i64 8] (by rfl) rfl rfl (by (try simp only [List.map_toArray, List.map_cons, List.map_nil]); first | done | rfl | (simp only [List.length_drop, List.length_take]; rfl)) ?_
    with_reducible refine (spec_l20Rd_pick.calls k g414 t412 t422 8 t429 t430 w _ ?side1 ?side2 A42.out).mono ?_
    (case side1 => repeat (first | (with_reducible first | exact HI414.out | apply IsS89.alloc | apply IsS89.drewN | apply IsS89.drew | apply IsS89.set_1 | refine IsS89.far ?_ NB414_411.out _ | refine IsS89.far ?_ NB414_420.out _) | exact HI414.out))
    (case side2 => repeat (first | (with_reducible first | exact HB.out | apply below_alloc | apply pw_below_drewN | apply below_drew1 | refine below_set ?_ (IsS89.ge HI414.out) | refine below_set ?_ GE411.out | refine below_set ?_ GE420.out) | exact HB.out))
    rintro e w54 ⟨rfl, hi, hb, hk⟩
    refine ⟨_, rfl, ?_⟩
    have n0_ := Aside0.mk (KeepBut.blk hk (g' := gb411) (o := .cells #[.int .i64 0, .slice none 0 0] 25 (0, 0)) (by (with_reducible repeat (first | refine blk_drewN ?_ _ | refine blk_drew ?_ | refine blk_alloc ?_ _)); exact BK411.out) NB411_414.out (by simp))
    have n1_ := Aside0.mk (Kd.R_mono (Kd.R_keep (IsS89.apart (show IsS89 w _ g414 t412 t422 from by repeat (first | (with_reducible first | exact HI414.out | apply IsS89.alloc | apply IsS89.drewN | apply IsS89.drew | apply IsS89.set_1 | refine IsS89.far ?_ NB414_411.out _ | refine IsS89.far ?_ NB414_420.out _) | exact HI414.out)) (by (with_reducible repeat (first | apply Kd.R_alloc | apply Kd.R_drewN | apply Kd.R_drew)); exact HO418.out) (by decide)) hk (fun _ h => h.2)) (fun _ h => h.1))
    have n2_ := Aside0.mk (KeepBut.blk hk (g' := gb420) (o := .cells #[.int .i64 t415, .slice Ao50 t416.length co50] 25 (0, 0)) (by (with_reducible repeat (first | refine blk_drewN ?_ _ | refine blk_drew ?_ | refine blk_alloc ?_ _)); exact BK420.out) NB420_414.out (by simp))
    have n3_ := Aside0.mk (hb)
    have n4_ := Aside0.mk (hi)
    clear BK411
    clear HO418
    clear BK420
    clear HB
    clear HI414
    have BK411 := n0_
    have HO418 := n1_
    have BK420 := n2_
    have HB := n3_
    have HI414 := n4_
    clear n0_ n1_ n2_ n3_ n4_
    (try clear hb)
    (try clear hb2)
    (try clear hk)
    (try clear hi)
    refine hK.out _ _ ⟨(blk_cell BK420.out 0).trans rfl, (blk_cell BK420.out 1).trans rfl⟩ (fun hHeld => ?_)
    clear hK K
    refine norm_ (a' := ?_) ?_ ?_
    rotate_left
    · show Act.put _ (some 41) _ = _
      simp only [Act.put, List.setIfInBounds_toArray, List.set_cons_zero, List.set_cons_succ, i64_w, i32_w]
      rfl
    refine one_ (i := 4) (N := none) #[true, true, true, true, true, false, false] rfl rfl (by kernel_rfl) (by decide) (fun K hK => ?_)
    have hs55 : w54.cell? ⟨gb411, 0, none⟩ = some (.int .i64 0) := (blk_cell BK411.out 0).trans rfl
    have hfs55 := blk_frozen BK411.out 0
    have hns55_1 := NB420_411.out
    have hms55_1 := NB411_420.out
    have hs56 : w54.cell? ⟨gb411, 1, none⟩ = some (.slice none 0 0) := (blk_cell BK411.out 1).trans rfl
    have hfs56 := blk_frozen BK411.out 1
    have hns56_1 := NB420_411.out
    have hms56_1 := NB411_420.out
    refine skip_ (w1 := ?_) (by rfl) rfl ?_ ?_
    rotate_left
    · go_simp
      rfl
    refine hK.out _ _ ⟨((cell_far (p := ⟨gb411, _, none⟩) NB420_411.out _).trans (((cell_far (p := ⟨gb411, _, none⟩) NB420_411.out _).trans (hHeld.1)))), ((cell_far (p := ⟨gb411, _, none⟩) NB420_411.out _).trans (((cell_far (p := ⟨gb411, _, none⟩) NB420_411.out _).trans (hHeld.2))))⟩ (fun hHeld => ?_)
    clear hK K
    refine pure_ (i := 5) (N := some 3) (v := ?_) (a' := ?_) #[true, true, true, true, true, true, false] rfl rfl (by kernel_rfl) (fun _ _ _ h => h) (Or.inl ⟨by rfl, ?_⟩) ?_ ?_
    rotate_left
    · intro w'
      go_simp
      with_reducible rfl
    rotate_left
    · simp only [Act.put, List.setIfInBounds_toArray, List.set_cons_zero, List.set_cons_succ, i64_w, i32_w]
      rfl
    refine pure_ (i := 6) (N := some 4) (v := ?_) (a' := ?_) #[true, true, true, true, true, true, true] rfl rfl (by kernel_rfl) (fun _ _ _ h => h) (Or.inl ⟨by rfl, ?_⟩) ?_ ?_
    rotate_left
    · intro w'
      go_simp
      with_reducible rfl
    rotate_left
    · simp only [Act.put, List.setIfInBounds_toArray, List.set_cons_zero, List.set_cons_succ, i64_w, i32_w]
      rfl
    refine done_ (by kernel_rfl) ?_
    try go_wp2
    refine bodyPost_ret (results_ctt rfl _ _ gb411 25 #[.int .i64 t415, .slice Ao50 t416.length co50] (0, 0) _ rfl (by (with_reducible repeat (first | refine blk_drewN ?_ _ | refine blk_drew ?_ | refine blk_alloc ?_ _)); refine blk_put (cs := #[.int .i64 t415, .slice none 0 0]) ?_ 1 _ rfl; (with_reducible repeat (first | refine blk_drewN ?_ _ | refine blk_drew ?_ | refine blk_alloc ?_ _)); refine blk_put (cs := #[.int .i64 0, .slice none 0 0]) ?_ 0 _ rfl; (with_reducible repeat (first | refine blk_drewN ?_ _ | refine blk_drew ?_ | refine blk_alloc ?_ _)); exact BK411.out) Tryd.underlying25 rfl (by kernel_rfl)) rfl ?_
    exact ⟨_, by first | rfl | (simp [errW_none, errW_some] <;> rfl) | (simp [*, errW_none, errW_some] <;> rfl), by (with_reducible repeat (first | apply Kd.R_alloc | apply Kd.R_drewN | apply Kd.R_drew)); exact Kd.R_mono (Kd.R_far (p := ⟨gb411, 1, none⟩) (Kd.R_far (p := ⟨gb411, 0, none⟩) (Kd.R_types HO418.out BK411.out (by decide)) (fun _ hk => hk.2) (.int .i64 t415)) (fun _ hk => hk.2) (.slice Ao50 t416.length co50)) (fun _ hk => trivial), by repeat (first | (with_reducible first | exact HB.out | apply below_alloc | apply pw_below_drewN | apply below_drew1 | refine below_set ?_ (IsS89.ge HI414.out) | refine below_set ?_ GE411.out | refine below_set ?_ GE420.out) | exact HB.out)⟩

end Go.Proofs.YtlahlfjhfmldaaaDoor.P

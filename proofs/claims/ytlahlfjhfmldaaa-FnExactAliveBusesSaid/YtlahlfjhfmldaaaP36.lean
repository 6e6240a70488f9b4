/- Contracts of Go functions of this seat's translation, written by this repo's wip/mk.py: it calls the kit's print.py with contracts typed by hand in place of functions that it does not take. Not trusted: Lean checks it. -/
import Derived.Test.YtlahlfjhfmldaaaP0
import Derived.Test.YtlahlfjhfmldaaaP33
namespace Go.Proofs.Ytlahlfjhfmldaaa.P
open Go.RowKit Go.Proofs.YtlahlfjhfmldaaaW.PrintWords Go.Proofs.YtlahlfjhfmldaaaW.PrintLast Go.Proofs.YtlahlfjhfmldaaaW.PrintMore
attribute [local go_sem] max2_int min2_int max_two min_two max_three min_three max_four min_four   -- for this text's walks alone
set_option linter.unusedVariables false
set_option linter.unusedSimpArgs false

/-! ### laws_eqNet: function 14 -/
def laws_eqNet.f (k : Nat) (a0_0 : Int) (l0_1 : List (S77)) (a1_0 : Int) (l1_1 : List (S77)) : Option (Bool) := if a0_0 = a1_0 then ((laws_eqLineS.f k l0_1 l1_1).bind fun t245 => (if t245 = true then (some true) else (some false))) else (some false)
theorem laws_eqNet.mono : ∀ a0 a1 a2 a3 k, LeO (laws_eqNet.f k a0 a1 a2 a3) (laws_eqNet.f (k + 1) a0 a1 a2 a3) := by
 intro a0 a1 a2 a3 k
 unfold laws_eqNet.f
 repeat' first
   | (with_reducible exact laws_eqLineS.mono _ _ _)
   | (with_reducible exact LeO.refl _)
   | (with_reducible exact LeO.none _)
   | (with_reducible refine LeO.ite ?_ ?_)
   | (with_reducible refine LeO.bind ?_ (fun _ => ?_))
   | exact laws_eqLineS.mono _ _ _
   | exact LeO.none _
   | refine LeO.ite ?_ ?_
   | refine LeO.bind ?_ (fun _ => ?_)
set_option maxHeartbeats 8000000 in
set_option maxRecDepth 100000 in
theorem laws_eqNet.calls (k : Nat) (a0_0 : Int) (A0_1 : Option Addr) (c0_1 : Nat) (l0_1 : List (S77)) (a1_0 : Int) (A1_1 : Option Addr) (c1_1 : Nat) (l1_1 : List (S77)) (r : Bool) (w : World) (hr0_1 : Kd.C k77 w A0_1 l0_1.length l0_1) (hc0_1 : l0_1.length ≤ c0_1) (hr1_1 : Kd.C k77 w A1_1 l1_1.length l1_1) (hc1_1 : l1_1.length ≤ c1_1) (h : laws_eqNet.f k a0_0 l0_1 a1_0 l1_1 = some r) :
  Calls Try.prog 14 #[.agg #[.int .i64 a0_0, .slice A0_1 l0_1.length c0_1], .agg #[.int .i64 a1_0, .slice A1_1 l1_1.length c1_1]] w fun e w' => e = .returned (.bool r) ∧ Below w.heap.size w w' := by
 have hu33 := Try.underlying33
 have HR0_1 := Aside0.mk hr0_1
 have HC0_1 := Aside0.mk hc0_1
 clear hr0_1 hc0_1
 have HR1_1 := Aside0.mk hr1_1
 have HC1_1 := Aside0.mk hc1_1
 clear hr1_1 hc1_1
 have HB := Aside0.mk (Below.refl w.heap.size w)
 have H : (if a0_0 = a1_0 then ((laws_eqLineS.f k l0_1 l1_1).bind fun t245 => (if t245 = true then (some true) else (some false))) else (some false)) = some r := h
 clear h
 by_cases c3 : a0_0 = a1_0
 rotate_left
 ·
  rw [if_neg c3] at H
  have c3b0 : (a0_0 == a1_0) = false := beq_eq_false_iff_ne.mpr c3
  have c3b1 : (a0_0 != a1_0) = true := bne_iff_ne.mpr c3
  obtain rfl := Option.some.inj H
  go_enter Try.func14, Try.ntmps14
  go_wp2_with (first | ((with_reducible refine gate_dst (N := 2) rfl ?_); refine box_event ?hg (N := 2) ?hd (cs := #[.int .i64 a0_0, .slice A0_1 l0_1.length c0_1]) (t := 33) ?hr ?_; (case hd => rfl); (case hg => rfl); (case hr => first | (go_simp; done) | (go_simp; rfl)); intro gb243 hg w18 hbox hb; have n0_ := Aside0.mk (below_step (by repeat (first | (with_reducible first | exact HB.out | apply below_alloc | apply pw_below_drewN | apply below_drew1) | exact HB.out)) hb); have n1_ := Aside0.mk (hbox); have n2_ := Aside0.mk ((by rw [hg]; exact (below_size (by repeat (first | (with_reducible first | exact HB.out | apply below_alloc | apply pw_below_drewN | apply below_drew1) | exact HB.out))) : w.heap.size ≤ gb243)); have n3_ := Aside0.mk ((by rw [hg]; exact (below_size (by repeat (first | (with_reducible first | exact HB.out | apply below_alloc | apply pw_below_drewN | apply below_drew1) | exact HB.out))) : w.heap.size ≤ gb243)); clear HB; have HB := n0_; have BK243 := n1_; have GW243 := n2_; have GE243 := n3_; clear n0_ n1_ n2_ n3_; clear hb hbox hg) | ((with_reducible refine gate_dst (N := 3) rfl ?_); refine box_event ?hg (N := 3) ?hd (cs := #[.int .i64 a1_0, .slice A1_1 l1_1.length c1_1]) (t := 33) ?hr ?_; (case hd => rfl); (case hg => rfl); (case hr => first | (go_simp; done) | (go_simp; rfl)); intro gb244 hg w19 hbox hb; have n0_ := Aside0.mk (blk_below (g := gb243) (o := .cells #[.int .i64 a0_0, .slice A0_1 l0_1.length c0_1] 33 (0, 0)) (by (with_reducible repeat (first | refine blk_drewN ?_ _ | refine blk_drew ?_ | refine blk_alloc ?_ _)); exact BK243.out) hb); have n1_ := Aside0.mk (below_step (by repeat (first | (with_reducible first | exact HB.out | apply below_alloc | apply pw_below_drewN | apply below_drew1 | refine below_set ?_ GE243.out) | exact HB.out)) hb); have n2_ := Aside0.mk (hbox); have n3_ := Aside0.mk ((by rw [hg]; exact (below_size (by repeat (first | (with_reducible first | exact HB.out | apply below_alloc | apply pw_below_drewN | apply below_drew1 | refine below_set ?_ GE243.out) | exact HB.out))) : w.heap.size ≤ gb244)); have n4_ := Aside0.mk ((by rw [hg]; exact (below_size (by repeat (first | (with_reducible first | exact HB.out | apply below_alloc | apply pw_below_drewN | apply below_drew1 | refine below_set ?_ GE243.out) | exact HB.out))) : w.heap.size ≤ gb244)); have n5_ := Aside0.mk ((by rw [hg]; exact Nat.ne_of_lt (blk_lt (g := gb243) (o := .cells #[.int .i64 a0_0, .slice A0_1 l0_1.length c0_1] 33 (0, 0)) (by (with_reducible repeat (first | refine blk_drewN ?_ _ | refine blk_drew ?_ | refine blk_alloc ?_ _)); exact BK243.out)) : gb243 ≠ gb244)); have n6_ := Aside0.mk ((by rw [hg]; exact Nat.ne_of_gt (blk_lt (g := gb243) (o := .cells #[.int .i64 a0_0, .slice A0_1 l0_1.length c0_1] 33 (0, 0)) (by (with_reducible repeat (first | refine blk_drewN ?_ _ | refine blk_drew ?_ | refine blk_alloc ?_ _)); exact BK243.out)) : gb244 ≠ gb243)); clear BK243; clear HB; have BK243 := n0_; have HB := n1_; have BK244 := n2_; have GW244 := n3_; have GE244 := n4_; have NB243_244 := n5_; have NB244_243 := n6_; clear n0_ n1_ n2_ n3_ n4_ n5_ n6_; clear hb hbox hg; have hnb20 := NB243_244.out; have hnc20 := NB244_243.out; have hcz21_0 : w19.cell? ⟨gb243, 0, none⟩ = some (.int .i64 a0_0) := (blk_cell BK243.out 0).trans rfl; have hcz21_1 : w19.cell? ⟨gb243, 1, none⟩ = some (.slice A0_1 l0_1.length c0_1) := (blk_cell BK243.out 1).trans rfl; have hfz21_0 := blk_frozen BK243.out 0; have hfz21_1 := blk_frozen BK243.out 1; have hcz22_0 : w19.cell? ⟨gb244, 0, none⟩ = some (.int .i64 a1_0) := (blk_cell BK244.out 0).trans rfl; have hcz22_1 : w19.cell? ⟨gb244, 1, none⟩ = some (.slice A1_1 l1_1.length c1_1) := (blk_cell BK244.out 1).trans rfl; have hfz22_0 := blk_frozen BK244.out 0; have hfz22_1 := blk_frozen BK244.out 1))
  go_ret
  exact ⟨by first | rfl | (simp [errW_none, errW_some] <;> rfl) | (simp [*, errW_none, errW_some] <;> rfl), by repeat (first | (with_reducible first | exact HB.out | apply below_alloc | apply pw_below_drewN | apply below_drew1 | refine below_set ?_ GE243.out | refine below_set ?_ GE244.out) | exact HB.out)⟩
 rw [if_pos c3] at H
 have c3b0 : (a0_0 == a1_0) = true := beq_iff_eq.mpr c3
 have c3b1 : (a0_0 != a1_0) = false := bne_eq_false_iff_eq.mpr c3
 clear c3
 replace H := Option.bind_eq_some_iff.mp H
 obtain ⟨t245, A40, H⟩ := H
 replace H : (if t245 = true then (some true) else (some false)) = some r := H
 have A4 := Aside0.mk A40
 clear A40
 by_cases c5 : t245 = true
 ·
  subst c5
  have H1 : (some true) = some r := by rw [if_pos rfl] at H; exact H
  clear H
  have H := H1
  clear H1
  obtain rfl := Option.some.inj H
  go_enter Try.func14, Try.ntmps14
  go_wp2_with (first | ((with_reducible refine gate_dst (N := 2) rfl ?_); refine box_event ?hg (N := 2) ?hd (cs := #[.int .i64 a0_0, .slice A0_1 l0_1.length c0_1]) (t := 33) ?hr ?_; (case hd => rfl); (case hg => rfl); (case hr => first | (go_simp; done) | (go_simp; rfl)); intro gb243 hg w6 hbox hb; have n0_ := Aside0.mk (below_step (by repeat (first | (with_reducible first | exact HB.out | apply below_alloc | apply pw_below_drewN | apply below_drew1) | exact HB.out)) hb); have n1_ := Aside0.mk (hbox); have n2_ := Aside0.mk ((by rw [hg]; exact (below_size (by repeat (first | (with_reducible first | exact HB.out | apply below_alloc | apply pw_below_drewN | apply below_drew1) | exact HB.out))) : w.heap.size ≤ gb243)); have n3_ := Aside0.mk ((by rw [hg]; exact (below_size (by repeat (first | (with_reducible first | exact HB.out | apply below_alloc | apply pw_below_drewN | apply below_drew1) | exact HB.out))) : w.heap.size ≤ gb243)); clear HB; have HB := n0_; have BK243 := n1_; have GW243 := n2_; have GE243 := n3_; clear n0_ n1_ n2_ n3_; clear hb hbox hg) | ((with_reducible refine gate_dst (N := 3) rfl ?_); refine box_event ?hg (N := 3) ?hd (cs := #[.int .i64 a1_0, .slice A1_1 l1_1.length c1_1]) (t := 33) ?hr ?_; (case hd => rfl); (case hg => rfl); (case hr => first | (go_simp; done) | (go_simp; rfl)); intro gb244 hg w7 hbox hb; have n0_ := Aside0.mk (blk_below (g := gb243) (o := .cells #[.int .i64 a0_0, .slice A0_1 l0_1.length c0_1] 33 (0, 0)) (by (with_reducible repeat (first | refine blk_drewN ?_ _ | refine blk_drew ?_ | refine blk_alloc ?_ _)); exact BK243.out) hb); have n1_ := Aside0.mk (below_step (by repeat (first | (with_reducible first | exact HB.out | apply below_alloc | apply pw_below_drewN | apply below_drew1 | refine below_set ?_ GE243.out) | exact HB.out)) hb); have n2_ := Aside0.mk (hbox); have n3_ := Aside0.mk ((by rw [hg]; exact (below_size (by repeat (first | (with_reducible first | exact HB.out | apply below_alloc | apply pw_below_drewN | apply below_drew1 | refine below_set ?_ GE243.out) | exact HB.out))) : w.heap.size ≤ gb244)); have n4_ := Aside0.mk ((by rw [hg]; exact (below_size (by repeat (first | (with_reducible first | exact HB.out | apply below_alloc | apply pw_below_drewN | apply below_drew1 | refine below_set ?_ GE243.out) | exact HB.out))) : w.heap.size ≤ gb244)); have n5_ := Aside0.mk ((by rw [hg]; exact Nat.ne_of_lt (blk_lt (g := gb243) (o := .cells #[.int .i64 a0_0, .slice A0_1 l0_1.length c0_1] 33 (0, 0)) (by (with_reducible repeat (first | refine blk_drewN ?_ _ | refine blk_drew ?_ | refine blk_alloc ?_ _)); exact BK243.out)) : gb243 ≠ gb244)); have n6_ := Aside0.mk ((by rw [hg]; exact Nat.ne_of_gt (blk_lt (g := gb243) (o := .cells #[.int .i64 a0_0, .slice A0_1 l0_1.length c0_1] 33 (0, 0)) (by (with_reducible repeat (first | refine blk_drewN ?_ _ | refine blk_drew ?_ | refine blk_alloc ?_ _)); exact BK243.out)) : gb244 ≠ gb243)); clear BK243; clear HB; have BK243 := n0_; have HB := n1_; have BK244 := n2_; have GW244 := n3_; have GE244 := n4_; have NB243_244 := n5_; have NB244_243 := n6_; clear n0_ n1_ n2_ n3_ n4_ n5_ n6_; clear hb hbox hg; have hnb8 := NB243_244.out; have hnc8 := NB244_243.out; have hcz9_0 : w7.cell? ⟨gb243, 0, none⟩ = some (.int .i64 a0_0) := (blk_cell BK243.out 0).trans rfl; have hcz9_1 : w7.cell? ⟨gb243, 1, none⟩ = some (.slice A0_1 l0_1.length c0_1) := (blk_cell BK243.out 1).trans rfl; have hfz9_0 := blk_frozen BK243.out 0; have hfz9_1 := blk_frozen BK243.out 1; have hcz10_0 : w7.cell? ⟨gb244, 0, none⟩ = some (.int .i64 a1_0) := (blk_cell BK244.out 0).trans rfl; have hcz10_1 : w7.cell? ⟨gb244, 1, none⟩ = some (.slice A1_1 l1_1.length c1_1) := (blk_cell BK244.out 1).trans rfl; have hfz10_0 := blk_frozen BK244.out 0; have hfz10_1 := blk_frozen BK244.out 1) | ((with_reducible refine gate_callee (f := 35) rfl ?_); refine goesL_ (some 14) rfl rfl Try.func35 (by kernel_rfl) rfl #[.slice A0_1 l0_1.length c0_1, .slice A1_1 l1_1.length c1_1] rfl (by (try simp only [List.map_toArray, List.map_cons, List.map_nil]); first | done | rfl | (simp only [List.length_drop, List.length_take]; rfl)) ?_; (with_reducible refine (laws_eqLineS.calls k _ _ l0_1 _ _ l1_1 true _ ?side1 ?side2 ?side3 ?side4 A4.out).mono ?_); (case side1 => repeat (first | exact (Kd.C_below HR0_1.out HB.out) | (with_reducible refine Kd.C_alloc ?_ _) | (with_reducible refine Kd.C_drewN ?_ _) | (with_reducible refine Kd.C_drew ?_))); (case side2 => exact HC0_1.out); (case side3 => repeat (first | exact (Kd.C_below HR1_1.out HB.out) | (with_reducible refine Kd.C_alloc ?_ _) | (with_reducible refine Kd.C_drewN ?_ _) | (with_reducible refine Kd.C_drew ?_))); (case side4 => exact HC1_1.out); rintro e w11 ⟨rfl, hb⟩; refine ⟨_, rfl, ?_⟩; have n0_ := Aside0.mk (blk_below (g := gb243) (o := .cells #[.int .i64 a0_0, .slice A0_1 l0_1.length c0_1] 33 (0, 0)) (by (with_reducible repeat (first | refine blk_drewN ?_ _ | refine blk_drew ?_ | refine blk_alloc ?_ _)); exact BK243.out) hb); have n1_ := Aside0.mk (blk_below (g := gb244) (o := .cells #[.int .i64 a1_0, .slice A1_1 l1_1.length c1_1] 33 (0, 0)) (by (with_reducible repeat (first | refine blk_drewN ?_ _ | refine blk_drew ?_ | refine blk_alloc ?_ _)); exact BK244.out) hb); have n2_ := Aside0.mk (below_step (by repeat (first | (with_reducible first | exact HB.out | apply below_alloc | apply pw_below_drewN | apply below_drew1 | refine below_set ?_ GE243.out | refine below_set ?_ GE244.out) | exact HB.out)) hb); clear BK243; clear BK244; clear HB; have BK243 := n0_; have BK244 := n1_; have HB := n2_; clear n0_ n1_ n2_; (try clear hb); (try clear hb2); (try clear hk); (try clear hi)))
  go_ret
  exact ⟨by first | rfl | (simp [errW_none, errW_some] <;> rfl) | (simp [*, errW_none, errW_some] <;> rfl), by repeat (first | (with_reducible first | exact HB.out | apply below_alloc | apply pw_below_drewN | apply below_drew1 | refine below_set ?_ GE243.out | refine below_set ?_ GE244.out) | exact HB.out)⟩
 replace c5 := Bool.eq_false_iff.mpr c5
 subst c5
 have H1 : (some false) = some r := by rw [if_neg (show ¬ (false = true) by decide)] at H; exact H
 clear H
 have H := H1
 clear H1
 obtain rfl := Option.some.inj H
 go_enter Try.func14, Try.ntmps14
 go_wp2_with (first | ((with_reducible refine gate_dst (N := 2) rfl ?_); refine box_event ?hg (N := 2) ?hd (cs := #[.int .i64 a0_0, .slice A0_1 l0_1.length c0_1]) (t := 33) ?hr ?_; (case hd => rfl); (case hg => rfl); (case hr => first | (go_simp; done) | (go_simp; rfl)); intro gb243 hg w12 hbox hb; have n0_ := Aside0.mk (below_step (by repeat (first | (with_reducible first | exact HB.out | apply below_alloc | apply pw_below_drewN | apply below_drew1) | exact HB.out)) hb); have n1_ := Aside0.mk (hbox); have n2_ := Aside0.mk ((by rw [hg]; exact (below_size (by repeat (first | (with_reducible first | exact HB.out | apply below_alloc | apply pw_below_drewN | apply below_drew1) | exact HB.out))) : w.heap.size ≤ gb243)); have n3_ := Aside0.mk ((by rw [hg]; exact (below_size (by repeat (first | (with_reducible first | exact HB.out | apply below_alloc | apply pw_below_drewN | apply below_drew1) | exact HB.out))) : w.heap.size ≤ gb243)); clear HB; have HB := n0_; have BK243 := n1_; have GW243 := n2_; have GE243 := n3_; clear n0_ n1_ n2_ n3_; clear hb hbox hg) | ((with_reducible refine gate_dst (N := 3) rfl ?_); refine box_event ?hg (N := 3) ?hd (cs := #[.int .i64 a1_0, .slice A1_1 l1_1.length c1_1]) (t := 33) ?hr ?_; (case hd => rfl); (case hg => rfl); (case hr => first | (go_simp; done) | (go_simp; rfl)); intro gb244 hg w13 hbox hb; have n0_ := Aside0.mk (blk_below (g := gb243) (o := .cells #[.int .i64 a0_0, .slice A0_1 l0_1.length c0_1] 33 (0, 0)) (by (with_reducible repeat (first | refine blk_drewN ?_ _ | refine blk_drew ?_ | refine blk_alloc ?_ _)); exact BK243.out) hb); have n1_ := Aside0.mk (below_step (by repeat (first | (with_reducible first | exact HB.out | apply below_alloc | apply pw_below_drewN | apply below_drew1 | refine below_set ?_ GE243.out) | exact HB.out)) hb); have n2_ := Aside0.mk (hbox); have n3_ := Aside0.mk ((by rw [hg]; exact (below_size (by repeat (first | (with_reducible first | exact HB.out | apply below_alloc | apply pw_below_drewN | apply below_drew1 | refine below_set ?_ GE243.out) | exact HB.out))) : w.heap.size ≤ gb244)); have n4_ := Aside0.mk ((by rw [hg]; exact (below_size (by repeat (first | (with_reducible first | exact HB.out | apply below_alloc | apply pw_below_drewN | apply below_drew1 | refine below_set ?_ GE243.out) | exact HB.out))) : w.heap.size ≤ gb244)); have n5_ := Aside0.mk ((by rw [hg]; exact Nat.ne_of_lt (blk_lt (g := gb243) (o := .cells #[.int .i64 a0_0, .slice A0_1 l0_1.length c0_1] 33 (0, 0)) (by (with_reducible repeat (first | refine blk_drewN ?_ _ | refine blk_drew ?_ | refine blk_alloc ?_ _)); exact BK243.out)) : gb243 ≠ gb244)); have n6_ := Aside0.mk ((by rw [hg]; exact Nat.ne_of_gt (blk_lt (g := gb243) (o := .cells #[.int .i64 a0_0, .slice A0_1 l0_1.length c0_1] 33 (0, 0)) (by (with_reducible repeat (first | refine blk_drewN ?_ _ | refine blk_drew ?_ | refine blk_alloc ?_ _)); exact BK243.out)) : gb244 ≠ gb243)); clear BK243; clear HB; have BK243 := n0_; have HB := n1_; have BK244 := n2_; have GW244 := n3_; have GE244 := n4_; have NB243_244 := n5_; have NB244_243 := n6_; clear n0_ n1_ n2_ n3_ n4_ n5_ n6_; clear hb hbox hg; have hnb14 := NB243_244.out; have hnc14 := NB244_243.out; have hcz15_0 : w13.cell? ⟨gb243, 0, none⟩ = some (.int .i64 a0_0) := (blk_cell BK243.out 0).trans rfl; have hcz15_1 : w13.cell? ⟨gb243, 1, none⟩ = some (.slice A0_1 l0_1.length c0_1) := (blk_cell BK243.out 1).trans rfl; have hfz15_0 := blk_frozen BK243.out 0; have hfz15_1 := blk_frozen BK243.out 1; have hcz16_0 : w13.cell? ⟨gb244, 0, none⟩ = some (.int .i64 a1_0) := (blk_cell BK244.out 0).trans rfl; have hcz16_1 : w13.cell? ⟨gb244, 1, none⟩ = some (.slice A1_1 l1_1.length c1_1) := (blk_cell BK244.out 1).trans rfl; have hfz16_0 := blk_frozen BK244.out 0; have hfz16_1 := blk_frozen BK244.out 1) | ((with_reducible refine gate_callee (f := 35) rfl ?_); refine goesL_ (some 14) rfl rfl Try.func35 (by kernel_rfl) rfl #[.slice A0_1 l0_1.length c0_1, .slice A1_1 l1_1.length c1_1] rfl (by (try simp only [List.map_toArray, List.map_cons, List.map_nil]); first | done | rfl | (simp only [List.length_drop, List.length_take]; rfl)) ?_; (with_reducible refine (laws_eqLineS.calls k _ _ l0_1 _ _ l1_1 false _ ?side1 ?side2 ?side3 ?side4 A4.out).mono ?_); (case side1 => repeat (first | exact (Kd.C_below HR0_1.out HB.out) | (with_reducible refine Kd.C_alloc ?_ _) | (with_reducible refine Kd.C_drewN ?_ _) | (with_reducible refine Kd.C_drew ?_))); (case side2 => exact HC0_1.out); (case side3 => repeat (first | exact (Kd.C_below HR1_1.out HB.out) | (with_reducible refine Kd.C_alloc ?_ _) | (with_reducible refine Kd.C_drewN ?_ _) | (with_reducible refine Kd.C_drew ?_))); (case side4 => exact HC1_1.out); rintro e w17 ⟨rfl, hb⟩; refine ⟨_, rfl, ?_⟩; have n0_ := Aside0.mk (blk_below (g := gb243) (o := .cells #[.int .i64 a0_0, .slice A0_1 l0_1.length c0_1] 33 (0, 0)) (by (with_reducible repeat (first | refine blk_drewN ?_ _ | refine blk_drew ?_ | refine blk_alloc ?_ _)); exact BK243.out) hb); have n1_ := Aside0.mk (blk_below (g := gb244) (o := .cells #[.int .i64 a1_0, .slice A1_1 l1_1.length c1_1] 33 (0, 0)) (by (with_reducible repeat (first | refine blk_drewN ?_ _ | refine blk_drew ?_ | refine blk_alloc ?_ _)); exact BK244.out) hb); have n2_ := Aside0.mk (below_step (by repeat (first | (with_reducible first | exact HB.out | apply below_alloc | apply pw_below_drewN | apply below_drew1 | refine below_set ?_ GE243.out | refine below_set ?_ GE244.out) | exact HB.out)) hb); clear BK243; clear BK244; clear HB; have BK243 := n0_; have BK244 := n1_; have HB := n2_; clear n0_ n1_ n2_; (try clear hb); (try clear hb2); (try clear hk); (try clear hi)))
 go_ret
 exact ⟨by first | rfl | (simp [errW_none, errW_some] <;> rfl) | (simp [*, errW_none, errW_some] <;> rfl), by repeat (first | (with_reducible first | exact HB.out | apply below_alloc | apply pw_below_drewN | apply below_drew1 | refine below_set ?_ GE243.out | refine below_set ?_ GE244.out) | exact HB.out)⟩

end Go.Proofs.Ytlahlfjhfmldaaa.P
namespace Go.Proofs.Ytlahlfjhfmldaaa.P
open Go.RowKit Go.Proofs.YtlahlfjhfmldaaaW.PrintWords Go.Proofs.YtlahlfjhfmldaaaW.PrintLast Go.Proofs.YtlahlfjhfmldaaaW.PrintMore
attribute [local go_sem] max2_int min2_int max_two min_two max_three min_three max_four min_four   -- for this text's walks alone
set_option linter.unusedVariables false
set_option linter.unusedSimpArgs false

/-! ### laws_eqBoolS: function 15 -/
def laws_eqBoolS.l0 : Nat → List Bool → List Bool → Int → Option (Bool)
 | 0, _, _, _ => none
 | k + 1, x0, x1, x5 => if x5 < (x0.length : Int) then (if 0 ≤ x5 then (if x5 < (x1.length : Int) then (if ((rdOf false x0 x5) != (rdOf false x1 x5)) = true then (some false) else (laws_eqBoolS.l0 k x0 x1 (wrap64 (x5 + 1)))) else (none)) else (none)) else (some true)
def laws_eqBoolS.f (k : Nat) (l0 : List Bool) (l1 : List Bool) : Option (Bool) := if (l0.length : Int) = (l1.length : Int) then (laws_eqBoolS.l0 k l0 l1 0) else (some false)
theorem laws_eqBoolS.mono_l : ∀ k, (∀ y0 y1 y2, LeO (laws_eqBoolS.l0 k y0 y1 y2) (laws_eqBoolS.l0 (k + 1) y0 y1 y2))
 | 0 => fun _ _ _ r h => by simp [laws_eqBoolS.l0] at h
 | k + 1 => by
  have ih0 := laws_eqBoolS.mono_l k
  ·
   intro y0 y1 y2
   unfold laws_eqBoolS.l0
   repeat' first
   | (with_reducible exact ih0 _ _ _)
   | (with_reducible exact LeO.refl _)
   | (with_reducible exact LeO.none _)
   | (with_reducible refine LeO.ite ?_ ?_)
   | (with_reducible refine LeO.bind ?_ (fun _ => ?_))
   | exact ih0 _ _ _
   | exact LeO.none _
   | refine LeO.ite ?_ ?_
   | refine LeO.bind ?_ (fun _ => ?_)
theorem laws_eqBoolS.mono : ∀ a0 a1 k, LeO (laws_eqBoolS.f k a0 a1) (laws_eqBoolS.f (k + 1) a0 a1) := by
 intro a0 a1 k
 have ih0 := laws_eqBoolS.mono_l k
 unfold laws_eqBoolS.f
 repeat' first
   | (with_reducible exact ih0 _ _ _)
   | (with_reducible exact LeO.refl _)
   | (with_reducible exact LeO.none _)
   | (with_reducible refine LeO.ite ?_ ?_)
   | (with_reducible refine LeO.bind ?_ (fun _ => ?_))
   | exact ih0 _ _ _
   | exact LeO.none _
   | refine LeO.ite ?_ ?_
   | refine LeO.bind ?_ (fun _ => ?_)
set_option maxHeartbeats 8000000 in
set_option maxRecDepth 100000 in
theorem laws_eqBoolS.calls (k : Nat) (A0 : Option Addr) (c0 : Nat) (l0 : List Bool) (A1 : Option Addr) (c1 : Nat) (l1 : List Bool) (r : Bool) (w : World) (hr0 : Kd.C Kd.bool w A0 l0.length l0) (hc0 : l0.length ≤ c0) (hr1 : Kd.C Kd.bool w A1 l1.length l1) (hc1 : l1.length ≤ c1) (h : laws_eqBoolS.f k l0 l1 = some r) :
  Calls Try.prog 15 #[.slice A0 l0.length c0, .slice A1 l1.length c1] w fun e w' => e = .returned (.bool r) ∧ Drawn0 w w' := by
 have HR0 := Aside0.mk hr0
 have HC0 := Aside0.mk hc0
 clear hr0 hc0
 have HR1 := Aside0.mk hr1
 have HC1 := Aside0.mk hc1
 clear hr1 hc1
 have H : (if (l0.length : Int) = (l1.length : Int) then (laws_eqBoolS.l0 k l0 l1 0) else (some false)) = some r := h
 clear h
 by_cases c3 : (l0.length : Int) = (l1.length : Int)
 rotate_left
 ·
  rw [if_neg c3] at H
  have c3b0 : ((l0.length : Int) == (l1.length : Int)) = false := beq_eq_false_iff_ne.mpr c3
  have c3b1 : ((l0.length : Int) != (l1.length : Int)) = true := bne_iff_ne.mpr c3
  have c3b2 : (l0.length == l1.length) = false := by first | simpa using c3 | (simp at c3 ⊢; omega)
  obtain rfl := Option.some.inj H
  go_enter Try.func15, Try.ntmps15
  go_wp2
  repeat (go_quiet (fail); try go_wp2)
  go_ret
  exact ⟨by first | rfl | (simp; done) | (simp [*]; done), by repeat (first | exact Drawn0.refl _ | apply Drawn0.step)⟩
 rw [if_pos c3] at H
 have c3b0 : ((l0.length : Int) == (l1.length : Int)) = true := beq_iff_eq.mpr c3
 have c3b1 : ((l0.length : Int) != (l1.length : Int)) = false := bne_eq_false_iff_eq.mpr c3
 have c3b2 : (l0.length == l1.length) = true := by first | simpa using c3 | (simp at c3 ⊢; omega)
 clear c3
 have H' := Aside0.mk H
 clear H
 go_enter Try.func15, Try.ntmps15
 go_wp2
 repeat (go_quiet (fail); try go_wp2)
 go_loopg [5] k (fun kq v5 w' => ∃ (x5_1 : Int), v5 = .int .i64 x5_1 ∧ Aside0 (laws_eqBoolS.l0 kq l0 l1 x5_1 = some r) ∧ Aside0 (kq ≤ k) ∧ Drawn0 w w')
 case atStart => exact ⟨(0), (by first | rfl | (simp; done) | (simp [*]; done)), H', ⟨Nat.le_refl _⟩, by repeat (first | exact Drawn0.refl _ | apply Drawn0.step)⟩
 case round =>
  clear H'
  try clear c1
  try clear p2
  try clear c3
  try clear c3b0
  try clear c3b1
  try clear c3b2
  obtain ⟨x5_1, rfl, HA, HK1, ⟨m1, rfl⟩⟩ := hrel
  cases gk with
  | zero => exact absurd HA.out (by simp [laws_eqBoolS.l0])
  | succ k1 =>
   have H := HA.out
   clear HA
   simp only [laws_eqBoolS.l0] at H
   by_cases c4 : x5_1 < (l0.length : Int)
   rotate_left
   ·
    rw [if_neg c4] at H
    have c4b0 : decide (x5_1 < (l0.length : Int)) = false := decide_eq_false c4
    clear c4
    obtain rfl := Option.some.inj H
    go_wp2
    repeat (go_quiet (fail); try go_wp2)
    go_ret
    exact ⟨by first | rfl | (simp; done) | (simp [*]; done), by repeat (first | exact Drawn0.refl _ | apply Drawn0.step)⟩
   rw [if_pos c4] at H
   have c4b0 : decide (x5_1 < (l0.length : Int)) = true := decide_eq_true c4
   clear c4
   by_cases c5 : 0 ≤ x5_1
   rotate_left
   ·
    rw [if_neg c5] at H
    exact absurd H (by simp)
   rw [if_pos c5] at H
   have c5b0 : decide (0 ≤ x5_1) = true := decide_eq_true c5
   clear c5
   by_cases c6 : x5_1 < (l1.length : Int)
   rotate_left
   ·
    rw [if_neg c6] at H
    exact absurd H (by simp)
   rw [if_pos c6] at H
   have c6b0 : decide (x5_1 < (l1.length : Int)) = true := decide_eq_true c6
   clear c6
   by_cases c7 : ((rdOf false l0 x5_1) != (rdOf false l1 x5_1)) = true
   ·
    rw [if_pos c7] at H
    have c7b0 : ((rdOf false l0 x5_1) != (rdOf false l1 x5_1)) = true := c7
    (try (have c7b1 : decide ((rdOf false l0 x5_1) = (rdOf false l1 x5_1)) = false := by simpa using c7))
    (try (have c7b2 : ((rdOf false l0 x5_1) == (rdOf false l1 x5_1)) = false := by simpa using c7))
    (try (have c7b3 : ¬ ((rdOf false l0 x5_1) = (rdOf false l1 x5_1)) := by simpa using c7))
    clear c7
    obtain rfl := Option.some.inj H
    have p246 : 0 ≤ (x5_1 : Int) := of_decide_eq_true (by first | (with_reducible assumption) | assumption)
    have q246 : x5_1 < (l0.length : Int) := of_decide_eq_true (by first | (with_reducible assumption) | assumption)
    obtain ⟨ad246, e246, hx246_0⟩ := Kd.at_bool HR0.out x5_1 p246 q246
    cases e246
    replace p246 := eq_true p246
    replace q246 := eq_true q246
    have p247 : 0 ≤ (x5_1 : Int) := of_decide_eq_true (by first | (with_reducible assumption) | assumption)
    have q247 : x5_1 < (l1.length : Int) := of_decide_eq_true (by first | (with_reducible assumption) | assumption)
    obtain ⟨ad247, e247, hx247_0⟩ := Kd.at_bool HR1.out x5_1 p247 q247
    cases e247
    replace p247 := eq_true p247
    replace q247 := eq_true q247
    go_wp2
    repeat (go_quiet (fail); try go_wp2)
    go_ret
    exact ⟨by first | rfl | (simp; done) | (simp [*]; done), by repeat (first | exact Drawn0.refl _ | apply Drawn0.step)⟩
   rw [if_neg c7] at H
   have c7b0 : ((rdOf false l0 x5_1) != (rdOf false l1 x5_1)) = false := by simpa using c7
   (try (have c7b1 : decide ((rdOf false l0 x5_1) = (rdOf false l1 x5_1)) = true := by simpa using c7))
   (try (have c7b2 : ((rdOf false l0 x5_1) == (rdOf false l1 x5_1)) = true := by simpa using c7))
   clear c7
   have H' := Aside0.mk H
   clear H
   have p246 : 0 ≤ (x5_1 : Int) := of_decide_eq_true (by first | (with_reducible assumption) | assumption)
   have q246 : x5_1 < (l0.length : Int) := of_decide_eq_true (by first | (with_reducible assumption) | assumption)
   obtain ⟨ad246, e246, hx246_0⟩ := Kd.at_bool HR0.out x5_1 p246 q246
   cases e246
   replace p246 := eq_true p246
   replace q246 := eq_true q246
   have p247 : 0 ≤ (x5_1 : Int) := of_decide_eq_true (by first | (with_reducible assumption) | assumption)
   have q247 : x5_1 < (l1.length : Int) := of_decide_eq_true (by first | (with_reducible assumption) | assumption)
   obtain ⟨ad247, e247, hx247_0⟩ := Kd.at_bool HR1.out x5_1 p247 q247
   cases e247
   replace p247 := eq_true p247
   replace q247 := eq_true q247
   go_wp2
   repeat (go_quiet (fail); try go_wp2)
   go_roundg k1
   case measure => have := HK1.out; omega
   case rel => exact ⟨(wrap64 (x5_1 + 1)), (by first | rfl | (simp; done) | (simp [*]; done)), H', ⟨by have := HK1.out; omega⟩, by repeat (first | exact Drawn0.refl _ | apply Drawn0.step)⟩

end Go.Proofs.Ytlahlfjhfmldaaa.P
namespace Go.Proofs.Ytlahlfjhfmldaaa.P
open Go.RowKit Go.Proofs.YtlahlfjhfmldaaaW.PrintWords Go.Proofs.YtlahlfjhfmldaaaW.PrintLast Go.Proofs.YtlahlfjhfmldaaaW.PrintMore
attribute [local go_sem] max2_int min2_int max_two min_two max_three min_three max_four min_four   -- for this text's walks alone
set_option linter.unusedVariables false
set_option linter.unusedSimpArgs false

/-! ### laws_eqBus: function 36 -/
def laws_eqBus.f (a0_0 : Int) (a0_1 : Int) (a1_0 : Int) (a1_1 : Int) : Option (Bool) := if a0_0 = a1_0 then (if a0_1 = a1_1 then (some true) else (some false)) else (some false)
set_option maxHeartbeats 8000000 in
set_option maxRecDepth 100000 in
theorem laws_eqBus.calls (a0_0 : Int) (a0_1 : Int) (a1_0 : Int) (a1_1 : Int) (r : Bool) (w : World) (h : laws_eqBus.f a0_0 a0_1 a1_0 a1_1 = some r) :
  Calls Try.prog 36 #[.agg #[.int .i64 a0_0, .int .i64 a0_1], .agg #[.int .i64 a1_0, .int .i64 a1_1]] w fun e w' => e = .returned (.bool r) ∧ Below w.heap.size w w' := by
 have hu53 := Try.underlying53
 have HB := Aside0.mk (Below.refl w.heap.size w)
 have H : (if a0_0 = a1_0 then (if a0_1 = a1_1 then (some true) else (some false)) else (some false)) = some r := h
 clear h
 by_cases c3 : a0_0 = a1_0
 rotate_left
 ·
  rw [if_neg c3] at H
  have c3b0 : (a0_0 == a1_0) = false := beq_eq_false_iff_ne.mpr c3
  have c3b1 : (a0_0 != a1_0) = true := bne_iff_ne.mpr c3
  obtain rfl := Option.some.inj H
  go_enter Try.func36, Try.ntmps36
  go_wp2_with (first | ((with_reducible refine gate_dst (N := 2) rfl ?_); refine box_event ?hg (N := 2) ?hd (cs := #[.int .i64 a0_0, .int .i64 a0_1]) (t := 53) ?hr ?_; (case hd => rfl); (case hg => rfl); (case hr => first | (go_simp; done) | (go_simp; rfl)); intro gb248 hg w15 hbox hb; have n0_ := Aside0.mk (below_step (by repeat (first | (with_reducible first | exact HB.out | apply below_alloc | apply pw_below_drewN | apply below_drew1) | exact HB.out)) hb); have n1_ := Aside0.mk (hbox); have n2_ := Aside0.mk ((by rw [hg]; exact (below_size (by repeat (first | (with_reducible first | exact HB.out | apply below_alloc | apply pw_below_drewN | apply below_drew1) | exact HB.out))) : w.heap.size ≤ gb248)); have n3_ := Aside0.mk ((by rw [hg]; exact (below_size (by repeat (first | (with_reducible first | exact HB.out | apply below_alloc | apply pw_below_drewN | apply below_drew1) | exact HB.out))) : w.heap.size ≤ gb248)); clear HB; have HB := n0_; have BK248 := n1_; have GW248 := n2_; have GE248 := n3_; clear n0_ n1_ n2_ n3_; clear hb hbox hg) | ((with_reducible refine gate_dst (N := 3) rfl ?_); refine box_event ?hg (N := 3) ?hd (cs := #[.int .i64 a1_0, .int .i64 a1_1]) (t := 53) ?hr ?_; (case hd => rfl); (case hg => rfl); (case hr => first | (go_simp; done) | (go_simp; rfl)); intro gb249 hg w16 hbox hb; have n0_ := Aside0.mk (blk_below (g := gb248) (o := .cells #[.int .i64 a0_0, .int .i64 a0_1] 53 (0, 0)) (by (with_reducible repeat (first | refine blk_drewN ?_ _ | refine blk_drew ?_ | refine blk_alloc ?_ _)); exact BK248.out) hb); have n1_ := Aside0.mk (below_step (by repeat (first | (with_reducible first | exact HB.out | apply below_alloc | apply pw_below_drewN | apply below_drew1 | refine below_set ?_ GE248.out) | exact HB.out)) hb); have n2_ := Aside0.mk (hbox); have n3_ := Aside0.mk ((by rw [hg]; exact (below_size (by repeat (first | (with_reducible first | exact HB.out | apply below_alloc | apply pw_below_drewN | apply below_drew1 | refine below_set ?_ GE248.out) | exact HB.out))) : w.heap.size ≤ gb249)); have n4_ := Aside0.mk ((by rw [hg]; exact (below_size (by repeat (first | (with_reducible first | exact HB.out | apply below_alloc | apply pw_below_drewN | apply below_drew1 | refine below_set ?_ GE248.out) | exact HB.out))) : w.heap.size ≤ gb249)); have n5_ := Aside0.mk ((by rw [hg]; exact Nat.ne_of_lt (blk_lt (g := gb248) (o := .cells #[.int .i64 a0_0, .int .i64 a0_1] 53 (0, 0)) (by (with_reducible repeat (first | refine blk_drewN ?_ _ | refine blk_drew ?_ | refine blk_alloc ?_ _)); exact BK248.out)) : gb248 ≠ gb249)); have n6_ := Aside0.mk ((by rw [hg]; exact Nat.ne_of_gt (blk_lt (g := gb248) (o := .cells #[.int .i64 a0_0, .int .i64 a0_1] 53 (0, 0)) (by (with_reducible repeat (first | refine blk_drewN ?_ _ | refine blk_drew ?_ | refine blk_alloc ?_ _)); exact BK248.out)) : gb249 ≠ gb248)); clear BK248; clear HB; have BK248 := n0_; have HB := n1_; have BK249 := n2_; have GW249 := n3_; have GE249 := n4_; have NB248_249 := n5_; have NB249_248 := n6_; clear n0_ n1_ n2_ n3_ n4_ n5_ n6_; clear hb hbox hg; have hnb17 := NB248_249.out; have hnc17 := NB249_248.out; have hcz18_0 : w16.cell? ⟨gb248, 0, none⟩ = some (.int .i64 a0_0) := (blk_cell BK248.out 0).trans rfl; have hcz18_1 : w16.cell? ⟨gb248, 1, none⟩ = some (.int .i64 a0_1) := (blk_cell BK248.out 1).trans rfl; have hfz18_0 := blk_frozen BK248.out 0; have hfz18_1 := blk_frozen BK248.out 1; have hcz19_0 : w16.cell? ⟨gb249, 0, none⟩ = some (.int .i64 a1_0) := (blk_cell BK249.out 0).trans rfl; have hcz19_1 : w16.cell? ⟨gb249, 1, none⟩ = some (.int .i64 a1_1) := (blk_cell BK249.out 1).trans rfl; have hfz19_0 := blk_frozen BK249.out 0; have hfz19_1 := blk_frozen BK249.out 1))
  go_ret
  exact ⟨by first | rfl | (simp [errW_none, errW_some] <;> rfl) | (simp [*, errW_none, errW_some] <;> rfl), by repeat (first | (with_reducible first | exact HB.out | apply below_alloc | apply pw_below_drewN | apply below_drew1 | refine below_set ?_ GE248.out | refine below_set ?_ GE249.out) | exact HB.out)⟩
 rw [if_pos c3] at H
 have c3b0 : (a0_0 == a1_0) = true := beq_iff_eq.mpr c3
 have c3b1 : (a0_0 != a1_0) = false := bne_eq_false_iff_eq.mpr c3
 clear c3
 by_cases c4 : a0_1 = a1_1
 ·
  rw [if_pos c4] at H
  have c4b0 : (a0_1 == a1_1) = true := beq_iff_eq.mpr c4
  have c4b1 : (a0_1 != a1_1) = false := bne_eq_false_iff_eq.mpr c4
  clear c4
  obtain rfl := Option.some.inj H
  go_enter Try.func36, Try.ntmps36
  go_wp2_with (first | ((with_reducible refine gate_dst (N := 2) rfl ?_); refine box_event ?hg (N := 2) ?hd (cs := #[.int .i64 a0_0, .int .i64 a0_1]) (t := 53) ?hr ?_; (case hd => rfl); (case hg => rfl); (case hr => first | (go_simp; done) | (go_simp; rfl)); intro gb248 hg w5 hbox hb; have n0_ := Aside0.mk (below_step (by repeat (first | (with_reducible first | exact HB.out | apply below_alloc | apply pw_below_drewN | apply below_drew1) | exact HB.out)) hb); have n1_ := Aside0.mk (hbox); have n2_ := Aside0.mk ((by rw [hg]; exact (below_size (by repeat (first | (with_reducible first | exact HB.out | apply below_alloc | apply pw_below_drewN | apply below_drew1) | exact HB.out))) : w.heap.size ≤ gb248)); have n3_ := Aside0.mk ((by rw [hg]; exact (below_size (by repeat (first | (with_reducible first | exact HB.out | apply below_alloc | apply pw_below_drewN | apply below_drew1) | exact HB.out))) : w.heap.size ≤ gb248)); clear HB; have HB := n0_; have BK248 := n1_; have GW248 := n2_; have GE248 := n3_; clear n0_ n1_ n2_ n3_; clear hb hbox hg) | ((with_reducible refine gate_dst (N := 3) rfl ?_); refine box_event ?hg (N := 3) ?hd (cs := #[.int .i64 a1_0, .int .i64 a1_1]) (t := 53) ?hr ?_; (case hd => rfl); (case hg => rfl); (case hr => first | (go_simp; done) | (go_simp; rfl)); intro gb249 hg w6 hbox hb; have n0_ := Aside0.mk (blk_below (g := gb248) (o := .cells #[.int .i64 a0_0, .int .i64 a0_1] 53 (0, 0)) (by (with_reducible repeat (first | refine blk_drewN ?_ _ | refine blk_drew ?_ | refine blk_alloc ?_ _)); exact BK248.out) hb); have n1_ := Aside0.mk (below_step (by repeat (first | (with_reducible first | exact HB.out | apply below_alloc | apply pw_below_drewN | apply below_drew1 | refine below_set ?_ GE248.out) | exact HB.out)) hb); have n2_ := Aside0.mk (hbox); have n3_ := Aside0.mk ((by rw [hg]; exact (below_size (by repeat (first | (with_reducible first | exact HB.out | apply below_alloc | apply pw_below_drewN | apply below_drew1 | refine below_set ?_ GE248.out) | exact HB.out))) : w.heap.size ≤ gb249)); have n4_ := Aside0.mk ((by rw [hg]; exact (below_size (by repeat (first | (with_reducible first | exact HB.out | apply below_alloc | apply pw_below_drewN | apply below_drew1 | refine below_set ?_ GE248.out) | exact HB.out))) : w.heap.size ≤ gb249)); have n5_ := Aside0.mk ((by rw [hg]; exact Nat.ne_of_lt (blk_lt (g := gb248) (o := .cells #[.int .i64 a0_0, .int .i64 a0_1] 53 (0, 0)) (by (with_reducible repeat (first | refine blk_drewN ?_ _ | refine blk_drew ?_ | refine blk_alloc ?_ _)); exact BK248.out)) : gb248 ≠ gb249)); have n6_ := Aside0.mk ((by rw [hg]; exact Nat.ne_of_gt (blk_lt (g := gb248) (o := .cells #[.int .i64 a0_0, .int .i64 a0_1] 53 (0, 0)) (by (with_reducible repeat (first | refine blk_drewN ?_ _ | refine blk_drew ?_ | refine blk_alloc ?_ _)); exact BK248.out)) : gb249 ≠ gb248)); clear BK248; clear HB; have BK248 := n0_; have HB := n1_; have BK249 := n2_; have GW249 := n3_; have GE249 := n4_; have NB248_249 := n5_; have NB249_248 := n6_; clear n0_ n1_ n2_ n3_ n4_ n5_ n6_; clear hb hbox hg; have hnb7 := NB248_249.out; have hnc7 := NB249_248.out; have hcz8_0 : w6.cell? ⟨gb248, 0, none⟩ = some (.int .i64 a0_0) := (blk_cell BK248.out 0).trans rfl; have hcz8_1 : w6.cell? ⟨gb248, 1, none⟩ = some (.int .i64 a0_1) := (blk_cell BK248.out 1).trans rfl; have hfz8_0 := blk_frozen BK248.out 0; have hfz8_1 := blk_frozen BK248.out 1; have hcz9_0 : w6.cell? ⟨gb249, 0, none⟩ = some (.int .i64 a1_0) := (blk_cell BK249.out 0).trans rfl; have hcz9_1 : w6.cell? ⟨gb249, 1, none⟩ = some (.int .i64 a1_1) := (blk_cell BK249.out 1).trans rfl; have hfz9_0 := blk_frozen BK249.out 0; have hfz9_1 := blk_frozen BK249.out 1))
  go_ret
  exact ⟨by first | rfl | (simp [errW_none, errW_some] <;> rfl) | (simp [*, errW_none, errW_some] <;> rfl), by repeat (first | (with_reducible first | exact HB.out | apply below_alloc | apply pw_below_drewN | apply below_drew1 | refine below_set ?_ GE248.out | refine below_set ?_ GE249.out) | exact HB.out)⟩
 rw [if_neg c4] at H
 have c4b0 : (a0_1 == a1_1) = false := beq_eq_false_iff_ne.mpr c4
 have c4b1 : (a0_1 != a1_1) = true := bne_iff_ne.mpr c4
 obtain rfl := Option.some.inj H
 go_enter Try.func36, Try.ntmps36
 go_wp2_with (first | ((with_reducible refine gate_dst (N := 2) rfl ?_); refine box_event ?hg (N := 2) ?hd (cs := #[.int .i64 a0_0, .int .i64 a0_1]) (t := 53) ?hr ?_; (case hd => rfl); (case hg => rfl); (case hr => first | (go_simp; done) | (go_simp; rfl)); intro gb248 hg w10 hbox hb; have n0_ := Aside0.mk (below_step (by repeat (first | (with_reducible first | exact HB.out | apply below_alloc | apply pw_below_drewN | apply below_drew1) | exact HB.out)) hb); have n1_ := Aside0.mk (hbox); have n2_ := Aside0.mk ((by rw [hg]; exact (below_size (by repeat (first | (with_reducible first | exact HB.out | apply below_alloc | apply pw_below_drewN | apply below_drew1) | exact HB.out))) : w.heap.size ≤ gb248)); have n3_ := Aside0.mk ((by rw [hg]; exact (below_size (by repeat (first | (with_reducible first | exact HB.out | apply below_alloc | apply pw_below_drewN | apply below_drew1) | exact HB.out))) : w.heap.size ≤ gb248)); clear HB; have HB := n0_; have BK248 := n1_; have GW248 := n2_; have GE248 := n3_; clear n0_ n1_ n2_ n3_; clear hb hbox hg) | ((with_reducible refine gate_dst (N := 3) rfl ?_); refine box_event ?hg (N := 3) ?hd (cs := #[.int .i64 a1_0, .int .i64 a1_1]) (t := 53) ?hr ?_; (case hd => rfl); (case hg => rfl); (case hr => first | (go_simp; done) | (go_simp; rfl)); intro gb249 hg w11 hbox hb; have n0_ := Aside0.mk (blk_below (g := gb248) (o := .cells #[.int .i64 a0_0, .int .i64 a0_1] 53 (0, 0)) (by (with_reducible repeat (first | refine blk_drewN ?_ _ | refine blk_drew ?_ | refine blk_alloc ?_ _)); exact BK248.out) hb); have n1_ := Aside0.mk (below_step (by repeat (first | (with_reducible first | exact HB.out | apply below_alloc | apply pw_below_drewN | apply below_drew1 | refine below_set ?_ GE248.out) | exact HB.out)) hb); have n2_ := Aside0.mk (hbox); have n3_ := Aside0.mk ((by rw [hg]; exact (below_size (by repeat (first | (with_reducible first | exact HB.out | apply below_alloc | apply pw_below_drewN | apply below_drew1 | refine below_set ?_ GE248.out) | exact HB.out))) : w.heap.size ≤ gb249)); have n4_ := Aside0.mk ((by rw [hg]; exact (below_size (by repeat (first | (with_reducible first | exact HB.out | apply below_alloc | apply pw_below_drewN | apply below_drew1 | refine below_set ?_ GE248.out) | exact HB.out))) : w.heap.size ≤ gb249)); have n5_ := Aside0.mk ((by rw [hg]; exact Nat.ne_of_lt (blk_lt (g := gb248) (o := .cells #[.int .i64 a0_0, .int .i64 a0_1] 53 (0, 0)) (by (with_reducible repeat (first | refine blk_drewN ?_ _ | refine blk_drew ?_ | refine blk_alloc ?_ _)); exact BK248.out)) : gb248 ≠ gb249)); have n6_ := Aside0.mk ((by rw [hg]; exact Nat.ne_of_gt (blk_lt (g := gb248) (o := .cells #[.int .i64 a0_0, .int .i64 a0_1] 53 (0, 0)) (by (with_reducible repeat (first | refine blk_drewN ?_ _ | refine blk_drew ?_ | refine blk_alloc ?_ _)); exact BK248.out)) : gb249 ≠ gb248)); clear BK248; clear HB; have BK248 := n0_; have HB := n1_; have BK249 := n2_; have GW249 := n3_; have GE249 := n4_; have NB248_249 := n5_; have NB249_248 := n6_; clear n0_ n1_ n2_ n3_ n4_ n5_ n6_; clear hb hbox hg; have hnb12 := NB248_249.out; have hnc12 := NB249_248.out; have hcz13_0 : w11.cell? ⟨gb248, 0, none⟩ = some (.int .i64 a0_0) := (blk_cell BK248.out 0).trans rfl; have hcz13_1 : w11.cell? ⟨gb248, 1, none⟩ = some (.int .i64 a0_1) := (blk_cell BK248.out 1).trans rfl; have hfz13_0 := blk_frozen BK248.out 0; have hfz13_1 := blk_frozen BK248.out 1; have hcz14_0 : w11.cell? ⟨gb249, 0, none⟩ = some (.int .i64 a1_0) := (blk_cell BK249.out 0).trans rfl; have hcz14_1 : w11.cell? ⟨gb249, 1, none⟩ = some (.int .i64 a1_1) := (blk_cell BK249.out 1).trans rfl; have hfz14_0 := blk_frozen BK249.out 0; have hfz14_1 := blk_frozen BK249.out 1))
 go_ret
 exact ⟨by first | rfl | (simp [errW_none, errW_some] <;> rfl) | (simp [*, errW_none, errW_some] <;> rfl), by repeat (first | (with_reducible first | exact HB.out | apply below_alloc | apply pw_below_drewN | apply below_drew1 | refine below_set ?_ GE248.out | refine below_set ?_ GE249.out) | exact HB.out)⟩

end Go.Proofs.Ytlahlfjhfmldaaa.P

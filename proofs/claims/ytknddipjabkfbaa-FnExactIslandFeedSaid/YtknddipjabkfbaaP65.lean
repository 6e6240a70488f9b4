/- Contracts of Go functions of this seat's translation, written by this repo's wip/mk.py: it calls the kit's print.py with contracts typed by hand in place of functions that it does not take. Not trusted: Lean checks it. -/
import Derived.Test.YtknddipjabkfbaaP0
import Derived.Test.YtknddipjabkfbaaP8
import Derived.Test.YtknddipjabkfbaaP17
import Derived.Test.YtknddipjabkfbaaP19
import Derived.Test.YtknddipjabkfbaaP27
import Derived.Test.YtknddipjabkfbaaP54
import Derived.Test.YtknddipjabkfbaaP56
import Derived.Test.YtknddipjabkfbaaP58
import Derived.Test.YtknddipjabkfbaaP63
import Derived.Test.YtknddipjabkfbaaP64
namespace Go.Proofs.Ytknddipjabkfbaa.P
open Go.RowKit Go.Proofs.YtknddipjabkfbaaW.PrintWords Go.Proofs.YtknddipjabkfbaaW.PrintLast Go.Proofs.YtknddipjabkfbaaW.PrintMore
attribute [local go_sem] max2_int min2_int max_two min_two max_three min_three max_four min_four   -- for this text's walks alone
set_option linter.unusedVariables false
set_option linter.unusedSimpArgs false

/-! ### laws_FnExactIslandFeed: function 8 -/
def laws_FnExactIslandFeed.f (k : Nat) (a0_0 : Int) (l0_1 : List (S91)) (l1 : List Bool) (l2 : List (S81)) (a3 : Int) : Option (Bool) := if (l1.length : Int) > 1048576 then (some true) else ((laws_szNet.f a0_0 l0_1 1048576).bind fun t603 => (if t603 < 0 then (some true) else ((laws_szBusS.f l2 t603).bind fun t604 => (if t604 < 0 then (some true) else ((laws_toNet.f k a0_0 l0_1).bind fun bt605 => ((laws_toBoolS.f k l1).bind fun t609 => ((laws_toBusS.f k l2).bind fun t612 => ((spec_IslandFeed.f k bt605.1 bt605.2 t609 t612 a3).bind fun t615 => ((laws_toNet.f k a0_0 l0_1).bind fun bt616 => ((laws_toBoolS.f k l1).bind fun t621 => ((laws_toBusS.f k l2).bind fun t624 => ((impl_IslandFeed.f k bt616.1 bt616.2 t621 t624 a3).bind fun t627 => (if t627 = t615 then ((laws_toNet.f k a0_0 l0_1).bind fun bt628 => ((laws_eqNet.f k bt616.1 bt616.2 bt628.1 bt628.2).bind fun t632 => (if t632 = true then ((laws_toBoolS.f k l1).bind fun t633 => ((laws_eqBoolS.f k t621 t633).bind fun t636 => (if t636 = true then ((laws_toBusS.f k l2).bind fun t637 => ((laws_eqBusS.f k t624 t637).bind fun t640 => (if t640 = true then (some true) else (none)))) else (none)))) else (none)))) else (none))))))))))))))
theorem laws_FnExactIslandFeed.mono : ∀ a0 a1 a2 a3 a4 k, LeO (laws_FnExactIslandFeed.f k a0 a1 a2 a3 a4) (laws_FnExactIslandFeed.f (k + 1) a0 a1 a2 a3 a4) := by
 intro a0 a1 a2 a3 a4 k
 unfold laws_FnExactIslandFeed.f
 repeat' first
   | (with_reducible exact impl_IslandFeed.mono _ _ _ _ _ _)
   | (with_reducible exact laws_eqBoolS.mono _ _ _)
   | (with_reducible exact laws_eqBusS.mono _ _ _)
   | (with_reducible exact laws_eqNet.mono _ _ _ _ _)
   | (with_reducible exact laws_toBoolS.mono _ _)
   | (with_reducible exact laws_toBusS.mono _ _)
   | (with_reducible exact laws_toNet.mono _ _ _)
   | (with_reducible exact spec_IslandFeed.mono _ _ _ _ _ _)
   | (with_reducible exact LeO.refl _)
   | (with_reducible exact LeO.none _)
   | (with_reducible refine LeO.ite ?_ ?_)
   | (with_reducible refine LeO.bind ?_ (fun _ => ?_))
   | exact impl_IslandFeed.mono _ _ _ _ _ _
   | exact laws_eqBoolS.mono _ _ _
   | exact laws_eqBusS.mono _ _ _
   | exact laws_eqNet.mono _ _ _ _ _
   | exact laws_toBoolS.mono _ _
   | exact laws_toBusS.mono _ _
   | exact laws_toNet.mono _ _ _
   | exact spec_IslandFeed.mono _ _ _ _ _ _
   | exact LeO.none _
   | refine LeO.ite ?_ ?_
   | refine LeO.bind ?_ (fun _ => ?_)
set_option maxHeartbeats 8000000 in
set_option maxRecDepth 100000 in
theorem laws_FnExactIslandFeed.calls (k : Nat) (a0_0 : Int) (A0_1 : Option Addr) (c0_1 : Nat) (l0_1 : List (S91)) (A1 : Option Addr) (c1 : Nat) (l1 : List Bool) (A2 : Option Addr) (c2 : Nat) (l2 : List (S81)) (a3 : Int) (r : Bool) (w : World) (hr0_1 : Kd.C k91 w A0_1 l0_1.length l0_1) (hc0_1 : l0_1.length ≤ c0_1) (hr1 : Kd.C Kd.bool w A1 l1.length l1) (hc1 : l1.length ≤ c1) (hr2 : Kd.C k81 w A2 l2.length l2) (hc2 : l2.length ≤ c2) (h : laws_FnExactIslandFeed.f k a0_0 l0_1 l1 l2 a3 = some r) :
  Calls Try.prog 8 #[.agg #[.int .i64 a0_0, .slice A0_1 l0_1.length c0_1], .slice A1 l1.length c1, .slice A2 l2.length c2, .int .i64 a3] w fun e w' => e = .returned (.bool r) ∧ Below w.heap.size w w' := by
 have hu24 := Try.underlying24
 have hu30 := Try.underlying30
 have HR0_1 := Aside0.mk hr0_1
 have HC0_1 := Aside0.mk hc0_1
 clear hr0_1 hc0_1
 have HR1 := Aside0.mk hr1
 have HC1 := Aside0.mk hc1
 clear hr1 hc1
 have HR2 := Aside0.mk hr2
 have HC2 := Aside0.mk hc2
 clear hr2 hc2
 have HB := Aside0.mk (Below.refl w.heap.size w)
 have H : (if (l1.length : Int) > 1048576 then (some true) else ((laws_szNet.f a0_0 l0_1 1048576).bind fun t603 => (if t603 < 0 then (some true) else ((laws_szBusS.f l2 t603).bind fun t604 => (if t604 < 0 then (some true) else ((laws_toNet.f k a0_0 l0_1).bind fun bt605 => ((laws_toBoolS.f k l1).bind fun t609 => ((laws_toBusS.f k l2).bind fun t612 => ((spec_IslandFeed.f k bt605.1 bt605.2 t609 t612 a3).bind fun t615 => ((laws_toNet.f k a0_0 l0_1).bind fun bt616 => ((laws_toBoolS.f k l1).bind fun t621 => ((laws_toBusS.f k l2).bind fun t624 => ((impl_IslandFeed.f k bt616.1 bt616.2 t621 t624 a3).bind fun t627 => (if t627 = t615 then ((laws_toNet.f k a0_0 l0_1).bind fun bt628 => ((laws_eqNet.f k bt616.1 bt616.2 bt628.1 bt628.2).bind fun t632 => (if t632 = true then ((laws_toBoolS.f k l1).bind fun t633 => ((laws_eqBoolS.f k t621 t633).bind fun t636 => (if t636 = true then ((laws_toBusS.f k l2).bind fun t637 => ((laws_eqBusS.f k t624 t637).bind fun t640 => (if t640 = true then (some true) else (none)))) else (none)))) else (none)))) else (none))))))))))))))) = some r := h
 clear h
 by_cases c5 : (l1.length : Int) > 1048576
 ·
  rw [if_pos c5] at H
  have c5b0 : decide (1048576 < (l1.length : Int)) = true := decide_eq_true c5
  have c5b1 : decide (1048576 < l1.length) = true := decide_eq_true (by omega)
  clear c5
  obtain rfl := Option.some.inj H
  go_enter Try.func8, Try.ntmps8
  go_wp2_with (first | ((with_reducible refine gate_dst (N := 4) rfl ?_); refine box_event ?hg (N := 4) ?hd (cs := #[.int .i64 a0_0, .slice A0_1 l0_1.length c0_1]) (t := 24) ?hr ?_; (case hd => rfl); (case hg => rfl); (case hr => first | (go_simp; done) | (go_simp; rfl)); intro gb602 hg w6 hbox hb; have n0_ := Aside0.mk (below_step (by repeat (first | (with_reducible first | exact HB.out | apply below_alloc | apply pw_below_drewN | apply below_drew1) | exact HB.out)) hb); have n1_ := Aside0.mk (hbox); have n2_ := Aside0.mk ((by rw [hg]; exact (below_size (by repeat (first | (with_reducible first | exact HB.out | apply below_alloc | apply pw_below_drewN | apply below_drew1) | exact HB.out))) : w.heap.size ≤ gb602)); have n3_ := Aside0.mk ((by rw [hg]; exact (below_size (by repeat (first | (with_reducible first | exact HB.out | apply below_alloc | apply pw_below_drewN | apply below_drew1) | exact HB.out))) : w.heap.size ≤ gb602)); clear HB; have HB := n0_; have BK602 := n1_; have GW602 := n2_; have GE602 := n3_; clear n0_ n1_ n2_ n3_; clear hb hbox hg))
  go_ret
  exact ⟨by first | rfl | (simp [errW_none, errW_some] <;> rfl) | (simp [*, errW_none, errW_some] <;> rfl), by repeat (first | (with_reducible first | exact HB.out | apply below_alloc | apply pw_below_drewN | apply below_drew1 | refine below_set ?_ GE602.out) | exact HB.out)⟩
 rw [if_neg c5] at H
 have c5b0 : decide (1048576 < (l1.length : Int)) = false := decide_eq_false c5
 have c5b1 : decide (1048576 < l1.length) = false := decide_eq_false (by omega)
 clear c5
 replace H := Option.bind_eq_some_iff.mp H
 obtain ⟨t603, A70, H⟩ := H
 replace H : (if t603 < 0 then (some true) else ((laws_szBusS.f l2 t603).bind fun t604 => (if t604 < 0 then (some true) else ((laws_toNet.f k a0_0 l0_1).bind fun bt605 => ((laws_toBoolS.f k l1).bind fun t609 => ((laws_toBusS.f k l2).bind fun t612 => ((spec_IslandFeed.f k bt605.1 bt605.2 t609 t612 a3).bind fun t615 => ((laws_toNet.f k a0_0 l0_1).bind fun bt616 => ((laws_toBoolS.f k l1).bind fun t621 => ((laws_toBusS.f k l2).bind fun t624 => ((impl_IslandFeed.f k bt616.1 bt616.2 t621 t624 a3).bind fun t627 => (if t627 = t615 then ((laws_toNet.f k a0_0 l0_1).bind fun bt628 => ((laws_eqNet.f k bt616.1 bt616.2 bt628.1 bt628.2).bind fun t632 => (if t632 = true then ((laws_toBoolS.f k l1).bind fun t633 => ((laws_eqBoolS.f k t621 t633).bind fun t636 => (if t636 = true then ((laws_toBusS.f k l2).bind fun t637 => ((laws_eqBusS.f k t624 t637).bind fun t640 => (if t640 = true then (some true) else (none)))) else (none)))) else (none)))) else (none))))))))))))) = some r := H
 have A7 := Aside0.mk A70
 clear A70
 by_cases c8 : t603 < 0
 ·
  rw [if_pos c8] at H
  have c8b0 : decide (t603 < 0) = true := decide_eq_true c8
  clear c8
  obtain rfl := Option.some.inj H
  go_enter Try.func8, Try.ntmps8
  go_wp2_with (first | ((with_reducible refine gate_dst (N := 4) rfl ?_); refine box_event ?hg (N := 4) ?hd (cs := #[.int .i64 a0_0, .slice A0_1 l0_1.length c0_1]) (t := 24) ?hr ?_; (case hd => rfl); (case hg => rfl); (case hr => first | (go_simp; done) | (go_simp; rfl)); intro gb602 hg w9 hbox hb; have n0_ := Aside0.mk (below_step (by repeat (first | (with_reducible first | exact HB.out | apply below_alloc | apply pw_below_drewN | apply below_drew1) | exact HB.out)) hb); have n1_ := Aside0.mk (hbox); have n2_ := Aside0.mk ((by rw [hg]; exact (below_size (by repeat (first | (with_reducible first | exact HB.out | apply below_alloc | apply pw_below_drewN | apply below_drew1) | exact HB.out))) : w.heap.size ≤ gb602)); have n3_ := Aside0.mk ((by rw [hg]; exact (below_size (by repeat (first | (with_reducible first | exact HB.out | apply below_alloc | apply pw_below_drewN | apply below_drew1) | exact HB.out))) : w.heap.size ≤ gb602)); clear HB; have HB := n0_; have BK602 := n1_; have GW602 := n2_; have GE602 := n3_; clear n0_ n1_ n2_ n3_; clear hb hbox hg; have hcz10_0 : w9.cell? ⟨gb602, 0, none⟩ = some (.int .i64 a0_0) := (blk_cell BK602.out 0).trans rfl; have hcz10_1 : w9.cell? ⟨gb602, 1, none⟩ = some (.slice A0_1 l0_1.length c0_1) := (blk_cell BK602.out 1).trans rfl; have hfz10_0 := blk_frozen BK602.out 0; have hfz10_1 := blk_frozen BK602.out 1) | ((with_reducible refine gate_callee (f := 14) rfl ?_); refine goesL_ (some 20) rfl rfl Try.func14 (by kernel_rfl) rfl #[.agg #[.int .i64 a0_0, .slice A0_1 l0_1.length c0_1], .int .i64 1048576] rfl (by (try simp only [List.map_toArray, List.map_cons, List.map_nil]); first | done | rfl | (simp only [List.length_drop, List.length_take]; rfl)) ?_; (with_reducible refine (laws_szNet.calls a0_0 _ _ l0_1 1048576 t603 _ ?side1 ?side2 A7.out).mono ?_); (case side1 => repeat (first | exact (Kd.C_below HR0_1.out HB.out) | (with_reducible refine Kd.C_alloc ?_ _) | (with_reducible refine Kd.C_drewN ?_ _) | (with_reducible refine Kd.C_drew ?_))); (case side2 => exact HC0_1.out); rintro e w11 ⟨rfl, hb⟩; refine ⟨_, rfl, ?_⟩; have n0_ := Aside0.mk (blk_below (g := gb602) (o := .cells #[.int .i64 a0_0, .slice A0_1 l0_1.length c0_1] 24 (0, 0)) (by (with_reducible repeat (first | refine blk_drewN ?_ _ | refine blk_drew ?_ | refine blk_alloc ?_ _)); exact BK602.out) hb); have n1_ := Aside0.mk (below_step (by repeat (first | (with_reducible first | exact HB.out | apply below_alloc | apply pw_below_drewN | apply below_drew1 | refine below_set ?_ GE602.out) | exact HB.out)) hb); clear BK602; clear HB; have BK602 := n0_; have HB := n1_; clear n0_ n1_; (try clear hb); (try clear hb2); (try clear hk); (try clear hi)))
  go_ret
  exact ⟨by first | rfl | (simp [errW_none, errW_some] <;> rfl) | (simp [*, errW_none, errW_some] <;> rfl), by repeat (first | (with_reducible first | exact HB.out | apply below_alloc | apply pw_below_drewN | apply below_drew1 | refine below_set ?_ GE602.out) | exact HB.out)⟩
 rw [if_neg c8] at H
 have c8b0 : decide (t603 < 0) = false := decide_eq_false c8
 clear c8
 replace H := Option.bind_eq_some_iff.mp H
 obtain ⟨t604, A120, H⟩ := H
 replace H : (if t604 < 0 then (some true) else ((laws_toNet.f k a0_0 l0_1).bind fun bt605 => ((laws_toBoolS.f k l1).bind fun t609 => ((laws_toBusS.f k l2).bind fun t612 => ((spec_IslandFeed.f k bt605.1 bt605.2 t609 t612 a3).bind fun t615 => ((laws_toNet.f k a0_0 l0_1).bind fun bt616 => ((laws_toBoolS.f k l1).bind fun t621 => ((laws_toBusS.f k l2).bind fun t624 => ((impl_IslandFeed.f k bt616.1 bt616.2 t621 t624 a3).bind fun t627 => (if t627 = t615 then ((laws_toNet.f k a0_0 l0_1).bind fun bt628 => ((laws_eqNet.f k bt616.1 bt616.2 bt628.1 bt628.2).bind fun t632 => (if t632 = true then ((laws_toBoolS.f k l1).bind fun t633 => ((laws_eqBoolS.f k t621 t633).bind fun t636 => (if t636 = true then ((laws_toBusS.f k l2).bind fun t637 => ((laws_eqBusS.f k t624 t637).bind fun t640 => (if t640 = true then (some true) else (none)))) else (none)))) else (none)))) else (none))))))))))) = some r := H
 have A12 := Aside0.mk A120
 clear A120
 by_cases c13 : t604 < 0
 ·
  rw [if_pos c13] at H
  have c13b0 : decide (t604 < 0) = true := decide_eq_true c13
  clear c13
  obtain rfl := Option.some.inj H
  go_enter Try.func8, Try.ntmps8
  go_wp2_with (first | ((with_reducible refine gate_dst (N := 4) rfl ?_); refine box_event ?hg (N := 4) ?hd (cs := #[.int .i64 a0_0, .slice A0_1 l0_1.length c0_1]) (t := 24) ?hr ?_; (case hd => rfl); (case hg => rfl); (case hr => first | (go_simp; done) | (go_simp; rfl)); intro gb602 hg w14 hbox hb; have n0_ := Aside0.mk (below_step (by repeat (first | (with_reducible first | exact HB.out | apply below_alloc | apply pw_below_drewN | apply below_drew1) | exact HB.out)) hb); have n1_ := Aside0.mk (hbox); have n2_ := Aside0.mk ((by rw [hg]; exact (below_size (by repeat (first | (with_reducible first | exact HB.out | apply below_alloc | apply pw_below_drewN | apply below_drew1) | exact HB.out))) : w.heap.size ≤ gb602)); have n3_ := Aside0.mk ((by rw [hg]; exact (below_size (by repeat (first | (with_reducible first | exact HB.out | apply below_alloc | apply pw_below_drewN | apply below_drew1) | exact HB.out))) : w.heap.size ≤ gb602)); clear HB; have HB := n0_; have BK602 := n1_; have GW602 := n2_; have GE602 := n3_; clear n0_ n1_ n2_ n3_; clear hb hbox hg; have hcz15_0 : w14.cell? ⟨gb602, 0, none⟩ = some (.int .i64 a0_0) := (blk_cell BK602.out 0).trans rfl; have hcz15_1 : w14.cell? ⟨gb602, 1, none⟩ = some (.slice A0_1 l0_1.length c0_1) := (blk_cell BK602.out 1).trans rfl; have hfz15_0 := blk_frozen BK602.out 0; have hfz15_1 := blk_frozen BK602.out 1) | ((with_reducible refine gate_callee (f := 14) rfl ?_); refine goesL_ (some 20) rfl rfl Try.func14 (by kernel_rfl) rfl #[.agg #[.int .i64 a0_0, .slice A0_1 l0_1.length c0_1], .int .i64 1048576] rfl (by (try simp only [List.map_toArray, List.map_cons, List.map_nil]); first | done | rfl | (simp only [List.length_drop, List.length_take]; rfl)) ?_; (with_reducible refine (laws_szNet.calls a0_0 _ _ l0_1 1048576 t603 _ ?side1 ?side2 A7.out).mono ?_); (case side1 => repeat (first | exact (Kd.C_below HR0_1.out HB.out) | (with_reducible refine Kd.C_alloc ?_ _) | (with_reducible refine Kd.C_drewN ?_ _) | (with_reducible refine Kd.C_drew ?_))); (case side2 => exact HC0_1.out); rintro e w16 ⟨rfl, hb⟩; refine ⟨_, rfl, ?_⟩; have n0_ := Aside0.mk (blk_below (g := gb602) (o := .cells #[.int .i64 a0_0, .slice A0_1 l0_1.length c0_1] 24 (0, 0)) (by (with_reducible repeat (first | refine blk_drewN ?_ _ | refine blk_drew ?_ | refine blk_alloc ?_ _)); exact BK602.out) hb); have n1_ := Aside0.mk (below_step (by repeat (first | (with_reducible first | exact HB.out | apply below_alloc | apply pw_below_drewN | apply below_drew1 | refine below_set ?_ GE602.out) | exact HB.out)) hb); clear BK602; clear HB; have BK602 := n0_; have HB := n1_; clear n0_ n1_; (try clear hb); (try clear hb2); (try clear hk); (try clear hi)) | ((with_reducible refine gate_callee (f := 34) rfl ?_); refine goesL_ (some 25) rfl rfl Try.func34 (by kernel_rfl) rfl #[.slice A2 l2.length c2, .int .i64 t603] rfl (by (try simp only [List.map_toArray, List.map_cons, List.map_nil]); first | done | rfl | (simp only [List.length_drop, List.length_take]; rfl)) ?_; (with_reducible refine (laws_szBusS.calls _ _ l2 t603 t604 _ ?side1 ?side2 A12.out).mono ?_); (case side1 => repeat (first | exact (Kd.C_below HR2.out HB.out) | (with_reducible refine Kd.C_alloc ?_ _) | (with_reducible refine Kd.C_drewN ?_ _) | (with_reducible refine Kd.C_drew ?_))); (case side2 => exact HC2.out); rintro e w' ⟨rfl, ⟨nd, rfl⟩⟩; refine ⟨_, rfl, ?_⟩))
  go_ret
  exact ⟨by first | rfl | (simp [errW_none, errW_some] <;> rfl) | (simp [*, errW_none, errW_some] <;> rfl), by repeat (first | (with_reducible first | exact HB.out | apply below_alloc | apply pw_below_drewN | apply below_drew1 | refine below_set ?_ GE602.out) | exact HB.out)⟩
 rw [if_neg c13] at H
 have c13b0 : decide (t604 < 0) = false := decide_eq_false c13
 clear c13
 replace H := Option.bind_eq_some_iff.mp H
 obtain ⟨⟨t605, t606⟩, A170, H⟩ := H
 replace H : ((laws_toBoolS.f k l1).bind fun t609 => ((laws_toBusS.f k l2).bind fun t612 => ((spec_IslandFeed.f k t605 t606 t609 t612 a3).bind fun t615 => ((laws_toNet.f k a0_0 l0_1).bind fun bt616 => ((laws_toBoolS.f k l1).bind fun t621 => ((laws_toBusS.f k l2).bind fun t624 => ((impl_IslandFeed.f k bt616.1 bt616.2 t621 t624 a3).bind fun t627 => (if t627 = t615 then ((laws_toNet.f k a0_0 l0_1).bind fun bt628 => ((laws_eqNet.f k bt616.1 bt616.2 bt628.1 bt628.2).bind fun t632 => (if t632 = true then ((laws_toBoolS.f k l1).bind fun t633 => ((laws_eqBoolS.f k t621 t633).bind fun t636 => (if t636 = true then ((laws_toBusS.f k l2).bind fun t637 => ((laws_eqBusS.f k t624 t637).bind fun t640 => (if t640 = true then (some true) else (none)))) else (none)))) else (none)))) else (none))))))))) = some r := H
 have A17 := Aside0.mk A170
 clear A170
 replace H := Option.bind_eq_some_iff.mp H
 obtain ⟨t609, A180, H⟩ := H
 replace H : ((laws_toBusS.f k l2).bind fun t612 => ((spec_IslandFeed.f k t605 t606 t609 t612 a3).bind fun t615 => ((laws_toNet.f k a0_0 l0_1).bind fun bt616 => ((laws_toBoolS.f k l1).bind fun t621 => ((laws_toBusS.f k l2).bind fun t624 => ((impl_IslandFeed.f k bt616.1 bt616.2 t621 t624 a3).bind fun t627 => (if t627 = t615 then ((laws_toNet.f k a0_0 l0_1).bind fun bt628 => ((laws_eqNet.f k bt616.1 bt616.2 bt628.1 bt628.2).bind fun t632 => (if t632 = true then ((laws_toBoolS.f k l1).bind fun t633 => ((laws_eqBoolS.f k t621 t633).bind fun t636 => (if t636 = true then ((laws_toBusS.f k l2).bind fun t637 => ((laws_eqBusS.f k t624 t637).bind fun t640 => (if t640 = true then (some true) else (none)))) else (none)))) else (none)))) else (none)))))))) = some r := H
 have A18 := Aside0.mk A180
 clear A180
 replace H := Option.bind_eq_some_iff.mp H
 obtain ⟨t612, A190, H⟩ := H
 replace H : ((spec_IslandFeed.f k t605 t606 t609 t612 a3).bind fun t615 => ((laws_toNet.f k a0_0 l0_1).bind fun bt616 => ((laws_toBoolS.f k l1).bind fun t621 => ((laws_toBusS.f k l2).bind fun t624 => ((impl_IslandFeed.f k bt616.1 bt616.2 t621 t624 a3).bind fun t627 => (if t627 = t615 then ((laws_toNet.f k a0_0 l0_1).bind fun bt628 => ((laws_eqNet.f k bt616.1 bt616.2 bt628.1 bt628.2).bind fun t632 => (if t632 = true then ((laws_toBoolS.f k l1).bind fun t633 => ((laws_eqBoolS.f k t621 t633).bind fun t636 => (if t636 = true then ((laws_toBusS.f k l2).bind fun t637 => ((laws_eqBusS.f k t624 t637).bind fun t640 => (if t640 = true then (some true) else (none)))) else (none)))) else (none)))) else (none))))))) = some r := H
 have A19 := Aside0.mk A190
 clear A190
 replace H := Option.bind_eq_some_iff.mp H
 obtain ⟨t615, A200, H⟩ := H
 replace H : ((laws_toNet.f k a0_0 l0_1).bind fun bt616 => ((laws_toBoolS.f k l1).bind fun t621 => ((laws_toBusS.f k l2).bind fun t624 => ((impl_IslandFeed.f k bt616.1 bt616.2 t621 t624 a3).bind fun t627 => (if t627 = t615 then ((laws_toNet.f k a0_0 l0_1).bind fun bt628 => ((laws_eqNet.f k bt616.1 bt616.2 bt628.1 bt628.2).bind fun t632 => (if t632 = true then ((laws_toBoolS.f k l1).bind fun t633 => ((laws_eqBoolS.f k t621 t633).bind fun t636 => (if t636 = true then ((laws_toBusS.f k l2).bind fun t637 => ((laws_eqBusS.f k t624 t637).bind fun t640 => (if t640 = true then (some true) else (none)))) else (none)))) else (none)))) else (none)))))) = some r := H
 have A20 := Aside0.mk A200
 clear A200
 replace H := Option.bind_eq_some_iff.mp H
 obtain ⟨⟨t616, t617⟩, A210, H⟩ := H
 replace H : ((laws_toBoolS.f k l1).bind fun t621 => ((laws_toBusS.f k l2).bind fun t624 => ((impl_IslandFeed.f k t616 t617 t621 t624 a3).bind fun t627 => (if t627 = t615 then ((laws_toNet.f k a0_0 l0_1).bind fun bt628 => ((laws_eqNet.f k t616 t617 bt628.1 bt628.2).bind fun t632 => (if t632 = true then ((laws_toBoolS.f k l1).bind fun t633 => ((laws_eqBoolS.f k t621 t633).bind fun t636 => (if t636 = true then ((laws_toBusS.f k l2).bind fun t637 => ((laws_eqBusS.f k t624 t637).bind fun t640 => (if t640 = true then (some true) else (none)))) else (none)))) else (none)))) else (none))))) = some r := H
 have A21 := Aside0.mk A210
 clear A210
 replace H := Option.bind_eq_some_iff.mp H
 obtain ⟨t621, A220, H⟩ := H
 replace H : ((laws_toBusS.f k l2).bind fun t624 => ((impl_IslandFeed.f k t616 t617 t621 t624 a3).bind fun t627 => (if t627 = t615 then ((laws_toNet.f k a0_0 l0_1).bind fun bt628 => ((laws_eqNet.f k t616 t617 bt628.1 bt628.2).bind fun t632 => (if t632 = true then ((laws_toBoolS.f k l1).bind fun t633 => ((laws_eqBoolS.f k t621 t633).bind fun t636 => (if t636 = true then ((laws_toBusS.f k l2).bind fun t637 => ((laws_eqBusS.f k t624 t637).bind fun t640 => (if t640 = true then (some true) else (none)))) else (none)))) else (none)))) else (none)))) = some r := H
 have A22 := Aside0.mk A220
 clear A220
 replace H := Option.bind_eq_some_iff.mp H
 obtain ⟨t624, A230, H⟩ := H
 replace H : ((impl_IslandFeed.f k t616 t617 t621 t624 a3).bind fun t627 => (if t627 = t615 then ((laws_toNet.f k a0_0 l0_1).bind fun bt628 => ((laws_eqNet.f k t616 t617 bt628.1 bt628.2).bind fun t632 => (if t632 = true then ((laws_toBoolS.f k l1).bind fun t633 => ((laws_eqBoolS.f k t621 t633).bind fun t636 => (if t636 = true then ((laws_toBusS.f k l2).bind fun t637 => ((laws_eqBusS.f k t624 t637).bind fun t640 => (if t640 = true then (some true) else (none)))) else (none)))) else (none)))) else (none))) = some r := H
 have A23 := Aside0.mk A230
 clear A230
 replace H := Option.bind_eq_some_iff.mp H
 obtain ⟨t627, A240, H⟩ := H
 replace H : (if t627 = t615 then ((laws_toNet.f k a0_0 l0_1).bind fun bt628 => ((laws_eqNet.f k t616 t617 bt628.1 bt628.2).bind fun t632 => (if t632 = true then ((laws_toBoolS.f k l1).bind fun t633 => ((laws_eqBoolS.f k t621 t633).bind fun t636 => (if t636 = true then ((laws_toBusS.f k l2).bind fun t637 => ((laws_eqBusS.f k t624 t637).bind fun t640 => (if t640 = true then (some true) else (none)))) else (none)))) else (none)))) else (none)) = some r := H
 have A24 := Aside0.mk A240
 clear A240
 by_cases c25 : t627 = t615
 rotate_left
 ·
  rw [if_neg c25] at H
  exact absurd H (by simp)
 rw [if_pos c25] at H
 have c25b0 : (t627 == t615) = true := beq_iff_eq.mpr c25
 have c25b1 : (t627 != t615) = false := bne_eq_false_iff_eq.mpr c25
 clear c25
 replace H := Option.bind_eq_some_iff.mp H
 obtain ⟨⟨t628, t629⟩, A260, H⟩ := H
 replace H : ((laws_eqNet.f k t616 t617 t628 t629).bind fun t632 => (if t632 = true then ((laws_toBoolS.f k l1).bind fun t633 => ((laws_eqBoolS.f k t621 t633).bind fun t636 => (if t636 = true then ((laws_toBusS.f k l2).bind fun t637 => ((laws_eqBusS.f k t624 t637).bind fun t640 => (if t640 = true then (some true) else (none)))) else (none)))) else (none))) = some r := H
 have A26 := Aside0.mk A260
 clear A260
 replace H := Option.bind_eq_some_iff.mp H
 obtain ⟨t632, A270, H⟩ := H
 replace H : (if t632 = true then ((laws_toBoolS.f k l1).bind fun t633 => ((laws_eqBoolS.f k t621 t633).bind fun t636 => (if t636 = true then ((laws_toBusS.f k l2).bind fun t637 => ((laws_eqBusS.f k t624 t637).bind fun t640 => (if t640 = true then (some true) else (none)))) else (none)))) else (none)) = some r := H
 have A27 := Aside0.mk A270
 clear A270
 by_cases c28 : t632 = true
 rotate_left
 ·
  replace c28 := Bool.eq_false_iff.mpr c28
  subst c28
  have H1 : (none) = some r := by rw [if_neg (show ¬ (false = true) by decide)] at H; exact H
  clear H
  have H := H1
  clear H1
  exact absurd H (by simp)
 subst c28
 have H1 : ((laws_toBoolS.f k l1).bind fun t633 => ((laws_eqBoolS.f k t621 t633).bind fun t636 => (if t636 = true then ((laws_toBusS.f k l2).bind fun t637 => ((laws_eqBusS.f k t624 t637).bind fun t640 => (if t640 = true then (some true) else (none)))) else (none)))) = some r := by rw [if_pos rfl] at H; exact H
 clear H
 have H := H1
 clear H1
 replace H := Option.bind_eq_some_iff.mp H
 obtain ⟨t633, A290, H⟩ := H
 replace H : ((laws_eqBoolS.f k t621 t633).bind fun t636 => (if t636 = true then ((laws_toBusS.f k l2).bind fun t637 => ((laws_eqBusS.f k t624 t637).bind fun t640 => (if t640 = true then (some true) else (none)))) else (none))) = some r := H
 have A29 := Aside0.mk A290
 clear A290
 replace H := Option.bind_eq_some_iff.mp H
 obtain ⟨t636, A300, H⟩ := H
 replace H : (if t636 = true then ((laws_toBusS.f k l2).bind fun t637 => ((laws_eqBusS.f k t624 t637).bind fun t640 => (if t640 = true then (some true) else (none)))) else (none)) = some r := H
 have A30 := Aside0.mk A300
 clear A300
 by_cases c31 : t636 = true
 rotate_left
 ·
  replace c31 := Bool.eq_false_iff.mpr c31
  subst c31
  have H1 : (none) = some r := by rw [if_neg (show ¬ (false = true) by decide)] at H; exact H
  clear H
  have H := H1
  clear H1
  exact absurd H (by simp)
 subst c31
 have H1 : ((laws_toBusS.f k l2).bind fun t637 => ((laws_eqBusS.f k t624 t637).bind fun t640 => (if t640 = true then (some true) else (none)))) = some r := by rw [if_pos rfl] at H; exact H
 clear H
 have H := H1
 clear H1
 replace H := Option.bind_eq_some_iff.mp H
 obtain ⟨t637, A320, H⟩ := H
 replace H : ((laws_eqBusS.f k t624 t637).bind fun t640 => (if t640 = true then (some true) else (none))) = some r := H
 have A32 := Aside0.mk A320
 clear A320
 replace H := Option.bind_eq_some_iff.mp H
 obtain ⟨t640, A330, H⟩ := H
 replace H : (if t640 = true then (some true) else (none)) = some r := H
 have A33 := Aside0.mk A330
 clear A330
 by_cases c34 : t640 = true
 rotate_left
 ·
  replace c34 := Bool.eq_false_iff.mpr c34
  subst c34
  have H1 : (none) = some r := by rw [if_neg (show ¬ (false = true) by decide)] at H; exact H
  clear H
  have H := H1
  clear H1
  exact absurd H (by simp)
 subst c34
 have H1 : (some true) = some r := by rw [if_pos rfl] at H; exact H
 clear H
 have H := H1
 clear H1
 obtain rfl := Option.some.inj H
 go_enter Try.func8, Try.ntmps8
 try go_wp2_with (first | ((with_reducible refine gate_dst (N := 4) rfl ?_); refine box_event ?hg (N := 4) ?hd (cs := #[.int .i64 a0_0, .slice A0_1 l0_1.length c0_1]) (t := 24) ?hr ?_; (case hd => rfl); (case hg => rfl); (case hr => first | (go_simp; done) | (go_simp; rfl)); intro gb602 hg w35 hbox hb; have n0_ := Aside0.mk (below_step (by repeat (first | (with_reducible first | exact HB.out | apply below_alloc | apply pw_below_drewN | apply below_drew1) | exact HB.out)) hb); have n1_ := Aside0.mk (hbox); have n2_ := Aside0.mk ((by rw [hg]; exact (below_size (by repeat (first | (with_reducible first | exact HB.out | apply below_alloc | apply pw_below_drewN | apply below_drew1) | exact HB.out))) : w.heap.size ≤ gb602)); have n3_ := Aside0.mk ((by rw [hg]; exact (below_size (by repeat (first | (with_reducible first | exact HB.out | apply below_alloc | apply pw_below_drewN | apply below_drew1) | exact HB.out))) : w.heap.size ≤ gb602)); clear HB; have HB := n0_; have BK602 := n1_; have GW602 := n2_; have GE602 := n3_; clear n0_ n1_ n2_ n3_; clear hb hbox hg; have hcz36_0 : w35.cell? ⟨gb602, 0, none⟩ = some (.int .i64 a0_0) := (blk_cell BK602.out 0).trans rfl; have hcz36_1 : w35.cell? ⟨gb602, 1, none⟩ = some (.slice A0_1 l0_1.length c0_1) := (blk_cell BK602.out 1).trans rfl; have hfz36_0 := blk_frozen BK602.out 0; have hfz36_1 := blk_frozen BK602.out 1) | ((with_reducible refine gate_callee (f := 14) rfl ?_); refine goesL_ (some 20) rfl rfl Try.func14 (by kernel_rfl) rfl #[.agg #[.int .i64 a0_0, .slice A0_1 l0_1.length c0_1], .int .i64 1048576] rfl (by (try simp only [List.map_toArray, List.map_cons, List.map_nil]); first | done | rfl | (simp only [List.length_drop, List.length_take]; rfl)) ?_; (with_reducible refine (laws_szNet.calls a0_0 _ _ l0_1 1048576 t603 _ ?side1 ?side2 A7.out).mono ?_); (case side1 => repeat (first | exact (Kd.C_below HR0_1.out HB.out) | (with_reducible refine Kd.C_alloc ?_ _) | (with_reducible refine Kd.C_drewN ?_ _) | (with_reducible refine Kd.C_drew ?_))); (case side2 => exact HC0_1.out); rintro e w37 ⟨rfl, hb⟩; refine ⟨_, rfl, ?_⟩; have n0_ := Aside0.mk (blk_below (g := gb602) (o := .cells #[.int .i64 a0_0, .slice A0_1 l0_1.length c0_1] 24 (0, 0)) (by (with_reducible repeat (first | refine blk_drewN ?_ _ | refine blk_drew ?_ | refine blk_alloc ?_ _)); exact BK602.out) hb); have n1_ := Aside0.mk (below_step (by repeat (first | (with_reducible first | exact HB.out | apply below_alloc | apply pw_below_drewN | apply below_drew1 | refine below_set ?_ GE602.out) | exact HB.out)) hb); clear BK602; clear HB; have BK602 := n0_; have HB := n1_; clear n0_ n1_; (try clear hb); (try clear hb2); (try clear hk); (try clear hi)) | ((with_reducible refine gate_callee (f := 34) rfl ?_); refine goesL_ (some 25) rfl rfl Try.func34 (by kernel_rfl) rfl #[.slice A2 l2.length c2, .int .i64 t603] rfl (by (try simp only [List.map_toArray, List.map_cons, List.map_nil]); first | done | rfl | (simp only [List.length_drop, List.length_take]; rfl)) ?_; (with_reducible refine (laws_szBusS.calls _ _ l2 t603 t604 _ ?side1 ?side2 A12.out).mono ?_); (case side1 => repeat (first | exact (Kd.C_below HR2.out HB.out) | (with_reducible refine Kd.C_alloc ?_ _) | (with_reducible refine Kd.C_drewN ?_ _) | (with_reducible refine Kd.C_drew ?_))); (case side2 => exact HC2.out); rintro e w' ⟨rfl, ⟨nd, rfl⟩⟩; refine ⟨_, rfl, ?_⟩; (try (rw [drewN_self w37]; generalize hq_ : World.drewN w37 _ = w37; have n0_ : Aside0 (w37.heap[gb602]? = some (.cells #[.int .i64 a0_0, .slice A0_1 l0_1.length c0_1] 24 (0, 0))) := ⟨by rw [← hq_]; exact (by (with_reducible repeat (first | refine blk_drewN ?_ _ | refine blk_drew ?_ | refine blk_alloc ?_ _)); exact BK602.out)⟩; have n1_ : Aside0 (Below w.heap.size w w37) := ⟨by rw [← hq_]; exact (by repeat (first | (with_reducible first | exact HB.out | apply below_alloc | apply pw_below_drewN | apply below_drew1 | refine below_set ?_ GE602.out) | exact HB.out))⟩; clear BK602 HB hq_; have BK602 := n0_; have HB := n1_; clear n0_ n1_)); have hcz38_0 : w37.cell? ⟨gb602, 0, none⟩ = some (.int .i64 a0_0) := (blk_cell BK602.out 0).trans rfl; have hcz38_1 : w37.cell? ⟨gb602, 1, none⟩ = some (.slice A0_1 l0_1.length c0_1) := (blk_cell BK602.out 1).trans rfl; have hfz38_0 := blk_frozen BK602.out 0; have hfz38_1 := blk_frozen BK602.out 1) | ((with_reducible refine gate_callee (f := 16) rfl ?_); refine goesL_ (some 29) rfl rfl Try.func16 (by kernel_rfl) rfl #[.agg #[.int .i64 a0_0, .slice A0_1 l0_1.length c0_1]] rfl (by (try simp only [List.map_toArray, List.map_cons, List.map_nil]); first | done | rfl | (simp only [List.length_drop, List.length_take]; rfl)) ?_; (with_reducible refine (laws_toNet.calls k a0_0 _ _ l0_1 t605 t606 _ ?side1 ?side2 A17.out).mono ?_); (case side1 => repeat (first | exact (Kd.C_below HR0_1.out HB.out) | (with_reducible refine Kd.C_alloc ?_ _) | (with_reducible refine Kd.C_drewN ?_ _) | (with_reducible refine Kd.C_drew ?_))); (case side2 => exact HC0_1.out); rintro e w39 ⟨v607, rfl, ho0, hb⟩; refine ⟨_, rfl, ?_⟩; have n0_ := Aside0.mk (Kd.R_lower ho0 (below_size (by repeat (first | (with_reducible first | exact HB.out | apply below_alloc | apply pw_below_drewN | apply below_drew1 | refine below_set ?_ GE602.out) | exact HB.out)))); have n1_ := Aside0.mk (blk_below (g := gb602) (o := .cells #[.int .i64 a0_0, .slice A0_1 l0_1.length c0_1] 24 (0, 0)) (by (with_reducible repeat (first | refine blk_drewN ?_ _ | refine blk_drew ?_ | refine blk_alloc ?_ _)); exact BK602.out) hb); have n2_ := Aside0.mk (below_step (by repeat (first | (with_reducible first | exact HB.out | apply below_alloc | apply pw_below_drewN | apply below_drew1 | refine below_set ?_ GE602.out) | exact HB.out)) hb); clear BK602; clear HB; have HO608 := n0_; have BK602 := n1_; have HB := n2_; clear n0_ n1_ n2_; (try clear hb); (try clear hb2); (try clear hk); (try clear hi); (try clear ho0)) | ((with_reducible refine gate_callee (f := 17) rfl ?_); refine goesL_ (some 31) rfl rfl Try.func17 (by kernel_rfl) rfl #[.slice A1 l1.length c1] rfl (by (try simp only [List.map_toArray, List.map_cons, List.map_nil]); first | done | rfl | (simp only [List.length_drop, List.length_take]; rfl)) ?_; (with_reducible refine (laws_toBoolS.calls k _ _ l1 t609 _ ?side1 ?side2 A18.out).mono ?_); (case side1 => repeat (first | exact (Kd.C_below HR1.out HB.out) | (with_reducible refine Kd.C_alloc ?_ _) | (with_reducible refine Kd.C_drewN ?_ _) | (with_reducible refine Kd.C_drew ?_))); (case side2 => exact HC1.out); rintro e w40 ⟨v610, rfl, ho0, hb⟩; refine ⟨_, rfl, ?_⟩; have n0_ := Aside0.mk (Kd.R_below (by (with_reducible repeat (first | apply Kd.R_alloc | apply Kd.R_drewN | apply Kd.R_drew)); exact HO608.out) hb); have n1_ := Aside0.mk (Kd.R_lower ho0 (below_size (by repeat (first | (with_reducible first | exact HB.out | apply below_alloc | apply pw_below_drewN | apply below_drew1 | refine below_set ?_ GE602.out) | exact HB.out)))); have n2_ := Aside0.mk (blk_below (g := gb602) (o := .cells #[.int .i64 a0_0, .slice A0_1 l0_1.length c0_1] 24 (0, 0)) (by (with_reducible repeat (first | refine blk_drewN ?_ _ | refine blk_drew ?_ | refine blk_alloc ?_ _)); exact BK602.out) hb); have n3_ := Aside0.mk (below_step (by repeat (first | (with_reducible first | exact HB.out | apply below_alloc | apply pw_below_drewN | apply below_drew1 | refine below_set ?_ GE602.out) | exact HB.out)) hb); clear HO608; clear BK602; clear HB; have HO608 := n0_; have HO611 := n1_; have BK602 := n2_; have HB := n3_; clear n0_ n1_ n2_ n3_; (try clear hb); (try clear hb2); (try clear hk); (try clear hi); (try clear ho0)) | ((with_reducible refine gate_callee (f := 36) rfl ?_); refine goesL_ (some 33) rfl rfl Try.func36 (by kernel_rfl) rfl #[.slice A2 l2.length c2] rfl (by (try simp only [List.map_toArray, List.map_cons, List.map_nil]); first | done | rfl | (simp only [List.length_drop, List.length_take]; rfl)) ?_; (with_reducible refine (laws_toBusS.calls k _ _ l2 t612 _ ?side1 ?side2 A19.out).mono ?_); (case side1 => repeat (first | exact (Kd.C_below HR2.out HB.out) | (with_reducible refine Kd.C_alloc ?_ _) | (with_reducible refine Kd.C_drewN ?_ _) | (with_reducible refine Kd.C_drew ?_))); (case side2 => exact HC2.out); rintro e w41 ⟨v613, rfl, ho0, hb⟩; refine ⟨_, rfl, ?_⟩; have n0_ := Aside0.mk (Kd.R_below (by (with_reducible repeat (first | apply Kd.R_alloc | apply Kd.R_drewN | apply Kd.R_drew)); exact HO608.out) hb); have n1_ := Aside0.mk (Kd.R_below (by (with_reducible repeat (first | apply Kd.R_alloc | apply Kd.R_drewN | apply Kd.R_drew)); exact HO611.out) hb); have n2_ := Aside0.mk (Kd.R_lower ho0 (below_size (by repeat (first | (with_reducible first | exact HB.out | apply below_alloc | apply pw_below_drewN | apply below_drew1 | refine below_set ?_ GE602.out) | exact HB.out)))); have n3_ := Aside0.mk (blk_below (g := gb602) (o := .cells #[.int .i64 a0_0, .slice A0_1 l0_1.length c0_1] 24 (0, 0)) (by (with_reducible repeat (first | refine blk_drewN ?_ _ | refine blk_drew ?_ | refine blk_alloc ?_ _)); exact BK602.out) hb); have n4_ := Aside0.mk (below_step (by repeat (first | (with_reducible first | exact HB.out | apply below_alloc | apply pw_below_drewN | apply below_drew1 | refine below_set ?_ GE602.out) | exact HB.out)) hb); clear HO608; clear HO611; clear BK602; clear HB; have HO608 := n0_; have HO611 := n1_; have HO614 := n2_; have BK602 := n3_; have HB := n4_; clear n0_ n1_ n2_ n3_ n4_; (try clear hb); (try clear hb2); (try clear hk); (try clear hi); (try clear ho0); obtain ⟨Ao42, co42, eo42⟩ := Kd.R_slice HO608.out; subst eo42; obtain ⟨Ao43, co43, eo43⟩ := Kd.R_slice HO611.out; subst eo43; obtain ⟨Ao44, co44, eo44⟩ := Kd.R_slice HO614.out; subst eo44) | ((with_reducible refine gate_callee (f := 35) rfl ?_); refine goesL_ (some 35) rfl rfl Try.func35 (by kernel_rfl) rfl #[.agg #[.int .i64 t605, .slice Ao42 t606.length co42], .slice Ao43 t609.length co43, .slice Ao44 t612.length co44, .int .i64 a3] rfl (by (try simp only [List.map_toArray, List.map_cons, List.map_nil]); first | done | rfl | (simp only [List.length_drop, List.length_take]; rfl)) ?_; (with_reducible refine (spec_IslandFeed.calls k t605 _ _ t606 _ _ t609 _ _ t612 a3 t615 _ ?side1 ?side2 ?side3 ?side4 ?side5 ?side6 A20.out).mono ?_); (case side1 => repeat (first | exact (Kd.R_reads' HO608.out).2.2 | (with_reducible refine Kd.C_alloc ?_ _) | (with_reducible refine Kd.C_drewN ?_ _) | (with_reducible refine Kd.C_drew ?_))); (case side2 => exact (Kd.R_reads' HO608.out).2.1); (case side3 => repeat (first | exact (Kd.R_reads' HO611.out).2.2 | (with_reducible refine Kd.C_alloc ?_ _) | (with_reducible refine Kd.C_drewN ?_ _) | (with_reducible refine Kd.C_drew ?_))); (case side4 => exact (Kd.R_reads' HO611.out).2.1); (case side5 => repeat (first | exact (Kd.R_reads' HO614.out).2.2 | (with_reducible refine Kd.C_alloc ?_ _) | (with_reducible refine Kd.C_drewN ?_ _) | (with_reducible refine Kd.C_drew ?_))); (case side6 => exact (Kd.R_reads' HO614.out).2.1); rintro e w45 ⟨rfl, hb⟩; refine ⟨_, rfl, ?_⟩; have n0_ := Aside0.mk (Kd.R_below (by (with_reducible repeat (first | apply Kd.R_alloc | apply Kd.R_drewN | apply Kd.R_drew)); exact HO608.out) hb); have n1_ := Aside0.mk (Kd.R_below (by (with_reducible repeat (first | apply Kd.R_alloc | apply Kd.R_drewN | apply Kd.R_drew)); exact HO611.out) hb); have n2_ := Aside0.mk (Kd.R_below (by (with_reducible repeat (first | apply Kd.R_alloc | apply Kd.R_drewN | apply Kd.R_drew)); exact HO614.out) hb); have n3_ := Aside0.mk (blk_below (g := gb602) (o := .cells #[.int .i64 a0_0, .slice A0_1 l0_1.length c0_1] 24 (0, 0)) (by (with_reducible repeat (first | refine blk_drewN ?_ _ | refine blk_drew ?_ | refine blk_alloc ?_ _)); exact BK602.out) hb); have n4_ := Aside0.mk (below_step (by repeat (first | (with_reducible first | exact HB.out | apply below_alloc | apply pw_below_drewN | apply below_drew1 | refine below_set ?_ GE602.out) | exact HB.out)) hb); clear HO608; clear HO611; clear HO614; clear BK602; clear HB; have HO608 := n0_; have HO611 := n1_; have HO614 := n2_; have BK602 := n3_; have HB := n4_; clear n0_ n1_ n2_ n3_ n4_; (try clear hb); (try clear hb2); (try clear hk); (try clear hi); have hcz46_0 : w45.cell? ⟨gb602, 0, none⟩ = some (.int .i64 a0_0) := (blk_cell BK602.out 0).trans rfl; have hcz46_1 : w45.cell? ⟨gb602, 1, none⟩ = some (.slice A0_1 l0_1.length c0_1) := (blk_cell BK602.out 1).trans rfl; have hfz46_0 := blk_frozen BK602.out 0; have hfz46_1 := blk_frozen BK602.out 1) | ((with_reducible refine gate_callee (f := 16) rfl ?_); refine goesL_ (some 37) rfl rfl Try.func16 (by kernel_rfl) rfl #[.agg #[.int .i64 a0_0, .slice A0_1 l0_1.length c0_1]] rfl (by (try simp only [List.map_toArray, List.map_cons, List.map_nil]); first | done | rfl | (simp only [List.length_drop, List.length_take]; rfl)) ?_; (with_reducible refine (laws_toNet.calls k a0_0 _ _ l0_1 t616 t617 _ ?side1 ?side2 A21.out).mono ?_); (case side1 => repeat (first | exact (Kd.C_below HR0_1.out HB.out) | (with_reducible refine Kd.C_alloc ?_ _) | (with_reducible refine Kd.C_drewN ?_ _) | (with_reducible refine Kd.C_drew ?_))); (case side2 => exact HC0_1.out); rintro e w47 ⟨v618, rfl, ho0, hb⟩; refine ⟨_, rfl, ?_⟩; have n0_ := Aside0.mk (Kd.R_elder' (by (with_reducible repeat (first | apply Kd.R_alloc | apply Kd.R_drewN | apply Kd.R_drew)); exact HO608.out) (Kd.R_base ho0) hb); have n1_ := Aside0.mk (Kd.R_below (by (with_reducible repeat (first | apply Kd.R_alloc | apply Kd.R_drewN | apply Kd.R_drew)); exact HO611.out) hb); have n2_ := Aside0.mk (Kd.R_below (by (with_reducible repeat (first | apply Kd.R_alloc | apply Kd.R_drewN | apply Kd.R_drew)); exact HO614.out) hb); have n3_ := Aside0.mk (Kd.R_lower (Kd.R_new' ho0 (Kd.R_lt (by (with_reducible repeat (first | apply Kd.R_alloc | apply Kd.R_drewN | apply Kd.R_drew)); exact HO608.out))) (below_size (by repeat (first | (with_reducible first | exact HB.out | apply below_alloc | apply pw_below_drewN | apply below_drew1 | refine below_set ?_ GE602.out) | exact HB.out)))); have n4_ := Aside0.mk (blk_below (g := gb602) (o := .cells #[.int .i64 a0_0, .slice A0_1 l0_1.length c0_1] 24 (0, 0)) (by (with_reducible repeat (first | refine blk_drewN ?_ _ | refine blk_drew ?_ | refine blk_alloc ?_ _)); exact BK602.out) hb); have n5_ := Aside0.mk (below_step (by repeat (first | (with_reducible first | exact HB.out | apply below_alloc | apply pw_below_drewN | apply below_drew1 | refine below_set ?_ GE602.out) | exact HB.out)) hb); clear HO608; clear HO611; clear HO614; clear BK602; clear HB; have HO608 := n0_; have HO611 := n1_; have HO614 := n2_; have HO619 := n3_; have BK602 := n4_; have HB := n5_; clear n0_ n1_ n2_ n3_ n4_ n5_; (try clear hb); (try clear hb2); (try clear hk); (try clear hi); (try clear ho0)) | ((with_reducible refine gate_dst (N := 11) rfl ?_); refine box_event ?hg (N := 11) ?hd (cs := #[.int .i64 0, .slice none 0 0]) (t := 30) ?hr ?_; (case hd => rfl); (case hg => rfl); (case hr => first | (go_simp; done) | (go_simp; rfl)); intro gb620 hg w48 hbox hb; have n0_ := Aside0.mk (Kd.R_below (by (with_reducible repeat (first | apply Kd.R_alloc | apply Kd.R_drewN | apply Kd.R_drew)); exact HO608.out) hb); have n1_ := Aside0.mk (Kd.R_below (by (with_reducible repeat (first | apply Kd.R_alloc | apply Kd.R_drewN | apply Kd.R_drew)); exact HO611.out) hb); have n2_ := Aside0.mk (Kd.R_below (by (with_reducible repeat (first | apply Kd.R_alloc | apply Kd.R_drewN | apply Kd.R_drew)); exact HO614.out) hb); have n3_ := Aside0.mk (Kd.R_below (by (with_reducible repeat (first | apply Kd.R_alloc | apply Kd.R_drewN | apply Kd.R_drew)); exact HO619.out) hb); have n4_ := Aside0.mk (blk_below (g := gb602) (o := .cells #[.int .i64 a0_0, .slice A0_1 l0_1.length c0_1] 24 (0, 0)) (by (with_reducible repeat (first | refine blk_drewN ?_ _ | refine blk_drew ?_ | refine blk_alloc ?_ _)); exact BK602.out) hb); have n5_ := Aside0.mk (below_step (by repeat (first | (with_reducible first | exact HB.out | apply below_alloc | apply pw_below_drewN | apply below_drew1 | refine below_set ?_ GE602.out) | exact HB.out)) hb); have n6_ := Aside0.mk (hbox); have n7_ := Aside0.mk ((by rw [hg]; exact (below_size (by repeat (first | (with_reducible first | exact HB.out | apply below_alloc | apply pw_below_drewN | apply below_drew1 | refine below_set ?_ GE602.out) | exact HB.out))) : w.heap.size ≤ gb620)); have n8_ := Aside0.mk ((by rw [hg]; exact (below_size (by repeat (first | (with_reducible first | exact HB.out | apply below_alloc | apply pw_below_drewN | apply below_drew1 | refine below_set ?_ GE602.out) | exact HB.out))) : w.heap.size ≤ gb620)); have n9_ := Aside0.mk ((by rw [hg]; exact Nat.ne_of_lt (blk_lt (g := gb602) (o := .cells #[.int .i64 a0_0, .slice A0_1 l0_1.length c0_1] 24 (0, 0)) (by (with_reducible repeat (first | refine blk_drewN ?_ _ | refine blk_drew ?_ | refine blk_alloc ?_ _)); exact BK602.out)) : gb602 ≠ gb620)); have n10_ := Aside0.mk ((by rw [hg]; exact Nat.ne_of_gt (blk_lt (g := gb602) (o := .cells #[.int .i64 a0_0, .slice A0_1 l0_1.length c0_1] 24 (0, 0)) (by (with_reducible repeat (first | refine blk_drewN ?_ _ | refine blk_drew ?_ | refine blk_alloc ?_ _)); exact BK602.out)) : gb620 ≠ gb602)); clear HO608; clear HO611; clear HO614; clear HO619; clear BK602; clear HB; have HO608 := n0_; have HO611 := n1_; have HO614 := n2_; have HO619 := n3_; have BK602 := n4_; have HB := n5_; have BK620 := n6_; have GW620 := n7_; have GE620 := n8_; have NB602_620 := n9_; have NB620_602 := n10_; clear n0_ n1_ n2_ n3_ n4_ n5_ n6_ n7_ n8_ n9_ n10_; clear hb hbox hg; have hnb49 := NB620_602.out; have hnc49 := NB602_620.out; have hcz50_0 : w48.cell? ⟨gb620, 0, none⟩ = some (.int .i64 0) := (blk_cell BK620.out 0).trans rfl; have hcz50_1 : w48.cell? ⟨gb620, 1, none⟩ = some (.slice none 0 0) := (blk_cell BK620.out 1).trans rfl; have hfz50_0 := blk_frozen BK620.out 0; have hfz50_1 := blk_frozen BK620.out 1; obtain ⟨Ao51, co51, eo51⟩ := Kd.R_slice HO619.out; subst eo51) | ((with_reducible refine gate_callee (f := 17) rfl ?_); refine goesL_ (some 39) rfl rfl Try.func17 (by kernel_rfl) rfl #[.slice A1 l1.length c1] rfl (by (try simp only [List.map_toArray, List.map_cons, List.map_nil]); first | done | rfl | (simp only [List.length_drop, List.length_take]; rfl)) ?_; (with_reducible refine (laws_toBoolS.calls k _ _ l1 t621 _ ?side1 ?side2 A22.out).mono ?_); (case side1 => exact Kd.C_below HR1.out (by repeat (first | (with_reducible first | exact HB.out | apply below_alloc | apply pw_below_drewN | apply below_drew1 | refine below_set ?_ GE602.out | refine below_set ?_ GE620.out) | exact HB.out))); (case side2 => exact HC1.out); rintro e w52 ⟨v622, rfl, ho0, hb⟩; refine ⟨_, rfl, ?_⟩; have n0_ := Aside0.mk (Kd.R_below (by (with_reducible repeat (first | apply Kd.R_alloc | apply Kd.R_drewN | apply Kd.R_drew)); exact (Kd.R_mono (Kd.R_far (p := ⟨gb620, 1, none⟩) (Kd.R_far (p := ⟨gb620, 0, none⟩) (Kd.R_types HO608.out BK620.out (by decide)) (fun _ hk => hk.2) (.int .i64 t616)) (fun _ hk => hk.2) (.slice Ao51 t617.length co51)) (fun _ h_ => h_.1))) hb); have n1_ := Aside0.mk (Kd.R_elder' (by (with_reducible repeat (first | apply Kd.R_alloc | apply Kd.R_drewN | apply Kd.R_drew)); exact (Kd.R_mono (Kd.R_far (p := ⟨gb620, 1, none⟩) (Kd.R_far (p := ⟨gb620, 0, none⟩) (Kd.R_types HO611.out BK620.out (by decide)) (fun _ hk => hk.2) (.int .i64 t616)) (fun _ hk => hk.2) (.slice Ao51 t617.length co51)) (fun _ h_ => h_.1))) (Kd.R_base ho0) hb); have n2_ := Aside0.mk (Kd.R_below (by (with_reducible repeat (first | apply Kd.R_alloc | apply Kd.R_drewN | apply Kd.R_drew)); exact (Kd.R_mono (Kd.R_far (p := ⟨gb620, 1, none⟩) (Kd.R_far (p := ⟨gb620, 0, none⟩) (Kd.R_types HO614.out BK620.out (by decide)) (fun _ hk => hk.2) (.int .i64 t616)) (fun _ hk => hk.2) (.slice Ao51 t617.length co51)) (fun _ h_ => h_.1))) hb); have n3_ := Aside0.mk (Kd.R_below (by (with_reducible repeat (first | apply Kd.R_alloc | apply Kd.R_drewN | apply Kd.R_drew)); exact (Kd.R_mono (Kd.R_far (p := ⟨gb620, 1, none⟩) (Kd.R_far (p := ⟨gb620, 0, none⟩) (Kd.R_types HO619.out BK620.out (by decide)) (fun _ hk => hk.2) (.int .i64 t616)) (fun _ hk => hk.2) (.slice Ao51 t617.length co51)) (fun _ h_ => h_.1))) hb); have n4_ := Aside0.mk (Kd.R_lower (Kd.R_new' ho0 (Kd.R_lt (by (with_reducible repeat (first | apply Kd.R_alloc | apply Kd.R_drewN | apply Kd.R_drew)); exact (Kd.R_mono (Kd.R_far (p := ⟨gb620, 1, none⟩) (Kd.R_far (p := ⟨gb620, 0, none⟩) (Kd.R_types HO611.out BK620.out (by decide)) (fun _ hk => hk.2) (.int .i64 t616)) (fun _ hk => hk.2) (.slice Ao51 t617.length co51)) (fun _ h_ => h_.1))))) (below_size (by repeat (first | (with_reducible first | exact HB.out | apply below_alloc | apply pw_below_drewN | apply below_drew1 | refine below_set ?_ GE602.out | refine below_set ?_ GE620.out) | exact HB.out)))); have n5_ := Aside0.mk (blk_below (g := gb602) (o := .cells #[.int .i64 a0_0, .slice A0_1 l0_1.length c0_1] 24 (0, 0)) (by (with_reducible repeat (first | refine blk_drewN ?_ _ | refine blk_drew ?_ | refine blk_alloc ?_ _)); refine blk_far ?_ NB602_620.out _; (with_reducible repeat (first | refine blk_drewN ?_ _ | refine blk_drew ?_ | refine blk_alloc ?_ _)); refine blk_far ?_ NB602_620.out _; (with_reducible repeat (first | refine blk_drewN ?_ _ | refine blk_drew ?_ | refine blk_alloc ?_ _)); exact BK602.out) hb); have n6_ := Aside0.mk (blk_below (g := gb620) (o := .cells #[.int .i64 t616, .slice Ao51 t617.length co51] 30 (0, 0)) (by (with_reducible repeat (first | refine blk_drewN ?_ _ | refine blk_drew ?_ | refine blk_alloc ?_ _)); refine blk_put (cs := #[.int .i64 t616, .slice none 0 0]) ?_ 1 _ rfl; (with_reducible repeat (first | refine blk_drewN ?_ _ | refine blk_drew ?_ | refine blk_alloc ?_ _)); refine blk_put (cs := #[.int .i64 0, .slice none 0 0]) ?_ 0 _ rfl; (with_reducible repeat (first | refine blk_drewN ?_ _ | refine blk_drew ?_ | refine blk_alloc ?_ _)); exact BK620.out) hb); have n7_ := Aside0.mk (below_step (by repeat (first | (with_reducible first | exact HB.out | apply below_alloc | apply pw_below_drewN | apply below_drew1 | refine below_set ?_ GE602.out | refine below_set ?_ GE620.out) | exact HB.out)) hb); clear HO608; clear HO611; clear HO614; clear HO619; clear BK602; clear BK620; clear HB; have HO608 := n0_; have HO611 := n1_; have HO614 := n2_; have HO619 := n3_; have HO623 := n4_; have BK602 := n5_; have BK620 := n6_; have HB := n7_; clear n0_ n1_ n2_ n3_ n4_ n5_ n6_ n7_; (try clear hb); (try clear hb2); (try clear hk); (try clear hi); (try clear ho0)) | ((with_reducible refine gate_callee (f := 36) rfl ?_); refine goesL_ (some 41) rfl rfl Try.func36 (by kernel_rfl) rfl #[.slice A2 l2.length c2] rfl (by (try simp only [List.map_toArray, List.map_cons, List.map_nil]); first | done | rfl | (simp only [List.length_drop, List.length_take]; rfl)) ?_; (with_reducible refine (laws_toBusS.calls k _ _ l2 t624 _ ?side1 ?side2 A23.out).mono ?_); (case side1 => repeat (first | exact (Kd.C_below HR2.out HB.out) | (with_reducible refine Kd.C_alloc ?_ _) | (with_reducible refine Kd.C_drewN ?_ _) | (with_reducible refine Kd.C_drew ?_))); (case side2 => exact HC2.out); rintro e w53 ⟨v625, rfl, ho0, hb⟩; refine ⟨_, rfl, ?_⟩; have n0_ := Aside0.mk (Kd.R_below (by (with_reducible repeat (first | apply Kd.R_alloc | apply Kd.R_drewN | apply Kd.R_drew)); exact HO608.out) hb); have n1_ := Aside0.mk (Kd.R_below (by (with_reducible repeat (first | apply Kd.R_alloc | apply Kd.R_drewN | apply Kd.R_drew)); exact HO611.out) hb); have n2_ := Aside0.mk (Kd.R_elder' (by (with_reducible repeat (first | apply Kd.R_alloc | apply Kd.R_drewN | apply Kd.R_drew)); exact HO614.out) (Kd.R_base ho0) hb); have n3_ := Aside0.mk (Kd.R_below (by (with_reducible repeat (first | apply Kd.R_alloc | apply Kd.R_drewN | apply Kd.R_drew)); exact HO619.out) hb); have n4_ := Aside0.mk (Kd.R_below (by (with_reducible repeat (first | apply Kd.R_alloc | apply Kd.R_drewN | apply Kd.R_drew)); exact HO623.out) hb); have n5_ := Aside0.mk (Kd.R_lower (Kd.R_new' ho0 (Kd.R_lt (by (with_reducible repeat (first | apply Kd.R_alloc | apply Kd.R_drewN | apply Kd.R_drew)); exact HO614.out))) (below_size (by repeat (first | (with_reducible first | exact HB.out | apply below_alloc | apply pw_below_drewN | apply below_drew1 | refine below_set ?_ GE602.out | refine below_set ?_ GE620.out) | exact HB.out)))); have n6_ := Aside0.mk (blk_below (g := gb602) (o := .cells #[.int .i64 a0_0, .slice A0_1 l0_1.length c0_1] 24 (0, 0)) (by (with_reducible repeat (first | refine blk_drewN ?_ _ | refine blk_drew ?_ | refine blk_alloc ?_ _)); exact BK602.out) hb); have n7_ := Aside0.mk (blk_below (g := gb620) (o := .cells #[.int .i64 t616, .slice Ao51 t617.length co51] 30 (0, 0)) (by (with_reducible repeat (first | refine blk_drewN ?_ _ | refine blk_drew ?_ | refine blk_alloc ?_ _)); exact BK620.out) hb); have n8_ := Aside0.mk (below_step (by repeat (first | (with_reducible first | exact HB.out | apply below_alloc | apply pw_below_drewN | apply below_drew1 | refine below_set ?_ GE602.out | refine below_set ?_ GE620.out) | exact HB.out)) hb); clear HO608; clear HO611; clear HO614; clear HO619; clear HO623; clear BK602; clear BK620; clear HB; have HO608 := n0_; have HO611 := n1_; have HO614 := n2_; have HO619 := n3_; have HO623 := n4_; have HO626 := n5_; have BK602 := n6_; have BK620 := n7_; have HB := n8_; clear n0_ n1_ n2_ n3_ n4_ n5_ n6_ n7_ n8_; (try clear hb); (try clear hb2); (try clear hk); (try clear hi); (try clear ho0); have hcz54_0 : w53.cell? ⟨gb620, 0, none⟩ = some (.int .i64 t616) := (blk_cell BK620.out 0).trans rfl; have hcz54_1 : w53.cell? ⟨gb620, 1, none⟩ = some (.slice Ao51 t617.length co51) := (blk_cell BK620.out 1).trans rfl; have hfz54_0 := blk_frozen BK620.out 0; have hfz54_1 := blk_frozen BK620.out 1; obtain ⟨Ao55, co55, eo55⟩ := Kd.R_slice HO623.out; subst eo55; obtain ⟨Ao56, co56, eo56⟩ := Kd.R_slice HO626.out; subst eo56) | ((with_reducible refine gate_callee (f := 37) rfl ?_); refine goesL_ (some 46) rfl rfl Try.func37 (by kernel_rfl) rfl #[.agg #[.int .i64 t616, .slice Ao51 t617.length co51], .slice Ao55 t621.length co55, .slice Ao56 t624.length co56, .int .i64 a3] rfl (by (try simp only [List.map_toArray, List.map_cons, List.map_nil]); first | done | rfl | (simp only [List.length_drop, List.length_take]; rfl)) ?_; (with_reducible refine (impl_IslandFeed.calls k t616 _ _ t617 _ _ t621 _ _ t624 a3 t627 _ ?side1 ?side2 ?side3 ?side4 ?side5 ?side6 A24.out).mono ?_); (case side1 => repeat (first | exact (Kd.R_reads' HO619.out).2.2 | (with_reducible refine Kd.C_alloc ?_ _) | (with_reducible refine Kd.C_drewN ?_ _) | (with_reducible refine Kd.C_drew ?_))); (case side2 => exact (Kd.R_reads' HO619.out).2.1); (case side3 => repeat (first | exact (Kd.R_reads' HO623.out).2.2 | (with_reducible refine Kd.C_alloc ?_ _) | (with_reducible refine Kd.C_drewN ?_ _) | (with_reducible refine Kd.C_drew ?_))); (case side4 => exact (Kd.R_reads' HO623.out).2.1); (case side5 => repeat (first | exact (Kd.R_reads' HO626.out).2.2 | (with_reducible refine Kd.C_alloc ?_ _) | (with_reducible refine Kd.C_drewN ?_ _) | (with_reducible refine Kd.C_drew ?_))); (case side6 => exact (Kd.R_reads' HO626.out).2.1); rintro e w57 ⟨rfl, hb⟩; refine ⟨_, rfl, ?_⟩; have n0_ := Aside0.mk (Kd.R_below (by (with_reducible repeat (first | apply Kd.R_alloc | apply Kd.R_drewN | apply Kd.R_drew)); exact HO608.out) hb); have n1_ := Aside0.mk (Kd.R_below (by (with_reducible repeat (first | apply Kd.R_alloc | apply Kd.R_drewN | apply Kd.R_drew)); exact HO611.out) hb); have n2_ := Aside0.mk (Kd.R_below (by (with_reducible repeat (first | apply Kd.R_alloc | apply Kd.R_drewN | apply Kd.R_drew)); exact HO614.out) hb); have n3_ := Aside0.mk (Kd.R_below (by (with_reducible repeat (first | apply Kd.R_alloc | apply Kd.R_drewN | apply Kd.R_drew)); exact HO619.out) hb); have n4_ := Aside0.mk (Kd.R_below (by (with_reducible repeat (first | apply Kd.R_alloc | apply Kd.R_drewN | apply Kd.R_drew)); exact HO623.out) hb); have n5_ := Aside0.mk (Kd.R_below (by (with_reducible repeat (first | apply Kd.R_alloc | apply Kd.R_drewN | apply Kd.R_drew)); exact HO626.out) hb); have n6_ := Aside0.mk (blk_below (g := gb602) (o := .cells #[.int .i64 a0_0, .slice A0_1 l0_1.length c0_1] 24 (0, 0)) (by (with_reducible repeat (first | refine blk_drewN ?_ _ | refine blk_drew ?_ | refine blk_alloc ?_ _)); exact BK602.out) hb); have n7_ := Aside0.mk (blk_below (g := gb620) (o := .cells #[.int .i64 t616, .slice Ao51 t617.length co51] 30 (0, 0)) (by (with_reducible repeat (first | refine blk_drewN ?_ _ | refine blk_drew ?_ | refine blk_alloc ?_ _)); exact BK620.out) hb); have n8_ := Aside0.mk (below_step (by repeat (first | (with_reducible first | exact HB.out | apply below_alloc | apply pw_below_drewN | apply below_drew1 | refine below_set ?_ GE602.out | refine below_set ?_ GE620.out) | exact HB.out)) hb); clear HO608; clear HO611; clear HO614; clear HO619; clear HO623; clear HO626; clear BK602; clear BK620; clear HB; have HO608 := n0_; have HO611 := n1_; have HO614 := n2_; have HO619 := n3_; have HO623 := n4_; have HO626 := n5_; have BK602 := n6_; have BK620 := n7_; have HB := n8_; clear n0_ n1_ n2_ n3_ n4_ n5_ n6_ n7_ n8_; (try clear hb); (try clear hb2); (try clear hk); (try clear hi)))
 have n0_ := Aside0.mk (Kd.R_drew HO608.out)
 have n1_ := Aside0.mk (Kd.R_drew HO611.out)
 have n2_ := Aside0.mk (Kd.R_drew HO614.out)
 have n3_ := Aside0.mk (Kd.R_drew HO619.out)
 have n4_ := Aside0.mk (Kd.R_drew HO623.out)
 have n5_ := Aside0.mk (Kd.R_drew HO626.out)
 have n6_ := Aside0.mk (blk_drew BK602.out)
 have n7_ := Aside0.mk (blk_drew BK620.out)
 have n8_ := Aside0.mk (below_drew1 HB.out)
 clear HO608
 clear HO611
 clear HO614
 clear HO619
 clear HO623
 clear HO626
 clear BK602
 clear BK620
 clear HB
 have HO608 := n0_
 have HO611 := n1_
 have HO614 := n2_
 have HO619 := n3_
 have HO623 := n4_
 have HO626 := n5_
 have BK602 := n6_
 have BK620 := n7_
 have HB := n8_
 clear n0_ n1_ n2_ n3_ n4_ n5_ n6_ n7_ n8_
 refine start_ (n := 5) (S := fun w' => w'.cell? ⟨gb620, 0, none⟩ = some (.int .i64 t616) ∧ w'.cell? ⟨gb620, 1, none⟩ = some (.slice Ao51 t617.length co51) ∧ w'.cell? ⟨gb602, 0, none⟩ = some (.int .i64 a0_0) ∧ w'.cell? ⟨gb602, 1, none⟩ = some (.slice A0_1 l0_1.length c0_1)) (ds := []) #[false, false, false, false, false] (by kernel_rfl) rfl rfl ⟨(blk_cell BK620.out 0).trans rfl, (blk_cell BK620.out 1).trans rfl, (blk_cell BK602.out 0).trans rfl, (blk_cell BK602.out 1).trans rfl⟩ (fun hHeld => ?_)
 generalize w57.drew = w58 at HO608 HO611 HO614 HO619 HO623 HO626 BK602 BK620 HB hHeld ⊢
 refine take_ (i := 0) (N := some 50) (v := ?_) (a' := ?_) #[true, false, false, false, false] rfl rfl (by kernel_rfl) (fun _ _ _ h => h) (Or.inl ⟨by rfl, ?_⟩) hHeld ?_ ?_
 rotate_left
 ·
  rintro w' ⟨s0, s1, s2, s3⟩
  go_simp
  with_reducible rfl
 rotate_left
 ·
  simp only [Act.put, List.setIfInBounds_toArray, List.set_cons_zero, List.set_cons_succ, i64_w, i32_w]
  rfl
 refine take_ (i := 1) (N := some 51) (v := ?_) (a' := ?_) #[true, true, false, false, false] rfl rfl (by kernel_rfl) (fun _ _ _ h => h) (Or.inl ⟨by rfl, ?_⟩) hHeld ?_ ?_
 rotate_left
 ·
  rintro w' ⟨s0, s1, s2, s3⟩
  go_simp
  with_reducible rfl
 rotate_left
 ·
  simp only [Act.put, List.setIfInBounds_toArray, List.set_cons_zero, List.set_cons_succ, i64_w, i32_w]
  rfl
 refine one_ (i := 2) (N := some 52) #[true, true, true, false, false] rfl rfl (by kernel_rfl) (by decide) (fun K hK => ?_)
 refine goes_ Try.func16 (by kernel_rfl) rfl #[.agg #[.int .i64 a0_0, .slice A0_1 l0_1.length c0_1]] (by rfl) rfl rfl (by (try simp only [List.map_toArray, List.map_cons, List.map_nil]); first | done | rfl | (simp only [List.length_drop, List.length_take]; rfl)) ?_
 with_reducible refine (laws_toNet.calls k a0_0 _ _ l0_1 t628 t629 _ ?side1 ?side2 A26.out).mono ?_
 (case side1 => repeat (first | exact (Kd.C_below HR0_1.out HB.out) | (with_reducible refine Kd.C_alloc ?_ _) | (with_reducible refine Kd.C_drewN ?_ _) | (with_reducible refine Kd.C_drew ?_)))
 (case side2 => exact HC0_1.out)
 rintro e w59 ⟨v630, rfl, ho0, hb⟩
 refine ⟨_, rfl, ?_⟩
 have n0_ := Aside0.mk (Kd.R_elder' (by (with_reducible repeat (first | apply Kd.R_alloc | apply Kd.R_drewN | apply Kd.R_drew)); exact HO608.out) (Kd.R_base ho0) hb)
 have n1_ := Aside0.mk (Kd.R_below (by (with_reducible repeat (first | apply Kd.R_alloc | apply Kd.R_drewN | apply Kd.R_drew)); exact HO611.out) hb)
 have n2_ := Aside0.mk (Kd.R_below (by (with_reducible repeat (first | apply Kd.R_alloc | apply Kd.R_drewN | apply Kd.R_drew)); exact HO614.out) hb)
 have n3_ := Aside0.mk (Kd.R_elder' (by (with_reducible repeat (first | apply Kd.R_alloc | apply Kd.R_drewN | apply Kd.R_drew)); exact HO619.out) (Kd.R_base ho0) hb)
 have n4_ := Aside0.mk (Kd.R_below (by (with_reducible repeat (first | apply Kd.R_alloc | apply Kd.R_drewN | apply Kd.R_drew)); exact HO623.out) hb)
 have n5_ := Aside0.mk (Kd.R_below (by (with_reducible repeat (first | apply Kd.R_alloc | apply Kd.R_drewN | apply Kd.R_drew)); exact HO626.out) hb)
 have n6_ := Aside0.mk (Kd.R_lower (Kd.R_new' (Kd.R_new' ho0 (Kd.R_lt (by (with_reducible repeat (first | apply Kd.R_alloc | apply Kd.R_drewN | apply Kd.R_drew)); exact HO608.out))) (Kd.R_lt (by (with_reducible repeat (first | apply Kd.R_alloc | apply Kd.R_drewN | apply Kd.R_drew)); exact HO619.out))) (below_size (by repeat (first | (with_reducible first | exact HB.out | apply below_alloc | apply pw_below_drewN | apply below_drew1 | refine below_set ?_ GE602.out | refine below_set ?_ GE620.out) | exact HB.out))))
 have n7_ := Aside0.mk (blk_below (g := gb602) (o := .cells #[.int .i64 a0_0, .slice A0_1 l0_1.length c0_1] 24 (0, 0)) (by (with_reducible repeat (first | refine blk_drewN ?_ _ | refine blk_drew ?_ | refine blk_alloc ?_ _)); exact BK602.out) hb)
 have n8_ := Aside0.mk (blk_below (g := gb620) (o := .cells #[.int .i64 t616, .slice Ao51 t617.length co51] 30 (0, 0)) (by (with_reducible repeat (first | refine blk_drewN ?_ _ | refine blk_drew ?_ | refine blk_alloc ?_ _)); exact BK620.out) hb)
 have n9_ := Aside0.mk (below_step (by repeat (first | (with_reducible first | exact HB.out | apply below_alloc | apply pw_below_drewN | apply below_drew1 | refine below_set ?_ GE602.out | refine below_set ?_ GE620.out) | exact HB.out)) hb)
 clear HO608
 clear HO611
 clear HO614
 clear HO619
 clear HO623
 clear HO626
 clear BK602
 clear BK620
 clear HB
 have HO608 := n0_
 have HO611 := n1_
 have HO614 := n2_
 have HO619 := n3_
 have HO623 := n4_
 have HO626 := n5_
 have HO631 := n6_
 have BK602 := n7_
 have BK620 := n8_
 have HB := n9_
 clear n0_ n1_ n2_ n3_ n4_ n5_ n6_ n7_ n8_ n9_
 (try clear hb)
 (try clear hb2)
 (try clear hk)
 (try clear hi)
 (try clear ho0)
 obtain ⟨Ao60, co60, eo60⟩ := Kd.R_slice HO631.out
 (first | subst eo60 | (injection eo60 with f1_ f2_ f3_; have f4_ := f1_.symm; have f5_ := f3_.symm; clear f1_ f2_ f3_; subst f4_; subst f5_))
 refine hK.out _ _ ⟨(blk_cell BK620.out 0).trans rfl, (blk_cell BK620.out 1).trans rfl, (blk_cell BK602.out 0).trans rfl, (blk_cell BK602.out 1).trans rfl⟩ (fun hHeld => ?_)
 clear hK K
 refine norm_ (a' := ?_) ?_ ?_
 rotate_left
 ·
  show Act.put _ (some 52) _ = _
  simp only [Act.put, List.setIfInBounds_toArray, List.set_cons_zero, List.set_cons_succ, i64_w, i32_w]
  rfl
 refine one_ (i := 3) (N := some 53) #[true, true, true, true, false] rfl rfl (by kernel_rfl) (by decide) (fun K hK => ?_)
 refine goes_ Try.func19 (by kernel_rfl) rfl #[.agg #[.int .i64 t616, .slice Ao51 t617.length co51], .agg #[.int .i64 t628, .slice Ao60 t629.length co60]] (by rfl) rfl rfl (by (try simp only [List.map_toArray, List.map_cons, List.map_nil]); first | done | rfl | (simp only [List.length_drop, List.length_take]; rfl)) ?_
 with_reducible refine (laws_eqNet.calls k t616 _ _ t617 t628 _ _ t629 true _ ?side1 ?side2 ?side3 ?side4 A27.out).mono ?_
 (case side1 => repeat (first | exact (Kd.R_reads' HO619.out).2.2 | (with_reducible refine Kd.C_alloc ?_ _) | (with_reducible refine Kd.C_drewN ?_ _) | (with_reducible refine Kd.C_drew ?_)))
 (case side2 => exact (Kd.R_reads' HO619.out).2.1)
 (case side3 => repeat (first | exact (Kd.R_reads' HO631.out).2.2 | (with_reducible refine Kd.C_alloc ?_ _) | (with_reducible refine Kd.C_drewN ?_ _) | (with_reducible refine Kd.C_drew ?_)))
 (case side4 => exact (Kd.R_reads' HO631.out).2.1)
 rintro e w61 ⟨rfl, hb⟩
 refine ⟨_, rfl, ?_⟩
 have n0_ := Aside0.mk (Kd.R_below (by (with_reducible repeat (first | apply Kd.R_alloc | apply Kd.R_drewN | apply Kd.R_drew)); exact HO608.out) hb)
 have n1_ := Aside0.mk (Kd.R_below (by (with_reducible repeat (first | apply Kd.R_alloc | apply Kd.R_drewN | apply Kd.R_drew)); exact HO611.out) hb)
 have n2_ := Aside0.mk (Kd.R_below (by (with_reducible repeat (first | apply Kd.R_alloc | apply Kd.R_drewN | apply Kd.R_drew)); exact HO614.out) hb)
 have n3_ := Aside0.mk (Kd.R_below (by (with_reducible repeat (first | apply Kd.R_alloc | apply Kd.R_drewN | apply Kd.R_drew)); exact HO619.out) hb)
 have n4_ := Aside0.mk (Kd.R_below (by (with_reducible repeat (first | apply Kd.R_alloc | apply Kd.R_drewN | apply Kd.R_drew)); exact HO623.out) hb)
 have n5_ := Aside0.mk (Kd.R_below (by (with_reducible repeat (first | apply Kd.R_alloc | apply Kd.R_drewN | apply Kd.R_drew)); exact HO626.out) hb)
 have n6_ := Aside0.mk (Kd.R_below (by (with_reducible repeat (first | apply Kd.R_alloc | apply Kd.R_drewN | apply Kd.R_drew)); exact HO631.out) hb)
 have n7_ := Aside0.mk (blk_below (g := gb602) (o := .cells #[.int .i64 a0_0, .slice A0_1 l0_1.length c0_1] 24 (0, 0)) (by (with_reducible repeat (first | refine blk_drewN ?_ _ | refine blk_drew ?_ | refine blk_alloc ?_ _)); exact BK602.out) hb)
 have n8_ := Aside0.mk (blk_below (g := gb620) (o := .cells #[.int .i64 t616, .slice Ao51 t617.length co51] 30 (0, 0)) (by (with_reducible repeat (first | refine blk_drewN ?_ _ | refine blk_drew ?_ | refine blk_alloc ?_ _)); exact BK620.out) hb)
 have n9_ := Aside0.mk (below_step (by repeat (first | (with_reducible first | exact HB.out | apply below_alloc | apply pw_below_drewN | apply below_drew1 | refine below_set ?_ GE602.out | refine below_set ?_ GE620.out) | exact HB.out)) hb)
 clear HO608
 clear HO611
 clear HO614
 clear HO619
 clear HO623
 clear HO626
 clear HO631
 clear BK602
 clear BK620
 clear HB
 have HO608 := n0_
 have HO611 := n1_
 have HO614 := n2_
 have HO619 := n3_
 have HO623 := n4_
 have HO626 := n5_
 have HO631 := n6_
 have BK602 := n7_
 have BK620 := n8_
 have HB := n9_
 clear n0_ n1_ n2_ n3_ n4_ n5_ n6_ n7_ n8_ n9_
 (try clear hb)
 (try clear hb2)
 (try clear hk)
 (try clear hi)
 refine hK.out _ _ ⟨(blk_cell BK620.out 0).trans rfl, (blk_cell BK620.out 1).trans rfl, (blk_cell BK602.out 0).trans rfl, (blk_cell BK602.out 1).trans rfl⟩ (fun hHeld => ?_)
 clear hK K
 refine norm_ (a' := ?_) ?_ ?_
 rotate_left
 ·
  show Act.put _ (some 53) _ = _
  simp only [Act.put, List.setIfInBounds_toArray, List.set_cons_zero, List.set_cons_succ, i64_w, i32_w]
  rfl
 refine pure_ (i := 4) (N := some 54) (v := ?_) (a' := ?_) #[true, true, true, true, true] rfl rfl (by kernel_rfl) (fun _ _ _ h => h) (Or.inl ⟨by rfl, ?_⟩) ?_ ?_
 rotate_left
 ·
  intro w'
  go_simp
  with_reducible rfl
 rotate_left
 ·
  simp only [Act.put, List.setIfInBounds_toArray, List.set_cons_zero, List.set_cons_succ, i64_w, i32_w]
  rfl
 refine done_ (by kernel_rfl) ?_
 try go_wp2_with (first | ((with_reducible refine gate_callee (f := 17) rfl ?_); refine goesL_ (some 57) rfl rfl Try.func17 (by kernel_rfl) rfl #[.slice A1 l1.length c1] rfl (by (try simp only [List.map_toArray, List.map_cons, List.map_nil]); first | done | rfl | (simp only [List.length_drop, List.length_take]; rfl)) ?_; (with_reducible refine (laws_toBoolS.calls k _ _ l1 t633 _ ?side1 ?side2 A29.out).mono ?_); (case side1 => repeat (first | exact (Kd.C_below HR1.out HB.out) | (with_reducible refine Kd.C_alloc ?_ _) | (with_reducible refine Kd.C_drewN ?_ _) | (with_reducible refine Kd.C_drew ?_))); (case side2 => exact HC1.out); rintro e w62 ⟨v634, rfl, ho0, hb⟩; refine ⟨_, rfl, ?_⟩; have n0_ := Aside0.mk (Kd.R_below (by (with_reducible repeat (first | apply Kd.R_alloc | apply Kd.R_drewN | apply Kd.R_drew)); exact HO608.out) hb); have n1_ := Aside0.mk (Kd.R_elder' (by (with_reducible repeat (first | apply Kd.R_alloc | apply Kd.R_drewN | apply Kd.R_drew)); exact HO611.out) (Kd.R_base ho0) hb); have n2_ := Aside0.mk (Kd.R_below (by (with_reducible repeat (first | apply Kd.R_alloc | apply Kd.R_drewN | apply Kd.R_drew)); exact HO614.out) hb); have n3_ := Aside0.mk (Kd.R_below (by (with_reducible repeat (first | apply Kd.R_alloc | apply Kd.R_drewN | apply Kd.R_drew)); exact HO619.out) hb); have n4_ := Aside0.mk (Kd.R_elder' (by (with_reducible repeat (first | apply Kd.R_alloc | apply Kd.R_drewN | apply Kd.R_drew)); exact HO623.out) (Kd.R_base ho0) hb); have n5_ := Aside0.mk (Kd.R_below (by (with_reducible repeat (first | apply Kd.R_alloc | apply Kd.R_drewN | apply Kd.R_drew)); exact HO626.out) hb); have n6_ := Aside0.mk (Kd.R_below (by (with_reducible repeat (first | apply Kd.R_alloc | apply Kd.R_drewN | apply Kd.R_drew)); exact HO631.out) hb); have n7_ := Aside0.mk (Kd.R_lower (Kd.R_new' (Kd.R_new' ho0 (Kd.R_lt (by (with_reducible repeat (first | apply Kd.R_alloc | apply Kd.R_drewN | apply Kd.R_drew)); exact HO611.out))) (Kd.R_lt (by (with_reducible repeat (first | apply Kd.R_alloc | apply Kd.R_drewN | apply Kd.R_drew)); exact HO623.out))) (below_size (by repeat (first | (with_reducible first | exact HB.out | apply below_alloc | apply pw_below_drewN | apply below_drew1 | refine below_set ?_ GE602.out | refine below_set ?_ GE620.out) | exact HB.out)))); have n8_ := Aside0.mk (blk_below (g := gb602) (o := .cells #[.int .i64 a0_0, .slice A0_1 l0_1.length c0_1] 24 (0, 0)) (by (with_reducible repeat (first | refine blk_drewN ?_ _ | refine blk_drew ?_ | refine blk_alloc ?_ _)); exact BK602.out) hb); have n9_ := Aside0.mk (blk_below (g := gb620) (o := .cells #[.int .i64 t616, .slice Ao51 t617.length co51] 30 (0, 0)) (by (with_reducible repeat (first | refine blk_drewN ?_ _ | refine blk_drew ?_ | refine blk_alloc ?_ _)); exact BK620.out) hb); have n10_ := Aside0.mk (below_step (by repeat (first | (with_reducible first | exact HB.out | apply below_alloc | apply pw_below_drewN | apply below_drew1 | refine below_set ?_ GE602.out | refine below_set ?_ GE620.out) | exact HB.out)) hb); clear HO608; clear HO611; clear HO614; clear HO619; clear HO623; clear HO626; clear HO631; clear BK602; clear BK620; clear HB; have HO608 := n0_; have HO611 := n1_; have HO614 := n2_; have HO619 := n3_; have HO623 := n4_; have HO626 := n5_; have HO631 := n6_; have HO635 := n7_; have BK602 := n8_; have BK620 := n9_; have HB := n10_; clear n0_ n1_ n2_ n3_ n4_ n5_ n6_ n7_ n8_ n9_ n10_; (try clear hb); (try clear hb2); (try clear hk); (try clear hi); (try clear ho0); obtain ⟨Ao63, co63, eo63⟩ := Kd.R_slice HO635.out; subst eo63) | ((with_reducible refine gate_callee (f := 20) rfl ?_); refine goesL_ (some 58) rfl rfl Try.func20 (by kernel_rfl) rfl #[.slice Ao55 t621.length co55, .slice Ao63 t633.length co63] rfl (by (try simp only [List.map_toArray, List.map_cons, List.map_nil]); first | done | rfl | (simp only [List.length_drop, List.length_take]; rfl)) ?_; (with_reducible refine (laws_eqBoolS.calls k _ _ t621 _ _ t633 true _ ?side1 ?side2 ?side3 ?side4 A30.out).mono ?_); (case side1 => repeat (first | exact (Kd.R_reads' HO623.out).2.2 | (with_reducible refine Kd.C_alloc ?_ _) | (with_reducible refine Kd.C_drewN ?_ _) | (with_reducible refine Kd.C_drew ?_))); (case side2 => exact (Kd.R_reads' HO623.out).2.1); (case side3 => repeat (first | exact (Kd.R_reads' HO635.out).2.2 | (with_reducible refine Kd.C_alloc ?_ _) | (with_reducible refine Kd.C_drewN ?_ _) | (with_reducible refine Kd.C_drew ?_))); (case side4 => exact (Kd.R_reads' HO635.out).2.1); rintro e w' ⟨rfl, ⟨nd, rfl⟩⟩; refine ⟨_, rfl, ?_⟩) | ((with_reducible refine gate_callee (f := 36) rfl ?_); refine goesL_ (some 62) rfl rfl Try.func36 (by kernel_rfl) rfl #[.slice A2 l2.length c2] rfl (by (try simp only [List.map_toArray, List.map_cons, List.map_nil]); first | done | rfl | (simp only [List.length_drop, List.length_take]; rfl)) ?_; (with_reducible refine (laws_toBusS.calls k _ _ l2 t637 _ ?side1 ?side2 A32.out).mono ?_); (case side1 => repeat (first | exact (Kd.C_below HR2.out (by repeat (first | (with_reducible first | exact HB.out | apply below_alloc | apply pw_below_drewN | apply below_drew1 | refine below_set ?_ GE602.out | refine below_set ?_ GE620.out) | exact HB.out))) | (with_reducible refine Kd.C_alloc ?_ _) | (with_reducible refine Kd.C_drewN ?_ _) | (with_reducible refine Kd.C_drew ?_))); (case side2 => exact HC2.out); rintro e w64 ⟨v638, rfl, ho0, hb⟩; refine ⟨_, rfl, ?_⟩; have n0_ := Aside0.mk (Kd.R_below (by (with_reducible repeat (first | apply Kd.R_alloc | apply Kd.R_drewN | apply Kd.R_drew)); exact HO608.out) hb); have n1_ := Aside0.mk (Kd.R_below (by (with_reducible repeat (first | apply Kd.R_alloc | apply Kd.R_drewN | apply Kd.R_drew)); exact HO611.out) hb); have n2_ := Aside0.mk (Kd.R_elder' (by (with_reducible repeat (first | apply Kd.R_alloc | apply Kd.R_drewN | apply Kd.R_drew)); exact HO614.out) (Kd.R_base ho0) hb); have n3_ := Aside0.mk (Kd.R_below (by (with_reducible repeat (first | apply Kd.R_alloc | apply Kd.R_drewN | apply Kd.R_drew)); exact HO619.out) hb); have n4_ := Aside0.mk (Kd.R_below (by (with_reducible repeat (first | apply Kd.R_alloc | apply Kd.R_drewN | apply Kd.R_drew)); exact HO623.out) hb); have n5_ := Aside0.mk (Kd.R_elder' (by (with_reducible repeat (first | apply Kd.R_alloc | apply Kd.R_drewN | apply Kd.R_drew)); exact HO626.out) (Kd.R_base ho0) hb); have n6_ := Aside0.mk (Kd.R_below (by (with_reducible repeat (first | apply Kd.R_alloc | apply Kd.R_drewN | apply Kd.R_drew)); exact HO631.out) hb); have n7_ := Aside0.mk (Kd.R_below (by (with_reducible repeat (first | apply Kd.R_alloc | apply Kd.R_drewN | apply Kd.R_drew)); exact HO635.out) hb); have n8_ := Aside0.mk (Kd.R_lower (Kd.R_new' (Kd.R_new' ho0 (Kd.R_lt (by (with_reducible repeat (first | apply Kd.R_alloc | apply Kd.R_drewN | apply Kd.R_drew)); exact HO614.out))) (Kd.R_lt (by (with_reducible repeat (first | apply Kd.R_alloc | apply Kd.R_drewN | apply Kd.R_drew)); exact HO626.out))) (below_size (by repeat (first | (with_reducible first | exact HB.out | apply below_alloc | apply pw_below_drewN | apply below_drew1 | refine below_set ?_ GE602.out | refine below_set ?_ GE620.out) | exact HB.out)))); have n9_ := Aside0.mk (blk_below (g := gb602) (o := .cells #[.int .i64 a0_0, .slice A0_1 l0_1.length c0_1] 24 (0, 0)) (by (with_reducible repeat (first | refine blk_drewN ?_ _ | refine blk_drew ?_ | refine blk_alloc ?_ _)); exact BK602.out) hb); have n10_ := Aside0.mk (blk_below (g := gb620) (o := .cells #[.int .i64 t616, .slice Ao51 t617.length co51] 30 (0, 0)) (by (with_reducible repeat (first | refine blk_drewN ?_ _ | refine blk_drew ?_ | refine blk_alloc ?_ _)); exact BK620.out) hb); have n11_ := Aside0.mk (below_step (by repeat (first | (with_reducible first | exact HB.out | apply below_alloc | apply pw_below_drewN | apply below_drew1 | refine below_set ?_ GE602.out | refine below_set ?_ GE620.out) | exact HB.out)) hb); clear HO608; clear HO611; clear HO614; clear HO619; clear HO623; clear HO626; clear HO631; clear HO635; clear BK602; clear BK620; clear HB; have HO608 := n0_; have HO611 := n1_; have HO614 := n2_; have HO619 := n3_; have HO623 := n4_; have HO626 := n5_; have HO631 := n6_; have HO635 := n7_; have HO639 := n8_; have BK602 := n9_; have BK620 := n10_; have HB := n11_; clear n0_ n1_ n2_ n3_ n4_ n5_ n6_ n7_ n8_ n9_ n10_ n11_; (try clear hb); (try clear hb2); (try clear hk); (try clear hi); (try clear ho0); obtain ⟨Ao65, co65, eo65⟩ := Kd.R_slice HO639.out; subst eo65) | ((with_reducible refine gate_callee (f := 38) rfl ?_); refine goesL_ (some 63) rfl rfl Try.func38 (by kernel_rfl) rfl #[.slice Ao56 t624.length co56, .slice Ao65 t637.length co65] rfl (by (try simp only [List.map_toArray, List.map_cons, List.map_nil]); first | done | rfl | (simp only [List.length_drop, List.length_take]; rfl)) ?_; (with_reducible refine (laws_eqBusS.calls k _ _ t624 _ _ t637 true _ ?side1 ?side2 ?side3 ?side4 A33.out).mono ?_); (case side1 => repeat (first | exact (Kd.R_reads' HO626.out).2.2 | (with_reducible refine Kd.C_alloc ?_ _) | (with_reducible refine Kd.C_drewN ?_ _) | (with_reducible refine Kd.C_drew ?_))); (case side2 => exact (Kd.R_reads' HO626.out).2.1); (case side3 => repeat (first | exact (Kd.R_reads' HO639.out).2.2 | (with_reducible refine Kd.C_alloc ?_ _) | (with_reducible refine Kd.C_drewN ?_ _) | (with_reducible refine Kd.C_drew ?_))); (case side4 => exact (Kd.R_reads' HO639.out).2.1); rintro e w66 ⟨rfl, hb⟩; refine ⟨_, rfl, ?_⟩; have n0_ := Aside0.mk (Kd.R_below (by (with_reducible repeat (first | apply Kd.R_alloc | apply Kd.R_drewN | apply Kd.R_drew)); exact HO608.out) hb); have n1_ := Aside0.mk (Kd.R_below (by (with_reducible repeat (first | apply Kd.R_alloc | apply Kd.R_drewN | apply Kd.R_drew)); exact HO611.out) hb); have n2_ := Aside0.mk (Kd.R_below (by (with_reducible repeat (first | apply Kd.R_alloc | apply Kd.R_drewN | apply Kd.R_drew)); exact HO614.out) hb); have n3_ := Aside0.mk (Kd.R_below (by (with_reducible repeat (first | apply Kd.R_alloc | apply Kd.R_drewN | apply Kd.R_drew)); exact HO619.out) hb); have n4_ := Aside0.mk (Kd.R_below (by (with_reducible repeat (first | apply Kd.R_alloc | apply Kd.R_drewN | apply Kd.R_drew)); exact HO623.out) hb); have n5_ := Aside0.mk (Kd.R_below (by (with_reducible repeat (first | apply Kd.R_alloc | apply Kd.R_drewN | apply Kd.R_drew)); exact HO626.out) hb); have n6_ := Aside0.mk (Kd.R_below (by (with_reducible repeat (first | apply Kd.R_alloc | apply Kd.R_drewN | apply Kd.R_drew)); exact HO631.out) hb); have n7_ := Aside0.mk (Kd.R_below (by (with_reducible repeat (first | apply Kd.R_alloc | apply Kd.R_drewN | apply Kd.R_drew)); exact HO635.out) hb); have n8_ := Aside0.mk (Kd.R_below (by (with_reducible repeat (first | apply Kd.R_alloc | apply Kd.R_drewN | apply Kd.R_drew)); exact HO639.out) hb); have n9_ := Aside0.mk (blk_below (g := gb602) (o := .cells #[.int .i64 a0_0, .slice A0_1 l0_1.length c0_1] 24 (0, 0)) (by (with_reducible repeat (first | refine blk_drewN ?_ _ | refine blk_drew ?_ | refine blk_alloc ?_ _)); exact BK602.out) hb); have n10_ := Aside0.mk (blk_below (g := gb620) (o := .cells #[.int .i64 t616, .slice Ao51 t617.length co51] 30 (0, 0)) (by (with_reducible repeat (first | refine blk_drewN ?_ _ | refine blk_drew ?_ | refine blk_alloc ?_ _)); exact BK620.out) hb); have n11_ := Aside0.mk (below_step (by repeat (first | (with_reducible first | exact HB.out | apply below_alloc | apply pw_below_drewN | apply below_drew1 | refine below_set ?_ GE602.out | refine below_set ?_ GE620.out) | exact HB.out)) hb); clear HO608; clear HO611; clear HO614; clear HO619; clear HO623; clear HO626; clear HO631; clear HO635; clear HO639; clear BK602; clear BK620; clear HB; have HO608 := n0_; have HO611 := n1_; have HO614 := n2_; have HO619 := n3_; have HO623 := n4_; have HO626 := n5_; have HO631 := n6_; have HO635 := n7_; have HO639 := n8_; have BK602 := n9_; have BK620 := n10_; have HB := n11_; clear n0_ n1_ n2_ n3_ n4_ n5_ n6_ n7_ n8_ n9_ n10_ n11_; (try clear hb); (try clear hb2); (try clear hk); (try clear hi)))
 go_ret
 exact ⟨by first | rfl | (simp [errW_none, errW_some] <;> rfl) | (simp [*, errW_none, errW_some] <;> rfl), by repeat (first | (with_reducible first | exact HB.out | apply below_alloc | apply pw_below_drewN | apply below_drew1 | refine below_set ?_ GE602.out | refine below_set ?_ GE620.out) | exact HB.out)⟩

end Go.Proofs.Ytknddipjabkfbaa.P

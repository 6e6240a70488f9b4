/- Contracts of Go functions of this seat's translation, written by this repo's wip/mk.py: it calls the kit's print.py with contracts typed by hand in place of functions that it does not take. Not trusted: Lean checks it. -/
import Derived.Test.YtknddipjabkfbaaP0
import Derived.Test.YtknddipjabkfbaaP8
import Derived.Test.YtknddipjabkfbaaP17
import Derived.Test.YtknddipjabkfbaaP19
import Derived.Test.YtknddipjabkfbaaP27
import Derived.Test.YtknddipjabkfbaaP54
import Derived.Test.YtknddipjabkfbaaP58
import Derived.Test.YtknddipjabkfbaaP64
import Derived.Test.YtknddipjabkfbaaP80
import Derived.Test.YtknddipjabkfbaaP82
namespace Go.Proofs.Ytknddipjabkfbaa.P
open Go.RowKit Go.Proofs.YtknddipjabkfbaaW.PrintWords Go.Proofs.YtknddipjabkfbaaW.PrintLast Go.Proofs.YtknddipjabkfbaaW.PrintMore
attribute [local go_sem] max2_int min2_int max_two min_two max_three min_three max_four min_four   -- for this text's walks alone
set_option linter.unusedVariables false
set_option linter.unusedSimpArgs false

/-! ### laws_FnExactServedLoad: function 13 -/
def laws_FnExactServedLoad.f (k : Nat) (a0_0 : Int) (l0_1 : List (S91)) (l1 : List Bool) (l2 : List (S81)) : Option (Bool) := if (l1.length : Int) > 1048576 then (some true) else ((laws_szNet.f a0_0 l0_1 1048576).bind fun t888 => (if t888 < 0 then (some true) else ((laws_szBusS.f l2 t888).bind fun t889 => (if t889 < 0 then (some true) else ((laws_toNet.f k a0_0 l0_1).bind fun bt890 => ((laws_toBoolS.f k l1).bind fun t894 => ((laws_toBusS.f k l2).bind fun t897 => ((spec_ServedLoad.f k bt890.1 bt890.2 t894 t897).bind fun t900 => ((laws_toNet.f k a0_0 l0_1).bind fun bt901 => ((laws_toBoolS.f k l1).bind fun t906 => ((laws_toBusS.f k l2).bind fun t909 => ((impl_ServedLoad.f k bt901.1 bt901.2 t906 t909).bind fun t912 => (if t912 = t900 then ((laws_toNet.f k a0_0 l0_1).bind fun bt913 => ((laws_eqNet.f k bt901.1 bt901.2 bt913.1 bt913.2).bind fun t917 => (if t917 = true then ((laws_toBoolS.f k l1).bind fun t918 => ((laws_eqBoolS.f k t906 t918).bind fun t921 => (if t921 = true then ((laws_toBusS.f k l2).bind fun t922 => ((laws_eqBusS.f k t909 t922).bind fun t925 => (if t925 = true then (some true) else (none)))) else (none)))) else (none)))) else (none))))))))))))))
theorem laws_FnExactServedLoad.mono : ∀ a0 a1 a2 a3 k, LeO (laws_FnExactServedLoad.f k a0 a1 a2 a3) (laws_FnExactServedLoad.f (k + 1) a0 a1 a2 a3) := by
 intro a0 a1 a2 a3 k
 unfold laws_FnExactServedLoad.f
 repeat' first
   | (with_reducible exact impl_ServedLoad.mono _ _ _ _ _)
   | (with_reducible exact laws_eqBoolS.mono _ _ _)
   | (with_reducible exact laws_eqBusS.mono _ _ _)
   | (with_reducible exact laws_eqNet.mono _ _ _ _ _)
   | (with_reducible exact laws_toBoolS.mono _ _)
   | (with_reducible exact laws_toBusS.mono _ _)
   | (with_reducible exact laws_toNet.mono _ _ _)
   | (with_reducible exact spec_ServedLoad.mono _ _ _ _ _)
   | (with_reducible exact LeO.refl _)
   | (with_reducible exact LeO.none _)
   | (with_reducible refine LeO.ite ?_ ?_)
   | (with_reducible refine LeO.bind ?_ (fun _ => ?_))
   | exact impl_ServedLoad.mono _ _ _ _ _
   | exact laws_eqBoolS.mono _ _ _
   | exact laws_eqBusS.mono _ _ _
   | exact laws_eqNet.mono _ _ _ _ _
   | exact laws_toBoolS.mono _ _
   | exact laws_toBusS.mono _ _
   | exact laws_toNet.mono _ _ _
   | exact spec_ServedLoad.mono _ _ _ _ _
   | exact LeO.none _
   | refine LeO.ite ?_ ?_
   | refine LeO.bind ?_ (fun _ => ?_)
set_option maxHeartbeats 8000000 in
set_option maxRecDepth 100000 in
theorem laws_FnExactServedLoad.calls (k : Nat) (a0_0 : Int) (A0_1 : Option Addr) (c0_1 : Nat) (l0_1 : List (S91)) (A1 : Option Addr) (c1 : Nat) (l1 : List Bool) (A2 : Option Addr) (c2 : Nat) (l2 : List (S81)) (r : Bool) (w : World) (hr0_1 : Kd.C k91 w A0_1 l0_1.length l0_1) (hc0_1 : l0_1.length ≤ c0_1) (hr1 : Kd.C Kd.bool w A1 l1.length l1) (hc1 : l1.length ≤ c1) (hr2 : Kd.C k81 w A2 l2.length l2) (hc2 : l2.length ≤ c2) (h : laws_FnExactServedLoad.f k a0_0 l0_1 l1 l2 = some r) :
  Calls Try.prog 13 #[.agg #[.int .i64 a0_0, .slice A0_1 l0_1.length c0_1], .slice A1 l1.length c1, .slice A2 l2.length c2] w fun e w' => e = .returned (.bool r) ∧ Below w.heap.size w w' := by
 have hu24 := Try.underlying24
 have hu30 := Try.underlying30
 have HR0_1 := Aside0.mk hr0_1
 have HC0_1 := Aside0.mk hc0_1
 clear hr0_1 hc0_1
 have HR1 := Aside0.mk hr1
 have HC1 := Aside0.mk hc1
 clear hr1 hc1
 have HR2 := Aside0.mk hr2
 have HC2 := Aside0.mk hc2
 clear hr2 hc2
 have HB := Aside0.mk (Below.refl w.heap.size w)
 have H : (if (l1.length : Int) > 1048576 then (some true) else ((laws_szNet.f a0_0 l0_1 1048576).bind fun t888 => (if t888 < 0 then (some true) else ((laws_szBusS.f l2 t888).bind fun t889 => (if t889 < 0 then (some true) else ((laws_toNet.f k a0_0 l0_1).bind fun bt890 => ((laws_toBoolS.f k l1).bind fun t894 => ((laws_toBusS.f k l2).bind fun t897 => ((spec_ServedLoad.f k bt890.1 bt890.2 t894 t897).bind fun t900 => ((laws_toNet.f k a0_0 l0_1).bind fun bt901 => ((laws_toBoolS.f k l1).bind fun t906 => ((laws_toBusS.f k l2).bind fun t909 => ((impl_ServedLoad.f k bt901.1 bt901.2 t906 t909).bind fun t912 => (if t912 = t900 then ((laws_toNet.f k a0_0 l0_1).bind fun bt913 => ((laws_eqNet.f k bt901.1 bt901.2 bt913.1 bt913.2).bind fun t917 => (if t917 = true then ((laws_toBoolS.f k l1).bind fun t918 => ((laws_eqBoolS.f k t906 t918).bind fun t921 => (if t921 = true then ((laws_toBusS.f k l2).bind fun t922 => ((laws_eqBusS.f k t909 t922).bind fun t925 => (if t925 = true then (some true) else (none)))) else (none)))) else (none)))) else (none))))))))))))))) = some r := h
 clear h
 by_cases c4 : (l1.length : Int) > 1048576
 ·
  rw [if_pos c4] at H
  have c4b0 : decide (1048576 < (l1.length : Int)) = true := decide_eq_true c4
  have c4b1 : decide (1048576 < l1.length) = true := decide_eq_true (by omega)
  clear c4
  obtain rfl := Option.some.inj H
  go_enter Try.func13, Try.ntmps13
  go_wp2_with (first | ((with_reducible refine gate_dst (N := 3) rfl ?_); refine box_event ?hg (N := 3) ?hd (cs := #[.int .i64 a0_0, .slice A0_1 l0_1.length c0_1]) (t := 24) ?hr ?_; (case hd => rfl); (case hg => rfl); (case hr => first | (go_simp; done) | (go_simp; rfl)); intro gb887 hg w5 hbox hb; have n0_ := Aside0.mk (below_step (by repeat (first | (with_reducible first | exact HB.out | apply below_alloc | apply pw_below_drewN | apply below_drew1) | exact HB.out)) hb); have n1_ := Aside0.mk (hbox); have n2_ := Aside0.mk ((by rw [hg]; exact (below_size (by repeat (first | (with_reducible first | exact HB.out | apply below_alloc | apply pw_below_drewN | apply below_drew1) | exact HB.out))) : w.heap.size ≤ gb887)); have n3_ := Aside0.mk ((by rw [hg]; exact (below_size (by repeat (first | (with_reducible first | exact HB.out | apply below_alloc | apply pw_below_drewN | apply below_drew1) | exact HB.out))) : w.heap.size ≤ gb887)); clear HB; have HB := n0_; have BK887 := n1_; have GW887 := n2_; have GE887 := n3_; clear n0_ n1_ n2_ n3_; clear hb hbox hg))
  go_ret
  exact ⟨by first | rfl | (simp [errW_none, errW_some] <;> rfl) | (simp [*, errW_none, errW_some] <;> rfl), by repeat (first | (with_reducible first | exact HB.out | apply below_alloc | apply pw_below_drewN | apply below_drew1 | refine below_set ?_ GE887.out) | exact HB.out)⟩
 rw [if_neg c4] at H
 have c4b0 : decide (1048576 < (l1.length : Int)) = false := decide_eq_false c4
 have c4b1 : decide (1048576 < l1.length) = false := decide_eq_false (by omega)
 clear c4
 replace H := Option.bind_eq_some_iff.mp H
 obtain ⟨t888, A60, H⟩ := H
 replace H : (if t888 < 0 then (some true) else ((laws_szBusS.f l2 t888).bind fun t889 => (if t889 < 0 then (some true) else ((laws_toNet.f k a0_0 l0_1).bind fun bt890 => ((laws_toBoolS.f k l1).bind fun t894 => ((laws_toBusS.f k l2).bind fun t897 => ((spec_ServedLoad.f k bt890.1 bt890.2 t894 t897).bind fun t900 => ((laws_toNet.f k a0_0 l0_1).bind fun bt901 => ((laws_toBoolS.f k l1).bind fun t906 => ((laws_toBusS.f k l2).bind fun t909 => ((impl_ServedLoad.f k bt901.1 bt901.2 t906 t909).bind fun t912 => (if t912 = t900 then ((laws_toNet.f k a0_0 l0_1).bind fun bt913 => ((laws_eqNet.f k bt901.1 bt901.2 bt913.1 bt913.2).bind fun t917 => (if t917 = true then ((laws_toBoolS.f k l1).bind fun t918 => ((laws_eqBoolS.f k t906 t918).bind fun t921 => (if t921 = true then ((laws_toBusS.f k l2).bind fun t922 => ((laws_eqBusS.f k t909 t922).bind fun t925 => (if t925 = true then (some true) else (none)))) else (none)))) else (none)))) else (none))))))))))))) = some r := H
 have A6 := Aside0.mk A60
 clear A60
 by_cases c7 : t888 < 0
 ·
  rw [if_pos c7] at H
  have c7b0 : decide (t888 < 0) = true := decide_eq_true c7
  clear c7
  obtain rfl := Option.some.inj H
  go_enter Try.func13, Try.ntmps13
  go_wp2_with (first | ((with_reducible refine gate_dst (N := 3) rfl ?_); refine box_event ?hg (N := 3) ?hd (cs := #[.int .i64 a0_0, .slice A0_1 l0_1.length c0_1]) (t := 24) ?hr ?_; (case hd => rfl); (case hg => rfl); (case hr => first | (go_simp; done) | (go_simp; rfl)); intro gb887 hg w8 hbox hb; have n0_ := Aside0.mk (below_step (by repeat (first | (with_reducible first | exact HB.out | apply below_alloc | apply pw_below_drewN | apply below_drew1) | exact HB.out)) hb); have n1_ := Aside0.mk (hbox); have n2_ := Aside0.mk ((by rw [hg]; exact (below_size (by repeat (first | (with_reducible first | exact HB.out | apply below_alloc | apply pw_below_drewN | apply below_drew1) | exact HB.out))) : w.heap.size ≤ gb887)); have n3_ := Aside0.mk ((by rw [hg]; exact (below_size (by repeat (first | (with_reducible first | exact HB.out | apply below_alloc | apply pw_below_drewN | apply below_drew1) | exact HB.out))) : w.heap.size ≤ gb887)); clear HB; have HB := n0_; have BK887 := n1_; have GW887 := n2_; have GE887 := n3_; clear n0_ n1_ n2_ n3_; clear hb hbox hg; have hcz9_0 : w8.cell? ⟨gb887, 0, none⟩ = some (.int .i64 a0_0) := (blk_cell BK887.out 0).trans rfl; have hcz9_1 : w8.cell? ⟨gb887, 1, none⟩ = some (.slice A0_1 l0_1.length c0_1) := (blk_cell BK887.out 1).trans rfl; have hfz9_0 := blk_frozen BK887.out 0; have hfz9_1 := blk_frozen BK887.out 1) | ((with_reducible refine gate_callee (f := 14) rfl ?_); refine goesL_ (some 18) rfl rfl Try.func14 (by kernel_rfl) rfl #[.agg #[.int .i64 a0_0, .slice A0_1 l0_1.length c0_1], .int .i64 1048576] rfl (by (try simp only [List.map_toArray, List.map_cons, List.map_nil]); first | done | rfl | (simp only [List.length_drop, List.length_take]; rfl)) ?_; (with_reducible refine (laws_szNet.calls a0_0 _ _ l0_1 1048576 t888 _ ?side1 ?side2 A6.out).mono ?_); (case side1 => repeat (first | exact (Kd.C_below HR0_1.out HB.out) | (with_reducible refine Kd.C_alloc ?_ _) | (with_reducible refine Kd.C_drewN ?_ _) | (with_reducible refine Kd.C_drew ?_))); (case side2 => exact HC0_1.out); rintro e w10 ⟨rfl, hb⟩; refine ⟨_, rfl, ?_⟩; have n0_ := Aside0.mk (blk_below (g := gb887) (o := .cells #[.int .i64 a0_0, .slice A0_1 l0_1.length c0_1] 24 (0, 0)) (by (with_reducible repeat (first | refine blk_drewN ?_ _ | refine blk_drew ?_ | refine blk_alloc ?_ _)); exact BK887.out) hb); have n1_ := Aside0.mk (below_step (by repeat (first | (with_reducible first | exact HB.out | apply below_alloc | apply pw_below_drewN | apply below_drew1 | refine below_set ?_ GE887.out) | exact HB.out)) hb); clear BK887; clear HB; have BK887 := n0_; have HB := n1_; clear n0_ n1_; (try clear hb); (try clear hb2); (try clear hk); (try clear hi)))
  go_ret
  exact ⟨by first | rfl | (simp [errW_none, errW_some] <;> rfl) | (simp [*, errW_none, errW_some] <;> rfl), by repeat (first | (with_reducible first | exact HB.out | apply below_alloc | apply pw_below_drewN | apply below_drew1 | refine below_set ?_ GE887.out) | exact HB.out)⟩
 rw [if_neg c7] at H
 have c7b0 : decide (t888 < 0) = false := decide_eq_false c7
 clear c7
 replace H := Option.bind_eq_some_iff.mp H
 obtain ⟨t889, A110, H⟩ := H
 replace H : (if t889 < 0 then (some true) else ((laws_toNet.f k a0_0 l0_1).bind fun bt890 => ((laws_toBoolS.f k l1).bind fun t894 => ((laws_toBusS.f k l2).bind fun t897 => ((spec_ServedLoad.f k bt890.1 bt890.2 t894 t897).bind fun t900 => ((laws_toNet.f k a0_0 l0_1).bind fun bt901 => ((laws_toBoolS.f k l1).bind fun t906 => ((laws_toBusS.f k l2).bind fun t909 => ((impl_ServedLoad.f k bt901.1 bt901.2 t906 t909).bind fun t912 => (if t912 = t900 then ((laws_toNet.f k a0_0 l0_1).bind fun bt913 => ((laws_eqNet.f k bt901.1 bt901.2 bt913.1 bt913.2).bind fun t917 => (if t917 = true then ((laws_toBoolS.f k l1).bind fun t918 => ((laws_eqBoolS.f k t906 t918).bind fun t921 => (if t921 = true then ((laws_toBusS.f k l2).bind fun t922 => ((laws_eqBusS.f k t909 t922).bind fun t925 => (if t925 = true then (some true) else (none)))) else (none)))) else (none)))) else (none))))))))))) = some r := H
 have A11 := Aside0.mk A110
 clear A110
 by_cases c12 : t889 < 0
 ·
  rw [if_pos c12] at H
  have c12b0 : decide (t889 < 0) = true := decide_eq_true c12
  clear c12
  obtain rfl := Option.some.inj H
  go_enter Try.func13, Try.ntmps13
  go_wp2_with (first | ((with_reducible refine gate_dst (N := 3) rfl ?_); refine box_event ?hg (N := 3) ?hd (cs := #[.int .i64 a0_0, .slice A0_1 l0_1.length c0_1]) (t := 24) ?hr ?_; (case hd => rfl); (case hg => rfl); (case hr => first | (go_simp; done) | (go_simp; rfl)); intro gb887 hg w13 hbox hb; have n0_ := Aside0.mk (below_step (by repeat (first | (with_reducible first | exact HB.out | apply below_alloc | apply pw_below_drewN | apply below_drew1) | exact HB.out)) hb); have n1_ := Aside0.mk (hbox); have n2_ := Aside0.mk ((by rw [hg]; exact (below_size (by repeat (first | (with_reducible first | exact HB.out | apply below_alloc | apply pw_below_drewN | apply below_drew1) | exact HB.out))) : w.heap.size ≤ gb887)); have n3_ := Aside0.mk ((by rw [hg]; exact (below_size (by repeat (first | (with_reducible first | exact HB.out | apply below_alloc | apply pw_below_drewN | apply below_drew1) | exact HB.out))) : w.heap.size ≤ gb887)); clear HB; have HB := n0_; have BK887 := n1_; have GW887 := n2_; have GE887 := n3_; clear n0_ n1_ n2_ n3_; clear hb hbox hg; have hcz14_0 : w13.cell? ⟨gb887, 0, none⟩ = some (.int .i64 a0_0) := (blk_cell BK887.out 0).trans rfl; have hcz14_1 : w13.cell? ⟨gb887, 1, none⟩ = some (.slice A0_1 l0_1.length c0_1) := (blk_cell BK887.out 1).trans rfl; have hfz14_0 := blk_frozen BK887.out 0; have hfz14_1 := blk_frozen BK887.out 1) | ((with_reducible refine gate_callee (f := 14) rfl ?_); refine goesL_ (some 18) rfl rfl Try.func14 (by kernel_rfl) rfl #[.agg #[.int .i64 a0_0, .slice A0_1 l0_1.length c0_1], .int .i64 1048576] rfl (by (try simp only [List.map_toArray, List.map_cons, List.map_nil]); first | done | rfl | (simp only [List.length_drop, List.length_take]; rfl)) ?_; (with_reducible refine (laws_szNet.calls a0_0 _ _ l0_1 1048576 t888 _ ?side1 ?side2 A6.out).mono ?_); (case side1 => repeat (first | exact (Kd.C_below HR0_1.out HB.out) | (with_reducible refine Kd.C_alloc ?_ _) | (with_reducible refine Kd.C_drewN ?_ _) | (with_reducible refine Kd.C_drew ?_))); (case side2 => exact HC0_1.out); rintro e w15 ⟨rfl, hb⟩; refine ⟨_, rfl, ?_⟩; have n0_ := Aside0.mk (blk_below (g := gb887) (o := .cells #[.int .i64 a0_0, .slice A0_1 l0_1.length c0_1] 24 (0, 0)) (by (with_reducible repeat (first | refine blk_drewN ?_ _ | refine blk_drew ?_ | refine blk_alloc ?_ _)); exact BK887.out) hb); have n1_ := Aside0.mk (below_step (by repeat (first | (with_reducible first | exact HB.out | apply below_alloc | apply pw_below_drewN | apply below_drew1 | refine below_set ?_ GE887.out) | exact HB.out)) hb); clear BK887; clear HB; have BK887 := n0_; have HB := n1_; clear n0_ n1_; (try clear hb); (try clear hb2); (try clear hk); (try clear hi)) | ((with_reducible refine gate_callee (f := 34) rfl ?_); refine goesL_ (some 23) rfl rfl Try.func34 (by kernel_rfl) rfl #[.slice A2 l2.length c2, .int .i64 t888] rfl (by (try simp only [List.map_toArray, List.map_cons, List.map_nil]); first | done | rfl | (simp only [List.length_drop, List.length_take]; rfl)) ?_; (with_reducible refine (laws_szBusS.calls _ _ l2 t888 t889 _ ?side1 ?side2 A11.out).mono ?_); (case side1 => repeat (first | exact (Kd.C_below HR2.out HB.out) | (with_reducible refine Kd.C_alloc ?_ _) | (with_reducible refine Kd.C_drewN ?_ _) | (with_reducible refine Kd.C_drew ?_))); (case side2 => exact HC2.out); rintro e w' ⟨rfl, ⟨nd, rfl⟩⟩; refine ⟨_, rfl, ?_⟩))
  go_ret
  exact ⟨by first | rfl | (simp [errW_none, errW_some] <;> rfl) | (simp [*, errW_none, errW_some] <;> rfl), by repeat (first | (with_reducible first | exact HB.out | apply below_alloc | apply pw_below_drewN | apply below_drew1 | refine below_set ?_ GE887.out) | exact HB.out)⟩
 rw [if_neg c12] at H
 have c12b0 : decide (t889 < 0) = false := decide_eq_false c12
 clear c12
 replace H := Option.bind_eq_some_iff.mp H
 obtain ⟨⟨t890, t891⟩, A160, H⟩ := H
 replace H : ((laws_toBoolS.f k l1).bind fun t894 => ((laws_toBusS.f k l2).bind fun t897 => ((spec_ServedLoad.f k t890 t891 t894 t897).bind fun t900 => ((laws_toNet.f k a0_0 l0_1).bind fun bt901 => ((laws_toBoolS.f k l1).bind fun t906 => ((laws_toBusS.f k l2).bind fun t909 => ((impl_ServedLoad.f k bt901.1 bt901.2 t906 t909).bind fun t912 => (if t912 = t900 then ((laws_toNet.f k a0_0 l0_1).bind fun bt913 => ((laws_eqNet.f k bt901.1 bt901.2 bt913.1 bt913.2).bind fun t917 => (if t917 = true then ((laws_toBoolS.f k l1).bind fun t918 => ((laws_eqBoolS.f k t906 t918).bind fun t921 => (if t921 = true then ((laws_toBusS.f k l2).bind fun t922 => ((laws_eqBusS.f k t909 t922).bind fun t925 => (if t925 = true then (some true) else (none)))) else (none)))) else (none)))) else (none))))))))) = some r := H
 have A16 := Aside0.mk A160
 clear A160
 replace H := Option.bind_eq_some_iff.mp H
 obtain ⟨t894, A170, H⟩ := H
 replace H : ((laws_toBusS.f k l2).bind fun t897 => ((spec_ServedLoad.f k t890 t891 t894 t897).bind fun t900 => ((laws_toNet.f k a0_0 l0_1).bind fun bt901 => ((laws_toBoolS.f k l1).bind fun t906 => ((laws_toBusS.f k l2).bind fun t909 => ((impl_ServedLoad.f k bt901.1 bt901.2 t906 t909).bind fun t912 => (if t912 = t900 then ((laws_toNet.f k a0_0 l0_1).bind fun bt913 => ((laws_eqNet.f k bt901.1 bt901.2 bt913.1 bt913.2).bind fun t917 => (if t917 = true then ((laws_toBoolS.f k l1).bind fun t918 => ((laws_eqBoolS.f k t906 t918).bind fun t921 => (if t921 = true then ((laws_toBusS.f k l2).bind fun t922 => ((laws_eqBusS.f k t909 t922).bind fun t925 => (if t925 = true then (some true) else (none)))) else (none)))) else (none)))) else (none)))))))) = some r := H
 have A17 := Aside0.mk A170
 clear A170
 replace H := Option.bind_eq_some_iff.mp H
 obtain ⟨t897, A180, H⟩ := H
 replace H : ((spec_ServedLoad.f k t890 t891 t894 t897).bind fun t900 => ((laws_toNet.f k a0_0 l0_1).bind fun bt901 => ((laws_toBoolS.f k l1).bind fun t906 => ((laws_toBusS.f k l2).bind fun t909 => ((impl_ServedLoad.f k bt901.1 bt901.2 t906 t909).bind fun t912 => (if t912 = t900 then ((laws_toNet.f k a0_0 l0_1).bind fun bt913 => ((laws_eqNet.f k bt901.1 bt901.2 bt913.1 bt913.2).bind fun t917 => (if t917 = true then ((laws_toBoolS.f k l1).bind fun t918 => ((laws_eqBoolS.f k t906 t918).bind fun t921 => (if t921 = true then ((laws_toBusS.f k l2).bind fun t922 => ((laws_eqBusS.f k t909 t922).bind fun t925 => (if t925 = true then (some true) else (none)))) else (none)))) else (none)))) else (none))))))) = some r := H
 have A18 := Aside0.mk A180
 clear A180
 replace H := Option.bind_eq_some_iff.mp H
 obtain ⟨t900, A190, H⟩ := H
 replace H : ((laws_toNet.f k a0_0 l0_1).bind fun bt901 => ((laws_toBoolS.f k l1).bind fun t906 => ((laws_toBusS.f k l2).bind fun t909 => ((impl_ServedLoad.f k bt901.1 bt901.2 t906 t909).bind fun t912 => (if t912 = t900 then ((laws_toNet.f k a0_0 l0_1).bind fun bt913 => ((laws_eqNet.f k bt901.1 bt901.2 bt913.1 bt913.2).bind fun t917 => (if t917 = true then ((laws_toBoolS.f k l1).bind fun t918 => ((laws_eqBoolS.f k t906 t918).bind fun t921 => (if t921 = true then ((laws_toBusS.f k l2).bind fun t922 => ((laws_eqBusS.f k t909 t922).bind fun t925 => (if t925 = true then (some true) else (none)))) else (none)))) else (none)))) else (none)))))) = some r := H
 have A19 := Aside0.mk A190
 clear A190
 replace H := Option.bind_eq_some_iff.mp H
 obtain ⟨⟨t901, t902⟩, A200, H⟩ := H
 replace H : ((laws_toBoolS.f k l1).bind fun t906 => ((laws_toBusS.f k l2).bind fun t909 => ((impl_ServedLoad.f k t901 t902 t906 t909).bind fun t912 => (if t912 = t900 then ((laws_toNet.f k a0_0 l0_1).bind fun bt913 => ((laws_eqNet.f k t901 t902 bt913.1 bt913.2).bind fun t917 => (if t917 = true then ((laws_toBoolS.f k l1).bind fun t918 => ((laws_eqBoolS.f k t906 t918).bind fun t921 => (if t921 = true then ((laws_toBusS.f k l2).bind fun t922 => ((laws_eqBusS.f k t909 t922).bind fun t925 => (if t925 = true then (some true) else (none)))) else (none)))) else (none)))) else (none))))) = some r := H
 have A20 := Aside0.mk A200
 clear A200
 replace H := Option.bind_eq_some_iff.mp H
 obtain ⟨t906, A210, H⟩ := H
 replace H : ((laws_toBusS.f k l2).bind fun t909 => ((impl_ServedLoad.f k t901 t902 t906 t909).bind fun t912 => (if t912 = t900 then ((laws_toNet.f k a0_0 l0_1).bind fun bt913 => ((laws_eqNet.f k t901 t902 bt913.1 bt913.2).bind fun t917 => (if t917 = true then ((laws_toBoolS.f k l1).bind fun t918 => ((laws_eqBoolS.f k t906 t918).bind fun t921 => (if t921 = true then ((laws_toBusS.f k l2).bind fun t922 => ((laws_eqBusS.f k t909 t922).bind fun t925 => (if t925 = true then (some true) else (none)))) else (none)))) else (none)))) else (none)))) = some r := H
 have A21 := Aside0.mk A210
 clear A210
 replace H := Option.bind_eq_some_iff.mp H
 obtain ⟨t909, A220, H⟩ := H
 replace H : ((impl_ServedLoad.f k t901 t902 t906 t909).bind fun t912 => (if t912 = t900 then ((laws_toNet.f k a0_0 l0_1).bind fun bt913 => ((laws_eqNet.f k t901 t902 bt913.1 bt913.2).bind fun t917 => (if t917 = true then ((laws_toBoolS.f k l1).bind fun t918 => ((laws_eqBoolS.f k t906 t918).bind fun t921 => (if t921 = true then ((laws_toBusS.f k l2).bind fun t922 => ((laws_eqBusS.f k t909 t922).bind fun t925 => (if t925 = true then (some true) else (none)))) else (none)))) else (none)))) else (none))) = some r := H
 have A22 := Aside0.mk A220
 clear A220
 replace H := Option.bind_eq_some_iff.mp H
 obtain ⟨t912, A230, H⟩ := H
 replace H : (if t912 = t900 then ((laws_toNet.f k a0_0 l0_1).bind fun bt913 => ((laws_eqNet.f k t901 t902 bt913.1 bt913.2).bind fun t917 => (if t917 = true then ((laws_toBoolS.f k l1).bind fun t918 => ((laws_eqBoolS.f k t906 t918).bind fun t921 => (if t921 = true then ((laws_toBusS.f k l2).bind fun t922 => ((laws_eqBusS.f k t909 t922).bind fun t925 => (if t925 = true then (some true) else (none)))) else (none)))) else (none)))) else (none)) = some r := H
 have A23 := Aside0.mk A230
 clear A230
 by_cases c24 : t912 = t900
 rotate_left
 ·
  rw [if_neg c24] at H
  exact absurd H (by simp)
 rw [if_pos c24] at H
 have c24b0 : (t912 == t900) = true := beq_iff_eq.mpr c24
 have c24b1 : (t912 != t900) = false := bne_eq_false_iff_eq.mpr c24
 clear c24
 replace H := Option.bind_eq_some_iff.mp H
 obtain ⟨⟨t913, t914⟩, A250, H⟩ := H
 replace H : ((laws_eqNet.f k t901 t902 t913 t914).bind fun t917 => (if t917 = true then ((laws_toBoolS.f k l1).bind fun t918 => ((laws_eqBoolS.f k t906 t918).bind fun t921 => (if t921 = true then ((laws_toBusS.f k l2).bind fun t922 => ((laws_eqBusS.f k t909 t922).bind fun t925 => (if t925 = true then (some true) else (none)))) else (none)))) else (none))) = some r := H
 have A25 := Aside0.mk A250
 clear A250
 replace H := Option.bind_eq_some_iff.mp H
 obtain ⟨t917, A260, H⟩ := H
 replace H : (if t917 = true then ((laws_toBoolS.f k l1).bind fun t918 => ((laws_eqBoolS.f k t906 t918).bind fun t921 => (if t921 = true then ((laws_toBusS.f k l2).bind fun t922 => ((laws_eqBusS.f k t909 t922).bind fun t925 => (if t925 = true then (some true) else (none)))) else (none)))) else (none)) = some r := H
 have A26 := Aside0.mk A260
 clear A260
 by_cases c27 : t917 = true
 rotate_left
 ·
  replace c27 := Bool.eq_false_iff.mpr c27
  subst c27
  have H1 : (none) = some r := by rw [if_neg (show ¬ (false = true) by decide)] at H; exact H
  clear H
  have H := H1
  clear H1
  exact absurd H (by simp)
 subst c27
 have H1 : ((laws_toBoolS.f k l1).bind fun t918 => ((laws_eqBoolS.f k t906 t918).bind fun t921 => (if t921 = true then ((laws_toBusS.f k l2).bind fun t922 => ((laws_eqBusS.f k t909 t922).bind fun t925 => (if t925 = true then (some true) else (none)))) else (none)))) = some r := by rw [if_pos rfl] at H; exact H
 clear H
 have H := H1
 clear H1
 replace H := Option.bind_eq_some_iff.mp H
 obtain ⟨t918, A280, H⟩ := H
 replace H : ((laws_eqBoolS.f k t906 t918).bind fun t921 => (if t921 = true then ((laws_toBusS.f k l2).bind fun t922 => ((laws_eqBusS.f k t909 t922).bind fun t925 => (if t925 = true then (some true) else (none)))) else (none))) = some r := H
 have A28 := Aside0.mk A280
 clear A280
 replace H := Option.bind_eq_some_iff.mp H
 obtain ⟨t921, A290, H⟩ := H
 replace H : (if t921 = true then ((laws_toBusS.f k l2).bind fun t922 => ((laws_eqBusS.f k t909 t922).bind fun t925 => (if t925 = true then (some true) else (none)))) else (none)) = some r := H
 have A29 := Aside0.mk A290
 clear A290
 by_cases c30 : t921 = true
 rotate_left
 ·
  replace c30 := Bool.eq_false_iff.mpr c30
  subst c30
  have H1 : (none) = some r := by rw [if_neg (show ¬ (false = true) by decide)] at H; exact H
  clear H
  have H := H1
  clear H1
  exact absurd H (by simp)
 subst c30
 have H1 : ((laws_toBusS.f k l2).bind fun t922 => ((laws_eqBusS.f k t909 t922).bind fun t925 => (if t925 = true then (some true) else (none)))) = some r := by rw [if_pos rfl] at H; exact H
 clear H
 have H := H1
 clear H1
 replace H := Option.bind_eq_some_iff.mp H
 obtain ⟨t922, A310, H⟩ := H
 replace H : ((laws_eqBusS.f k t909 t922).bind fun t925 => (if t925 = true then (some true) else (none))) = some r := H
 have A31 := Aside0.mk A310
 clear A310
 replace H := Option.bind_eq_some_iff.mp H
 obtain ⟨t925, A320, H⟩ := H
 replace H : (if t925 = true then (some true) else (none)) = some r := H
 have A32 := Aside0.mk A320
 clear A320
 by_cases c33 : t925 = true
 rotate_left
 ·
  replace c33 := Bool.eq_false_iff.mpr c33
  subst c33
  have H1 : (none) = some r := by rw [if_neg (show ¬ (false = true) by decide)] at H; exact H
  clear H
  have H := H1
  clear H1
  exact absurd H (by simp)
 subst c33
 have H1 : (some true) = some r := by rw [if_pos rfl] at H; exact H
 clear H
 have H := H1
 clear H1
 obtain rfl := Option.some.inj H
 go_enter Try.func13, Try.ntmps13
 try go_wp2_with (first | ((with_reducible refine gate_dst (N := 3) rfl ?_); refine box_event ?hg (N := 3) ?hd (cs := #[.int .i64 a0_0, .slice A0_1 l0_1.length c0_1]) (t := 24) ?hr ?_; (case hd => rfl); (case hg => rfl); (case hr => first | (go_simp; done) | (go_simp; rfl)); intro gb887 hg w34 hbox hb; have n0_ := Aside0.mk (below_step (by repeat (first | (with_reducible first | exact HB.out | apply below_alloc | apply pw_below_drewN | apply below_drew1) | exact HB.out)) hb); have n1_ := Aside0.mk (hbox); have n2_ := Aside0.mk ((by rw [hg]; exact (below_size (by repeat (first | (with_reducible first | exact HB.out | apply below_alloc | apply pw_below_drewN | apply below_drew1) | exact HB.out))) : w.heap.size ≤ gb887)); have n3_ := Aside0.mk ((by rw [hg]; exact (below_size (by repeat (first | (with_reducible first | exact HB.out | apply below_alloc | apply pw_below_drewN | apply below_drew1) | exact HB.out))) : w.heap.size ≤ gb887)); clear HB; have HB := n0_; have BK887 := n1_; have GW887 := n2_; have GE887 := n3_; clear n0_ n1_ n2_ n3_; clear hb hbox hg; have hcz35_0 : w34.cell? ⟨gb887, 0, none⟩ = some (.int .i64 a0_0) := (blk_cell BK887.out 0).trans rfl; have hcz35_1 : w34.cell? ⟨gb887, 1, none⟩ = some (.slice A0_1 l0_1.length c0_1) := (blk_cell BK887.out 1).trans rfl; have hfz35_0 := blk_frozen BK887.out 0; have hfz35_1 := blk_frozen BK887.out 1) | ((with_reducible refine gate_callee (f := 14) rfl ?_); refine goesL_ (some 18) rfl rfl Try.func14 (by kernel_rfl) rfl #[.agg #[.int .i64 a0_0, .slice A0_1 l0_1.length c0_1], .int .i64 1048576] rfl (by (try simp only [List.map_toArray, List.map_cons, List.map_nil]); first | done | rfl | (simp only [List.length_drop, List.length_take]; rfl)) ?_; (with_reducible refine (laws_szNet.calls a0_0 _ _ l0_1 1048576 t888 _ ?side1 ?side2 A6.out).mono ?_); (case side1 => repeat (first | exact (Kd.C_below HR0_1.out HB.out) | (with_reducible refine Kd.C_alloc ?_ _) | (with_reducible refine Kd.C_drewN ?_ _) | (with_reducible refine Kd.C_drew ?_))); (case side2 => exact HC0_1.out); rintro e w36 ⟨rfl, hb⟩; refine ⟨_, rfl, ?_⟩; have n0_ := Aside0.mk (blk_below (g := gb887) (o := .cells #[.int .i64 a0_0, .slice A0_1 l0_1.length c0_1] 24 (0, 0)) (by (with_reducible repeat (first | refine blk_drewN ?_ _ | refine blk_drew ?_ | refine blk_alloc ?_ _)); exact BK887.out) hb); have n1_ := Aside0.mk (below_step (by repeat (first | (with_reducible first | exact HB.out | apply below_alloc | apply pw_below_drewN | apply below_drew1 | refine below_set ?_ GE887.out) | exact HB.out)) hb); clear BK887; clear HB; have BK887 := n0_; have HB := n1_; clear n0_ n1_; (try clear hb); (try clear hb2); (try clear hk); (try clear hi)) | ((with_reducible refine gate_callee (f := 34) rfl ?_); refine goesL_ (some 23) rfl rfl Try.func34 (by kernel_rfl) rfl #[.slice A2 l2.length c2, .int .i64 t888] rfl (by (try simp only [List.map_toArray, List.map_cons, List.map_nil]); first | done | rfl | (simp only [List.length_drop, List.length_take]; rfl)) ?_; (with_reducible refine (laws_szBusS.calls _ _ l2 t888 t889 _ ?side1 ?side2 A11.out).mono ?_); (case side1 => repeat (first | exact (Kd.C_below HR2.out HB.out) | (with_reducible refine Kd.C_alloc ?_ _) | (with_reducible refine Kd.C_drewN ?_ _) | (with_reducible refine Kd.C_drew ?_))); (case side2 => exact HC2.out); rintro e w' ⟨rfl, ⟨nd, rfl⟩⟩; refine ⟨_, rfl, ?_⟩; (try (rw [drewN_self w36]; generalize hq_ : World.drewN w36 _ = w36; have n0_ : Aside0 (w36.heap[gb887]? = some (.cells #[.int .i64 a0_0, .slice A0_1 l0_1.length c0_1] 24 (0, 0))) := ⟨by rw [← hq_]; exact (by (with_reducible repeat (first | refine blk_drewN ?_ _ | refine blk_drew ?_ | refine blk_alloc ?_ _)); exact BK887.out)⟩; have n1_ : Aside0 (Below w.heap.size w w36) := ⟨by rw [← hq_]; exact (by repeat (first | (with_reducible first | exact HB.out | apply below_alloc | apply pw_below_drewN | apply below_drew1 | refine below_set ?_ GE887.out) | exact HB.out))⟩; clear BK887 HB hq_; have BK887 := n0_; have HB := n1_; clear n0_ n1_)); have hcz37_0 : w36.cell? ⟨gb887, 0, none⟩ = some (.int .i64 a0_0) := (blk_cell BK887.out 0).trans rfl; have hcz37_1 : w36.cell? ⟨gb887, 1, none⟩ = some (.slice A0_1 l0_1.length c0_1) := (blk_cell BK887.out 1).trans rfl; have hfz37_0 := blk_frozen BK887.out 0; have hfz37_1 := blk_frozen BK887.out 1) | ((with_reducible refine gate_callee (f := 16) rfl ?_); refine goesL_ (some 27) rfl rfl Try.func16 (by kernel_rfl) rfl #[.agg #[.int .i64 a0_0, .slice A0_1 l0_1.length c0_1]] rfl (by (try simp only [List.map_toArray, List.map_cons, List.map_nil]); first | done | rfl | (simp only [List.length_drop, List.length_take]; rfl)) ?_; (with_reducible refine (laws_toNet.calls k a0_0 _ _ l0_1 t890 t891 _ ?side1 ?side2 A16.out).mono ?_); (case side1 => repeat (first | exact (Kd.C_below HR0_1.out HB.out) | (with_reducible refine Kd.C_alloc ?_ _) | (with_reducible refine Kd.C_drewN ?_ _) | (with_reducible refine Kd.C_drew ?_))); (case side2 => exact HC0_1.out); rintro e w38 ⟨v892, rfl, ho0, hb⟩; refine ⟨_, rfl, ?_⟩; have n0_ := Aside0.mk (Kd.R_lower ho0 (below_size (by repeat (first | (with_reducible first | exact HB.out | apply below_alloc | apply pw_below_drewN | apply below_drew1 | refine below_set ?_ GE887.out) | exact HB.out)))); have n1_ := Aside0.mk (blk_below (g := gb887) (o := .cells #[.int .i64 a0_0, .slice A0_1 l0_1.length c0_1] 24 (0, 0)) (by (with_reducible repeat (first | refine blk_drewN ?_ _ | refine blk_drew ?_ | refine blk_alloc ?_ _)); exact BK887.out) hb); have n2_ := Aside0.mk (below_step (by repeat (first | (with_reducible first | exact HB.out | apply below_alloc | apply pw_below_drewN | apply below_drew1 | refine below_set ?_ GE887.out) | exact HB.out)) hb); clear BK887; clear HB; have HO893 := n0_; have BK887 := n1_; have HB := n2_; clear n0_ n1_ n2_; (try clear hb); (try clear hb2); (try clear hk); (try clear hi); (try clear ho0)) | ((with_reducible refine gate_callee (f := 17) rfl ?_); refine goesL_ (some 29) rfl rfl Try.func17 (by kernel_rfl) rfl #[.slice A1 l1.length c1] rfl (by (try simp only [List.map_toArray, List.map_cons, List.map_nil]); first | done | rfl | (simp only [List.length_drop, List.length_take]; rfl)) ?_; (with_reducible refine (laws_toBoolS.calls k _ _ l1 t894 _ ?side1 ?side2 A17.out).mono ?_); (case side1 => repeat (first | exact (Kd.C_below HR1.out HB.out) | (with_reducible refine Kd.C_alloc ?_ _) | (with_reducible refine Kd.C_drewN ?_ _) | (with_reducible refine Kd.C_drew ?_))); (case side2 => exact HC1.out); rintro e w39 ⟨v895, rfl, ho0, hb⟩; refine ⟨_, rfl, ?_⟩; have n0_ := Aside0.mk (Kd.R_below (by (with_reducible repeat (first | apply Kd.R_alloc | apply Kd.R_drewN | apply Kd.R_drew)); exact HO893.out) hb); have n1_ := Aside0.mk (Kd.R_lower ho0 (below_size (by repeat (first | (with_reducible first | exact HB.out | apply below_alloc | apply pw_below_drewN | apply below_drew1 | refine below_set ?_ GE887.out) | exact HB.out)))); have n2_ := Aside0.mk (blk_below (g := gb887) (o := .cells #[.int .i64 a0_0, .slice A0_1 l0_1.length c0_1] 24 (0, 0)) (by (with_reducible repeat (first | refine blk_drewN ?_ _ | refine blk_drew ?_ | refine blk_alloc ?_ _)); exact BK887.out) hb); have n3_ := Aside0.mk (below_step (by repeat (first | (with_reducible first | exact HB.out | apply below_alloc | apply pw_below_drewN | apply below_drew1 | refine below_set ?_ GE887.out) | exact HB.out)) hb); clear HO893; clear BK887; clear HB; have HO893 := n0_; have HO896 := n1_; have BK887 := n2_; have HB := n3_; clear n0_ n1_ n2_ n3_; (try clear hb); (try clear hb2); (try clear hk); (try clear hi); (try clear ho0)) | ((with_reducible refine gate_callee (f := 36) rfl ?_); refine goesL_ (some 31) rfl rfl Try.func36 (by kernel_rfl) rfl #[.slice A2 l2.length c2] rfl (by (try simp only [List.map_toArray, List.map_cons, List.map_nil]); first | done | rfl | (simp only [List.length_drop, List.length_take]; rfl)) ?_; (with_reducible refine (laws_toBusS.calls k _ _ l2 t897 _ ?side1 ?side2 A18.out).mono ?_); (case side1 => repeat (first | exact (Kd.C_below HR2.out HB.out) | (with_reducible refine Kd.C_alloc ?_ _) | (with_reducible refine Kd.C_drewN ?_ _) | (with_reducible refine Kd.C_drew ?_))); (case side2 => exact HC2.out); rintro e w40 ⟨v898, rfl, ho0, hb⟩; refine ⟨_, rfl, ?_⟩; have n0_ := Aside0.mk (Kd.R_below (by (with_reducible repeat (first | apply Kd.R_alloc | apply Kd.R_drewN | apply Kd.R_drew)); exact HO893.out) hb); have n1_ := Aside0.mk (Kd.R_below (by (with_reducible repeat (first | apply Kd.R_alloc | apply Kd.R_drewN | apply Kd.R_drew)); exact HO896.out) hb); have n2_ := Aside0.mk (Kd.R_lower ho0 (below_size (by repeat (first | (with_reducible first | exact HB.out | apply below_alloc | apply pw_below_drewN | apply below_drew1 | refine below_set ?_ GE887.out) | exact HB.out)))); have n3_ := Aside0.mk (blk_below (g := gb887) (o := .cells #[.int .i64 a0_0, .slice A0_1 l0_1.length c0_1] 24 (0, 0)) (by (with_reducible repeat (first | refine blk_drewN ?_ _ | refine blk_drew ?_ | refine blk_alloc ?_ _)); exact BK887.out) hb); have n4_ := Aside0.mk (below_step (by repeat (first | (with_reducible first | exact HB.out | apply below_alloc | apply pw_below_drewN | apply below_drew1 | refine below_set ?_ GE887.out) | exact HB.out)) hb); clear HO893; clear HO896; clear BK887; clear HB; have HO893 := n0_; have HO896 := n1_; have HO899 := n2_; have BK887 := n3_; have HB := n4_; clear n0_ n1_ n2_ n3_ n4_; (try clear hb); (try clear hb2); (try clear hk); (try clear hi); (try clear ho0); obtain ⟨Ao41, co41, eo41⟩ := Kd.R_slice HO893.out; subst eo41; obtain ⟨Ao42, co42, eo42⟩ := Kd.R_slice HO896.out; subst eo42; obtain ⟨Ao43, co43, eo43⟩ := Kd.R_slice HO899.out; subst eo43) | ((with_reducible refine gate_callee (f := 50) rfl ?_); refine goesL_ (some 32) rfl rfl Try.func50 (by kernel_rfl) rfl #[.agg #[.int .i64 t890, .slice Ao41 t891.length co41], .slice Ao42 t894.length co42, .slice Ao43 t897.length co43] rfl (by (try simp only [List.map_toArray, List.map_cons, List.map_nil]); first | done | rfl | (simp only [List.length_drop, List.length_take]; rfl)) ?_; (with_reducible refine (spec_ServedLoad.calls k t890 _ _ t891 _ _ t894 _ _ t897 t900 _ ?side1 ?side2 ?side3 ?side4 ?side5 ?side6 A19.out).mono ?_); (case side1 => repeat (first | exact (Kd.R_reads' HO893.out).2.2 | (with_reducible refine Kd.C_alloc ?_ _) | (with_reducible refine Kd.C_drewN ?_ _) | (with_reducible refine Kd.C_drew ?_))); (case side2 => exact (Kd.R_reads' HO893.out).2.1); (case side3 => repeat (first | exact (Kd.R_reads' HO896.out).2.2 | (with_reducible refine Kd.C_alloc ?_ _) | (with_reducible refine Kd.C_drewN ?_ _) | (with_reducible refine Kd.C_drew ?_))); (case side4 => exact (Kd.R_reads' HO896.out).2.1); (case side5 => repeat (first | exact (Kd.R_reads' HO899.out).2.2 | (with_reducible refine Kd.C_alloc ?_ _) | (with_reducible refine Kd.C_drewN ?_ _) | (with_reducible refine Kd.C_drew ?_))); (case side6 => exact (Kd.R_reads' HO899.out).2.1); rintro e w44 ⟨rfl, hb⟩; refine ⟨_, rfl, ?_⟩; have n0_ := Aside0.mk (Kd.R_below (by (with_reducible repeat (first | apply Kd.R_alloc | apply Kd.R_drewN | apply Kd.R_drew)); exact HO893.out) hb); have n1_ := Aside0.mk (Kd.R_below (by (with_reducible repeat (first | apply Kd.R_alloc | apply Kd.R_drewN | apply Kd.R_drew)); exact HO896.out) hb); have n2_ := Aside0.mk (Kd.R_below (by (with_reducible repeat (first | apply Kd.R_alloc | apply Kd.R_drewN | apply Kd.R_drew)); exact HO899.out) hb); have n3_ := Aside0.mk (blk_below (g := gb887) (o := .cells #[.int .i64 a0_0, .slice A0_1 l0_1.length c0_1] 24 (0, 0)) (by (with_reducible repeat (first | refine blk_drewN ?_ _ | refine blk_drew ?_ | refine blk_alloc ?_ _)); exact BK887.out) hb); have n4_ := Aside0.mk (below_step (by repeat (first | (with_reducible first | exact HB.out | apply below_alloc | apply pw_below_drewN | apply below_drew1 | refine below_set ?_ GE887.out) | exact HB.out)) hb); clear HO893; clear HO896; clear HO899; clear BK887; clear HB; have HO893 := n0_; have HO896 := n1_; have HO899 := n2_; have BK887 := n3_; have HB := n4_; clear n0_ n1_ n2_ n3_ n4_; (try clear hb); (try clear hb2); (try clear hk); (try clear hi); have hcz45_0 : w44.cell? ⟨gb887, 0, none⟩ = some (.int .i64 a0_0) := (blk_cell BK887.out 0).trans rfl; have hcz45_1 : w44.cell? ⟨gb887, 1, none⟩ = some (.slice A0_1 l0_1.length c0_1) := (blk_cell BK887.out 1).trans rfl; have hfz45_0 := blk_frozen BK887.out 0; have hfz45_1 := blk_frozen BK887.out 1) | ((with_reducible refine gate_callee (f := 16) rfl ?_); refine goesL_ (some 34) rfl rfl Try.func16 (by kernel_rfl) rfl #[.agg #[.int .i64 a0_0, .slice A0_1 l0_1.length c0_1]] rfl (by (try simp only [List.map_toArray, List.map_cons, List.map_nil]); first | done | rfl | (simp only [List.length_drop, List.length_take]; rfl)) ?_; (with_reducible refine (laws_toNet.calls k a0_0 _ _ l0_1 t901 t902 _ ?side1 ?side2 A20.out).mono ?_); (case side1 => repeat (first | exact (Kd.C_below HR0_1.out HB.out) | (with_reducible refine Kd.C_alloc ?_ _) | (with_reducible refine Kd.C_drewN ?_ _) | (with_reducible refine Kd.C_drew ?_))); (case side2 => exact HC0_1.out); rintro e w46 ⟨v903, rfl, ho0, hb⟩; refine ⟨_, rfl, ?_⟩; have n0_ := Aside0.mk (Kd.R_elder' (by (with_reducible repeat (first | apply Kd.R_alloc | apply Kd.R_drewN | apply Kd.R_drew)); exact HO893.out) (Kd.R_base ho0) hb); have n1_ := Aside0.mk (Kd.R_below (by (with_reducible repeat (first | apply Kd.R_alloc | apply Kd.R_drewN | apply Kd.R_drew)); exact HO896.out) hb); have n2_ := Aside0.mk (Kd.R_below (by (with_reducible repeat (first | apply Kd.R_alloc | apply Kd.R_drewN | apply Kd.R_drew)); exact HO899.out) hb); have n3_ := Aside0.mk (Kd.R_lower (Kd.R_new' ho0 (Kd.R_lt (by (with_reducible repeat (first | apply Kd.R_alloc | apply Kd.R_drewN | apply Kd.R_drew)); exact HO893.out))) (below_size (by repeat (first | (with_reducible first | exact HB.out | apply below_alloc | apply pw_below_drewN | apply below_drew1 | refine below_set ?_ GE887.out) | exact HB.out)))); have n4_ := Aside0.mk (blk_below (g := gb887) (o := .cells #[.int .i64 a0_0, .slice A0_1 l0_1.length c0_1] 24 (0, 0)) (by (with_reducible repeat (first | refine blk_drewN ?_ _ | refine blk_drew ?_ | refine blk_alloc ?_ _)); exact BK887.out) hb); have n5_ := Aside0.mk (below_step (by repeat (first | (with_reducible first | exact HB.out | apply below_alloc | apply pw_below_drewN | apply below_drew1 | refine below_set ?_ GE887.out) | exact HB.out)) hb); clear HO893; clear HO896; clear HO899; clear BK887; clear HB; have HO893 := n0_; have HO896 := n1_; have HO899 := n2_; have HO904 := n3_; have BK887 := n4_; have HB := n5_; clear n0_ n1_ n2_ n3_ n4_ n5_; (try clear hb); (try clear hb2); (try clear hk); (try clear hi); (try clear ho0)) | ((with_reducible refine gate_dst (N := 9) rfl ?_); refine box_event ?hg (N := 9) ?hd (cs := #[.int .i64 0, .slice none 0 0]) (t := 30) ?hr ?_; (case hd => rfl); (case hg => rfl); (case hr => first | (go_simp; done) | (go_simp; rfl)); intro gb905 hg w47 hbox hb; have n0_ := Aside0.mk (Kd.R_below (by (with_reducible repeat (first | apply Kd.R_alloc | apply Kd.R_drewN | apply Kd.R_drew)); exact HO893.out) hb); have n1_ := Aside0.mk (Kd.R_below (by (with_reducible repeat (first | apply Kd.R_alloc | apply Kd.R_drewN | apply Kd.R_drew)); exact HO896.out) hb); have n2_ := Aside0.mk (Kd.R_below (by (with_reducible repeat (first | apply Kd.R_alloc | apply Kd.R_drewN | apply Kd.R_drew)); exact HO899.out) hb); have n3_ := Aside0.mk (Kd.R_below (by (with_reducible repeat (first | apply Kd.R_alloc | apply Kd.R_drewN | apply Kd.R_drew)); exact HO904.out) hb); have n4_ := Aside0.mk (blk_below (g := gb887) (o := .cells #[.int .i64 a0_0, .slice A0_1 l0_1.length c0_1] 24 (0, 0)) (by (with_reducible repeat (first | refine blk_drewN ?_ _ | refine blk_drew ?_ | refine blk_alloc ?_ _)); exact BK887.out) hb); have n5_ := Aside0.mk (below_step (by repeat (first | (with_reducible first | exact HB.out | apply below_alloc | apply pw_below_drewN | apply below_drew1 | refine below_set ?_ GE887.out) | exact HB.out)) hb); have n6_ := Aside0.mk (hbox); have n7_ := Aside0.mk ((by rw [hg]; exact (below_size (by repeat (first | (with_reducible first | exact HB.out | apply below_alloc | apply pw_below_drewN | apply below_drew1 | refine below_set ?_ GE887.out) | exact HB.out))) : w.heap.size ≤ gb905)); have n8_ := Aside0.mk ((by rw [hg]; exact (below_size (by repeat (first | (with_reducible first | exact HB.out | apply below_alloc | apply pw_below_drewN | apply below_drew1 | refine below_set ?_ GE887.out) | exact HB.out))) : w.heap.size ≤ gb905)); have n9_ := Aside0.mk ((by rw [hg]; exact Nat.ne_of_lt (blk_lt (g := gb887) (o := .cells #[.int .i64 a0_0, .slice A0_1 l0_1.length c0_1] 24 (0, 0)) (by (with_reducible repeat (first | refine blk_drewN ?_ _ | refine blk_drew ?_ | refine blk_alloc ?_ _)); exact BK887.out)) : gb887 ≠ gb905)); have n10_ := Aside0.mk ((by rw [hg]; exact Nat.ne_of_gt (blk_lt (g := gb887) (o := .cells #[.int .i64 a0_0, .slice A0_1 l0_1.length c0_1] 24 (0, 0)) (by (with_reducible repeat (first | refine blk_drewN ?_ _ | refine blk_drew ?_ | refine blk_alloc ?_ _)); exact BK887.out)) : gb905 ≠ gb887)); clear HO893; clear HO896; clear HO899; clear HO904; clear BK887; clear HB; have HO893 := n0_; have HO896 := n1_; have HO899 := n2_; have HO904 := n3_; have BK887 := n4_; have HB := n5_; have BK905 := n6_; have GW905 := n7_; have GE905 := n8_; have NB887_905 := n9_; have NB905_887 := n10_; clear n0_ n1_ n2_ n3_ n4_ n5_ n6_ n7_ n8_ n9_ n10_; clear hb hbox hg; have hnb48 := NB905_887.out; have hnc48 := NB887_905.out; have hcz49_0 : w47.cell? ⟨gb905, 0, none⟩ = some (.int .i64 0) := (blk_cell BK905.out 0).trans rfl; have hcz49_1 : w47.cell? ⟨gb905, 1, none⟩ = some (.slice none 0 0) := (blk_cell BK905.out 1).trans rfl; have hfz49_0 := blk_frozen BK905.out 0; have hfz49_1 := blk_frozen BK905.out 1; obtain ⟨Ao50, co50, eo50⟩ := Kd.R_slice HO904.out; subst eo50) | ((with_reducible refine gate_callee (f := 17) rfl ?_); refine goesL_ (some 36) rfl rfl Try.func17 (by kernel_rfl) rfl #[.slice A1 l1.length c1] rfl (by (try simp only [List.map_toArray, List.map_cons, List.map_nil]); first | done | rfl | (simp only [List.length_drop, List.length_take]; rfl)) ?_; (with_reducible refine (laws_toBoolS.calls k _ _ l1 t906 _ ?side1 ?side2 A21.out).mono ?_); (case side1 => exact Kd.C_below HR1.out (by repeat (first | (with_reducible first | exact HB.out | apply below_alloc | apply pw_below_drewN | apply below_drew1 | refine below_set ?_ GE887.out | refine below_set ?_ GE905.out) | exact HB.out))); (case side2 => exact HC1.out); rintro e w51 ⟨v907, rfl, ho0, hb⟩; refine ⟨_, rfl, ?_⟩; have n0_ := Aside0.mk (Kd.R_below (by (with_reducible repeat (first | apply Kd.R_alloc | apply Kd.R_drewN | apply Kd.R_drew)); exact (Kd.R_mono (Kd.R_far (p := ⟨gb905, 1, none⟩) (Kd.R_far (p := ⟨gb905, 0, none⟩) (Kd.R_types HO893.out BK905.out (by decide)) (fun _ hk => hk.2) (.int .i64 t901)) (fun _ hk => hk.2) (.slice Ao50 t902.length co50)) (fun _ h_ => h_.1))) hb); have n1_ := Aside0.mk (Kd.R_elder' (by (with_reducible repeat (first | apply Kd.R_alloc | apply Kd.R_drewN | apply Kd.R_drew)); exact (Kd.R_mono (Kd.R_far (p := ⟨gb905, 1, none⟩) (Kd.R_far (p := ⟨gb905, 0, none⟩) (Kd.R_types HO896.out BK905.out (by decide)) (fun _ hk => hk.2) (.int .i64 t901)) (fun _ hk => hk.2) (.slice Ao50 t902.length co50)) (fun _ h_ => h_.1))) (Kd.R_base ho0) hb); have n2_ := Aside0.mk (Kd.R_below (by (with_reducible repeat (first | apply Kd.R_alloc | apply Kd.R_drewN | apply Kd.R_drew)); exact (Kd.R_mono (Kd.R_far (p := ⟨gb905, 1, none⟩) (Kd.R_far (p := ⟨gb905, 0, none⟩) (Kd.R_types HO899.out BK905.out (by decide)) (fun _ hk => hk.2) (.int .i64 t901)) (fun _ hk => hk.2) (.slice Ao50 t902.length co50)) (fun _ h_ => h_.1))) hb); have n3_ := Aside0.mk (Kd.R_below (by (with_reducible repeat (first | apply Kd.R_alloc | apply Kd.R_drewN | apply Kd.R_drew)); exact (Kd.R_mono (Kd.R_far (p := ⟨gb905, 1, none⟩) (Kd.R_far (p := ⟨gb905, 0, none⟩) (Kd.R_types HO904.out BK905.out (by decide)) (fun _ hk => hk.2) (.int .i64 t901)) (fun _ hk => hk.2) (.slice Ao50 t902.length co50)) (fun _ h_ => h_.1))) hb); have n4_ := Aside0.mk (Kd.R_lower (Kd.R_new' ho0 (Kd.R_lt (by (with_reducible repeat (first | apply Kd.R_alloc | apply Kd.R_drewN | apply Kd.R_drew)); exact (Kd.R_mono (Kd.R_far (p := ⟨gb905, 1, none⟩) (Kd.R_far (p := ⟨gb905, 0, none⟩) (Kd.R_types HO896.out BK905.out (by decide)) (fun _ hk => hk.2) (.int .i64 t901)) (fun _ hk => hk.2) (.slice Ao50 t902.length co50)) (fun _ h_ => h_.1))))) (below_size (by repeat (first | (with_reducible first | exact HB.out | apply below_alloc | apply pw_below_drewN | apply below_drew1 | refine below_set ?_ GE887.out | refine below_set ?_ GE905.out) | exact HB.out)))); have n5_ := Aside0.mk (blk_below (g := gb887) (o := .cells #[.int .i64 a0_0, .slice A0_1 l0_1.length c0_1] 24 (0, 0)) (by (with_reducible repeat (first | refine blk_drewN ?_ _ | refine blk_drew ?_ | refine blk_alloc ?_ _)); refine blk_far ?_ NB887_905.out _; (with_reducible repeat (first | refine blk_drewN ?_ _ | refine blk_drew ?_ | refine blk_alloc ?_ _)); refine blk_far ?_ NB887_905.out _; (with_reducible repeat (first | refine blk_drewN ?_ _ | refine blk_drew ?_ | refine blk_alloc ?_ _)); exact BK887.out) hb); have n6_ := Aside0.mk (blk_below (g := gb905) (o := .cells #[.int .i64 t901, .slice Ao50 t902.length co50] 30 (0, 0)) (by (with_reducible repeat (first | refine blk_drewN ?_ _ | refine blk_drew ?_ | refine blk_alloc ?_ _)); refine blk_put (cs := #[.int .i64 t901, .slice none 0 0]) ?_ 1 _ rfl; (with_reducible repeat (first | refine blk_drewN ?_ _ | refine blk_drew ?_ | refine blk_alloc ?_ _)); refine blk_put (cs := #[.int .i64 0, .slice none 0 0]) ?_ 0 _ rfl; (with_reducible repeat (first | refine blk_drewN ?_ _ | refine blk_drew ?_ | refine blk_alloc ?_ _)); exact BK905.out) hb); have n7_ := Aside0.mk (below_step (by repeat (first | (with_reducible first | exact HB.out | apply below_alloc | apply pw_below_drewN | apply below_drew1 | refine below_set ?_ GE887.out | refine below_set ?_ GE905.out) | exact HB.out)) hb); clear HO893; clear HO896; clear HO899; clear HO904; clear BK887; clear BK905; clear HB; have HO893 := n0_; have HO896 := n1_; have HO899 := n2_; have HO904 := n3_; have HO908 := n4_; have BK887 := n5_; have BK905 := n6_; have HB := n7_; clear n0_ n1_ n2_ n3_ n4_ n5_ n6_ n7_; (try clear hb); (try clear hb2); (try clear hk); (try clear hi); (try clear ho0)) | ((with_reducible refine gate_callee (f := 36) rfl ?_); refine goesL_ (some 38) rfl rfl Try.func36 (by kernel_rfl) rfl #[.slice A2 l2.length c2] rfl (by (try simp only [List.map_toArray, List.map_cons, List.map_nil]); first | done | rfl | (simp only [List.length_drop, List.length_take]; rfl)) ?_; (with_reducible refine (laws_toBusS.calls k _ _ l2 t909 _ ?side1 ?side2 A22.out).mono ?_); (case side1 => repeat (first | exact (Kd.C_below HR2.out HB.out) | (with_reducible refine Kd.C_alloc ?_ _) | (with_reducible refine Kd.C_drewN ?_ _) | (with_reducible refine Kd.C_drew ?_))); (case side2 => exact HC2.out); rintro e w52 ⟨v910, rfl, ho0, hb⟩; refine ⟨_, rfl, ?_⟩; have n0_ := Aside0.mk (Kd.R_below (by (with_reducible repeat (first | apply Kd.R_alloc | apply Kd.R_drewN | apply Kd.R_drew)); exact HO893.out) hb); have n1_ := Aside0.mk (Kd.R_below (by (with_reducible repeat (first | apply Kd.R_alloc | apply Kd.R_drewN | apply Kd.R_drew)); exact HO896.out) hb); have n2_ := Aside0.mk (Kd.R_elder' (by (with_reducible repeat (first | apply Kd.R_alloc | apply Kd.R_drewN | apply Kd.R_drew)); exact HO899.out) (Kd.R_base ho0) hb); have n3_ := Aside0.mk (Kd.R_below (by (with_reducible repeat (first | apply Kd.R_alloc | apply Kd.R_drewN | apply Kd.R_drew)); exact HO904.out) hb); have n4_ := Aside0.mk (Kd.R_below (by (with_reducible repeat (first | apply Kd.R_alloc | apply Kd.R_drewN | apply Kd.R_drew)); exact HO908.out) hb); have n5_ := Aside0.mk (Kd.R_lower (Kd.R_new' ho0 (Kd.R_lt (by (with_reducible repeat (first | apply Kd.R_alloc | apply Kd.R_drewN | apply Kd.R_drew)); exact HO899.out))) (below_size (by repeat (first | (with_reducible first | exact HB.out | apply below_alloc | apply pw_below_drewN | apply below_drew1 | refine below_set ?_ GE887.out | refine below_set ?_ GE905.out) | exact HB.out)))); have n6_ := Aside0.mk (blk_below (g := gb887) (o := .cells #[.int .i64 a0_0, .slice A0_1 l0_1.length c0_1] 24 (0, 0)) (by (with_reducible repeat (first | refine blk_drewN ?_ _ | refine blk_drew ?_ | refine blk_alloc ?_ _)); exact BK887.out) hb); have n7_ := Aside0.mk (blk_below (g := gb905) (o := .cells #[.int .i64 t901, .slice Ao50 t902.length co50] 30 (0, 0)) (by (with_reducible repeat (first | refine blk_drewN ?_ _ | refine blk_drew ?_ | refine blk_alloc ?_ _)); exact BK905.out) hb); have n8_ := Aside0.mk (below_step (by repeat (first | (with_reducible first | exact HB.out | apply below_alloc | apply pw_below_drewN | apply below_drew1 | refine below_set ?_ GE887.out | refine below_set ?_ GE905.out) | exact HB.out)) hb); clear HO893; clear HO896; clear HO899; clear HO904; clear HO908; clear BK887; clear BK905; clear HB; have HO893 := n0_; have HO896 := n1_; have HO899 := n2_; have HO904 := n3_; have HO908 := n4_; have HO911 := n5_; have BK887 := n6_; have BK905 := n7_; have HB := n8_; clear n0_ n1_ n2_ n3_ n4_ n5_ n6_ n7_ n8_; (try clear hb); (try clear hb2); (try clear hk); (try clear hi); (try clear ho0); have hcz53_0 : w52.cell? ⟨gb905, 0, none⟩ = some (.int .i64 t901) := (blk_cell BK905.out 0).trans rfl; have hcz53_1 : w52.cell? ⟨gb905, 1, none⟩ = some (.slice Ao50 t902.length co50) := (blk_cell BK905.out 1).trans rfl; have hfz53_0 := blk_frozen BK905.out 0; have hfz53_1 := blk_frozen BK905.out 1; obtain ⟨Ao54, co54, eo54⟩ := Kd.R_slice HO908.out; subst eo54; obtain ⟨Ao55, co55, eo55⟩ := Kd.R_slice HO911.out; subst eo55) | ((with_reducible refine gate_callee (f := 51) rfl ?_); refine goesL_ (some 42) rfl rfl Try.func51 (by kernel_rfl) rfl #[.agg #[.int .i64 t901, .slice Ao50 t902.length co50], .slice Ao54 t906.length co54, .slice Ao55 t909.length co55] rfl (by (try simp only [List.map_toArray, List.map_cons, List.map_nil]); first | done | rfl | (simp only [List.length_drop, List.length_take]; rfl)) ?_; (with_reducible refine (impl_ServedLoad.calls k t901 _ _ t902 _ _ t906 _ _ t909 t912 _ ?side1 ?side2 ?side3 ?side4 ?side5 ?side6 A23.out).mono ?_); (case side1 => repeat (first | exact (Kd.R_reads' HO904.out).2.2 | (with_reducible refine Kd.C_alloc ?_ _) | (with_reducible refine Kd.C_drewN ?_ _) | (with_reducible refine Kd.C_drew ?_))); (case side2 => exact (Kd.R_reads' HO904.out).2.1); (case side3 => repeat (first | exact (Kd.R_reads' HO908.out).2.2 | (with_reducible refine Kd.C_alloc ?_ _) | (with_reducible refine Kd.C_drewN ?_ _) | (with_reducible refine Kd.C_drew ?_))); (case side4 => exact (Kd.R_reads' HO908.out).2.1); (case side5 => repeat (first | exact (Kd.R_reads' HO911.out).2.2 | (with_reducible refine Kd.C_alloc ?_ _) | (with_reducible refine Kd.C_drewN ?_ _) | (with_reducible refine Kd.C_drew ?_))); (case side6 => exact (Kd.R_reads' HO911.out).2.1); rintro e w56 ⟨rfl, hb⟩; refine ⟨_, rfl, ?_⟩; have n0_ := Aside0.mk (Kd.R_below (by (with_reducible repeat (first | apply Kd.R_alloc | apply Kd.R_drewN | apply Kd.R_drew)); exact HO893.out) hb); have n1_ := Aside0.mk (Kd.R_below (by (with_reducible repeat (first | apply Kd.R_alloc | apply Kd.R_drewN | apply Kd.R_drew)); exact HO896.out) hb); have n2_ := Aside0.mk (Kd.R_below (by (with_reducible repeat (first | apply Kd.R_alloc | apply Kd.R_drewN | apply Kd.R_drew)); exact HO899.out) hb); have n3_ := Aside0.mk (Kd.R_below (by (with_reducible repeat (first | apply Kd.R_alloc | apply Kd.R_drewN | apply Kd.R_drew)); exact HO904.out) hb); have n4_ := Aside0.mk (Kd.R_below (by (with_reducible repeat (first | apply Kd.R_alloc | apply Kd.R_drewN | apply Kd.R_drew)); exact HO908.out) hb); have n5_ := Aside0.mk (Kd.R_below (by (with_reducible repeat (first | apply Kd.R_alloc | apply Kd.R_drewN | apply Kd.R_drew)); exact HO911.out) hb); have n6_ := Aside0.mk (blk_below (g := gb887) (o := .cells #[.int .i64 a0_0, .slice A0_1 l0_1.length c0_1] 24 (0, 0)) (by (with_reducible repeat (first | refine blk_drewN ?_ _ | refine blk_drew ?_ | refine blk_alloc ?_ _)); exact BK887.out) hb); have n7_ := Aside0.mk (blk_below (g := gb905) (o := .cells #[.int .i64 t901, .slice Ao50 t902.length co50] 30 (0, 0)) (by (with_reducible repeat (first | refine blk_drewN ?_ _ | refine blk_drew ?_ | refine blk_alloc ?_ _)); exact BK905.out) hb); have n8_ := Aside0.mk (below_step (by repeat (first | (with_reducible first | exact HB.out | apply below_alloc | apply pw_below_drewN | apply below_drew1 | refine below_set ?_ GE887.out | refine below_set ?_ GE905.out) | exact HB.out)) hb); clear HO893; clear HO896; clear HO899; clear HO904; clear HO908; clear HO911; clear BK887; clear BK905; clear HB; have HO893 := n0_; have HO896 := n1_; have HO899 := n2_; have HO904 := n3_; have HO908 := n4_; have HO911 := n5_; have BK887 := n6_; have BK905 := n7_; have HB := n8_; clear n0_ n1_ n2_ n3_ n4_ n5_ n6_ n7_ n8_; (try clear hb); (try clear hb2); (try clear hk); (try clear hi)))
 have n0_ := Aside0.mk (Kd.R_drew HO893.out)
 have n1_ := Aside0.mk (Kd.R_drew HO896.out)
 have n2_ := Aside0.mk (Kd.R_drew HO899.out)
 have n3_ := Aside0.mk (Kd.R_drew HO904.out)
 have n4_ := Aside0.mk (Kd.R_drew HO908.out)
 have n5_ := Aside0.mk (Kd.R_drew HO911.out)
 have n6_ := Aside0.mk (blk_drew BK887.out)
 have n7_ := Aside0.mk (blk_drew BK905.out)
 have n8_ := Aside0.mk (below_drew1 HB.out)
 clear HO893
 clear HO896
 clear HO899
 clear HO904
 clear HO908
 clear HO911
 clear BK887
 clear BK905
 clear HB
 have HO893 := n0_
 have HO896 := n1_
 have HO899 := n2_
 have HO904 := n3_
 have HO908 := n4_
 have HO911 := n5_
 have BK887 := n6_
 have BK905 := n7_
 have HB := n8_
 clear n0_ n1_ n2_ n3_ n4_ n5_ n6_ n7_ n8_
 refine start_ (n := 5) (S := fun w' => w'.cell? ⟨gb905, 0, none⟩ = some (.int .i64 t901) ∧ w'.cell? ⟨gb905, 1, none⟩ = some (.slice Ao50 t902.length co50) ∧ w'.cell? ⟨gb887, 0, none⟩ = some (.int .i64 a0_0) ∧ w'.cell? ⟨gb887, 1, none⟩ = some (.slice A0_1 l0_1.length c0_1)) (ds := []) #[false, false, false, false, false] (by kernel_rfl) rfl rfl ⟨(blk_cell BK905.out 0).trans rfl, (blk_cell BK905.out 1).trans rfl, (blk_cell BK887.out 0).trans rfl, (blk_cell BK887.out 1).trans rfl⟩ (fun hHeld => ?_)
 generalize w56.drew = w57 at HO893 HO896 HO899 HO904 HO908 HO911 BK887 BK905 HB hHeld ⊢
 refine take_ (i := 0) (N := some 46) (v := ?_) (a' := ?_) #[true, false, false, false, false] rfl rfl (by kernel_rfl) (fun _ _ _ h => h) (Or.inl ⟨by rfl, ?_⟩) hHeld ?_ ?_
 rotate_left
 ·
  rintro w' ⟨s0, s1, s2, s3⟩
  go_simp
  with_reducible rfl
 rotate_left
 ·
  simp only [Act.put, List.setIfInBounds_toArray, List.set_cons_zero, List.set_cons_succ, i64_w, i32_w]
  rfl
 refine take_ (i := 1) (N := some 47) (v := ?_) (a' := ?_) #[true, true, false, false, false] rfl rfl (by kernel_rfl) (fun _ _ _ h => h) (Or.inl ⟨by rfl, ?_⟩) hHeld ?_ ?_
 rotate_left
 ·
  rintro w' ⟨s0, s1, s2, s3⟩
  go_simp
  with_reducible rfl
 rotate_left
 ·
  simp only [Act.put, List.setIfInBounds_toArray, List.set_cons_zero, List.set_cons_succ, i64_w, i32_w]
  rfl
 refine one_ (i := 2) (N := some 48) #[true, true, true, false, false] rfl rfl (by kernel_rfl) (by decide) (fun K hK => ?_)
 refine goes_ Try.func16 (by kernel_rfl) rfl #[.agg #[.int .i64 a0_0, .slice A0_1 l0_1.length c0_1]] (by rfl) rfl rfl (by (try simp only [List.map_toArray, List.map_cons, List.map_nil]); first | done | rfl | (simp only [List.length_drop, List.length_take]; rfl)) ?_
 with_reducible refine (laws_toNet.calls k a0_0 _ _ l0_1 t913 t914 _ ?side1 ?side2 A25.out).mono ?_
 (case side1 => repeat (first | exact (Kd.C_below HR0_1.out HB.out) | (with_reducible refine Kd.C_alloc ?_ _) | (with_reducible refine Kd.C_drewN ?_ _) | (with_reducible refine Kd.C_drew ?_)))
 (case side2 => exact HC0_1.out)
 rintro e w58 ⟨v915, rfl, ho0, hb⟩
 refine ⟨_, rfl, ?_⟩
 have n0_ := Aside0.mk (Kd.R_elder' (by (with_reducible repeat (first | apply Kd.R_alloc | apply Kd.R_drewN | apply Kd.R_drew)); exact HO893.out) (Kd.R_base ho0) hb)
 have n1_ := Aside0.mk (Kd.R_below (by (with_reducible repeat (first | apply Kd.R_alloc | apply Kd.R_drewN | apply Kd.R_drew)); exact HO896.out) hb)
 have n2_ := Aside0.mk (Kd.R_below (by (with_reducible repeat (first | apply Kd.R_alloc | apply Kd.R_drewN | apply Kd.R_drew)); exact HO899.out) hb)
 have n3_ := Aside0.mk (Kd.R_elder' (by (with_reducible repeat (first | apply Kd.R_alloc | apply Kd.R_drewN | apply Kd.R_drew)); exact HO904.out) (Kd.R_base ho0) hb)
 have n4_ := Aside0.mk (Kd.R_below (by (with_reducible repeat (first | apply Kd.R_alloc | apply Kd.R_drewN | apply Kd.R_drew)); exact HO908.out) hb)
 have n5_ := Aside0.mk (Kd.R_below (by (with_reducible repeat (first | apply Kd.R_alloc | apply Kd.R_drewN | apply Kd.R_drew)); exact HO911.out) hb)
 have n6_ := Aside0.mk (Kd.R_lower (Kd.R_new' (Kd.R_new' ho0 (Kd.R_lt (by (with_reducible repeat (first | apply Kd.R_alloc | apply Kd.R_drewN | apply Kd.R_drew)); exact HO893.out))) (Kd.R_lt (by (with_reducible repeat (first | apply Kd.R_alloc | apply Kd.R_drewN | apply Kd.R_drew)); exact HO904.out))) (below_size (by repeat (first | (with_reducible first | exact HB.out | apply below_alloc | apply pw_below_drewN | apply below_drew1 | refine below_set ?_ GE887.out | refine below_set ?_ GE905.out) | exact HB.out))))
 have n7_ := Aside0.mk (blk_below (g := gb887) (o := .cells #[.int .i64 a0_0, .slice A0_1 l0_1.length c0_1] 24 (0, 0)) (by (with_reducible repeat (first | refine blk_drewN ?_ _ | refine blk_drew ?_ | refine blk_alloc ?_ _)); exact BK887.out) hb)
 have n8_ := Aside0.mk (blk_below (g := gb905) (o := .cells #[.int .i64 t901, .slice Ao50 t902.length co50] 30 (0, 0)) (by (with_reducible repeat (first | refine blk_drewN ?_ _ | refine blk_drew ?_ | refine blk_alloc ?_ _)); exact BK905.out) hb)
 have n9_ := Aside0.mk (below_step (by repeat (first | (with_reducible first | exact HB.out | apply below_alloc | apply pw_below_drewN | apply below_drew1 | refine below_set ?_ GE887.out | refine below_set ?_ GE905.out) | exact HB.out)) hb)
 clear HO893
 clear HO896
 clear HO899
 clear HO904
 clear HO908
 clear HO911
 clear BK887
 clear BK905
 clear HB
 have HO893 := n0_
 have HO896 := n1_
 have HO899 := n2_
 have HO904 := n3_
 have HO908 := n4_
 have HO911 := n5_
 have HO916 := n6_
 have BK887 := n7_
 have BK905 := n8_
 have HB := n9_
 clear n0_ n1_ n2_ n3_ n4_ n5_ n6_ n7_ n8_ n9_
 (try clear hb)
 (try clear hb2)
 (try clear hk)
 (try clear hi)
 (try clear ho0)
 obtain ⟨Ao59, co59, eo59⟩ := Kd.R_slice HO916.out
 (first | subst eo59 | (injection eo59 with f1_ f2_ f3_; have f4_ := f1_.symm; have f5_ := f3_.symm; clear f1_ f2_ f3_; subst f4_; subst f5_))
 refine hK.out _ _ ⟨(blk_cell BK905.out 0).trans rfl, (blk_cell BK905.out 1).trans rfl, (blk_cell BK887.out 0).trans rfl, (blk_cell BK887.out 1).trans rfl⟩ (fun hHeld => ?_)
 clear hK K
 refine norm_ (a' := ?_) ?_ ?_
 rotate_left
 ·
  show Act.put _ (some 48) _ = _
  simp only [Act.put, List.setIfInBounds_toArray, List.set_cons_zero, List.set_cons_succ, i64_w, i32_w]
  rfl
 refine one_ (i := 3) (N := some 49) #[true, true, true, true, false] rfl rfl (by kernel_rfl) (by decide) (fun K hK => ?_)
 refine goes_ Try.func19 (by kernel_rfl) rfl #[.agg #[.int .i64 t901, .slice Ao50 t902.length co50], .agg #[.int .i64 t913, .slice Ao59 t914.length co59]] (by rfl) rfl rfl (by (try simp only [List.map_toArray, List.map_cons, List.map_nil]); first | done | rfl | (simp only [List.length_drop, List.length_take]; rfl)) ?_
 with_reducible refine (laws_eqNet.calls k t901 _ _ t902 t913 _ _ t914 true _ ?side1 ?side2 ?side3 ?side4 A26.out).mono ?_
 (case side1 => repeat (first | exact (Kd.R_reads' HO904.out).2.2 | (with_reducible refine Kd.C_alloc ?_ _) | (with_reducible refine Kd.C_drewN ?_ _) | (with_reducible refine Kd.C_drew ?_)))
 (case side2 => exact (Kd.R_reads' HO904.out).2.1)
 (case side3 => repeat (first | exact (Kd.R_reads' HO916.out).2.2 | (with_reducible refine Kd.C_alloc ?_ _) | (with_reducible refine Kd.C_drewN ?_ _) | (with_reducible refine Kd.C_drew ?_)))
 (case side4 => exact (Kd.R_reads' HO916.out).2.1)
 rintro e w60 ⟨rfl, hb⟩
 refine ⟨_, rfl, ?_⟩
 have n0_ := Aside0.mk (Kd.R_below (by (with_reducible repeat (first | apply Kd.R_alloc | apply Kd.R_drewN | apply Kd.R_drew)); exact HO893.out) hb)
 have n1_ := Aside0.mk (Kd.R_below (by (with_reducible repeat (first | apply Kd.R_alloc | apply Kd.R_drewN | apply Kd.R_drew)); exact HO896.out) hb)
 have n2_ := Aside0.mk (Kd.R_below (by (with_reducible repeat (first | apply Kd.R_alloc | apply Kd.R_drewN | apply Kd.R_drew)); exact HO899.out) hb)
 have n3_ := Aside0.mk (Kd.R_below (by (with_reducible repeat (first | apply Kd.R_alloc | apply Kd.R_drewN | apply Kd.R_drew)); exact HO904.out) hb)
 have n4_ := Aside0.mk (Kd.R_below (by (with_reducible repeat (first | apply Kd.R_alloc | apply Kd.R_drewN | apply Kd.R_drew)); exact HO908.out) hb)
 have n5_ := Aside0.mk (Kd.R_below (by (with_reducible repeat (first | apply Kd.R_alloc | apply Kd.R_drewN | apply Kd.R_drew)); exact HO911.out) hb)
 have n6_ := Aside0.mk (Kd.R_below (by (with_reducible repeat (first | apply Kd.R_alloc | apply Kd.R_drewN | apply Kd.R_drew)); exact HO916.out) hb)
 have n7_ := Aside0.mk (blk_below (g := gb887) (o := .cells #[.int .i64 a0_0, .slice A0_1 l0_1.length c0_1] 24 (0, 0)) (by (with_reducible repeat (first | refine blk_drewN ?_ _ | refine blk_drew ?_ | refine blk_alloc ?_ _)); exact BK887.out) hb)
 have n8_ := Aside0.mk (blk_below (g := gb905) (o := .cells #[.int .i64 t901, .slice Ao50 t902.length co50] 30 (0, 0)) (by (with_reducible repeat (first | refine blk_drewN ?_ _ | refine blk_drew ?_ | refine blk_alloc ?_ _)); exact BK905.out) hb)
 have n9_ := Aside0.mk (below_step (by repeat (first | (with_reducible first | exact HB.out | apply below_alloc | apply pw_below_drewN | apply below_drew1 | refine below_set ?_ GE887.out | refine below_set ?_ GE905.out) | exact HB.out)) hb)
 clear HO893
 clear HO896
 clear HO899
 clear HO904
 clear HO908
 clear HO911
 clear HO916
 clear BK887
 clear BK905
 clear HB
 have HO893 := n0_
 have HO896 := n1_
 have HO899 := n2_
 have HO904 := n3_
 have HO908 := n4_
 have HO911 := n5_
 have HO916 := n6_
 have BK887 := n7_
 have BK905 := n8_
 have HB := n9_
 clear n0_ n1_ n2_ n3_ n4_ n5_ n6_ n7_ n8_ n9_
 (try clear hb)
 (try clear hb2)
 (try clear hk)
 (try clear hi)
 refine hK.out _ _ ⟨(blk_cell BK905.out 0).trans rfl, (blk_cell BK905.out 1).trans rfl, (blk_cell BK887.out 0).trans rfl, (blk_cell BK887.out 1).trans rfl⟩ (fun hHeld => ?_)
 clear hK K
 refine norm_ (a' := ?_) ?_ ?_
 rotate_left
 ·
  show Act.put _ (some 49) _ = _
  simp only [Act.put, List.setIfInBounds_toArray, List.set_cons_zero, List.set_cons_succ, i64_w, i32_w]
  rfl
 refine pure_ (i := 4) (N := some 50) (v := ?_) (a' := ?_) #[true, true, true, true, true] rfl rfl (by kernel_rfl) (fun _ _ _ h => h) (Or.inl ⟨by rfl, ?_⟩) ?_ ?_
 rotate_left
 ·
  intro w'
  go_simp
  with_reducible rfl
 rotate_left
 ·
  simp only [Act.put, List.setIfInBounds_toArray, List.set_cons_zero, List.set_cons_succ, i64_w, i32_w]
  rfl
 refine done_ (by kernel_rfl) ?_
 try go_wp2_with (first | ((with_reducible refine gate_callee (f := 17) rfl ?_); refine goesL_ (some 53) rfl rfl Try.func17 (by kernel_rfl) rfl #[.slice A1 l1.length c1] rfl (by (try simp only [List.map_toArray, List.map_cons, List.map_nil]); first | done | rfl | (simp only [List.length_drop, List.length_take]; rfl)) ?_; (with_reducible refine (laws_toBoolS.calls k _ _ l1 t918 _ ?side1 ?side2 A28.out).mono ?_); (case side1 => repeat (first | exact (Kd.C_below HR1.out HB.out) | (with_reducible refine Kd.C_alloc ?_ _) | (with_reducible refine Kd.C_drewN ?_ _) | (with_reducible refine Kd.C_drew ?_))); (case side2 => exact HC1.out); rintro e w61 ⟨v919, rfl, ho0, hb⟩; refine ⟨_, rfl, ?_⟩; have n0_ := Aside0.mk (Kd.R_below (by (with_reducible repeat (first | apply Kd.R_alloc | apply Kd.R_drewN | apply Kd.R_drew)); exact HO893.out) hb); have n1_ := Aside0.mk (Kd.R_elder' (by (with_reducible repeat (first | apply Kd.R_alloc | apply Kd.R_drewN | apply Kd.R_drew)); exact HO896.out) (Kd.R_base ho0) hb); have n2_ := Aside0.mk (Kd.R_below (by (with_reducible repeat (first | apply Kd.R_alloc | apply Kd.R_drewN | apply Kd.R_drew)); exact HO899.out) hb); have n3_ := Aside0.mk (Kd.R_below (by (with_reducible repeat (first | apply Kd.R_alloc | apply Kd.R_drewN | apply Kd.R_drew)); exact HO904.out) hb); have n4_ := Aside0.mk (Kd.R_elder' (by (with_reducible repeat (first | apply Kd.R_alloc | apply Kd.R_drewN | apply Kd.R_drew)); exact HO908.out) (Kd.R_base ho0) hb); have n5_ := Aside0.mk (Kd.R_below (by (with_reducible repeat (first | apply Kd.R_alloc | apply Kd.R_drewN | apply Kd.R_drew)); exact HO911.out) hb); have n6_ := Aside0.mk (Kd.R_below (by (with_reducible repeat (first | apply Kd.R_alloc | apply Kd.R_drewN | apply Kd.R_drew)); exact HO916.out) hb); have n7_ := Aside0.mk (Kd.R_lower (Kd.R_new' (Kd.R_new' ho0 (Kd.R_lt (by (with_reducible repeat (first | apply Kd.R_alloc | apply Kd.R_drewN | apply Kd.R_drew)); exact HO896.out))) (Kd.R_lt (by (with_reducible repeat (first | apply Kd.R_alloc | apply Kd.R_drewN | apply Kd.R_drew)); exact HO908.out))) (below_size (by repeat (first | (with_reducible first | exact HB.out | apply below_alloc | apply pw_below_drewN | apply below_drew1 | refine below_set ?_ GE887.out | refine below_set ?_ GE905.out) | exact HB.out)))); have n8_ := Aside0.mk (blk_below (g := gb887) (o := .cells #[.int .i64 a0_0, .slice A0_1 l0_1.length c0_1] 24 (0, 0)) (by (with_reducible repeat (first | refine blk_drewN ?_ _ | refine blk_drew ?_ | refine blk_alloc ?_ _)); exact BK887.out) hb); have n9_ := Aside0.mk (blk_below (g := gb905) (o := .cells #[.int .i64 t901, .slice Ao50 t902.length co50] 30 (0, 0)) (by (with_reducible repeat (first | refine blk_drewN ?_ _ | refine blk_drew ?_ | refine blk_alloc ?_ _)); exact BK905.out) hb); have n10_ := Aside0.mk (below_step (by repeat (first | (with_reducible first | exact HB.out | apply below_alloc | apply pw_below_drewN | apply below_drew1 | refine below_set ?_ GE887.out | refine below_set ?_ GE905.out) | exact HB.out)) hb); clear HO893; clear HO896; clear HO899; clear HO904; clear HO908; clear HO911; clear HO916; clear BK887; clear BK905; clear HB; have HO893 := n0_; have HO896 := n1_; have HO899 := n2_; have HO904 := n3_; have HO908 := n4_; have HO911 := n5_; have HO916 := n6_; have HO920 := n7_; have BK887 := n8_; have BK905 := n9_; have HB := n10_; clear n0_ n1_ n2_ n3_ n4_ n5_ n6_ n7_ n8_ n9_ n10_; (try clear hb); (try clear hb2); (try clear hk); (try clear hi); (try clear ho0); obtain ⟨Ao62, co62, eo62⟩ := Kd.R_slice HO920.out; subst eo62) | ((with_reducible refine gate_callee (f := 20) rfl ?_); refine goesL_ (some 54) rfl rfl Try.func20 (by kernel_rfl) rfl #[.slice Ao54 t906.length co54, .slice Ao62 t918.length co62] rfl (by (try simp only [List.map_toArray, List.map_cons, List.map_nil]); first | done | rfl | (simp only [List.length_drop, List.length_take]; rfl)) ?_; (with_reducible refine (laws_eqBoolS.calls k _ _ t906 _ _ t918 true _ ?side1 ?side2 ?side3 ?side4 A29.out).mono ?_); (case side1 => repeat (first | exact (Kd.R_reads' HO908.out).2.2 | (with_reducible refine Kd.C_alloc ?_ _) | (with_reducible refine Kd.C_drewN ?_ _) | (with_reducible refine Kd.C_drew ?_))); (case side2 => exact (Kd.R_reads' HO908.out).2.1); (case side3 => repeat (first | exact (Kd.R_reads' HO920.out).2.2 | (with_reducible refine Kd.C_alloc ?_ _) | (with_reducible refine Kd.C_drewN ?_ _) | (with_reducible refine Kd.C_drew ?_))); (case side4 => exact (Kd.R_reads' HO920.out).2.1); rintro e w' ⟨rfl, ⟨nd, rfl⟩⟩; refine ⟨_, rfl, ?_⟩) | ((with_reducible refine gate_callee (f := 36) rfl ?_); refine goesL_ (some 58) rfl rfl Try.func36 (by kernel_rfl) rfl #[.slice A2 l2.length c2] rfl (by (try simp only [List.map_toArray, List.map_cons, List.map_nil]); first | done | rfl | (simp only [List.length_drop, List.length_take]; rfl)) ?_; (with_reducible refine (laws_toBusS.calls k _ _ l2 t922 _ ?side1 ?side2 A31.out).mono ?_); (case side1 => repeat (first | exact (Kd.C_below HR2.out (by repeat (first | (with_reducible first | exact HB.out | apply below_alloc | apply pw_below_drewN | apply below_drew1 | refine below_set ?_ GE887.out | refine below_set ?_ GE905.out) | exact HB.out))) | (with_reducible refine Kd.C_alloc ?_ _) | (with_reducible refine Kd.C_drewN ?_ _) | (with_reducible refine Kd.C_drew ?_))); (case side2 => exact HC2.out); rintro e w63 ⟨v923, rfl, ho0, hb⟩; refine ⟨_, rfl, ?_⟩; have n0_ := Aside0.mk (Kd.R_below (by (with_reducible repeat (first | apply Kd.R_alloc | apply Kd.R_drewN | apply Kd.R_drew)); exact HO893.out) hb); have n1_ := Aside0.mk (Kd.R_below (by (with_reducible repeat (first | apply Kd.R_alloc | apply Kd.R_drewN | apply Kd.R_drew)); exact HO896.out) hb); have n2_ := Aside0.mk (Kd.R_elder' (by (with_reducible repeat (first | apply Kd.R_alloc | apply Kd.R_drewN | apply Kd.R_drew)); exact HO899.out) (Kd.R_base ho0) hb); have n3_ := Aside0.mk (Kd.R_below (by (with_reducible repeat (first | apply Kd.R_alloc | apply Kd.R_drewN | apply Kd.R_drew)); exact HO904.out) hb); have n4_ := Aside0.mk (Kd.R_below (by (with_reducible repeat (first | apply Kd.R_alloc | apply Kd.R_drewN | apply Kd.R_drew)); exact HO908.out) hb); have n5_ := Aside0.mk (Kd.R_elder' (by (with_reducible repeat (first | apply Kd.R_alloc | apply Kd.R_drewN | apply Kd.R_drew)); exact HO911.out) (Kd.R_base ho0) hb); have n6_ := Aside0.mk (Kd.R_below (by (with_reducible repeat (first | apply Kd.R_alloc | apply Kd.R_drewN | apply Kd.R_drew)); exact HO916.out) hb); have n7_ := Aside0.mk (Kd.R_below (by (with_reducible repeat (first | apply Kd.R_alloc | apply Kd.R_drewN | apply Kd.R_drew)); exact HO920.out) hb); have n8_ := Aside0.mk (Kd.R_lower (Kd.R_new' (Kd.R_new' ho0 (Kd.R_lt (by (with_reducible repeat (first | apply Kd.R_alloc | apply Kd.R_drewN | apply Kd.R_drew)); exact HO899.out))) (Kd.R_lt (by (with_reducible repeat (first | apply Kd.R_alloc | apply Kd.R_drewN | apply Kd.R_drew)); exact HO911.out))) (below_size (by repeat (first | (with_reducible first | exact HB.out | apply below_alloc | apply pw_below_drewN | apply below_drew1 | refine below_set ?_ GE887.out | refine below_set ?_ GE905.out) | exact HB.out)))); have n9_ := Aside0.mk (blk_below (g := gb887) (o := .cells #[.int .i64 a0_0, .slice A0_1 l0_1.length c0_1] 24 (0, 0)) (by (with_reducible repeat (first | refine blk_drewN ?_ _ | refine blk_drew ?_ | refine blk_alloc ?_ _)); exact BK887.out) hb); have n10_ := Aside0.mk (blk_below (g := gb905) (o := .cells #[.int .i64 t901, .slice Ao50 t902.length co50] 30 (0, 0)) (by (with_reducible repeat (first | refine blk_drewN ?_ _ | refine blk_drew ?_ | refine blk_alloc ?_ _)); exact BK905.out) hb); have n11_ := Aside0.mk (below_step (by repeat (first | (with_reducible first | exact HB.out | apply below_alloc | apply pw_below_drewN | apply below_drew1 | refine below_set ?_ GE887.out | refine below_set ?_ GE905.out) | exact HB.out)) hb); clear HO893; clear HO896; clear HO899; clear HO904; clear HO908; clear HO911; clear HO916; clear HO920; clear BK887; clear BK905; clear HB; have HO893 := n0_; have HO896 := n1_; have HO899 := n2_; have HO904 := n3_; have HO908 := n4_; have HO911 := n5_; have HO916 := n6_; have HO920 := n7_; have HO924 := n8_; have BK887 := n9_; have BK905 := n10_; have HB := n11_; clear n0_ n1_ n2_ n3_ n4_ n5_ n6_ n7_ n8_ n9_ n10_ n11_; (try clear hb); (try clear hb2); (try clear hk); (try clear hi); (try clear ho0); obtain ⟨Ao64, co64, eo64⟩ := Kd.R_slice HO924.out; subst eo64) | ((with_reducible refine gate_callee (f := 38) rfl ?_); refine goesL_ (some 59) rfl rfl Try.func38 (by kernel_rfl) rfl #[.slice Ao55 t909.length co55, .slice Ao64 t922.length co64] rfl (by (try simp only [List.map_toArray, List.map_cons, List.map_nil]); first | done | rfl | (simp only [List.length_drop, List.length_take]; rfl)) ?_; (with_reducible refine (laws_eqBusS.calls k _ _ t909 _ _ t922 true _ ?side1 ?side2 ?side3 ?side4 A32.out).mono ?_); (case side1 => repeat (first | exact (Kd.R_reads' HO911.out).2.2 | (with_reducible refine Kd.C_alloc ?_ _) | (with_reducible refine Kd.C_drewN ?_ _) | (with_reducible refine Kd.C_drew ?_))); (case side2 => exact (Kd.R_reads' HO911.out).2.1); (case side3 => repeat (first | exact (Kd.R_reads' HO924.out).2.2 | (with_reducible refine Kd.C_alloc ?_ _) | (with_reducible refine Kd.C_drewN ?_ _) | (with_reducible refine Kd.C_drew ?_))); (case side4 => exact (Kd.R_reads' HO924.out).2.1); rintro e w65 ⟨rfl, hb⟩; refine ⟨_, rfl, ?_⟩; have n0_ := Aside0.mk (Kd.R_below (by (with_reducible repeat (first | apply Kd.R_alloc | apply Kd.R_drewN | apply Kd.R_drew)); exact HO893.out) hb); have n1_ := Aside0.mk (Kd.R_below (by (with_reducible repeat (first | apply Kd.R_alloc | apply Kd.R_drewN | apply Kd.R_drew)); exact HO896.out) hb); have n2_ := Aside0.mk (Kd.R_below (by (with_reducible repeat (first | apply Kd.R_alloc | apply Kd.R_drewN | apply Kd.R_drew)); exact HO899.out) hb); have n3_ := Aside0.mk (Kd.R_below (by (with_reducible repeat (first | apply Kd.R_alloc | apply Kd.R_drewN | apply Kd.R_drew)); exact HO904.out) hb); have n4_ := Aside0.mk (Kd.R_below (by (with_reducible repeat (first | apply Kd.R_alloc | apply Kd.R_drewN | apply Kd.R_drew)); exact HO908.out) hb); have n5_ := Aside0.mk (Kd.R_below (by (with_reducible repeat (first | apply Kd.R_alloc | apply Kd.R_drewN | apply Kd.R_drew)); exact HO911.out) hb); have n6_ := Aside0.mk (Kd.R_below (by (with_reducible repeat (first | apply Kd.R_alloc | apply Kd.R_drewN | apply Kd.R_drew)); exact HO916.out) hb); have n7_ := Aside0.mk (Kd.R_below (by (with_reducible repeat (first | apply Kd.R_alloc | apply Kd.R_drewN | apply Kd.R_drew)); exact HO920.out) hb); have n8_ := Aside0.mk (Kd.R_below (by (with_reducible repeat (first | apply Kd.R_alloc | apply Kd.R_drewN | apply Kd.R_drew)); exact HO924.out) hb); have n9_ := Aside0.mk (blk_below (g := gb887) (o := .cells #[.int .i64 a0_0, .slice A0_1 l0_1.length c0_1] 24 (0, 0)) (by (with_reducible repeat (first | refine blk_drewN ?_ _ | refine blk_drew ?_ | refine blk_alloc ?_ _)); exact BK887.out) hb); have n10_ := Aside0.mk (blk_below (g := gb905) (o := .cells #[.int .i64 t901, .slice Ao50 t902.length co50] 30 (0, 0)) (by (with_reducible repeat (first | refine blk_drewN ?_ _ | refine blk_drew ?_ | refine blk_alloc ?_ _)); exact BK905.out) hb); have n11_ := Aside0.mk (below_step (by repeat (first | (with_reducible first | exact HB.out | apply below_alloc | apply pw_below_drewN | apply below_drew1 | refine below_set ?_ GE887.out | refine below_set ?_ GE905.out) | exact HB.out)) hb); clear HO893; clear HO896; clear HO899; clear HO904; clear HO908; clear HO911; clear HO916; clear HO920; clear HO924; clear BK887; clear BK905; clear HB; have HO893 := n0_; have HO896 := n1_; have HO899 := n2_; have HO904 := n3_; have HO908 := n4_; have HO911 := n5_; have HO916 := n6_; have HO920 := n7_; have HO924 := n8_; have BK887 := n9_; have BK905 := n10_; have HB := n11_; clear n0_ n1_ n2_ n3_ n4_ n5_ n6_ n7_ n8_ n9_ n10_ n11_; (try clear hb); (try clear hb2); (try clear hk); (try clear hi)))
 go_ret
 exact ⟨by first | rfl | (simp [errW_none, errW_some] <;> rfl) | (simp [*, errW_none, errW_some] <;> rfl), by repeat (first | (with_reducible first | exact HB.out | apply below_alloc | apply pw_below_drewN | apply below_drew1 | refine below_set ?_ GE887.out | refine below_set ?_ GE905.out) | exact HB.out)⟩

end Go.Proofs.Ytknddipjabkfbaa.P

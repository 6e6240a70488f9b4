/- Contracts of Go functions of this seat's translation, written by this repo's wip/mk.py: it calls the kit's print.py with contracts typed by hand in place of functions that it does not take. Not trusted: Lean checks it. -/
import Derived.Test.YtcchhgpdallpmaaP0
import Derived.Test.YtcchhgpdallpmaaP27
import Derived.Test.YtcchhgpdallpmaaP31
import Derived.Test.YtcchhgpdallpmaaP36
import Derived.Test.YtcchhgpdallpmaaP49
import Derived.Test.YtcchhgpdallpmaaP50
import Derived.Test.YtcchhgpdallpmaaP52
import Derived.Test.YtcchhgpdallpmaaP54
import Derived.Test.YtcchhgpdallpmaaP56
namespace Go.Proofs.Ytcchhgpdallpmaa.P
open Go.RowKit Go.Proofs.YtcchhgpdallpmaaW.PrintWords Go.Proofs.YtcchhgpdallpmaaW.PrintLast Go.Proofs.YtcchhgpdallpmaaW.PrintMore
attribute [local go_sem] max2_int min2_int max_two min_two max_three min_three max_four min_four   -- for this text's walks alone
set_option linter.unusedVariables false
set_option linter.unusedSimpArgs false

/-! ### laws_FnExactBusesValid: function 12 -/
def laws_FnExactBusesValid.f (k : Nat) (a0_0 : Int) (l0_1 : List (S82)) (l1 : List (S78)) : Option (Bool) := (laws_szNet.f a0_0 l0_1 1048576).bind fun t472 => (if t472 < 0 then (some true) else ((laws_szBusS.f l1 t472).bind fun t473 => (if t473 < 0 then (some true) else ((laws_toNet.f k a0_0 l0_1).bind fun bt474 => ((laws_toBusS.f k l1).bind fun t478 => ((spec_BusesValid.f k bt474.1 bt474.2 t478).bind fun t481 => ((laws_toNet.f k a0_0 l0_1).bind fun bt482 => ((laws_toBusS.f k l1).bind fun t487 => ((impl_BusesValid.f k bt482.1 bt482.2 t487).bind fun t490 => (if (t490 != t481) = true then (none) else ((laws_toNet.f k a0_0 l0_1).bind fun bt491 => ((laws_eqNet.f k bt482.1 bt482.2 bt491.1 bt491.2).bind fun t495 => (if t495 = true then ((laws_toBusS.f k l1).bind fun t496 => ((laws_eqBusS.f k t487 t496).bind fun t499 => (if t499 = true then (some true) else (none)))) else (none))))))))))))))
theorem laws_FnExactBusesValid.mono : ∀ a0 a1 a2 k, LeO (laws_FnExactBusesValid.f k a0 a1 a2) (laws_FnExactBusesValid.f (k + 1) a0 a1 a2) := by
  intro a0 a1 a2 k
  unfold laws_FnExactBusesValid.f
  repeat' first
      | (with_reducible exact impl_BusesValid.mono _ _ _ _)
      | (with_reducible exact laws_eqBusS.mono _ _ _)
      | (with_reducible exact laws_eqNet.mono _ _ _ _ _)
      | (with_reducible exact laws_toBusS.mono _ _)
      | (with_reducible exact laws_toNet.mono _ _ _)
      | (with_reducible exact spec_BusesValid.mono _ _ _ _)
      | (with_reducible exact LeO.refl _)
      | (with_reducible exact LeO.none _)
      | (with_reducible refine LeO.ite ?_ ?_)
      | (with_reducible refine LeO.bind ?_ (fun _ => ?_))
      | exact impl_BusesValid.mono _ _ _ _
      | exact laws_eqBusS.mono _ _ _
      | exact laws_eqNet.mono _ _ _ _ _
      | exact laws_toBusS.mono _ _
      | exact laws_toNet.mono _ _ _
      | exact spec_BusesValid.mono _ _ _ _
      | exact LeO.none _
      | refine LeO.ite ?_ ?_
      | refine LeO.bind ?_ (fun _ => ?_)
set_option maxHeartbeats 8000000 in
set_option maxRecDepth 100000 in
theorem laws_FnExactBusesValid.calls (k : Nat) (a0_0 : Int) (A0_1 : Option Addr) (c0_1 : Nat) (l0_1 : List (S82)) (A1 : Option Addr) (c1 : Nat) (l1 : List (S78)) (r : Bool) (w : World) (hr0_1 : Kd.C k82 w A0_1 l0_1.length l0_1) (hc0_1 : l0_1.length ≤ c0_1) (hr1 : Kd.C k78 w A1 l1.length l1) (hc1 : l1.length ≤ c1) (h : laws_FnExactBusesValid.f k a0_0 l0_1 l1 = some r) :
    Calls Try.prog 12 #[.agg #[.int .i64 a0_0, .slice A0_1 l0_1.length c0_1], .slice A1 l1.length c1] w fun e w' => e = .returned (.bool r) ∧ Below w.heap.size w w' := by
  have hu41 := Try.underlying41
  have hu46 := Try.underlying46
  have HR0_1 := Aside0.mk hr0_1
  have HC0_1 := Aside0.mk hc0_1
  clear hr0_1 hc0_1
  have HR1 := Aside0.mk hr1
  have HC1 := Aside0.mk hc1
  clear hr1 hc1
  have HB := Aside0.mk (Below.refl w.heap.size w)
  have H : ((laws_szNet.f a0_0 l0_1 1048576).bind fun t472 => (if t472 < 0 then (some true) else ((laws_szBusS.f l1 t472).bind fun t473 => (if t473 < 0 then (some true) else ((laws_toNet.f k a0_0 l0_1).bind fun bt474 => ((laws_toBusS.f k l1).bind fun t478 => ((spec_BusesValid.f k bt474.1 bt474.2 t478).bind fun t481 => ((laws_toNet.f k a0_0 l0_1).bind fun bt482 => ((laws_toBusS.f k l1).bind fun t487 => ((impl_BusesValid.f k bt482.1 bt482.2 t487).bind fun t490 => (if (t490 != t481) = true then (none) else ((laws_toNet.f k a0_0 l0_1).bind fun bt491 => ((laws_eqNet.f k bt482.1 bt482.2 bt491.1 bt491.2).bind fun t495 => (if t495 = true then ((laws_toBusS.f k l1).bind fun t496 => ((laws_eqBusS.f k t487 t496).bind fun t499 => (if t499 = true then (some true) else (none)))) else (none))))))))))))))) = some r := h
  clear h
  replace H := Option.bind_eq_some_iff.mp H
  obtain ⟨t472, A30, H⟩ := H
  replace H : (if t472 < 0 then (some true) else ((laws_szBusS.f l1 t472).bind fun t473 => (if t473 < 0 then (some true) else ((laws_toNet.f k a0_0 l0_1).bind fun bt474 => ((laws_toBusS.f k l1).bind fun t478 => ((spec_BusesValid.f k bt474.1 bt474.2 t478).bind fun t481 => ((laws_toNet.f k a0_0 l0_1).bind fun bt482 => ((laws_toBusS.f k l1).bind fun t487 => ((impl_BusesValid.f k bt482.1 bt482.2 t487).bind fun t490 => (if (t490 != t481) = true then (none) else ((laws_toNet.f k a0_0 l0_1).bind fun bt491 => ((laws_eqNet.f k bt482.1 bt482.2 bt491.1 bt491.2).bind fun t495 => (if t495 = true then ((laws_toBusS.f k l1).bind fun t496 => ((laws_eqBusS.f k t487 t496).bind fun t499 => (if t499 = true then (some true) else (none)))) else (none)))))))))))))) = some r := H
  have A3 := Aside0.mk A30
  clear A30
  by_cases c4 : t472 < 0
  · rw [if_pos c4] at H
    have c4b0 : decide (t472 < 0) = true := decide_eq_true c4
    clear c4
    obtain rfl := Option.some.inj H
    go_enter Try.func12, Try.ntmps12
    go_wp2_with (first | ((with_reducible refine gate_dst (N := 2) rfl ?_); refine box_event ?hg (N := 2) ?hd (cs := #[.int .i64 a0_0, .slice A0_1 l0_1.length c0_1]) (t := 41) ?hr ?_; (case hd => rfl); (case hg => rfl); (case hr => first | (go_simp; done) | (go_simp; rfl)); intro gb471 hg w5 hbox hb; have n0_ := Aside0.mk (below_step (by repeat (first | (with_reducible first | exact HB.out | apply below_alloc | apply pw_below_drewN | apply below_drew1) | exact HB.out)) hb); have n1_ := Aside0.mk (hbox); have n2_ := Aside0.mk ((by rw [hg]; exact (below_size (by repeat (first | (with_reducible first | exact HB.out | apply below_alloc | apply pw_below_drewN | apply below_drew1) | exact HB.out))) : w.heap.size ≤ gb471)); have n3_ := Aside0.mk ((by rw [hg]; exact (below_size (by repeat (first | (with_reducible first | exact HB.out | apply below_alloc | apply pw_below_drewN | apply below_drew1) | exact HB.out))) : w.heap.size ≤ gb471)); clear HB; have HB := n0_; have BK471 := n1_; have GW471 := n2_; have GE471 := n3_; clear n0_ n1_ n2_ n3_; clear hb hbox hg; have hcz6_0 : w5.cell? ⟨gb471, 0, none⟩ = some (.int .i64 a0_0) := (blk_cell BK471.out 0).trans rfl; have hcz6_1 : w5.cell? ⟨gb471, 1, none⟩ = some (.slice A0_1 l0_1.length c0_1) := (blk_cell BK471.out 1).trans rfl; have hfz6_0 := blk_frozen BK471.out 0; have hfz6_1 := blk_frozen BK471.out 1) | ((with_reducible refine gate_callee (f := 31) rfl ?_); refine goesL_ (some 12) rfl rfl Try.func31 (by kernel_rfl) rfl #[.agg #[.int .i64 a0_0, .slice A0_1 l0_1.length c0_1], .int .i64 1048576] rfl (by (try simp only [List.map_toArray, List.map_cons, List.map_nil]); first | done | rfl | (simp only [List.length_drop, List.length_take]; rfl)) ?_; (with_reducible refine (laws_szNet.calls a0_0 _ _ l0_1 1048576 t472 _ ?side1 ?side2 A3.out).mono ?_); (case side1 => repeat (first | exact (Kd.C_below HR0_1.out HB.out) | (with_reducible refine Kd.C_alloc ?_ _) | (with_reducible refine Kd.C_drewN ?_ _) | (with_reducible refine Kd.C_drew ?_))); (case side2 => exact HC0_1.out); rintro e w7 ⟨rfl, hb⟩; refine ⟨_, rfl, ?_⟩; have n0_ := Aside0.mk (blk_below (g := gb471) (o := .cells #[.int .i64 a0_0, .slice A0_1 l0_1.length c0_1] 41 (0, 0)) (by (with_reducible repeat (first | refine blk_drewN ?_ _ | refine blk_drew ?_ | refine blk_alloc ?_ _)); exact BK471.out) hb); have n1_ := Aside0.mk (below_step (by repeat (first | (with_reducible first | exact HB.out | apply below_alloc | apply pw_below_drewN | apply below_drew1 | refine below_set ?_ GE471.out) | exact HB.out)) hb); clear BK471; clear HB; have BK471 := n0_; have HB := n1_; clear n0_ n1_; (try clear hb); (try clear hb2); (try clear hk); (try clear hi)))
    go_ret
    exact ⟨by first | rfl | (simp [errW_none, errW_some] <;> rfl) | (simp [*, errW_none, errW_some] <;> rfl), by repeat (first | (with_reducible first | exact HB.out | apply below_alloc | apply pw_below_drewN | apply below_drew1 | refine below_set ?_ GE471.out) | exact HB.out)⟩
  · rw [if_neg c4] at H
    have c4b0 : decide (t472 < 0) = false := decide_eq_false c4
    clear c4
    replace H := Option.bind_eq_some_iff.mp H
    obtain ⟨t473, A80, H⟩ := H
    replace H : (if t473 < 0 then (some true) else ((laws_toNet.f k a0_0 l0_1).bind fun bt474 => ((laws_toBusS.f k l1).bind fun t478 => ((spec_BusesValid.f k bt474.1 bt474.2 t478).bind fun t481 => ((laws_toNet.f k a0_0 l0_1).bind fun bt482 => ((laws_toBusS.f k l1).bind fun t487 => ((impl_BusesValid.f k bt482.1 bt482.2 t487).bind fun t490 => (if (t490 != t481) = true then (none) else ((laws_toNet.f k a0_0 l0_1).bind fun bt491 => ((laws_eqNet.f k bt482.1 bt482.2 bt491.1 bt491.2).bind fun t495 => (if t495 = true then ((laws_toBusS.f k l1).bind fun t496 => ((laws_eqBusS.f k t487 t496).bind fun t499 => (if t499 = true then (some true) else (none)))) else (none)))))))))))) = some r := H
    have A8 := Aside0.mk A80
    clear A80
    by_cases c9 : t473 < 0
    · rw [if_pos c9] at H
      have c9b0 : decide (t473 < 0) = true := decide_eq_true c9
      clear c9
      obtain rfl := Option.some.inj H
      go_enter Try.func12, Try.ntmps12
      go_wp2_with (first | ((with_reducible refine gate_dst (N := 2) rfl ?_); refine box_event ?hg (N := 2) ?hd (cs := #[.int .i64 a0_0, .slice A0_1 l0_1.length c0_1]) (t := 41) ?hr ?_; (case hd => rfl); (case hg => rfl); (case hr => first | (go_simp; done) | (go_simp; rfl)); intro gb471 hg w10 hbox hb; have n0_ := Aside0.mk (below_step (by repeat (first | (with_reducible first | exact HB.out | apply below_alloc | apply pw_below_drewN | apply below_drew1) | exact HB.out)) hb); have n1_ := Aside0.mk (hbox); have n2_ := Aside0.mk ((by rw [hg]; exact (below_size (by repeat (first | (with_reducible first | exact HB.out | apply below_alloc | apply pw_below_drewN | apply below_drew1) | exact HB.out))) : w.heap.size ≤ gb471)); have n3_ := Aside0.mk ((by rw [hg]; exact (below_size (by repeat (first | (with_reducible first | exact HB.out | apply below_alloc | apply pw_below_drewN | apply below_drew1) | exact HB.out))) : w.heap.size ≤ gb471)); clear HB; have HB := n0_; have BK471 := n1_; have GW471 := n2_; have GE471 := n3_; clear n0_ n1_ n2_ n3_; clear hb hbox hg; have hcz11_0 : w10.cell? ⟨gb471, 0, none⟩ = some (.int .i64 a0_0) := (blk_cell BK471.out 0).trans rfl; have hcz11_1 : w10.cell? ⟨gb471, 1, none⟩ = some (.slice A0_1 l0_1.length c0_1) := (blk_cell BK471.out 1).trans rfl; have hfz11_0 := blk_frozen BK471.out 0; have hfz11_1 := blk_frozen BK471.out 1) | ((with_reducible refine gate_callee (f := 31) rfl ?_); refine goesL_ (some 12) rfl rfl Try.func31 (by kernel_rfl) rfl #[.agg #[.int .i64 a0_0, .slice A0_1 l0_1.length c0_1], .int .i64 1048576] rfl (by (try simp only [List.map_toArray, List.map_cons, List.map_nil]); first | done | rfl | (simp only [List.length_drop, List.length_take]; rfl)) ?_; (with_reducible refine (laws_szNet.calls a0_0 _ _ l0_1 1048576 t472 _ ?side1 ?side2 A3.out).mono ?_); (case side1 => repeat (first | exact (Kd.C_below HR0_1.out HB.out) | (with_reducible refine Kd.C_alloc ?_ _) | (with_reducible refine Kd.C_drewN ?_ _) | (with_reducible refine Kd.C_drew ?_))); (case side2 => exact HC0_1.out); rintro e w12 ⟨rfl, hb⟩; refine ⟨_, rfl, ?_⟩; have n0_ := Aside0.mk (blk_below (g := gb471) (o := .cells #[.int .i64 a0_0, .slice A0_1 l0_1.length c0_1] 41 (0, 0)) (by (with_reducible repeat (first | refine blk_drewN ?_ _ | refine blk_drew ?_ | refine blk_alloc ?_ _)); exact BK471.out) hb); have n1_ := Aside0.mk (below_step (by repeat (first | (with_reducible first | exact HB.out | apply below_alloc | apply pw_below_drewN | apply below_drew1 | refine below_set ?_ GE471.out) | exact HB.out)) hb); clear BK471; clear HB; have BK471 := n0_; have HB := n1_; clear n0_ n1_; (try clear hb); (try clear hb2); (try clear hk); (try clear hi)) | ((with_reducible refine gate_callee (f := 42) rfl ?_); refine goesL_ (some 17) rfl rfl Try.func42 (by kernel_rfl) rfl #[.slice A1 l1.length c1, .int .i64 t472] rfl (by (try simp only [List.map_toArray, List.map_cons, List.map_nil]); first | done | rfl | (simp only [List.length_drop, List.length_take]; rfl)) ?_; (with_reducible refine (laws_szBusS.calls _ _ l1 t472 t473 _ ?side1 ?side2 A8.out).mono ?_); (case side1 => repeat (first | exact (Kd.C_below HR1.out HB.out) | (with_reducible refine Kd.C_alloc ?_ _) | (with_reducible refine Kd.C_drewN ?_ _) | (with_reducible refine Kd.C_drew ?_))); (case side2 => exact HC1.out); rintro e w' ⟨rfl, ⟨nd, rfl⟩⟩; refine ⟨_, rfl, ?_⟩))
      go_ret
      exact ⟨by first | rfl | (simp [errW_none, errW_some] <;> rfl) | (simp [*, errW_none, errW_some] <;> rfl), by repeat (first | (with_reducible first | exact HB.out | apply below_alloc | apply pw_below_drewN | apply below_drew1 | refine below_set ?_ GE471.out) | exact HB.out)⟩
    · rw [if_neg c9] at H
      have c9b0 : decide (t473 < 0) = false := decide_eq_false c9
      clear c9
      replace H := Option.bind_eq_some_iff.mp H
      obtain ⟨⟨t474, t475⟩, A130, H⟩ := H
      replace H : ((laws_toBusS.f k l1).bind fun t478 => ((spec_BusesValid.f k t474 t475 t478).bind fun t481 => ((laws_toNet.f k a0_0 l0_1).bind fun bt482 => ((laws_toBusS.f k l1).bind fun t487 => ((impl_BusesValid.f k bt482.1 bt482.2 t487).bind fun t490 => (if (t490 != t481) = true then (none) else ((laws_toNet.f k a0_0 l0_1).bind fun bt491 => ((laws_eqNet.f k bt482.1 bt482.2 bt491.1 bt491.2).bind fun t495 => (if t495 = true then ((laws_toBusS.f k l1).bind fun t496 => ((laws_eqBusS.f k t487 t496).bind fun t499 => (if t499 = true then (some true) else (none)))) else (none)))))))))) = some r := H
      have A13 := Aside0.mk A130
      clear A130
      replace H := Option.bind_eq_some_iff.mp H
      obtain ⟨t478, A140, H⟩ := H
      replace H : ((spec_BusesValid.f k t474 t475 t478).bind fun t481 => ((laws_toNet.f k a0_0 l0_1).bind fun bt482 => ((laws_toBusS.f k l1).bind fun t487 => ((impl_BusesValid.f k bt482.1 bt482.2 t487).bind fun t490 => (if (t490 != t481) = true then (none) else ((laws_toNet.f k a0_0 l0_1).bind fun bt491 => ((laws_eqNet.f k bt482.1 bt482.2 bt491.1 bt491.2).bind fun t495 => (if t495 = true then ((laws_toBusS.f k l1).bind fun t496 => ((laws_eqBusS.f k t487 t496).bind fun t499 => (if t499 = true then (some true) else (none)))) else (none))))))))) = some r := H
      have A14 := Aside0.mk A140
      clear A140
      replace H := Option.bind_eq_some_iff.mp H
      obtain ⟨t481, A150, H⟩ := H
      replace H : ((laws_toNet.f k a0_0 l0_1).bind fun bt482 => ((laws_toBusS.f k l1).bind fun t487 => ((impl_BusesValid.f k bt482.1 bt482.2 t487).bind fun t490 => (if (t490 != t481) = true then (none) else ((laws_toNet.f k a0_0 l0_1).bind fun bt491 => ((laws_eqNet.f k bt482.1 bt482.2 bt491.1 bt491.2).bind fun t495 => (if t495 = true then ((laws_toBusS.f k l1).bind fun t496 => ((laws_eqBusS.f k t487 t496).bind fun t499 => (if t499 = true then (some true) else (none)))) else (none)))))))) = some r := H
      have A15 := Aside0.mk A150
      clear A150
      replace H := Option.bind_eq_some_iff.mp H
      obtain ⟨⟨t482, t483⟩, A160, H⟩ := H
      replace H : ((laws_toBusS.f k l1).bind fun t487 => ((impl_BusesValid.f k t482 t483 t487).bind fun t490 => (if (t490 != t481) = true then (none) else ((laws_toNet.f k a0_0 l0_1).bind fun bt491 => ((laws_eqNet.f k t482 t483 bt491.1 bt491.2).bind fun t495 => (if t495 = true then ((laws_toBusS.f k l1).bind fun t496 => ((laws_eqBusS.f k t487 t496).bind fun t499 => (if t499 = true then (some true) else (none)))) else (none))))))) = some r := H
      have A16 := Aside0.mk A160
      clear A160
      replace H := Option.bind_eq_some_iff.mp H
      obtain ⟨t487, A170, H⟩ := H
      replace H : ((impl_BusesValid.f k t482 t483 t487).bind fun t490 => (if (t490 != t481) = true then (none) else ((laws_toNet.f k a0_0 l0_1).bind fun bt491 => ((laws_eqNet.f k t482 t483 bt491.1 bt491.2).bind fun t495 => (if t495 = true then ((laws_toBusS.f k l1).bind fun t496 => ((laws_eqBusS.f k t487 t496).bind fun t499 => (if t499 = true then (some true) else (none)))) else (none)))))) = some r := H
      have A17 := Aside0.mk A170
      clear A170
      replace H := Option.bind_eq_some_iff.mp H
      obtain ⟨t490, A180, H⟩ := H
      replace H : (if (t490 != t481) = true then (none) else ((laws_toNet.f k a0_0 l0_1).bind fun bt491 => ((laws_eqNet.f k t482 t483 bt491.1 bt491.2).bind fun t495 => (if t495 = true then ((laws_toBusS.f k l1).bind fun t496 => ((laws_eqBusS.f k t487 t496).bind fun t499 => (if t499 = true then (some true) else (none)))) else (none))))) = some r := H
      have A18 := Aside0.mk A180
      clear A180
      by_cases c19 : (t490 != t481) = true
      · rw [if_pos c19] at H
        exact absurd H (by simp)
      · rw [if_neg c19] at H
        have c19b0 : (t490 != t481) = false := by simpa using c19
        (try (have c19b1 : decide (t490 = t481) = true := by simpa using c19))
        (try (have c19b2 : (t490 == t481) = true := by simpa using c19))
        clear c19
        replace H := Option.bind_eq_some_iff.mp H
        obtain ⟨⟨t491, t492⟩, A200, H⟩ := H
        replace H : ((laws_eqNet.f k t482 t483 t491 t492).bind fun t495 => (if t495 = true then ((laws_toBusS.f k l1).bind fun t496 => ((laws_eqBusS.f k t487 t496).bind fun t499 => (if t499 = true then (some true) else (none)))) else (none))) = some r := H
        have A20 := Aside0.mk A200
        clear A200
        replace H := Option.bind_eq_some_iff.mp H
        obtain ⟨t495, A210, H⟩ := H
        replace H : (if t495 = true then ((laws_toBusS.f k l1).bind fun t496 => ((laws_eqBusS.f k t487 t496).bind fun t499 => (if t499 = true then (some true) else (none)))) else (none)) = some r := H
        have A21 := Aside0.mk A210
        clear A210
        by_cases c22 : t495 = true
        · subst c22
          have H1 : ((laws_toBusS.f k l1).bind fun t496 => ((laws_eqBusS.f k t487 t496).bind fun t499 => (if t499 = true then (some true) else (none)))) = some r := by rw [if_pos rfl] at H; exact H
          clear H
          have H := H1
          clear H1
          replace H := Option.bind_eq_some_iff.mp H
          obtain ⟨t496, A230, H⟩ := H
          replace H : ((laws_eqBusS.f k t487 t496).bind fun t499 => (if t499 = true then (some true) else (none))) = some r := H
          have A23 := Aside0.mk A230
          clear A230
          replace H := Option.bind_eq_some_iff.mp H
          obtain ⟨t499, A240, H⟩ := H
          replace H : (if t499 = true then (some true) else (none)) = some r := H
          have A24 := Aside0.mk A240
          clear A240
          by_cases c25 : t499 = true
          · subst c25
            have H1 : (some true) = some r := by rw [if_pos rfl] at H; exact H
            clear H
            have H := H1
            clear H1
            obtain rfl := Option.some.inj H
            go_enter Try.func12, Try.ntmps12
            try go_wp2_with (first | ((with_reducible refine gate_dst (N := 2) rfl ?_); refine box_event ?hg (N := 2) ?hd (cs := #[.int .i64 a0_0, .slice A0_1 l0_1.length c0_1]) (t := 41) ?hr ?_; (case hd => rfl); (case hg => rfl); (case hr => first | (go_simp; done) | (go_simp; rfl)); intro gb471 hg w26 hbox hb; have n0_ := Aside0.mk (below_step (by repeat (first | (with_reducible first | exact HB.out | apply below_alloc | apply pw_below_drewN | apply below_drew1) | exact HB.out)) hb); have n1_ := Aside0.mk (hbox); have n2_ := Aside0.mk ((by rw [hg]; exact (below_size (by repeat (first | (with_reducible first | exact HB.out | apply below_alloc | apply pw_below_drewN | apply below_drew1) | exact HB.out))) : w.heap.size ≤ gb471)); have n3_ := Aside0.mk ((by rw [hg]; exact (below_size (by repeat (first | (with_reducible first | exact HB.out | apply below_alloc | apply pw_below_drewN | apply below_drew1) | exact HB.out))) : w.heap.size ≤ gb471)); clear HB; have HB := n0_; have BK471 := n1_; have GW471 := n2_; have GE471 := n3_; clear n0_ n1_ n2_ n3_; clear hb hbox hg; have hcz27_0 : w26.cell? ⟨gb471, 0, none⟩ = some (.int .i64 a0_0) := (blk_cell BK471.out 0).trans rfl; have hcz27_1 : w26.cell? ⟨gb471, 1, none⟩ = some (.slice A0_1 l0_1.length c0_1) := (blk_cell BK471.out 1).trans rfl; have hfz27_0 := blk_frozen BK471.out 0; have hfz27_1 := blk_frozen BK471.out 1) | ((with_reducible refine gate_callee (f := 31) rfl ?_); refine goesL_ (some 12) rfl rfl Try.func31 (by kernel_rfl) rfl #[.agg #[.int .i64 a0_0, .slice A0_1 l0_1.length c0_1], .int .i64 1048576] rfl (by (try simp only [List.map_toArray, List.map_cons, List.map_nil]); first | done | rfl | (simp only [List.length_drop, List.length_take]; rfl)) ?_; (with_reducible refine (laws_szNet.calls a0_0 _ _ l0_1 1048576 t472 _ ?side1 ?side2 A3.out).mono ?_); (case side1 => repeat (first | exact (Kd.C_below HR0_1.out HB.out) | (with_reducible refine Kd.C_alloc ?_ _) | (with_reducible refine Kd.C_drewN ?_ _) | (with_reducible refine Kd.C_drew ?_))); (case side2 => exact HC0_1.out); rintro e w28 ⟨rfl, hb⟩; refine ⟨_, rfl, ?_⟩; have n0_ := Aside0.mk (blk_below (g := gb471) (o := .cells #[.int .i64 a0_0, .slice A0_1 l0_1.length c0_1] 41 (0, 0)) (by (with_reducible repeat (first | refine blk_drewN ?_ _ | refine blk_drew ?_ | refine blk_alloc ?_ _)); exact BK471.out) hb); have n1_ := Aside0.mk (below_step (by repeat (first | (with_reducible first | exact HB.out | apply below_alloc | apply pw_below_drewN | apply below_drew1 | refine below_set ?_ GE471.out) | exact HB.out)) hb); clear BK471; clear HB; have BK471 := n0_; have HB := n1_; clear n0_ n1_; (try clear hb); (try clear hb2); (try clear hk); (try clear hi)) | ((with_reducible refine gate_callee (f := 42) rfl ?_); refine goesL_ (some 17) rfl rfl Try.func42 (by kernel_rfl) rfl #[.slice A1 l1.length c1, .int .i64 t472] rfl (by (try simp only [List.map_toArray, List.map_cons, List.map_nil]); first | done | rfl | (simp only [List.length_drop, List.length_take]; rfl)) ?_; (with_reducible refine (laws_szBusS.calls _ _ l1 t472 t473 _ ?side1 ?side2 A8.out).mono ?_); (case side1 => repeat (first | exact (Kd.C_below HR1.out HB.out) | (with_reducible refine Kd.C_alloc ?_ _) | (with_reducible refine Kd.C_drewN ?_ _) | (with_reducible refine Kd.C_drew ?_))); (case side2 => exact HC1.out); rintro e w' ⟨rfl, ⟨nd, rfl⟩⟩; refine ⟨_, rfl, ?_⟩; (try (rw [drewN_self w28]; generalize hq_ : World.drewN w28 _ = w28; have n0_ : Aside0 (w28.heap[gb471]? = some (.cells #[.int .i64 a0_0, .slice A0_1 l0_1.length c0_1] 41 (0, 0))) := ⟨by rw [← hq_]; exact (by (with_reducible repeat (first | refine blk_drewN ?_ _ | refine blk_drew ?_ | refine blk_alloc ?_ _)); exact BK471.out)⟩; have n1_ : Aside0 (Below w.heap.size w w28) := ⟨by rw [← hq_]; exact (by repeat (first | (with_reducible first | exact HB.out | apply below_alloc | apply pw_below_drewN | apply below_drew1 | refine below_set ?_ GE471.out) | exact HB.out))⟩; clear BK471 HB hq_; have BK471 := n0_; have HB := n1_; clear n0_ n1_)); have hcz29_0 : w28.cell? ⟨gb471, 0, none⟩ = some (.int .i64 a0_0) := (blk_cell BK471.out 0).trans rfl; have hcz29_1 : w28.cell? ⟨gb471, 1, none⟩ = some (.slice A0_1 l0_1.length c0_1) := (blk_cell BK471.out 1).trans rfl; have hfz29_0 := blk_frozen BK471.out 0; have hfz29_1 := blk_frozen BK471.out 1) | ((with_reducible refine gate_callee (f := 33) rfl ?_); refine goesL_ (some 21) rfl rfl Try.func33 (by kernel_rfl) rfl #[.agg #[.int .i64 a0_0, .slice A0_1 l0_1.length c0_1]] rfl (by (try simp only [List.map_toArray, List.map_cons, List.map_nil]); first | done | rfl | (simp only [List.length_drop, List.length_take]; rfl)) ?_; (with_reducible refine (laws_toNet.calls k a0_0 _ _ l0_1 t474 t475 _ ?side1 ?side2 A13.out).mono ?_); (case side1 => repeat (first | exact (Kd.C_below HR0_1.out HB.out) | (with_reducible refine Kd.C_alloc ?_ _) | (with_reducible refine Kd.C_drewN ?_ _) | (with_reducible refine Kd.C_drew ?_))); (case side2 => exact HC0_1.out); rintro e w30 ⟨v476, rfl, ho0, hb⟩; refine ⟨_, rfl, ?_⟩; have n0_ := Aside0.mk (Kd.R_lower ho0 (below_size (by repeat (first | (with_reducible first | exact HB.out | apply below_alloc | apply pw_below_drewN | apply below_drew1 | refine below_set ?_ GE471.out) | exact HB.out)))); have n1_ := Aside0.mk (blk_below (g := gb471) (o := .cells #[.int .i64 a0_0, .slice A0_1 l0_1.length c0_1] 41 (0, 0)) (by (with_reducible repeat (first | refine blk_drewN ?_ _ | refine blk_drew ?_ | refine blk_alloc ?_ _)); exact BK471.out) hb); have n2_ := Aside0.mk (below_step (by repeat (first | (with_reducible first | exact HB.out | apply below_alloc | apply pw_below_drewN | apply below_drew1 | refine below_set ?_ GE471.out) | exact HB.out)) hb); clear BK471; clear HB; have HO477 := n0_; have BK471 := n1_; have HB := n2_; clear n0_ n1_ n2_; (try clear hb); (try clear hb2); (try clear hk); (try clear hi); (try clear ho0)) | ((with_reducible refine gate_callee (f := 44) rfl ?_); refine goesL_ (some 23) rfl rfl Try.func44 (by kernel_rfl) rfl #[.slice A1 l1.length c1] rfl (by (try simp only [List.map_toArray, List.map_cons, List.map_nil]); first | done | rfl | (simp only [List.length_drop, List.length_take]; rfl)) ?_; (with_reducible refine (laws_toBusS.calls k _ _ l1 t478 _ ?side1 ?side2 A14.out).mono ?_); (case side1 => repeat (first | exact (Kd.C_below HR1.out HB.out) | (with_reducible refine Kd.C_alloc ?_ _) | (with_reducible refine Kd.C_drewN ?_ _) | (with_reducible refine Kd.C_drew ?_))); (case side2 => exact HC1.out); rintro e w31 ⟨v479, rfl, ho0, hb⟩; refine ⟨_, rfl, ?_⟩; have n0_ := Aside0.mk (Kd.R_below (by (with_reducible repeat (first | apply Kd.R_alloc | apply Kd.R_drewN | apply Kd.R_drew)); exact HO477.out) hb); have n1_ := Aside0.mk (Kd.R_lower ho0 (below_size (by repeat (first | (with_reducible first | exact HB.out | apply below_alloc | apply pw_below_drewN | apply below_drew1 | refine below_set ?_ GE471.out) | exact HB.out)))); have n2_ := Aside0.mk (blk_below (g := gb471) (o := .cells #[.int .i64 a0_0, .slice A0_1 l0_1.length c0_1] 41 (0, 0)) (by (with_reducible repeat (first | refine blk_drewN ?_ _ | refine blk_drew ?_ | refine blk_alloc ?_ _)); exact BK471.out) hb); have n3_ := Aside0.mk (below_step (by repeat (first | (with_reducible first | exact HB.out | apply below_alloc | apply pw_below_drewN | apply below_drew1 | refine below_set ?_ GE471.out) | exact HB.out)) hb); clear HO477; clear BK471; clear HB; have HO477 := n0_; have HO480 := n1_; have BK471 := n2_; have HB := n3_; clear n0_ n1_ n2_ n3_; (try clear hb); (try clear hb2); (try clear hk); (try clear hi); (try clear ho0); obtain ⟨Ao32, co32, eo32⟩ := Kd.R_slice HO477.out; subst eo32; obtain ⟨Ao33, co33, eo33⟩ := Kd.R_slice HO480.out; subst eo33) | ((with_reducible refine gate_callee (f := 43) rfl ?_); refine goesL_ (some 24) rfl rfl Try.func43 (by kernel_rfl) rfl #[.agg #[.int .i64 t474, .slice Ao32 t475.length co32], .slice Ao33 t478.length co33] rfl (by (try simp only [List.map_toArray, List.map_cons, List.map_nil]); first | done | rfl | (simp only [List.length_drop, List.length_take]; rfl)) ?_; (with_reducible refine (spec_BusesValid.calls k t474 _ _ t475 _ _ t478 t481 _ ?side1 ?side2 ?side3 ?side4 A15.out).mono ?_); (case side1 => repeat (first | exact (Kd.R_reads' HO477.out).2.2 | (with_reducible refine Kd.C_alloc ?_ _) | (with_reducible refine Kd.C_drewN ?_ _) | (with_reducible refine Kd.C_drew ?_))); (case side2 => exact (Kd.R_reads' HO477.out).2.1); (case side3 => repeat (first | exact (Kd.R_reads' HO480.out).2.2 | (with_reducible refine Kd.C_alloc ?_ _) | (with_reducible refine Kd.C_drewN ?_ _) | (with_reducible refine Kd.C_drew ?_))); (case side4 => exact (Kd.R_reads' HO480.out).2.1); rintro e w34 ⟨rfl, hb⟩; refine ⟨_, rfl, ?_⟩; have n0_ := Aside0.mk (Kd.R_below (by (with_reducible repeat (first | apply Kd.R_alloc | apply Kd.R_drewN | apply Kd.R_drew)); exact HO477.out) hb); have n1_ := Aside0.mk (Kd.R_below (by (with_reducible repeat (first | apply Kd.R_alloc | apply Kd.R_drewN | apply Kd.R_drew)); exact HO480.out) hb); have n2_ := Aside0.mk (blk_below (g := gb471) (o := .cells #[.int .i64 a0_0, .slice A0_1 l0_1.length c0_1] 41 (0, 0)) (by (with_reducible repeat (first | refine blk_drewN ?_ _ | refine blk_drew ?_ | refine blk_alloc ?_ _)); exact BK471.out) hb); have n3_ := Aside0.mk (below_step (by repeat (first | (with_reducible first | exact HB.out | apply below_alloc | apply pw_below_drewN | apply below_drew1 | refine below_set ?_ GE471.out) | exact HB.out)) hb); clear HO477; clear HO480; clear BK471; clear HB; have HO477 := n0_; have HO480 := n1_; have BK471 := n2_; have HB := n3_; clear n0_ n1_ n2_ n3_; (try clear hb); (try clear hb2); (try clear hk); (try clear hi); have hcz35_0 : w34.cell? ⟨gb471, 0, none⟩ = some (.int .i64 a0_0) := (blk_cell BK471.out 0).trans rfl; have hcz35_1 : w34.cell? ⟨gb471, 1, none⟩ = some (.slice A0_1 l0_1.length c0_1) := (blk_cell BK471.out 1).trans rfl; have hfz35_0 := blk_frozen BK471.out 0; have hfz35_1 := blk_frozen BK471.out 1) | ((with_reducible refine gate_callee (f := 33) rfl ?_); refine goesL_ (some 26) rfl rfl Try.func33 (by kernel_rfl) rfl #[.agg #[.int .i64 a0_0, .slice A0_1 l0_1.length c0_1]] rfl (by (try simp only [List.map_toArray, List.map_cons, List.map_nil]); first | done | rfl | (simp only [List.length_drop, List.length_take]; rfl)) ?_; (with_reducible refine (laws_toNet.calls k a0_0 _ _ l0_1 t482 t483 _ ?side1 ?side2 A16.out).mono ?_); (case side1 => repeat (first | exact (Kd.C_below HR0_1.out HB.out) | (with_reducible refine Kd.C_alloc ?_ _) | (with_reducible refine Kd.C_drewN ?_ _) | (with_reducible refine Kd.C_drew ?_))); (case side2 => exact HC0_1.out); rintro e w36 ⟨v484, rfl, ho0, hb⟩; refine ⟨_, rfl, ?_⟩; have n0_ := Aside0.mk (Kd.R_elder' (by (with_reducible repeat (first | apply Kd.R_alloc | apply Kd.R_drewN | apply Kd.R_drew)); exact HO477.out) (Kd.R_base ho0) hb); have n1_ := Aside0.mk (Kd.R_below (by (with_reducible repeat (first | apply Kd.R_alloc | apply Kd.R_drewN | apply Kd.R_drew)); exact HO480.out) hb); have n2_ := Aside0.mk (Kd.R_lower (Kd.R_new' ho0 (Kd.R_lt (by (with_reducible repeat (first | apply Kd.R_alloc | apply Kd.R_drewN | apply Kd.R_drew)); exact HO477.out))) (below_size (by repeat (first | (with_reducible first | exact HB.out | apply below_alloc | apply pw_below_drewN | apply below_drew1 | refine below_set ?_ GE471.out) | exact HB.out)))); have n3_ := Aside0.mk (blk_below (g := gb471) (o := .cells #[.int .i64 a0_0, .slice A0_1 l0_1.length c0_1] 41 (0, 0)) (by (with_reducible repeat (first | refine blk_drewN ?_ _ | refine blk_drew ?_ | refine blk_alloc ?_ _)); exact BK471.out) hb); have n4_ := Aside0.mk (below_step (by repeat (first | (with_reducible first | exact HB.out | apply below_alloc | apply pw_below_drewN | apply below_drew1 | refine below_set ?_ GE471.out) | exact HB.out)) hb); clear HO477; clear HO480; clear BK471; clear HB; have HO477 := n0_; have HO480 := n1_; have HO485 := n2_; have BK471 := n3_; have HB := n4_; clear n0_ n1_ n2_ n3_ n4_; (try clear hb); (try clear hb2); (try clear hk); (try clear hi); (try clear ho0)) | ((with_reducible refine gate_dst (N := 7) rfl ?_); refine box_event ?hg (N := 7) ?hd (cs := #[.int .i64 0, .slice none 0 0]) (t := 46) ?hr ?_; (case hd => rfl); (case hg => rfl); (case hr => first | (go_simp; done) | (go_simp; rfl)); intro gb486 hg w37 hbox hb; have n0_ := Aside0.mk (Kd.R_below (by (with_reducible repeat (first | apply Kd.R_alloc | apply Kd.R_drewN | apply Kd.R_drew)); exact HO477.out) hb); have n1_ := Aside0.mk (Kd.R_below (by (with_reducible repeat (first | apply Kd.R_alloc | apply Kd.R_drewN | apply Kd.R_drew)); exact HO480.out) hb); have n2_ := Aside0.mk (Kd.R_below (by (with_reducible repeat (first | apply Kd.R_alloc | apply Kd.R_drewN | apply Kd.R_drew)); exact HO485.out) hb); have n3_ := Aside0.mk (blk_below (g := gb471) (o := .cells #[.int .i64 a0_0, .slice A0_1 l0_1.length c0_1] 41 (0, 0)) (by (with_reducible repeat (first | refine blk_drewN ?_ _ | refine blk_drew ?_ | refine blk_alloc ?_ _)); exact BK471.out) hb); have n4_ := Aside0.mk (below_step (by repeat (first | (with_reducible first | exact HB.out | apply below_alloc | apply pw_below_drewN | apply below_drew1 | refine below_set ?_ GE471.out) | exact HB.out)) hb); have n5_ := Aside0.mk (hbox); have n6_ := Aside0.mk ((by rw [hg]; exact (below_size (by repeat (first | (with_reducible first | exact HB.out | apply below_alloc | apply pw_below_drewN | apply below_drew1 | refine below_set ?_ GE471.out) | exact HB.out))) : w.heap.size ≤ gb486)); have n7_ := Aside0.mk ((by rw [hg]; exact (below_size (by repeat (first | (with_reducible first | exact HB.out | apply below_alloc | apply pw_below_drewN | apply below_drew1 | refine below_set ?_ GE471.out) | exact HB.out))) : w.heap.size ≤ gb486)); have n8_ := Aside0.mk ((by rw [hg]; exact Nat.ne_of_lt (blk_lt (g := gb471) (o := .cells #[.int .i64 a0_0, .slice A0_1 l0_1.length c0_1] 41 (0, 0)) (by (with_reducible repeat (first | refine blk_drewN ?_ _ | refine blk_drew ?_ | refine blk_alloc ?_ _)); exact BK471.out)) : gb471 ≠ gb486)); have n9_ := Aside0.mk ((by rw [hg]; exact Nat.ne_of_gt (blk_lt (g := gb471) (o := .cells #[.int .i64 a0_0, .slice A0_1 l0_1.length c0_1] 41 (0, 0)) (by (with_reducible repeat (first | refine blk_drewN ?_ _ | refine blk_drew ?_ | refine blk_alloc ?_ _)); exact BK471.out)) : gb486 ≠ gb471)); clear HO477; clear HO480; clear HO485; clear BK471; clear HB; have HO477 := n0_; have HO480 := n1_; have HO485 := n2_; have BK471 := n3_; have HB := n4_; have BK486 := n5_; have GW486 := n6_; have GE486 := n7_; have NB471_486 := n8_; have NB486_471 := n9_; clear n0_ n1_ n2_ n3_ n4_ n5_ n6_ n7_ n8_ n9_; clear hb hbox hg; have hnb38 := NB486_471.out; have hnc38 := NB471_486.out; have hcz39_0 : w37.cell? ⟨gb486, 0, none⟩ = some (.int .i64 0) := (blk_cell BK486.out 0).trans rfl; have hcz39_1 : w37.cell? ⟨gb486, 1, none⟩ = some (.slice none 0 0) := (blk_cell BK486.out 1).trans rfl; have hfz39_0 := blk_frozen BK486.out 0; have hfz39_1 := blk_frozen BK486.out 1; obtain ⟨Ao40, co40, eo40⟩ := Kd.R_slice HO485.out; subst eo40) | ((with_reducible refine gate_callee (f := 44) rfl ?_); refine goesL_ (some 28) rfl rfl Try.func44 (by kernel_rfl) rfl #[.slice A1 l1.length c1] rfl (by (try simp only [List.map_toArray, List.map_cons, List.map_nil]); first | done | rfl | (simp only [List.length_drop, List.length_take]; rfl)) ?_; (with_reducible refine (laws_toBusS.calls k _ _ l1 t487 _ ?side1 ?side2 A17.out).mono ?_); (case side1 => exact Kd.C_below HR1.out (by repeat (first | (with_reducible first | exact HB.out | apply below_alloc | apply pw_below_drewN | apply below_drew1 | refine below_set ?_ GE471.out | refine below_set ?_ GE486.out) | exact HB.out))); (case side2 => exact HC1.out); rintro e w41 ⟨v488, rfl, ho0, hb⟩; refine ⟨_, rfl, ?_⟩; have n0_ := Aside0.mk (Kd.R_below (by (with_reducible repeat (first | apply Kd.R_alloc | apply Kd.R_drewN | apply Kd.R_drew)); exact (Kd.R_mono (Kd.R_far (p := ⟨gb486, 1, none⟩) (Kd.R_far (p := ⟨gb486, 0, none⟩) (Kd.R_types HO477.out BK486.out (by decide)) (fun _ hk => hk.2) (.int .i64 t482)) (fun _ hk => hk.2) (.slice Ao40 t483.length co40)) (fun _ h_ => h_.1))) hb); have n1_ := Aside0.mk (Kd.R_elder' (by (with_reducible repeat (first | apply Kd.R_alloc | apply Kd.R_drewN | apply Kd.R_drew)); exact (Kd.R_mono (Kd.R_far (p := ⟨gb486, 1, none⟩) (Kd.R_far (p := ⟨gb486, 0, none⟩) (Kd.R_types HO480.out BK486.out (by decide)) (fun _ hk => hk.2) (.int .i64 t482)) (fun _ hk => hk.2) (.slice Ao40 t483.length co40)) (fun _ h_ => h_.1))) (Kd.R_base ho0) hb); have n2_ := Aside0.mk (Kd.R_below (by (with_reducible repeat (first | apply Kd.R_alloc | apply Kd.R_drewN | apply Kd.R_drew)); exact (Kd.R_mono (Kd.R_far (p := ⟨gb486, 1, none⟩) (Kd.R_far (p := ⟨gb486, 0, none⟩) (Kd.R_types HO485.out BK486.out (by decide)) (fun _ hk => hk.2) (.int .i64 t482)) (fun _ hk => hk.2) (.slice Ao40 t483.length co40)) (fun _ h_ => h_.1))) hb); have n3_ := Aside0.mk (Kd.R_lower (Kd.R_new' ho0 (Kd.R_lt (by (with_reducible repeat (first | apply Kd.R_alloc | apply Kd.R_drewN | apply Kd.R_drew)); exact (Kd.R_mono (Kd.R_far (p := ⟨gb486, 1, none⟩) (Kd.R_far (p := ⟨gb486, 0, none⟩) (Kd.R_types HO480.out BK486.out (by decide)) (fun _ hk => hk.2) (.int .i64 t482)) (fun _ hk => hk.2) (.slice Ao40 t483.length co40)) (fun _ h_ => h_.1))))) (below_size (by repeat (first | (with_reducible first | exact HB.out | apply below_alloc | apply pw_below_drewN | apply below_drew1 | refine below_set ?_ GE471.out | refine below_set ?_ GE486.out) | exact HB.out)))); have n4_ := Aside0.mk (blk_below (g := gb471) (o := .cells #[.int .i64 a0_0, .slice A0_1 l0_1.length c0_1] 41 (0, 0)) (by (with_reducible repeat (first | refine blk_drewN ?_ _ | refine blk_drew ?_ | refine blk_alloc ?_ _)); refine blk_far ?_ NB471_486.out _; (with_reducible repeat (first | refine blk_drewN ?_ _ | refine blk_drew ?_ | refine blk_alloc ?_ _)); refine blk_far ?_ NB471_486.out _; (with_reducible repeat (first | refine blk_drewN ?_ _ | refine blk_drew ?_ | refine blk_alloc ?_ _)); exact BK471.out) hb); have n5_ := Aside0.mk (blk_below (g := gb486) (o := .cells #[.int .i64 t482, .slice Ao40 t483.length co40] 46 (0, 0)) (by (with_reducible repeat (first | refine blk_drewN ?_ _ | refine blk_drew ?_ | refine blk_alloc ?_ _)); refine blk_put (cs := #[.int .i64 t482, .slice none 0 0]) ?_ 1 _ rfl; (with_reducible repeat (first | refine blk_drewN ?_ _ | refine blk_drew ?_ | refine blk_alloc ?_ _)); refine blk_put (cs := #[.int .i64 0, .slice none 0 0]) ?_ 0 _ rfl; (with_reducible repeat (first | refine blk_drewN ?_ _ | refine blk_drew ?_ | refine blk_alloc ?_ _)); exact BK486.out) hb); have n6_ := Aside0.mk (below_step (by repeat (first | (with_reducible first | exact HB.out | apply below_alloc | apply pw_below_drewN | apply below_drew1 | refine below_set ?_ GE471.out | refine below_set ?_ GE486.out) | exact HB.out)) hb); clear HO477; clear HO480; clear HO485; clear BK471; clear BK486; clear HB; have HO477 := n0_; have HO480 := n1_; have HO485 := n2_; have HO489 := n3_; have BK471 := n4_; have BK486 := n5_; have HB := n6_; clear n0_ n1_ n2_ n3_ n4_ n5_ n6_; (try clear hb); (try clear hb2); (try clear hk); (try clear hi); (try clear ho0); have hcz42_0 : w41.cell? ⟨gb486, 0, none⟩ = some (.int .i64 t482) := (blk_cell BK486.out 0).trans rfl; have hcz42_1 : w41.cell? ⟨gb486, 1, none⟩ = some (.slice Ao40 t483.length co40) := (blk_cell BK486.out 1).trans rfl; have hfz42_0 := blk_frozen BK486.out 0; have hfz42_1 := blk_frozen BK486.out 1; obtain ⟨Ao43, co43, eo43⟩ := Kd.R_slice HO489.out; subst eo43) | ((with_reducible refine gate_callee (f := 45) rfl ?_); refine goesL_ (some 31) rfl rfl Try.func45 (by kernel_rfl) rfl #[.agg #[.int .i64 t482, .slice Ao40 t483.length co40], .slice Ao43 t487.length co43] rfl (by (try simp only [List.map_toArray, List.map_cons, List.map_nil]); first | done | rfl | (simp only [List.length_drop, List.length_take]; rfl)) ?_; (with_reducible refine (impl_BusesValid.calls k t482 _ _ t483 _ _ t487 t490 _ ?side1 ?side2 ?side3 ?side4 A18.out).mono ?_); (case side1 => repeat (first | exact (Kd.R_reads' HO485.out).2.2 | (with_reducible refine Kd.C_alloc ?_ _) | (with_reducible refine Kd.C_drewN ?_ _) | (with_reducible refine Kd.C_drew ?_))); (case side2 => exact (Kd.R_reads' HO485.out).2.1); (case side3 => repeat (first | exact (Kd.R_reads' HO489.out).2.2 | (with_reducible refine Kd.C_alloc ?_ _) | (with_reducible refine Kd.C_drewN ?_ _) | (with_reducible refine Kd.C_drew ?_))); (case side4 => exact (Kd.R_reads' HO489.out).2.1); rintro e w44 ⟨rfl, hb⟩; refine ⟨_, rfl, ?_⟩; have n0_ := Aside0.mk (Kd.R_below (by (with_reducible repeat (first | apply Kd.R_alloc | apply Kd.R_drewN | apply Kd.R_drew)); exact HO477.out) hb); have n1_ := Aside0.mk (Kd.R_below (by (with_reducible repeat (first | apply Kd.R_alloc | apply Kd.R_drewN | apply Kd.R_drew)); exact HO480.out) hb); have n2_ := Aside0.mk (Kd.R_below (by (with_reducible repeat (first | apply Kd.R_alloc | apply Kd.R_drewN | apply Kd.R_drew)); exact HO485.out) hb); have n3_ := Aside0.mk (Kd.R_below (by (with_reducible repeat (first | apply Kd.R_alloc | apply Kd.R_drewN | apply Kd.R_drew)); exact HO489.out) hb); have n4_ := Aside0.mk (blk_below (g := gb471) (o := .cells #[.int .i64 a0_0, .slice A0_1 l0_1.length c0_1] 41 (0, 0)) (by (with_reducible repeat (first | refine blk_drewN ?_ _ | refine blk_drew ?_ | refine blk_alloc ?_ _)); exact BK471.out) hb); have n5_ := Aside0.mk (blk_below (g := gb486) (o := .cells #[.int .i64 t482, .slice Ao40 t483.length co40] 46 (0, 0)) (by (with_reducible repeat (first | refine blk_drewN ?_ _ | refine blk_drew ?_ | refine blk_alloc ?_ _)); exact BK486.out) hb); have n6_ := Aside0.mk (below_step (by repeat (first | (with_reducible first | exact HB.out | apply below_alloc | apply pw_below_drewN | apply below_drew1 | refine below_set ?_ GE471.out | refine below_set ?_ GE486.out) | exact HB.out)) hb); clear HO477; clear HO480; clear HO485; clear HO489; clear BK471; clear BK486; clear HB; have HO477 := n0_; have HO480 := n1_; have HO485 := n2_; have HO489 := n3_; have BK471 := n4_; have BK486 := n5_; have HB := n6_; clear n0_ n1_ n2_ n3_ n4_ n5_ n6_; (try clear hb); (try clear hb2); (try clear hk); (try clear hi)))
            have n0_ := Aside0.mk (Kd.R_drew HO477.out)
            have n1_ := Aside0.mk (Kd.R_drew HO480.out)
            have n2_ := Aside0.mk (Kd.R_drew HO485.out)
            have n3_ := Aside0.mk (Kd.R_drew HO489.out)
            have n4_ := Aside0.mk (blk_drew BK471.out)
            have n5_ := Aside0.mk (blk_drew BK486.out)
            have n6_ := Aside0.mk (below_drew1 HB.out)
            clear HO477
            clear HO480
            clear HO485
            clear HO489
            clear BK471
            clear BK486
            clear HB
            have HO477 := n0_
            have HO480 := n1_
            have HO485 := n2_
            have HO489 := n3_
            have BK471 := n4_
            have BK486 := n5_
            have HB := n6_
            clear n0_ n1_ n2_ n3_ n4_ n5_ n6_
            refine start_ (n := 5) (S := fun w' => w'.cell? ⟨gb486, 0, none⟩ = some (.int .i64 t482) ∧ w'.cell? ⟨gb486, 1, none⟩ = some (.slice Ao40 t483.length co40) ∧ w'.cell? ⟨gb471, 0, none⟩ = some (.int .i64 a0_0) ∧ w'.cell? ⟨gb471, 1, none⟩ = some (.slice A0_1 l0_1.length c0_1)) (ds := []) #[false, false, false, false, false] (by kernel_rfl) rfl rfl ⟨(blk_cell BK486.out 0).trans rfl, (blk_cell BK486.out 1).trans rfl, (blk_cell BK471.out 0).trans rfl, (blk_cell BK471.out 1).trans rfl⟩ (fun hHeld => ?_)
            generalize w44.drew = w45 at HO477 HO480 HO485 HO489 BK471 BK486 HB hHeld ⊢
            refine take_ (i := 0) (N := some 35) (v := ?_) (a' := ?_) #[true, false, false, false, false] rfl rfl (by kernel_rfl) (fun _ _ _ h => h) (Or.inl ⟨by rfl, ?_⟩) hHeld ?_ ?_
            rotate_left
            · rintro w' ⟨s0, s1, s2, s3⟩
              go_simp
              with_reducible rfl
            rotate_left
            · simp only [Act.put, List.setIfInBounds_toArray, List.set_cons_zero, List.set_cons_succ, i64_w, i32_w]
              rfl
            refine take_ (i := 1) (N := some 36) (v := ?_) (a' := ?_) #[true, true, false, false, false] rfl rfl (by kernel_rfl) (fun _ _ _ h => h) (Or.inl ⟨by rfl, ?_⟩) hHeld ?_ ?_
            rotate_left
            · rintro w' ⟨s0, s1, s2, s3⟩
              go_simp
              with_reducible rfl
            rotate_left
            · simp only [Act.put, List.setIfInBounds_toArray, List.set_cons_zero, List.set_cons_succ, i64_w, i32_w]
              rfl
            refine one_ (i := 2) (N := some 37) #[true, true, true, false, false] rfl rfl (by kernel_rfl) (by decide) (fun K hK => ?_)
            refine goes_ Try.func33 (by kernel_rfl) rfl #[.agg #[.int .i64 a0_0, .slice A0_1 l0_1.length c0_1]] (by rfl) rfl rfl (by (try simp only [List.map_toArray, List.map_cons, List.map_nil]); first | done | rfl | (simp only [List.length_drop, List.length_take]; rfl)) ?_
            with_reducible refine (laws_toNet.calls k a0_0 _ _ l0_1 t491 t492 _ ?side1 ?side2 A20.out).mono ?_
            (case side1 => repeat (first | exact (Kd.C_below HR0_1.out HB.out) | (with_reducible refine Kd.C_alloc ?_ _) | (with_reducible refine Kd.C_drewN ?_ _) | (with_reducible refine Kd.C_drew ?_)))
            (case side2 => exact HC0_1.out)
            rintro e w46 ⟨v493, rfl, ho0, hb⟩
            refine ⟨_, rfl, ?_⟩
            have n0_ := Aside0.mk (Kd.R_elder' (by (with_reducible repeat (first | apply Kd.R_alloc | apply Kd.R_drewN | apply Kd.R_drew)); exact HO477.out) (Kd.R_base ho0) hb)
            have n1_ := Aside0.mk (Kd.R_below (by (with_reducible repeat (first | apply Kd.R_alloc | apply Kd.R_drewN | apply Kd.R_drew)); exact HO480.out) hb)
            have n2_ := Aside0.mk (Kd.R_elder' (by (with_reducible repeat (first | apply Kd.R_alloc | apply Kd.R_drewN | apply Kd.R_drew)); exact HO485.out) (Kd.R_base ho0) hb)
            have n3_ := Aside0.mk (Kd.R_below (by (with_reducible repeat (first | apply Kd.R_alloc | apply Kd.R_drewN | apply Kd.R_drew)); exact HO489.out) hb)
            have n4_ := Aside0.mk (Kd.R_lower (Kd.R_new' (Kd.R_new' ho0 (Kd.R_lt (by (with_reducible repeat (first | apply Kd.R_alloc | apply Kd.R_drewN | apply Kd.R_drew)); exact HO477.out))) (Kd.R_lt (by (with_reducible repeat (first | apply Kd.R_alloc | apply Kd.R_drewN | apply Kd.R_drew)); exact HO485.out))) (below_size (by repeat (first | (with_reducible first | exact HB.out | apply below_alloc | apply pw_below_drewN | apply below_drew1 | refine below_set ?_ GE471.out | refine below_set ?_ GE486.out) | exact HB.out))))
            have n5_ := Aside0.mk (blk_below (g := gb471) (o := .cells #[.int .i64 a0_0, .slice A0_1 l0_1.length c0_1] 41 (0, 0)) (by (with_reducible repeat (first | refine blk_drewN ?_ _ | refine blk_drew ?_ | refine blk_alloc ?_ _)); exact BK471.out) hb)
            have n6_ := Aside0.mk (blk_below (g := gb486) (o := .cells #[.int .i64 t482, .slice Ao40 t483.length co40] 46 (0, 0)) (by (with_reducible repeat (first | refine blk_drewN ?_ _ | refine blk_drew ?_ | refine blk_alloc ?_ _)); exact BK486.out) hb)
            have n7_ := Aside0.mk (below_step (by repeat (first | (with_reducible first | exact HB.out | apply below_alloc | apply pw_below_drewN | apply below_drew1 | refine below_set ?_ GE471.out | refine below_set ?_ GE486.out) | exact HB.out)) hb)
            clear HO477
            clear HO480
            clear HO485
            clear HO489
            clear BK471
            clear BK486
            clear HB
            have HO477 := n0_
            have HO480 := n1_
            have HO485 := n2_
            have HO489 := n3_
            have HO494 := n4_
            have BK471 := n5_
            have BK486 := n6_
            have HB := n7_
            clear n0_ n1_ n2_ n3_ n4_ n5_ n6_ n7_
            (try clear hb)
            (try clear hb2)
            (try clear hk)
            (try clear hi)
            (try clear ho0)
            obtain ⟨Ao47, co47, eo47⟩ := Kd.R_slice HO494.out
            (first | subst eo47 | (injection eo47 with f1_ f2_ f3_; have f4_ := f1_.symm; have f5_ := f3_.symm; clear f1_ f2_ f3_; subst f4_; subst f5_))
            refine hK.out _ _ ⟨(blk_cell BK486.out 0).trans rfl, (blk_cell BK486.out 1).trans rfl, (blk_cell BK471.out 0).trans rfl, (blk_cell BK471.out 1).trans rfl⟩ (fun hHeld => ?_)
            clear hK K
            refine norm_ (a' := ?_) ?_ ?_
            rotate_left
            · show Act.put _ (some 37) _ = _
              simp only [Act.put, List.setIfInBounds_toArray, List.set_cons_zero, List.set_cons_succ, i64_w, i32_w]
              rfl
            refine one_ (i := 3) (N := some 38) #[true, true, true, true, false] rfl rfl (by kernel_rfl) (by decide) (fun K hK => ?_)
            refine goes_ Try.func35 (by kernel_rfl) rfl #[.agg #[.int .i64 t482, .slice Ao40 t483.length co40], .agg #[.int .i64 t491, .slice Ao47 t492.length co47]] (by rfl) rfl rfl (by (try simp only [List.map_toArray, List.map_cons, List.map_nil]); first | done | rfl | (simp only [List.length_drop, List.length_take]; rfl)) ?_
            with_reducible refine (laws_eqNet.calls k t482 _ _ t483 t491 _ _ t492 true _ ?side1 ?side2 ?side3 ?side4 A21.out).mono ?_
            (case side1 => repeat (first | exact (Kd.R_reads' HO485.out).2.2 | (with_reducible refine Kd.C_alloc ?_ _) | (with_reducible refine Kd.C_drewN ?_ _) | (with_reducible refine Kd.C_drew ?_)))
            (case side2 => exact (Kd.R_reads' HO485.out).2.1)
            (case side3 => repeat (first | exact (Kd.R_reads' HO494.out).2.2 | (with_reducible refine Kd.C_alloc ?_ _) | (with_reducible refine Kd.C_drewN ?_ _) | (with_reducible refine Kd.C_drew ?_)))
            (case side4 => exact (Kd.R_reads' HO494.out).2.1)
            rintro e w48 ⟨rfl, hb⟩
            refine ⟨_, rfl, ?_⟩
            have n0_ := Aside0.mk (Kd.R_below (by (with_reducible repeat (first | apply Kd.R_alloc | apply Kd.R_drewN | apply Kd.R_drew)); exact HO477.out) hb)
            have n1_ := Aside0.mk (Kd.R_below (by (with_reducible repeat (first | apply Kd.R_alloc | apply Kd.R_drewN | apply Kd.R_drew)); exact HO480.out) hb)
            have n2_ := Aside0.mk (Kd.R_below (by (with_reducible repeat (first | apply Kd.R_alloc | apply Kd.R_drewN | apply Kd.R_drew)); exact HO485.out) hb)
            have n3_ := Aside0.mk (Kd.R_below (by (with_reducible repeat (first | apply Kd.R_alloc | apply Kd.R_drewN | apply Kd.R_drew)); exact HO489.out) hb)
            have n4_ := Aside0.mk (Kd.R_below (by (with_reducible repeat (first | apply Kd.R_alloc | apply Kd.R_drewN | apply Kd.R_drew)); exact HO494.out) hb)
            have n5_ := Aside0.mk (blk_below (g := gb471) (o := .cells #[.int .i64 a0_0, .slice A0_1 l0_1.length c0_1] 41 (0, 0)) (by (with_reducible repeat (first | refine blk_drewN ?_ _ | refine blk_drew ?_ | refine blk_alloc ?_ _)); exact BK471.out) hb)
            have n6_ := Aside0.mk (blk_below (g := gb486) (o := .cells #[.int .i64 t482, .slice Ao40 t483.length co40] 46 (0, 0)) (by (with_reducible repeat (first | refine blk_drewN ?_ _ | refine blk_drew ?_ | refine blk_alloc ?_ _)); exact BK486.out) hb)
            have n7_ := Aside0.mk (below_step (by repeat (first | (with_reducible first | exact HB.out | apply below_alloc | apply pw_below_drewN | apply below_drew1 | refine below_set ?_ GE471.out | refine below_set ?_ GE486.out) | exact HB.out)) hb)
            clear HO477
            clear HO480
            clear HO485
            clear HO489
            clear HO494
            clear BK471
            clear BK486
            clear HB
            have HO477 := n0_
            have HO480 := n1_
            have HO485 := n2_
            have HO489 := n3_
            have HO494 := n4_
            have BK471 := n5_
            have BK486 := n6_
            have HB := n7_
            clear n0_ n1_ n2_ n3_ n4_ n5_ n6_ n7_
            (try clear hb)
            (try clear hb2)
            (try clear hk)
            (try clear hi)
            refine hK.out _ _ ⟨(blk_cell BK486.out 0).trans rfl, (blk_cell BK486.out 1).trans rfl, (blk_cell BK471.out 0).trans rfl, (blk_cell BK471.out 1).trans rfl⟩ (fun hHeld => ?_)
            clear hK K
            refine norm_ (a' := ?_) ?_ ?_
            rotate_left
            · show Act.put _ (some 38) _ = _
              simp only [Act.put, List.setIfInBounds_toArray, List.set_cons_zero, List.set_cons_succ, i64_w, i32_w]
              rfl
            refine pure_ (i := 4) (N := some 39) (v := ?_) (a' := ?_) #[true, true, true, true, true] rfl rfl (by kernel_rfl) (fun _ _ _ h => h) (Or.inl ⟨by rfl, ?_⟩) ?_ ?_
            rotate_left
            · intro w'
              go_simp
              with_reducible rfl
            rotate_left
            · simp only [Act.put, List.setIfInBounds_toArray, List.set_cons_zero, List.set_cons_succ, i64_w, i32_w]
              rfl
            refine done_ (by kernel_rfl) ?_
            try go_wp2_with (first | ((with_reducible refine gate_callee (f := 44) rfl ?_); refine goesL_ (some 42) rfl rfl Try.func44 (by kernel_rfl) rfl #[.slice A1 l1.length c1] rfl (by (try simp only [List.map_toArray, List.map_cons, List.map_nil]); first | done | rfl | (simp only [List.length_drop, List.length_take]; rfl)) ?_; (with_reducible refine (laws_toBusS.calls k _ _ l1 t496 _ ?side1 ?side2 A23.out).mono ?_); (case side1 => repeat (first | exact (Kd.C_below HR1.out HB.out) | (with_reducible refine Kd.C_alloc ?_ _) | (with_reducible refine Kd.C_drewN ?_ _) | (with_reducible refine Kd.C_drew ?_))); (case side2 => exact HC1.out); rintro e w49 ⟨v497, rfl, ho0, hb⟩; refine ⟨_, rfl, ?_⟩; have n0_ := Aside0.mk (Kd.R_below (by (with_reducible repeat (first | apply Kd.R_alloc | apply Kd.R_drewN | apply Kd.R_drew)); exact HO477.out) hb); have n1_ := Aside0.mk (Kd.R_elder' (by (with_reducible repeat (first | apply Kd.R_alloc | apply Kd.R_drewN | apply Kd.R_drew)); exact HO480.out) (Kd.R_base ho0) hb); have n2_ := Aside0.mk (Kd.R_below (by (with_reducible repeat (first | apply Kd.R_alloc | apply Kd.R_drewN | apply Kd.R_drew)); exact HO485.out) hb); have n3_ := Aside0.mk (Kd.R_elder' (by (with_reducible repeat (first | apply Kd.R_alloc | apply Kd.R_drewN | apply Kd.R_drew)); exact HO489.out) (Kd.R_base ho0) hb); have n4_ := Aside0.mk (Kd.R_below (by (with_reducible repeat (first | apply Kd.R_alloc | apply Kd.R_drewN | apply Kd.R_drew)); exact HO494.out) hb); have n5_ := Aside0.mk (Kd.R_lower (Kd.R_new' (Kd.R_new' ho0 (Kd.R_lt (by (with_reducible repeat (first | apply Kd.R_alloc | apply Kd.R_drewN | apply Kd.R_drew)); exact HO480.out))) (Kd.R_lt (by (with_reducible repeat (first | apply Kd.R_alloc | apply Kd.R_drewN | apply Kd.R_drew)); exact HO489.out))) (below_size (by repeat (first | (with_reducible first | exact HB.out | apply below_alloc | apply pw_below_drewN | apply below_drew1 | refine below_set ?_ GE471.out | refine below_set ?_ GE486.out) | exact HB.out)))); have n6_ := Aside0.mk (blk_below (g := gb471) (o := .cells #[.int .i64 a0_0, .slice A0_1 l0_1.length c0_1] 41 (0, 0)) (by (with_reducible repeat (first | refine blk_drewN ?_ _ | refine blk_drew ?_ | refine blk_alloc ?_ _)); exact BK471.out) hb); have n7_ := Aside0.mk (blk_below (g := gb486) (o := .cells #[.int .i64 t482, .slice Ao40 t483.length co40] 46 (0, 0)) (by (with_reducible repeat (first | refine blk_drewN ?_ _ | refine blk_drew ?_ | refine blk_alloc ?_ _)); exact BK486.out) hb); have n8_ := Aside0.mk (below_step (by repeat (first | (with_reducible first | exact HB.out | apply below_alloc | apply pw_below_drewN | apply below_drew1 | refine below_set ?_ GE471.out | refine below_set ?_ GE486.out) | exact HB.out)) hb); clear HO477; clear HO480; clear HO485; clear HO489; clear HO494; clear BK471; clear BK486; clear HB; have HO477 := n0_; have HO480 := n1_; have HO485 := n2_; have HO489 := n3_; have HO494 := n4_; have HO498 := n5_; have BK471 := n6_; have BK486 := n7_; have HB := n8_; clear n0_ n1_ n2_ n3_ n4_ n5_ n6_ n7_ n8_; (try clear hb); (try clear hb2); (try clear hk); (try clear hi); (try clear ho0); obtain ⟨Ao50, co50, eo50⟩ := Kd.R_slice HO498.out; subst eo50) | ((with_reducible refine gate_callee (f := 46) rfl ?_); refine goesL_ (some 43) rfl rfl Try.func46 (by kernel_rfl) rfl #[.slice Ao43 t487.length co43, .slice Ao50 t496.length co50] rfl (by (try simp only [List.map_toArray, List.map_cons, List.map_nil]); first | done | rfl | (simp only [List.length_drop, List.length_take]; rfl)) ?_; (with_reducible refine (laws_eqBusS.calls k _ _ t487 _ _ t496 true _ ?side1 ?side2 ?side3 ?side4 A24.out).mono ?_); (case side1 => repeat (first | exact (Kd.R_reads' HO489.out).2.2 | (with_reducible refine Kd.C_alloc ?_ _) | (with_reducible refine Kd.C_drewN ?_ _) | (with_reducible refine Kd.C_drew ?_))); (case side2 => exact (Kd.R_reads' HO489.out).2.1); (case side3 => repeat (first | exact (Kd.R_reads' HO498.out).2.2 | (with_reducible refine Kd.C_alloc ?_ _) | (with_reducible refine Kd.C_drewN ?_ _) | (with_reducible refine Kd.C_drew ?_))); (case side4 => exact (Kd.R_reads' HO498.out).2.1); rintro e w51 ⟨rfl, hb⟩; refine ⟨_, rfl, ?_⟩; have n0_ := Aside0.mk (Kd.R_below (by (with_reducible repeat (first | apply Kd.R_alloc | apply Kd.R_drewN | apply Kd.R_drew)); exact HO477.out) hb); have n1_ := Aside0.mk (Kd.R_below (by (with_reducible repeat (first | apply Kd.R_alloc | apply Kd.R_drewN | apply Kd.R_drew)); exact HO480.out) hb); have n2_ := Aside0.mk (Kd.R_below (by (with_reducible repeat (first | apply Kd.R_alloc | apply Kd.R_drewN | apply Kd.R_drew)); exact HO485.out) hb); have n3_ := Aside0.mk (Kd.R_below (by (with_reducible repeat (first | apply Kd.R_alloc | apply Kd.R_drewN | apply Kd.R_drew)); exact HO489.out) hb); have n4_ := Aside0.mk (Kd.R_below (by (with_reducible repeat (first | apply Kd.R_alloc | apply Kd.R_drewN | apply Kd.R_drew)); exact HO494.out) hb); have n5_ := Aside0.mk (Kd.R_below (by (with_reducible repeat (first | apply Kd.R_alloc | apply Kd.R_drewN | apply Kd.R_drew)); exact HO498.out) hb); have n6_ := Aside0.mk (blk_below (g := gb471) (o := .cells #[.int .i64 a0_0, .slice A0_1 l0_1.length c0_1] 41 (0, 0)) (by (with_reducible repeat (first | refine blk_drewN ?_ _ | refine blk_drew ?_ | refine blk_alloc ?_ _)); exact BK471.out) hb); have n7_ := Aside0.mk (blk_below (g := gb486) (o := .cells #[.int .i64 t482, .slice Ao40 t483.length co40] 46 (0, 0)) (by (with_reducible repeat (first | refine blk_drewN ?_ _ | refine blk_drew ?_ | refine blk_alloc ?_ _)); exact BK486.out) hb); have n8_ := Aside0.mk (below_step (by repeat (first | (with_reducible first | exact HB.out | apply below_alloc | apply pw_below_drewN | apply below_drew1 | refine below_set ?_ GE471.out | refine below_set ?_ GE486.out) | exact HB.out)) hb); clear HO477; clear HO480; clear HO485; clear HO489; clear HO494; clear HO498; clear BK471; clear BK486; clear HB; have HO477 := n0_; have HO480 := n1_; have HO485 := n2_; have HO489 := n3_; have HO494 := n4_; have HO498 := n5_; have BK471 := n6_; have BK486 := n7_; have HB := n8_; clear n0_ n1_ n2_ n3_ n4_ n5_ n6_ n7_ n8_; (try clear hb); (try clear hb2); (try clear hk); (try clear hi)))
            go_ret
            exact ⟨by first | rfl | (simp [errW_none, errW_some] <;> rfl) | (simp [*, errW_none, errW_some] <;> rfl), by repeat (first | (with_reducible first | exact HB.out | apply below_alloc | apply pw_below_drewN | apply below_drew1 | refine below_set ?_ GE471.out | refine below_set ?_ GE486.out) | exact HB.out)⟩
          · replace c25 := Bool.eq_false_iff.mpr c25
            subst c25
            have H1 : (none) = some r := by rw [if_neg (show ¬ (false = true) by decide)] at H; exact H
            clear H
            have H := H1
            clear H1
            exact absurd H (by simp)
        · replace c22 := Bool.eq_false_iff.mpr c22
          subst c22
          have H1 : (none) = some r := by rw [if_neg (show ¬ (false = true) by decide)] at H; exact H
          clear H
          have H := H1
          clear H1
          exact absurd H (by simp)

end Go.Proofs.Ytcchhgpdallpmaa.P

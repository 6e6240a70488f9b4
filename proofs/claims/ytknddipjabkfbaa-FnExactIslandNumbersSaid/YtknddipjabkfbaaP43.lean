/- Contracts of Go functions of this seat's translation, written by this repo's wip/mk.py: it calls the kit's print.py with contracts typed by hand in place of functions that it does not take. Not trusted: Lean checks it. -/
import Derived.Test.YtknddipjabkfbaaP0
import Derived.Test.YtknddipjabkfbaaP2
import Derived.Test.YtknddipjabkfbaaP12
import Derived.Test.YtknddipjabkfbaaP13
import Derived.Test.YtknddipjabkfbaaP25
import Derived.Test.YtknddipjabkfbaaP26
import Derived.Test.YtknddipjabkfbaaP35
import Derived.Test.YtknddipjabkfbaaP36
import Derived.Test.YtknddipjabkfbaaP37
import Derived.Test.YtknddipjabkfbaaP39
import Derived.Test.YtknddipjabkfbaaP40
import Derived.Test.YtknddipjabkfbaaP41
import Derived.Test.YtknddipjabkfbaaP42
namespace Go.Proofs.Ytknddipjabkfbaa.P
open Go.RowKit Go.Proofs.YtknddipjabkfbaaW.PrintWords Go.Proofs.YtknddipjabkfbaaW.PrintLast Go.Proofs.YtknddipjabkfbaaW.PrintMore
attribute [local go_sem] max2_int min2_int max_two min_two max_three min_three max_four min_four   -- for this text's walks alone
set_option linter.unusedVariables false
set_option linter.unusedSimpArgs false

/-! ### laws_FnExactIslandNumbers: function 5 -/
def laws_FnExactIslandNumbers.j0 : Nat → List Bool → List Int → List Int → Bool → Int → List (S91) → Option (Bool)
  | 0, _, _, _, _, _, _ => none
  | k + 1, x1, x6, x9, x61, x360000, x360001 => if x61 = true then (none) else ((laws_markIntS.f k x9 1).bind fun bt397 => ((laws_heldIntS.f k bt397.2 1).bind fun t399 => (if t399 < 0 then (none) else (if t399 = bt397.1 then ((laws_toNet.f k x360000 x360001).bind fun bt400 => ((laws_toBoolS.f k x1).bind fun t404 => ((impl_IslandNumbers.f k bt400.1 bt400.2 t404).bind fun t407 => ((laws_eqIntS.f k t407 x6).bind fun t410 => (if t410 = true then ((laws_heldIntS.f k bt397.2 1).bind fun t411 => (if t411 < 0 then (none) else (if t411 = bt397.1 then (some true) else (none)))) else (none)))))) else (none)))))
def laws_FnExactIslandNumbers.f (k : Nat) (a0_0 : Int) (l0_1 : List (S91)) (l1 : List Bool) : Option (Bool) := if (l1.length : Int) > 1048576 then (some true) else ((laws_szNet.f a0_0 l0_1 1048576).bind fun t360 => (if t360 < 0 then (some true) else ((laws_toNet.f k a0_0 l0_1).bind fun bt361 => ((laws_toBoolS.f k l1).bind fun t365 => ((spec_IslandNumbers.f k bt361.1 bt361.2 t365).bind fun t368 => ((laws_toNet.f k a0_0 l0_1).bind fun bt371 => ((laws_toBoolS.f k l1).bind fun t376 => ((impl_IslandNumbers.f k bt371.1 bt371.2 t376).bind fun t379 => ((laws_eqIntS.f k t379 t368).bind fun t382 => (if t382 = true then ((laws_toNet.f k a0_0 l0_1).bind fun bt383 => ((laws_eqNet.f k bt371.1 bt371.2 bt383.1 bt383.2).bind fun t387 => (if t387 = true then ((laws_toBoolS.f k l1).bind fun t388 => ((laws_eqBoolS.f k t376 t388).bind fun t391 => (if t391 = true then ((laws_markNet.f k bt371.1 bt371.2 1).bind fun bt392 => ((laws_markBoolS.f k t376 bt392.1).bind fun bt394 => (if bt394.1 < 0 then (laws_FnExactIslandNumbers.j0 k l1 t368 t379 true a0_0 l0_1) else ((laws_eqIntS.f k t379 t368).bind fun t396 => (laws_FnExactIslandNumbers.j0 k l1 t368 t379 (!t396) a0_0 l0_1))))) else (none)))) else (none)))) else (none)))))))))))
theorem laws_FnExactIslandNumbers.mono_l : ∀ k, (∀ y0 y1 y2 y3 y4 y5, LeO (laws_FnExactIslandNumbers.j0 k y0 y1 y2 y3 y4 y5) (laws_FnExactIslandNumbers.j0 (k + 1) y0 y1 y2 y3 y4 y5))
  | 0 => fun _ _ _ _ _ _ r h => by simp [laws_FnExactIslandNumbers.j0] at h
  | k + 1 => by
    have ih0 := laws_FnExactIslandNumbers.mono_l k
    · intro y0 y1 y2 y3 y4 y5
      unfold laws_FnExactIslandNumbers.j0
      repeat' first
      | (with_reducible exact ih0 _ _ _ _ _ _)
      | (with_reducible exact impl_IslandNumbers.mono _ _ _ _)
      | (with_reducible exact laws_eqBoolS.mono _ _ _)
      | (with_reducible exact laws_eqIntS.mono _ _ _)
      | (with_reducible exact laws_eqNet.mono _ _ _ _ _)
      | (with_reducible exact laws_heldIntS.mono _ _ _)
      | (with_reducible exact laws_markBoolS.mono _ _ _)
      | (with_reducible exact laws_markIntS.mono _ _ _)
      | (with_reducible exact laws_markNet.mono _ _ _ _)
      | (with_reducible exact laws_toBoolS.mono _ _)
      | (with_reducible exact laws_toNet.mono _ _ _)
      | (with_reducible exact spec_IslandNumbers.mono _ _ _ _)
      | (with_reducible exact LeO.refl _)
      | (with_reducible exact LeO.none _)
      | (with_reducible refine LeO.ite ?_ ?_)
      | (with_reducible refine LeO.bind ?_ (fun _ => ?_))
      | exact ih0 _ _ _ _ _ _
      | exact impl_IslandNumbers.mono _ _ _ _
      | exact laws_eqBoolS.mono _ _ _
      | exact laws_eqIntS.mono _ _ _
      | exact laws_eqNet.mono _ _ _ _ _
      | exact laws_heldIntS.mono _ _ _
      | exact laws_markBoolS.mono _ _ _
      | exact laws_markIntS.mono _ _ _
      | exact laws_markNet.mono _ _ _ _
      | exact laws_toBoolS.mono _ _
      | exact laws_toNet.mono _ _ _
      | exact spec_IslandNumbers.mono _ _ _ _
      | exact LeO.none _
      | refine LeO.ite ?_ ?_
      | refine LeO.bind ?_ (fun _ => ?_)
theorem laws_FnExactIslandNumbers.mono : ∀ a0 a1 a2 k, LeO (laws_FnExactIslandNumbers.f k a0 a1 a2) (laws_FnExactIslandNumbers.f (k + 1) a0 a1 a2) := by
  intro a0 a1 a2 k
  have ih0 := laws_FnExactIslandNumbers.mono_l k
  unfold laws_FnExactIslandNumbers.f
  repeat' first
      | (with_reducible exact ih0 _ _ _ _ _ _)
      | (with_reducible exact impl_IslandNumbers.mono _ _ _ _)
      | (with_reducible exact laws_eqBoolS.mono _ _ _)
      | (with_reducible exact laws_eqIntS.mono _ _ _)
      | (with_reducible exact laws_eqNet.mono _ _ _ _ _)
      | (with_reducible exact laws_heldIntS.mono _ _ _)
      | (with_reducible exact laws_markBoolS.mono _ _ _)
      | (with_reducible exact laws_markIntS.mono _ _ _)
      | (with_reducible exact laws_markNet.mono _ _ _ _)
      | (with_reducible exact laws_toBoolS.mono _ _)
      | (with_reducible exact laws_toNet.mono _ _ _)
      | (with_reducible exact spec_IslandNumbers.mono _ _ _ _)
      | (with_reducible exact LeO.refl _)
      | (with_reducible exact LeO.none _)
      | (with_reducible refine LeO.ite ?_ ?_)
      | (with_reducible refine LeO.bind ?_ (fun _ => ?_))
      | exact ih0 _ _ _ _ _ _
      | exact impl_IslandNumbers.mono _ _ _ _
      | exact laws_eqBoolS.mono _ _ _
      | exact laws_eqIntS.mono _ _ _
      | exact laws_eqNet.mono _ _ _ _ _
      | exact laws_heldIntS.mono _ _ _
      | exact laws_markBoolS.mono _ _ _
      | exact laws_markIntS.mono _ _ _
      | exact laws_markNet.mono _ _ _ _
      | exact laws_toBoolS.mono _ _
      | exact laws_toNet.mono _ _ _
      | exact spec_IslandNumbers.mono _ _ _ _
      | exact LeO.none _
      | refine LeO.ite ?_ ?_
      | refine LeO.bind ?_ (fun _ => ?_)
set_option maxHeartbeats 8000000 in
set_option maxRecDepth 100000 in
theorem laws_FnExactIslandNumbers.calls (k : Nat) (a0_0 : Int) (A0_1 : Option Addr) (c0_1 : Nat) (l0_1 : List (S91)) (A1 : Option Addr) (c1 : Nat) (l1 : List Bool) (r : Bool) (w : World) (hr0_1 : Kd.C k91 w A0_1 l0_1.length l0_1) (hc0_1 : l0_1.length ≤ c0_1) (hr1 : Kd.C Kd.bool w A1 l1.length l1) (hc1 : l1.length ≤ c1) (h : laws_FnExactIslandNumbers.f k a0_0 l0_1 l1 = some r) :
    Calls Try.prog 5 #[.agg #[.int .i64 a0_0, .slice A0_1 l0_1.length c0_1], .slice A1 l1.length c1] w fun e w' => e = .returned (.bool r) ∧ Below w.heap.size w w' := by
  have hu24 := Try.underlying24
  have hu30 := Try.underlying30
  have HR0_1 := Aside0.mk hr0_1
  have HC0_1 := Aside0.mk hc0_1
  clear hr0_1 hc0_1
  have HR1 := Aside0.mk hr1
  have HC1 := Aside0.mk hc1
  clear hr1 hc1
  have HB := Aside0.mk (Below.refl w.heap.size w)
  have H : (if (l1.length : Int) > 1048576 then (some true) else ((laws_szNet.f a0_0 l0_1 1048576).bind fun t360 => (if t360 < 0 then (some true) else ((laws_toNet.f k a0_0 l0_1).bind fun bt361 => ((laws_toBoolS.f k l1).bind fun t365 => ((spec_IslandNumbers.f k bt361.1 bt361.2 t365).bind fun t368 => ((laws_toNet.f k a0_0 l0_1).bind fun bt371 => ((laws_toBoolS.f k l1).bind fun t376 => ((impl_IslandNumbers.f k bt371.1 bt371.2 t376).bind fun t379 => ((laws_eqIntS.f k t379 t368).bind fun t382 => (if t382 = true then ((laws_toNet.f k a0_0 l0_1).bind fun bt383 => ((laws_eqNet.f k bt371.1 bt371.2 bt383.1 bt383.2).bind fun t387 => (if t387 = true then ((laws_toBoolS.f k l1).bind fun t388 => ((laws_eqBoolS.f k t376 t388).bind fun t391 => (if t391 = true then ((laws_markNet.f k bt371.1 bt371.2 1).bind fun bt392 => ((laws_markBoolS.f k t376 bt392.1).bind fun bt394 => (if bt394.1 < 0 then (laws_FnExactIslandNumbers.j0 k l1 t368 t379 true a0_0 l0_1) else ((laws_eqIntS.f k t379 t368).bind fun t396 => (laws_FnExactIslandNumbers.j0 k l1 t368 t379 (!t396) a0_0 l0_1))))) else (none)))) else (none)))) else (none)))))))))))) = some r := h
  clear h
  by_cases c3 : (l1.length : Int) > 1048576
  · rw [if_pos c3] at H
    have c3b0 : decide (1048576 < (l1.length : Int)) = true := decide_eq_true c3
    have c3b1 : decide (1048576 < l1.length) = true := decide_eq_true (by omega)
    clear c3
    obtain rfl := Option.some.inj H
    go_enter Try.func5, Try.ntmps5
    go_wp2_with (first | ((with_reducible refine gate_dst (N := 2) rfl ?_); refine box_event ?hg (N := 2) ?hd (cs := #[.int .i64 a0_0, .slice A0_1 l0_1.length c0_1]) (t := 24) ?hr ?_; (case hd => rfl); (case hg => rfl); (case hr => first | (go_simp; done) | (go_simp; rfl)); intro gb359 hg w4 hbox hb; have n0_ := Aside0.mk (below_step (by repeat (first | (with_reducible first | exact HB.out | apply below_alloc | apply pw_below_drewN | apply below_drew1) | exact HB.out)) hb); have n1_ := Aside0.mk (hbox); have n2_ := Aside0.mk ((by rw [hg]; exact (below_size (by repeat (first | (with_reducible first | exact HB.out | apply below_alloc | apply pw_below_drewN | apply below_drew1) | exact HB.out))) : w.heap.size ≤ gb359)); have n3_ := Aside0.mk ((by rw [hg]; exact (below_size (by repeat (first | (with_reducible first | exact HB.out | apply below_alloc | apply pw_below_drewN | apply below_drew1) | exact HB.out))) : w.heap.size ≤ gb359)); clear HB; have HB := n0_; have BK359 := n1_; have GW359 := n2_; have GE359 := n3_; clear n0_ n1_ n2_ n3_; clear hb hbox hg))
    go_ret
    exact ⟨by first | rfl | (simp [errW_none, errW_some] <;> rfl) | (simp [*, errW_none, errW_some] <;> rfl), by repeat (first | (with_reducible first | exact HB.out | apply below_alloc | apply pw_below_drewN | apply below_drew1 | refine below_set ?_ GE359.out) | exact HB.out)⟩
  · rw [if_neg c3] at H
    have c3b0 : decide (1048576 < (l1.length : Int)) = false := decide_eq_false c3
    have c3b1 : decide (1048576 < l1.length) = false := decide_eq_false (by omega)
    clear c3
    replace H := Option.bind_eq_some_iff.mp H
    obtain ⟨t360, A50, H⟩ := H
    replace H : (if t360 < 0 then (some true) else ((laws_toNet.f k a0_0 l0_1).bind fun bt361 => ((laws_toBoolS.f k l1).bind fun t365 => ((spec_IslandNumbers.f k bt361.1 bt361.2 t365).bind fun t368 => ((laws_toNet.f k a0_0 l0_1).bind fun bt371 => ((laws_toBoolS.f k l1).bind fun t376 => ((impl_IslandNumbers.f k bt371.1 bt371.2 t376).bind fun t379 => ((laws_eqIntS.f k t379 t368).bind fun t382 => (if t382 = true then ((laws_toNet.f k a0_0 l0_1).bind fun bt383 => ((laws_eqNet.f k bt371.1 bt371.2 bt383.1 bt383.2).bind fun t387 => (if t387 = true then ((laws_toBoolS.f k l1).bind fun t388 => ((laws_eqBoolS.f k t376 t388).bind fun t391 => (if t391 = true then ((laws_markNet.f k bt371.1 bt371.2 1).bind fun bt392 => ((laws_markBoolS.f k t376 bt392.1).bind fun bt394 => (if bt394.1 < 0 then (laws_FnExactIslandNumbers.j0 k l1 t368 t379 true a0_0 l0_1) else ((laws_eqIntS.f k t379 t368).bind fun t396 => (laws_FnExactIslandNumbers.j0 k l1 t368 t379 (!t396) a0_0 l0_1))))) else (none)))) else (none)))) else (none)))))))))) = some r := H
    have A5 := Aside0.mk A50
    clear A50
    by_cases c6 : t360 < 0
    · rw [if_pos c6] at H
      have c6b0 : decide (t360 < 0) = true := decide_eq_true c6
      clear c6
      obtain rfl := Option.some.inj H
      go_enter Try.func5, Try.ntmps5
      go_wp2_with (first | ((with_reducible refine gate_dst (N := 2) rfl ?_); refine box_event ?hg (N := 2) ?hd (cs := #[.int .i64 a0_0, .slice A0_1 l0_1.length c0_1]) (t := 24) ?hr ?_; (case hd => rfl); (case hg => rfl); (case hr => first | (go_simp; done) | (go_simp; rfl)); intro gb359 hg w7 hbox hb; have n0_ := Aside0.mk (below_step (by repeat (first | (with_reducible first | exact HB.out | apply below_alloc | apply pw_below_drewN | apply below_drew1) | exact HB.out)) hb); have n1_ := Aside0.mk (hbox); have n2_ := Aside0.mk ((by rw [hg]; exact (below_size (by repeat (first | (with_reducible first | exact HB.out | apply below_alloc | apply pw_below_drewN | apply below_drew1) | exact HB.out))) : w.heap.size ≤ gb359)); have n3_ := Aside0.mk ((by rw [hg]; exact (below_size (by repeat (first | (with_reducible first | exact HB.out | apply below_alloc | apply pw_below_drewN | apply below_drew1) | exact HB.out))) : w.heap.size ≤ gb359)); clear HB; have HB := n0_; have BK359 := n1_; have GW359 := n2_; have GE359 := n3_; clear n0_ n1_ n2_ n3_; clear hb hbox hg; have hcz8_0 : w7.cell? ⟨gb359, 0, none⟩ = some (.int .i64 a0_0) := (blk_cell BK359.out 0).trans rfl; have hcz8_1 : w7.cell? ⟨gb359, 1, none⟩ = some (.slice A0_1 l0_1.length c0_1) := (blk_cell BK359.out 1).trans rfl; have hfz8_0 := blk_frozen BK359.out 0; have hfz8_1 := blk_frozen BK359.out 1) | ((with_reducible refine gate_callee (f := 14) rfl ?_); refine goesL_ (some 19) rfl rfl Try.func14 (by kernel_rfl) rfl #[.agg #[.int .i64 a0_0, .slice A0_1 l0_1.length c0_1], .int .i64 1048576] rfl (by (try simp only [List.map_toArray, List.map_cons, List.map_nil]); first | done | rfl | (simp only [List.length_drop, List.length_take]; rfl)) ?_; (with_reducible refine (laws_szNet.calls a0_0 _ _ l0_1 1048576 t360 _ ?side1 ?side2 A5.out).mono ?_); (case side1 => repeat (first | exact (Kd.C_below HR0_1.out HB.out) | (with_reducible refine Kd.C_alloc ?_ _) | (with_reducible refine Kd.C_drewN ?_ _) | (with_reducible refine Kd.C_drew ?_))); (case side2 => exact HC0_1.out); rintro e w9 ⟨rfl, hb⟩; refine ⟨_, rfl, ?_⟩; have n0_ := Aside0.mk (blk_below (g := gb359) (o := .cells #[.int .i64 a0_0, .slice A0_1 l0_1.length c0_1] 24 (0, 0)) (by (with_reducible repeat (first | refine blk_drewN ?_ _ | refine blk_drew ?_ | refine blk_alloc ?_ _)); exact BK359.out) hb); have n1_ := Aside0.mk (below_step (by repeat (first | (with_reducible first | exact HB.out | apply below_alloc | apply pw_below_drewN | apply below_drew1 | refine below_set ?_ GE359.out) | exact HB.out)) hb); clear BK359; clear HB; have BK359 := n0_; have HB := n1_; clear n0_ n1_; (try clear hb); (try clear hb2); (try clear hk); (try clear hi)))
      go_ret
      exact ⟨by first | rfl | (simp [errW_none, errW_some] <;> rfl) | (simp [*, errW_none, errW_some] <;> rfl), by repeat (first | (with_reducible first | exact HB.out | apply below_alloc | apply pw_below_drewN | apply below_drew1 | refine below_set ?_ GE359.out) | exact HB.out)⟩
    · rw [if_neg c6] at H
      have c6b0 : decide (t360 < 0) = false := decide_eq_false c6
      clear c6
      replace H := Option.bind_eq_some_iff.mp H
      obtain ⟨⟨t361, t362⟩, A100, H⟩ := H
      replace H : ((laws_toBoolS.f k l1).bind fun t365 => ((spec_IslandNumbers.f k t361 t362 t365).bind fun t368 => ((laws_toNet.f k a0_0 l0_1).bind fun bt371 => ((laws_toBoolS.f k l1).bind fun t376 => ((impl_IslandNumbers.f k bt371.1 bt371.2 t376).bind fun t379 => ((laws_eqIntS.f k t379 t368).bind fun t382 => (if t382 = true then ((laws_toNet.f k a0_0 l0_1).bind fun bt383 => ((laws_eqNet.f k bt371.1 bt371.2 bt383.1 bt383.2).bind fun t387 => (if t387 = true then ((laws_toBoolS.f k l1).bind fun t388 => ((laws_eqBoolS.f k t376 t388).bind fun t391 => (if t391 = true then ((laws_markNet.f k bt371.1 bt371.2 1).bind fun bt392 => ((laws_markBoolS.f k t376 bt392.1).bind fun bt394 => (if bt394.1 < 0 then (laws_FnExactIslandNumbers.j0 k l1 t368 t379 true a0_0 l0_1) else ((laws_eqIntS.f k t379 t368).bind fun t396 => (laws_FnExactIslandNumbers.j0 k l1 t368 t379 (!t396) a0_0 l0_1))))) else (none)))) else (none)))) else (none)))))))) = some r := H
      have A10 := Aside0.mk A100
      clear A100
      replace H := Option.bind_eq_some_iff.mp H
      obtain ⟨t365, A110, H⟩ := H
      replace H : ((spec_IslandNumbers.f k t361 t362 t365).bind fun t368 => ((laws_toNet.f k a0_0 l0_1).bind fun bt371 => ((laws_toBoolS.f k l1).bind fun t376 => ((impl_IslandNumbers.f k bt371.1 bt371.2 t376).bind fun t379 => ((laws_eqIntS.f k t379 t368).bind fun t382 => (if t382 = true then ((laws_toNet.f k a0_0 l0_1).bind fun bt383 => ((laws_eqNet.f k bt371.1 bt371.2 bt383.1 bt383.2).bind fun t387 => (if t387 = true then ((laws_toBoolS.f k l1).bind fun t388 => ((laws_eqBoolS.f k t376 t388).bind fun t391 => (if t391 = true then ((laws_markNet.f k bt371.1 bt371.2 1).bind fun bt392 => ((laws_markBoolS.f k t376 bt392.1).bind fun bt394 => (if bt394.1 < 0 then (laws_FnExactIslandNumbers.j0 k l1 t368 t379 true a0_0 l0_1) else ((laws_eqIntS.f k t379 t368).bind fun t396 => (laws_FnExactIslandNumbers.j0 k l1 t368 t379 (!t396) a0_0 l0_1))))) else (none)))) else (none)))) else (none))))))) = some r := H
      have A11 := Aside0.mk A110
      clear A110
      replace H := Option.bind_eq_some_iff.mp H
      obtain ⟨t368, A120, H⟩ := H
      replace H : ((laws_toNet.f k a0_0 l0_1).bind fun bt371 => ((laws_toBoolS.f k l1).bind fun t376 => ((impl_IslandNumbers.f k bt371.1 bt371.2 t376).bind fun t379 => ((laws_eqIntS.f k t379 t368).bind fun t382 => (if t382 = true then ((laws_toNet.f k a0_0 l0_1).bind fun bt383 => ((laws_eqNet.f k bt371.1 bt371.2 bt383.1 bt383.2).bind fun t387 => (if t387 = true then ((laws_toBoolS.f k l1).bind fun t388 => ((laws_eqBoolS.f k t376 t388).bind fun t391 => (if t391 = true then ((laws_markNet.f k bt371.1 bt371.2 1).bind fun bt392 => ((laws_markBoolS.f k t376 bt392.1).bind fun bt394 => (if bt394.1 < 0 then (laws_FnExactIslandNumbers.j0 k l1 t368 t379 true a0_0 l0_1) else ((laws_eqIntS.f k t379 t368).bind fun t396 => (laws_FnExactIslandNumbers.j0 k l1 t368 t379 (!t396) a0_0 l0_1))))) else (none)))) else (none)))) else (none)))))) = some r := H
      have A12 := Aside0.mk A120
      clear A120
      replace H := Option.bind_eq_some_iff.mp H
      obtain ⟨⟨t371, t372⟩, A130, H⟩ := H
      replace H : ((laws_toBoolS.f k l1).bind fun t376 => ((impl_IslandNumbers.f k t371 t372 t376).bind fun t379 => ((laws_eqIntS.f k t379 t368).bind fun t382 => (if t382 = true then ((laws_toNet.f k a0_0 l0_1).bind fun bt383 => ((laws_eqNet.f k t371 t372 bt383.1 bt383.2).bind fun t387 => (if t387 = true then ((laws_toBoolS.f k l1).bind fun t388 => ((laws_eqBoolS.f k t376 t388).bind fun t391 => (if t391 = true then ((laws_markNet.f k t371 t372 1).bind fun bt392 => ((laws_markBoolS.f k t376 bt392.1).bind fun bt394 => (if bt394.1 < 0 then (laws_FnExactIslandNumbers.j0 k l1 t368 t379 true a0_0 l0_1) else ((laws_eqIntS.f k t379 t368).bind fun t396 => (laws_FnExactIslandNumbers.j0 k l1 t368 t379 (!t396) a0_0 l0_1))))) else (none)))) else (none)))) else (none))))) = some r := H
      have A13 := Aside0.mk A130
      clear A130
      replace H := Option.bind_eq_some_iff.mp H
      obtain ⟨t376, A140, H⟩ := H
      replace H : ((impl_IslandNumbers.f k t371 t372 t376).bind fun t379 => ((laws_eqIntS.f k t379 t368).bind fun t382 => (if t382 = true then ((laws_toNet.f k a0_0 l0_1).bind fun bt383 => ((laws_eqNet.f k t371 t372 bt383.1 bt383.2).bind fun t387 => (if t387 = true then ((laws_toBoolS.f k l1).bind fun t388 => ((laws_eqBoolS.f k t376 t388).bind fun t391 => (if t391 = true then ((laws_markNet.f k t371 t372 1).bind fun bt392 => ((laws_markBoolS.f k t376 bt392.1).bind fun bt394 => (if bt394.1 < 0 then (laws_FnExactIslandNumbers.j0 k l1 t368 t379 true a0_0 l0_1) else ((laws_eqIntS.f k t379 t368).bind fun t396 => (laws_FnExactIslandNumbers.j0 k l1 t368 t379 (!t396) a0_0 l0_1))))) else (none)))) else (none)))) else (none)))) = some r := H
      have A14 := Aside0.mk A140
      clear A140
      replace H := Option.bind_eq_some_iff.mp H
      obtain ⟨t379, A150, H⟩ := H
      replace H : ((laws_eqIntS.f k t379 t368).bind fun t382 => (if t382 = true then ((laws_toNet.f k a0_0 l0_1).bind fun bt383 => ((laws_eqNet.f k t371 t372 bt383.1 bt383.2).bind fun t387 => (if t387 = true then ((laws_toBoolS.f k l1).bind fun t388 => ((laws_eqBoolS.f k t376 t388).bind fun t391 => (if t391 = true then ((laws_markNet.f k t371 t372 1).bind fun bt392 => ((laws_markBoolS.f k t376 bt392.1).bind fun bt394 => (if bt394.1 < 0 then (laws_FnExactIslandNumbers.j0 k l1 t368 t379 true a0_0 l0_1) else ((laws_eqIntS.f k t379 t368).bind fun t396 => (laws_FnExactIslandNumbers.j0 k l1 t368 t379 (!t396) a0_0 l0_1))))) else (none)))) else (none)))) else (none))) = some r := H
      have A15 := Aside0.mk A150
      clear A150
      replace H := Option.bind_eq_some_iff.mp H
      obtain ⟨t382, A160, H⟩ := H
      replace H : (if t382 = true then ((laws_toNet.f k a0_0 l0_1).bind fun bt383 => ((laws_eqNet.f k t371 t372 bt383.1 bt383.2).bind fun t387 => (if t387 = true then ((laws_toBoolS.f k l1).bind fun t388 => ((laws_eqBoolS.f k t376 t388).bind fun t391 => (if t391 = true then ((laws_markNet.f k t371 t372 1).bind fun bt392 => ((laws_markBoolS.f k t376 bt392.1).bind fun bt394 => (if bt394.1 < 0 then (laws_FnExactIslandNumbers.j0 k l1 t368 t379 true a0_0 l0_1) else ((laws_eqIntS.f k t379 t368).bind fun t396 => (laws_FnExactIslandNumbers.j0 k l1 t368 t379 (!t396) a0_0 l0_1))))) else (none)))) else (none)))) else (none)) = some r := H
      have A16 := Aside0.mk A160
      clear A160
      by_cases c17 : t382 = true
      · subst c17
        have H1 : ((laws_toNet.f k a0_0 l0_1).bind fun bt383 => ((laws_eqNet.f k t371 t372 bt383.1 bt383.2).bind fun t387 => (if t387 = true then ((laws_toBoolS.f k l1).bind fun t388 => ((laws_eqBoolS.f k t376 t388).bind fun t391 => (if t391 = true then ((laws_markNet.f k t371 t372 1).bind fun bt392 => ((laws_markBoolS.f k t376 bt392.1).bind fun bt394 => (if bt394.1 < 0 then (laws_FnExactIslandNumbers.j0 k l1 t368 t379 true a0_0 l0_1) else ((laws_eqIntS.f k t379 t368).bind fun t396 => (laws_FnExactIslandNumbers.j0 k l1 t368 t379 (!t396) a0_0 l0_1))))) else (none)))) else (none)))) = some r := by rw [if_pos rfl] at H; exact H
        clear H
        have H := H1
        clear H1
        replace H := Option.bind_eq_some_iff.mp H
        obtain ⟨⟨t383, t384⟩, A180, H⟩ := H
        replace H : ((laws_eqNet.f k t371 t372 t383 t384).bind fun t387 => (if t387 = true then ((laws_toBoolS.f k l1).bind fun t388 => ((laws_eqBoolS.f k t376 t388).bind fun t391 => (if t391 = true then ((laws_markNet.f k t371 t372 1).bind fun bt392 => ((laws_markBoolS.f k t376 bt392.1).bind fun bt394 => (if bt394.1 < 0 then (laws_FnExactIslandNumbers.j0 k l1 t368 t379 true a0_0 l0_1) else ((laws_eqIntS.f k t379 t368).bind fun t396 => (laws_FnExactIslandNumbers.j0 k l1 t368 t379 (!t396) a0_0 l0_1))))) else (none)))) else (none))) = some r := H
        have A18 := Aside0.mk A180
        clear A180
        replace H := Option.bind_eq_some_iff.mp H
        obtain ⟨t387, A190, H⟩ := H
        replace H : (if t387 = true then ((laws_toBoolS.f k l1).bind fun t388 => ((laws_eqBoolS.f k t376 t388).bind fun t391 => (if t391 = true then ((laws_markNet.f k t371 t372 1).bind fun bt392 => ((laws_markBoolS.f k t376 bt392.1).bind fun bt394 => (if bt394.1 < 0 then (laws_FnExactIslandNumbers.j0 k l1 t368 t379 true a0_0 l0_1) else ((laws_eqIntS.f k t379 t368).bind fun t396 => (laws_FnExactIslandNumbers.j0 k l1 t368 t379 (!t396) a0_0 l0_1))))) else (none)))) else (none)) = some r := H
        have A19 := Aside0.mk A190
        clear A190
        by_cases c20 : t387 = true
        · subst c20
          have H1 : ((laws_toBoolS.f k l1).bind fun t388 => ((laws_eqBoolS.f k t376 t388).bind fun t391 => (if t391 = true then ((laws_markNet.f k t371 t372 1).bind fun bt392 => ((laws_markBoolS.f k t376 bt392.1).bind fun bt394 => (if bt394.1 < 0 then (laws_FnExactIslandNumbers.j0 k l1 t368 t379 true a0_0 l0_1) else ((laws_eqIntS.f k t379 t368).bind fun t396 => (laws_FnExactIslandNumbers.j0 k l1 t368 t379 (!t396) a0_0 l0_1))))) else (none)))) = some r := by rw [if_pos rfl] at H; exact H
          clear H
          have H := H1
          clear H1
          replace H := Option.bind_eq_some_iff.mp H
          obtain ⟨t388, A210, H⟩ := H
          replace H : ((laws_eqBoolS.f k t376 t388).bind fun t391 => (if t391 = true then ((laws_markNet.f k t371 t372 1).bind fun bt392 => ((laws_markBoolS.f k t376 bt392.1).bind fun bt394 => (if bt394.1 < 0 then (laws_FnExactIslandNumbers.j0 k l1 t368 t379 true a0_0 l0_1) else ((laws_eqIntS.f k t379 t368).bind fun t396 => (laws_FnExactIslandNumbers.j0 k l1 t368 t379 (!t396) a0_0 l0_1))))) else (none))) = some r := H
          have A21 := Aside0.mk A210
          clear A210
          replace H := Option.bind_eq_some_iff.mp H
          obtain ⟨t391, A220, H⟩ := H
          replace H : (if t391 = true then ((laws_markNet.f k t371 t372 1).bind fun bt392 => ((laws_markBoolS.f k t376 bt392.1).bind fun bt394 => (if bt394.1 < 0 then (laws_FnExactIslandNumbers.j0 k l1 t368 t379 true a0_0 l0_1) else ((laws_eqIntS.f k t379 t368).bind fun t396 => (laws_FnExactIslandNumbers.j0 k l1 t368 t379 (!t396) a0_0 l0_1))))) else (none)) = some r := H
          have A22 := Aside0.mk A220
          clear A220
          by_cases c23 : t391 = true
          · subst c23
            have H1 : ((laws_markNet.f k t371 t372 1).bind fun bt392 => ((laws_markBoolS.f k t376 bt392.1).bind fun bt394 => (if bt394.1 < 0 then (laws_FnExactIslandNumbers.j0 k l1 t368 t379 true a0_0 l0_1) else ((laws_eqIntS.f k t379 t368).bind fun t396 => (laws_FnExactIslandNumbers.j0 k l1 t368 t379 (!t396) a0_0 l0_1))))) = some r := by rw [if_pos rfl] at H; exact H
            clear H
            have H := H1
            clear H1
            replace H := Option.bind_eq_some_iff.mp H
            obtain ⟨⟨t392, t393⟩, A240, H⟩ := H
            replace H : ((laws_markBoolS.f k t376 t392).bind fun bt394 => (if bt394.1 < 0 then (laws_FnExactIslandNumbers.j0 k l1 t368 t379 true a0_0 l0_1) else ((laws_eqIntS.f k t379 t368).bind fun t396 => (laws_FnExactIslandNumbers.j0 k l1 t368 t379 (!t396) a0_0 l0_1)))) = some r := H
            have A24 := Aside0.mk A240
            clear A240
            replace H := Option.bind_eq_some_iff.mp H
            obtain ⟨⟨t394, t395⟩, A250, H⟩ := H
            replace H : (if t394 < 0 then (laws_FnExactIslandNumbers.j0 k l1 t368 t379 true a0_0 l0_1) else ((laws_eqIntS.f k t379 t368).bind fun t396 => (laws_FnExactIslandNumbers.j0 k l1 t368 t379 (!t396) a0_0 l0_1))) = some r := H
            have A25 := Aside0.mk A250
            clear A250
            have HC26 := Aside0.mk H
            clear H
            go_enter Try.func5, Try.ntmps5
            try go_wp2_with (first | ((with_reducible refine gate_dst (N := 2) rfl ?_); refine box_event ?hg (N := 2) ?hd (cs := #[.int .i64 a0_0, .slice A0_1 l0_1.length c0_1]) (t := 24) ?hr ?_; (case hd => rfl); (case hg => rfl); (case hr => first | (go_simp; done) | (go_simp; rfl)); intro gb359 hg w27 hbox hb; have n0_ := Aside0.mk (below_step (by repeat (first | (with_reducible first | exact HB.out | apply below_alloc | apply pw_below_drewN | apply below_drew1) | exact HB.out)) hb); have n1_ := Aside0.mk (hbox); have n2_ := Aside0.mk ((by rw [hg]; exact (below_size (by repeat (first | (with_reducible first | exact HB.out | apply below_alloc | apply pw_below_drewN | apply below_drew1) | exact HB.out))) : w.heap.size ≤ gb359)); have n3_ := Aside0.mk ((by rw [hg]; exact (below_size (by repeat (first | (with_reducible first | exact HB.out | apply below_alloc | apply pw_below_drewN | apply below_drew1) | exact HB.out))) : w.heap.size ≤ gb359)); clear HB; have HB := n0_; have BK359 := n1_; have GW359 := n2_; have GE359 := n3_; clear n0_ n1_ n2_ n3_; clear hb hbox hg; have hcz28_0 : w27.cell? ⟨gb359, 0, none⟩ = some (.int .i64 a0_0) := (blk_cell BK359.out 0).trans rfl; have hcz28_1 : w27.cell? ⟨gb359, 1, none⟩ = some (.slice A0_1 l0_1.length c0_1) := (blk_cell BK359.out 1).trans rfl; have hfz28_0 := blk_frozen BK359.out 0; have hfz28_1 := blk_frozen BK359.out 1) | ((with_reducible refine gate_callee (f := 14) rfl ?_); refine goesL_ (some 19) rfl rfl Try.func14 (by kernel_rfl) rfl #[.agg #[.int .i64 a0_0, .slice A0_1 l0_1.length c0_1], .int .i64 1048576] rfl (by (try simp only [List.map_toArray, List.map_cons, List.map_nil]); first | done | rfl | (simp only [List.length_drop, List.length_take]; rfl)) ?_; (with_reducible refine (laws_szNet.calls a0_0 _ _ l0_1 1048576 t360 _ ?side1 ?side2 A5.out).mono ?_); (case side1 => repeat (first | exact (Kd.C_below HR0_1.out HB.out) | (with_reducible refine Kd.C_alloc ?_ _) | (with_reducible refine Kd.C_drewN ?_ _) | (with_reducible refine Kd.C_drew ?_))); (case side2 => exact HC0_1.out); rintro e w29 ⟨rfl, hb⟩; refine ⟨_, rfl, ?_⟩; have n0_ := Aside0.mk (blk_below (g := gb359) (o := .cells #[.int .i64 a0_0, .slice A0_1 l0_1.length c0_1] 24 (0, 0)) (by (with_reducible repeat (first | refine blk_drewN ?_ _ | refine blk_drew ?_ | refine blk_alloc ?_ _)); exact BK359.out) hb); have n1_ := Aside0.mk (below_step (by repeat (first | (with_reducible first | exact HB.out | apply below_alloc | apply pw_below_drewN | apply below_drew1 | refine below_set ?_ GE359.out) | exact HB.out)) hb); clear BK359; clear HB; have BK359 := n0_; have HB := n1_; clear n0_ n1_; (try clear hb); (try clear hb2); (try clear hk); (try clear hi); have hcz30_0 : w29.cell? ⟨gb359, 0, none⟩ = some (.int .i64 a0_0) := (blk_cell BK359.out 0).trans rfl; have hcz30_1 : w29.cell? ⟨gb359, 1, none⟩ = some (.slice A0_1 l0_1.length c0_1) := (blk_cell BK359.out 1).trans rfl; have hfz30_0 := blk_frozen BK359.out 0; have hfz30_1 := blk_frozen BK359.out 1) | ((with_reducible refine gate_callee (f := 16) rfl ?_); refine goesL_ (some 23) rfl rfl Try.func16 (by kernel_rfl) rfl #[.agg #[.int .i64 a0_0, .slice A0_1 l0_1.length c0_1]] rfl (by (try simp only [List.map_toArray, List.map_cons, List.map_nil]); first | done | rfl | (simp only [List.length_drop, List.length_take]; rfl)) ?_; (with_reducible refine (laws_toNet.calls k a0_0 _ _ l0_1 t361 t362 _ ?side1 ?side2 A10.out).mono ?_); (case side1 => repeat (first | exact (Kd.C_below HR0_1.out HB.out) | (with_reducible refine Kd.C_alloc ?_ _) | (with_reducible refine Kd.C_drewN ?_ _) | (with_reducible refine Kd.C_drew ?_))); (case side2 => exact HC0_1.out); rintro e w31 ⟨v363, rfl, ho0, hb⟩; refine ⟨_, rfl, ?_⟩; have n0_ := Aside0.mk (Kd.R_lower ho0 (below_size (by repeat (first | (with_reducible first | exact HB.out | apply below_alloc | apply pw_below_drewN | apply below_drew1 | refine below_set ?_ GE359.out) | exact HB.out)))); have n1_ := Aside0.mk (blk_below (g := gb359) (o := .cells #[.int .i64 a0_0, .slice A0_1 l0_1.length c0_1] 24 (0, 0)) (by (with_reducible repeat (first | refine blk_drewN ?_ _ | refine blk_drew ?_ | refine blk_alloc ?_ _)); exact BK359.out) hb); have n2_ := Aside0.mk (below_step (by repeat (first | (with_reducible first | exact HB.out | apply below_alloc | apply pw_below_drewN | apply below_drew1 | refine below_set ?_ GE359.out) | exact HB.out)) hb); clear BK359; clear HB; have HO364 := n0_; have BK359 := n1_; have HB := n2_; clear n0_ n1_ n2_; (try clear hb); (try clear hb2); (try clear hk); (try clear hi); (try clear ho0)) | ((with_reducible refine gate_callee (f := 17) rfl ?_); refine goesL_ (some 25) rfl rfl Try.func17 (by kernel_rfl) rfl #[.slice A1 l1.length c1] rfl (by (try simp only [List.map_toArray, List.map_cons, List.map_nil]); first | done | rfl | (simp only [List.length_drop, List.length_take]; rfl)) ?_; (with_reducible refine (laws_toBoolS.calls k _ _ l1 t365 _ ?side1 ?side2 A11.out).mono ?_); (case side1 => repeat (first | exact (Kd.C_below HR1.out HB.out) | (with_reducible refine Kd.C_alloc ?_ _) | (with_reducible refine Kd.C_drewN ?_ _) | (with_reducible refine Kd.C_drew ?_))); (case side2 => exact HC1.out); rintro e w32 ⟨v366, rfl, ho0, hb⟩; refine ⟨_, rfl, ?_⟩; have n0_ := Aside0.mk (Kd.R_below (by (with_reducible repeat (first | apply Kd.R_alloc | apply Kd.R_drewN | apply Kd.R_drew)); exact HO364.out) hb); have n1_ := Aside0.mk (Kd.R_lower ho0 (below_size (by repeat (first | (with_reducible first | exact HB.out | apply below_alloc | apply pw_below_drewN | apply below_drew1 | refine below_set ?_ GE359.out) | exact HB.out)))); have n2_ := Aside0.mk (blk_below (g := gb359) (o := .cells #[.int .i64 a0_0, .slice A0_1 l0_1.length c0_1] 24 (0, 0)) (by (with_reducible repeat (first | refine blk_drewN ?_ _ | refine blk_drew ?_ | refine blk_alloc ?_ _)); exact BK359.out) hb); have n3_ := Aside0.mk (below_step (by repeat (first | (with_reducible first | exact HB.out | apply below_alloc | apply pw_below_drewN | apply below_drew1 | refine below_set ?_ GE359.out) | exact HB.out)) hb); clear HO364; clear BK359; clear HB; have HO364 := n0_; have HO367 := n1_; have BK359 := n2_; have HB := n3_; clear n0_ n1_ n2_ n3_; (try clear hb); (try clear hb2); (try clear hk); (try clear hi); (try clear ho0); obtain ⟨Ao33, co33, eo33⟩ := Kd.R_slice HO364.out; subst eo33; obtain ⟨Ao34, co34, eo34⟩ := Kd.R_slice HO367.out; subst eo34) | ((with_reducible refine gate_callee (f := 23) rfl ?_); refine goesL_ (some 26) rfl rfl Try.func23 (by kernel_rfl) rfl #[.agg #[.int .i64 t361, .slice Ao33 t362.length co33], .slice Ao34 t365.length co34] rfl (by (try simp only [List.map_toArray, List.map_cons, List.map_nil]); first | done | rfl | (simp only [List.length_drop, List.length_take]; rfl)) ?_; (with_reducible refine (spec_IslandNumbers.calls k t361 _ _ t362 _ _ t365 t368 _ ?side1 ?side2 ?side3 ?side4 A12.out).mono ?_); (case side1 => repeat (first | exact (Kd.R_reads' HO364.out).2.2 | (with_reducible refine Kd.C_alloc ?_ _) | (with_reducible refine Kd.C_drewN ?_ _) | (with_reducible refine Kd.C_drew ?_))); (case side2 => exact (Kd.R_reads' HO364.out).2.1); (case side3 => repeat (first | exact (Kd.R_reads' HO367.out).2.2 | (with_reducible refine Kd.C_alloc ?_ _) | (with_reducible refine Kd.C_drewN ?_ _) | (with_reducible refine Kd.C_drew ?_))); (case side4 => exact (Kd.R_reads' HO367.out).2.1); rintro e w35 ⟨v369, rfl, ho0, hb⟩; refine ⟨_, rfl, ?_⟩; have n0_ := Aside0.mk (Kd.R_below (by (with_reducible repeat (first | apply Kd.R_alloc | apply Kd.R_drewN | apply Kd.R_drew)); exact HO364.out) hb); have n1_ := Aside0.mk (Kd.R_below (by (with_reducible repeat (first | apply Kd.R_alloc | apply Kd.R_drewN | apply Kd.R_drew)); exact HO367.out) hb); have n2_ := Aside0.mk (Kd.R_lower ho0 (below_size (by repeat (first | (with_reducible first | exact HB.out | apply below_alloc | apply pw_below_drewN | apply below_drew1 | refine below_set ?_ GE359.out) | exact HB.out)))); have n3_ := Aside0.mk (blk_below (g := gb359) (o := .cells #[.int .i64 a0_0, .slice A0_1 l0_1.length c0_1] 24 (0, 0)) (by (with_reducible repeat (first | refine blk_drewN ?_ _ | refine blk_drew ?_ | refine blk_alloc ?_ _)); exact BK359.out) hb); have n4_ := Aside0.mk (below_step (by repeat (first | (with_reducible first | exact HB.out | apply below_alloc | apply pw_below_drewN | apply below_drew1 | refine below_set ?_ GE359.out) | exact HB.out)) hb); clear HO364; clear HO367; clear BK359; clear HB; have HO364 := n0_; have HO367 := n1_; have HO370 := n2_; have BK359 := n3_; have HB := n4_; clear n0_ n1_ n2_ n3_ n4_; (try clear hb); (try clear hb2); (try clear hk); (try clear hi); (try clear ho0); have hcz36_0 : w35.cell? ⟨gb359, 0, none⟩ = some (.int .i64 a0_0) := (blk_cell BK359.out 0).trans rfl; have hcz36_1 : w35.cell? ⟨gb359, 1, none⟩ = some (.slice A0_1 l0_1.length c0_1) := (blk_cell BK359.out 1).trans rfl; have hfz36_0 := blk_frozen BK359.out 0; have hfz36_1 := blk_frozen BK359.out 1) | ((with_reducible refine gate_callee (f := 16) rfl ?_); refine goesL_ (some 28) rfl rfl Try.func16 (by kernel_rfl) rfl #[.agg #[.int .i64 a0_0, .slice A0_1 l0_1.length c0_1]] rfl (by (try simp only [List.map_toArray, List.map_cons, List.map_nil]); first | done | rfl | (simp only [List.length_drop, List.length_take]; rfl)) ?_; (with_reducible refine (laws_toNet.calls k a0_0 _ _ l0_1 t371 t372 _ ?side1 ?side2 A13.out).mono ?_); (case side1 => repeat (first | exact (Kd.C_below HR0_1.out HB.out) | (with_reducible refine Kd.C_alloc ?_ _) | (with_reducible refine Kd.C_drewN ?_ _) | (with_reducible refine Kd.C_drew ?_))); (case side2 => exact HC0_1.out); rintro e w37 ⟨v373, rfl, ho0, hb⟩; refine ⟨_, rfl, ?_⟩; have n0_ := Aside0.mk (Kd.R_elder' (by (with_reducible repeat (first | apply Kd.R_alloc | apply Kd.R_drewN | apply Kd.R_drew)); exact HO364.out) (Kd.R_base ho0) hb); have n1_ := Aside0.mk (Kd.R_below (by (with_reducible repeat (first | apply Kd.R_alloc | apply Kd.R_drewN | apply Kd.R_drew)); exact HO367.out) hb); have n2_ := Aside0.mk (Kd.R_below (by (with_reducible repeat (first | apply Kd.R_alloc | apply Kd.R_drewN | apply Kd.R_drew)); exact HO370.out) hb); have n3_ := Aside0.mk (Kd.R_lower (Kd.R_new' ho0 (Kd.R_lt (by (with_reducible repeat (first | apply Kd.R_alloc | apply Kd.R_drewN | apply Kd.R_drew)); exact HO364.out))) (below_size (by repeat (first | (with_reducible first | exact HB.out | apply below_alloc | apply pw_below_drewN | apply below_drew1 | refine below_set ?_ GE359.out) | exact HB.out)))); have n4_ := Aside0.mk (blk_below (g := gb359) (o := .cells #[.int .i64 a0_0, .slice A0_1 l0_1.length c0_1] 24 (0, 0)) (by (with_reducible repeat (first | refine blk_drewN ?_ _ | refine blk_drew ?_ | refine blk_alloc ?_ _)); exact BK359.out) hb); have n5_ := Aside0.mk (below_step (by repeat (first | (with_reducible first | exact HB.out | apply below_alloc | apply pw_below_drewN | apply below_drew1 | refine below_set ?_ GE359.out) | exact HB.out)) hb); clear HO364; clear HO367; clear HO370; clear BK359; clear HB; have HO364 := n0_; have HO367 := n1_; have HO370 := n2_; have HO374 := n3_; have BK359 := n4_; have HB := n5_; clear n0_ n1_ n2_ n3_ n4_ n5_; (try clear hb); (try clear hb2); (try clear hk); (try clear hi); (try clear ho0)) | ((with_reducible refine gate_dst (N := 7) rfl ?_); refine box_event ?hg (N := 7) ?hd (cs := #[.int .i64 0, .slice none 0 0]) (t := 30) ?hr ?_; (case hd => rfl); (case hg => rfl); (case hr => first | (go_simp; done) | (go_simp; rfl)); intro gb375 hg w38 hbox hb; have n0_ := Aside0.mk (Kd.R_below (by (with_reducible repeat (first | apply Kd.R_alloc | apply Kd.R_drewN | apply Kd.R_drew)); exact HO364.out) hb); have n1_ := Aside0.mk (Kd.R_below (by (with_reducible repeat (first | apply Kd.R_alloc | apply Kd.R_drewN | apply Kd.R_drew)); exact HO367.out) hb); have n2_ := Aside0.mk (Kd.R_below (by (with_reducible repeat (first | apply Kd.R_alloc | apply Kd.R_drewN | apply Kd.R_drew)); exact HO370.out) hb); have n3_ := Aside0.mk (Kd.R_below (by (with_reducible repeat (first | apply Kd.R_alloc | apply Kd.R_drewN | apply Kd.R_drew)); exact HO374.out) hb); have n4_ := Aside0.mk (blk_below (g := gb359) (o := .cells #[.int .i64 a0_0, .slice A0_1 l0_1.length c0_1] 24 (0, 0)) (by (with_reducible repeat (first | refine blk_drewN ?_ _ | refine blk_drew ?_ | refine blk_alloc ?_ _)); exact BK359.out) hb); have n5_ := Aside0.mk (below_step (by repeat (first | (with_reducible first | exact HB.out | apply below_alloc | apply pw_below_drewN | apply below_drew1 | refine below_set ?_ GE359.out) | exact HB.out)) hb); have n6_ := Aside0.mk (hbox); have n7_ := Aside0.mk ((by rw [hg]; exact (below_size (by repeat (first | (with_reducible first | exact HB.out | apply below_alloc | apply pw_below_drewN | apply below_drew1 | refine below_set ?_ GE359.out) | exact HB.out))) : w.heap.size ≤ gb375)); have n8_ := Aside0.mk ((by rw [hg]; exact (below_size (by repeat (first | (with_reducible first | exact HB.out | apply below_alloc | apply pw_below_drewN | apply below_drew1 | refine below_set ?_ GE359.out) | exact HB.out))) : w.heap.size ≤ gb375)); have n9_ := Aside0.mk ((by rw [hg]; exact Nat.ne_of_lt (blk_lt (g := gb359) (o := .cells #[.int .i64 a0_0, .slice A0_1 l0_1.length c0_1] 24 (0, 0)) (by (with_reducible repeat (first | refine blk_drewN ?_ _ | refine blk_drew ?_ | refine blk_alloc ?_ _)); exact BK359.out)) : gb359 ≠ gb375)); have n10_ := Aside0.mk ((by rw [hg]; exact Nat.ne_of_gt (blk_lt (g := gb359) (o := .cells #[.int .i64 a0_0, .slice A0_1 l0_1.length c0_1] 24 (0, 0)) (by (with_reducible repeat (first | refine blk_drewN ?_ _ | refine blk_drew ?_ | refine blk_alloc ?_ _)); exact BK359.out)) : gb375 ≠ gb359)); clear HO364; clear HO367; clear HO370; clear HO374; clear BK359; clear HB; have HO364 := n0_; have HO367 := n1_; have HO370 := n2_; have HO374 := n3_; have BK359 := n4_; have HB := n5_; have BK375 := n6_; have GW375 := n7_; have GE375 := n8_; have NB359_375 := n9_; have NB375_359 := n10_; clear n0_ n1_ n2_ n3_ n4_ n5_ n6_ n7_ n8_ n9_ n10_; clear hb hbox hg; have hnb39 := NB375_359.out; have hnc39 := NB359_375.out; have hcz40_0 : w38.cell? ⟨gb375, 0, none⟩ = some (.int .i64 0) := (blk_cell BK375.out 0).trans rfl; have hcz40_1 : w38.cell? ⟨gb375, 1, none⟩ = some (.slice none 0 0) := (blk_cell BK375.out 1).trans rfl; have hfz40_0 := blk_frozen BK375.out 0; have hfz40_1 := blk_frozen BK375.out 1; obtain ⟨Ao41, co41, eo41⟩ := Kd.R_slice HO374.out; subst eo41) | ((with_reducible refine gate_callee (f := 17) rfl ?_); refine goesL_ (some 30) rfl rfl Try.func17 (by kernel_rfl) rfl #[.slice A1 l1.length c1] rfl (by (try simp only [List.map_toArray, List.map_cons, List.map_nil]); first | done | rfl | (simp only [List.length_drop, List.length_take]; rfl)) ?_; (with_reducible refine (laws_toBoolS.calls k _ _ l1 t376 _ ?side1 ?side2 A14.out).mono ?_); (case side1 => exact Kd.C_below HR1.out (by repeat (first | (with_reducible first | exact HB.out | apply below_alloc | apply pw_below_drewN | apply below_drew1 | refine below_set ?_ GE359.out | refine below_set ?_ GE375.out) | exact HB.out))); (case side2 => exact HC1.out); rintro e w42 ⟨v377, rfl, ho0, hb⟩; refine ⟨_, rfl, ?_⟩; have n0_ := Aside0.mk (Kd.R_below (by (with_reducible repeat (first | apply Kd.R_alloc | apply Kd.R_drewN | apply Kd.R_drew)); exact (Kd.R_mono (Kd.R_far (p := ⟨gb375, 1, none⟩) (Kd.R_far (p := ⟨gb375, 0, none⟩) (Kd.R_types HO364.out BK375.out (by decide)) (fun _ hk => hk.2) (.int .i64 t371)) (fun _ hk => hk.2) (.slice Ao41 t372.length co41)) (fun _ h_ => h_.1))) hb); have n1_ := Aside0.mk (Kd.R_elder' (by (with_reducible repeat (first | apply Kd.R_alloc | apply Kd.R_drewN | apply Kd.R_drew)); exact (Kd.R_mono (Kd.R_far (p := ⟨gb375, 1, none⟩) (Kd.R_far (p := ⟨gb375, 0, none⟩) (Kd.R_types HO367.out BK375.out (by decide)) (fun _ hk => hk.2) (.int .i64 t371)) (fun _ hk => hk.2) (.slice Ao41 t372.length co41)) (fun _ h_ => h_.1))) (Kd.R_base ho0) hb); have n2_ := Aside0.mk (Kd.R_below (by (with_reducible repeat (first | apply Kd.R_alloc | apply Kd.R_drewN | apply Kd.R_drew)); exact (Kd.R_mono (Kd.R_far (p := ⟨gb375, 1, none⟩) (Kd.R_far (p := ⟨gb375, 0, none⟩) (Kd.R_types HO370.out BK375.out (by decide)) (fun _ hk => hk.2) (.int .i64 t371)) (fun _ hk => hk.2) (.slice Ao41 t372.length co41)) (fun _ h_ => h_.1))) hb); have n3_ := Aside0.mk (Kd.R_below (by (with_reducible repeat (first | apply Kd.R_alloc | apply Kd.R_drewN | apply Kd.R_drew)); exact (Kd.R_mono (Kd.R_far (p := ⟨gb375, 1, none⟩) (Kd.R_far (p := ⟨gb375, 0, none⟩) (Kd.R_types HO374.out BK375.out (by decide)) (fun _ hk => hk.2) (.int .i64 t371)) (fun _ hk => hk.2) (.slice Ao41 t372.length co41)) (fun _ h_ => h_.1))) hb); have n4_ := Aside0.mk (Kd.R_lower (Kd.R_new' ho0 (Kd.R_lt (by (with_reducible repeat (first | apply Kd.R_alloc | apply Kd.R_drewN | apply Kd.R_drew)); exact (Kd.R_mono (Kd.R_far (p := ⟨gb375, 1, none⟩) (Kd.R_far (p := ⟨gb375, 0, none⟩) (Kd.R_types HO367.out BK375.out (by decide)) (fun _ hk => hk.2) (.int .i64 t371)) (fun _ hk => hk.2) (.slice Ao41 t372.length co41)) (fun _ h_ => h_.1))))) (below_size (by repeat (first | (with_reducible first | exact HB.out | apply below_alloc | apply pw_below_drewN | apply below_drew1 | refine below_set ?_ GE359.out | refine below_set ?_ GE375.out) | exact HB.out)))); have n5_ := Aside0.mk (blk_below (g := gb359) (o := .cells #[.int .i64 a0_0, .slice A0_1 l0_1.length c0_1] 24 (0, 0)) (by (with_reducible repeat (first | refine blk_drewN ?_ _ | refine blk_drew ?_ | refine blk_alloc ?_ _)); refine blk_far ?_ NB359_375.out _; (with_reducible repeat (first | refine blk_drewN ?_ _ | refine blk_drew ?_ | refine blk_alloc ?_ _)); refine blk_far ?_ NB359_375.out _; (with_reducible repeat (first | refine blk_drewN ?_ _ | refine blk_drew ?_ | refine blk_alloc ?_ _)); exact BK359.out) hb); have n6_ := Aside0.mk (blk_below (g := gb375) (o := .cells #[.int .i64 t371, .slice Ao41 t372.length co41] 30 (0, 0)) (by (with_reducible repeat (first | refine blk_drewN ?_ _ | refine blk_drew ?_ | refine blk_alloc ?_ _)); refine blk_put (cs := #[.int .i64 t371, .slice none 0 0]) ?_ 1 _ rfl; (with_reducible repeat (first | refine blk_drewN ?_ _ | refine blk_drew ?_ | refine blk_alloc ?_ _)); refine blk_put (cs := #[.int .i64 0, .slice none 0 0]) ?_ 0 _ rfl; (with_reducible repeat (first | refine blk_drewN ?_ _ | refine blk_drew ?_ | refine blk_alloc ?_ _)); exact BK375.out) hb); have n7_ := Aside0.mk (below_step (by repeat (first | (with_reducible first | exact HB.out | apply below_alloc | apply pw_below_drewN | apply below_drew1 | refine below_set ?_ GE359.out | refine below_set ?_ GE375.out) | exact HB.out)) hb); clear HO364; clear HO367; clear HO370; clear HO374; clear BK359; clear BK375; clear HB; have HO364 := n0_; have HO367 := n1_; have HO370 := n2_; have HO374 := n3_; have HO378 := n4_; have BK359 := n5_; have BK375 := n6_; have HB := n7_; clear n0_ n1_ n2_ n3_ n4_ n5_ n6_ n7_; (try clear hb); (try clear hb2); (try clear hk); (try clear hi); (try clear ho0); have hcz43_0 : w42.cell? ⟨gb375, 0, none⟩ = some (.int .i64 t371) := (blk_cell BK375.out 0).trans rfl; have hcz43_1 : w42.cell? ⟨gb375, 1, none⟩ = some (.slice Ao41 t372.length co41) := (blk_cell BK375.out 1).trans rfl; have hfz43_0 := blk_frozen BK375.out 0; have hfz43_1 := blk_frozen BK375.out 1; obtain ⟨Ao44, co44, eo44⟩ := Kd.R_slice HO378.out; subst eo44) | ((with_reducible refine gate_callee (f := 24) rfl ?_); refine goesL_ (some 33) rfl rfl Try.func24 (by kernel_rfl) rfl #[.agg #[.int .i64 t371, .slice Ao41 t372.length co41], .slice Ao44 t376.length co44] rfl (by (try simp only [List.map_toArray, List.map_cons, List.map_nil]); first | done | rfl | (simp only [List.length_drop, List.length_take]; rfl)) ?_; (with_reducible refine (impl_IslandNumbers.calls k t371 _ _ t372 _ _ t376 t379 _ ?side1 ?side2 ?side3 ?side4 A15.out).mono ?_); (case side1 => repeat (first | exact (Kd.R_reads' HO374.out).2.2 | (with_reducible refine Kd.C_alloc ?_ _) | (with_reducible refine Kd.C_drewN ?_ _) | (with_reducible refine Kd.C_drew ?_))); (case side2 => exact (Kd.R_reads' HO374.out).2.1); (case side3 => repeat (first | exact (Kd.R_reads' HO378.out).2.2 | (with_reducible refine Kd.C_alloc ?_ _) | (with_reducible refine Kd.C_drewN ?_ _) | (with_reducible refine Kd.C_drew ?_))); (case side4 => exact (Kd.R_reads' HO378.out).2.1); rintro e w45 ⟨v380, rfl, ho0, hb⟩; refine ⟨_, rfl, ?_⟩; have n0_ := Aside0.mk (Kd.R_below (by (with_reducible repeat (first | apply Kd.R_alloc | apply Kd.R_drewN | apply Kd.R_drew)); exact HO364.out) hb); have n1_ := Aside0.mk (Kd.R_below (by (with_reducible repeat (first | apply Kd.R_alloc | apply Kd.R_drewN | apply Kd.R_drew)); exact HO367.out) hb); have n2_ := Aside0.mk (Kd.R_elder' (by (with_reducible repeat (first | apply Kd.R_alloc | apply Kd.R_drewN | apply Kd.R_drew)); exact HO370.out) (Kd.R_base ho0) hb); have n3_ := Aside0.mk (Kd.R_below (by (with_reducible repeat (first | apply Kd.R_alloc | apply Kd.R_drewN | apply Kd.R_drew)); exact HO374.out) hb); have n4_ := Aside0.mk (Kd.R_below (by (with_reducible repeat (first | apply Kd.R_alloc | apply Kd.R_drewN | apply Kd.R_drew)); exact HO378.out) hb); have n5_ := Aside0.mk (Kd.R_lower (Kd.R_new' ho0 (Kd.R_lt (by (with_reducible repeat (first | apply Kd.R_alloc | apply Kd.R_drewN | apply Kd.R_drew)); exact HO370.out))) (below_size (by repeat (first | (with_reducible first | exact HB.out | apply below_alloc | apply pw_below_drewN | apply below_drew1 | refine below_set ?_ GE359.out | refine below_set ?_ GE375.out) | exact HB.out)))); have n6_ := Aside0.mk (blk_below (g := gb359) (o := .cells #[.int .i64 a0_0, .slice A0_1 l0_1.length c0_1] 24 (0, 0)) (by (with_reducible repeat (first | refine blk_drewN ?_ _ | refine blk_drew ?_ | refine blk_alloc ?_ _)); exact BK359.out) hb); have n7_ := Aside0.mk (blk_below (g := gb375) (o := .cells #[.int .i64 t371, .slice Ao41 t372.length co41] 30 (0, 0)) (by (with_reducible repeat (first | refine blk_drewN ?_ _ | refine blk_drew ?_ | refine blk_alloc ?_ _)); exact BK375.out) hb); have n8_ := Aside0.mk (below_step (by repeat (first | (with_reducible first | exact HB.out | apply below_alloc | apply pw_below_drewN | apply below_drew1 | refine below_set ?_ GE359.out | refine below_set ?_ GE375.out) | exact HB.out)) hb); clear HO364; clear HO367; clear HO370; clear HO374; clear HO378; clear BK359; clear BK375; clear HB; have HO364 := n0_; have HO367 := n1_; have HO370 := n2_; have HO374 := n3_; have HO378 := n4_; have HO381 := n5_; have BK359 := n6_; have BK375 := n7_; have HB := n8_; clear n0_ n1_ n2_ n3_ n4_ n5_ n6_ n7_ n8_; (try clear hb); (try clear hb2); (try clear hk); (try clear hi); (try clear ho0); obtain ⟨Ao46, co46, eo46⟩ := Kd.R_slice HO381.out; subst eo46; obtain ⟨Ao47, co47, eo47⟩ := Kd.R_slice HO370.out; subst eo47) | ((with_reducible refine gate_callee (f := 25) rfl ?_); refine goesL_ (some 36) rfl rfl Try.func25 (by kernel_rfl) rfl #[.slice Ao46 t379.length co46, .slice Ao47 t368.length co47] rfl (by (try simp only [List.map_toArray, List.map_cons, List.map_nil]); first | done | rfl | (simp only [List.length_drop, List.length_take]; rfl)) ?_; (with_reducible refine (laws_eqIntS.calls k _ _ t379 _ _ t368 true _ ?side1 ?side2 ?side3 ?side4 A16.out).mono ?_); (case side1 => repeat (first | exact (Kd.R_reads' HO381.out).2.2 | (with_reducible refine Kd.C_alloc ?_ _) | (with_reducible refine Kd.C_drewN ?_ _) | (with_reducible refine Kd.C_drew ?_))); (case side2 => exact (Kd.R_reads' HO381.out).2.1); (case side3 => repeat (first | exact (Kd.R_reads' HO370.out).2.2 | (with_reducible refine Kd.C_alloc ?_ _) | (with_reducible refine Kd.C_drewN ?_ _) | (with_reducible refine Kd.C_drew ?_))); (case side4 => exact (Kd.R_reads' HO370.out).2.1); rintro e w' ⟨rfl, ⟨nd, rfl⟩⟩; refine ⟨_, rfl, ?_⟩))
            (try (rw [drewN_self w45]; generalize hq_ : World.drewN w45 _ = w45; have n0_ : Aside0 (Kd.R k73 73 w45 w.heap.size (fun k_ => (True ∧ some k_ ≠ (.slice Ao41 t372.length co41 : Value).ownBlock)) (.slice Ao33 t362.length co33) t362) := ⟨by rw [← hq_]; exact (by (with_reducible repeat (first | apply Kd.R_alloc | apply Kd.R_drewN | apply Kd.R_drew)); exact HO364.out)⟩; have n1_ : Aside0 (Kd.R Kd.bool 4 w45 w.heap.size (fun k_ => (True ∧ some k_ ≠ (.slice Ao44 t376.length co44 : Value).ownBlock)) (.slice Ao34 t365.length co34) t365) := ⟨by rw [← hq_]; exact (by (with_reducible repeat (first | apply Kd.R_alloc | apply Kd.R_drewN | apply Kd.R_drew)); exact HO367.out)⟩; have n2_ : Aside0 (Kd.R (Kd.int .i64) 3 w45 w.heap.size (fun k_ => (True ∧ some k_ ≠ (.slice Ao46 t379.length co46 : Value).ownBlock)) (.slice Ao47 t368.length co47) t368) := ⟨by rw [← hq_]; exact (by (with_reducible repeat (first | apply Kd.R_alloc | apply Kd.R_drewN | apply Kd.R_drew)); exact HO370.out)⟩; have n3_ : Aside0 (Kd.R k73 73 w45 w.heap.size (fun k_ => (True ∧ some k_ ≠ (.slice Ao33 t362.length co33 : Value).ownBlock)) (.slice Ao41 t372.length co41) t372) := ⟨by rw [← hq_]; exact (by (with_reducible repeat (first | apply Kd.R_alloc | apply Kd.R_drewN | apply Kd.R_drew)); exact HO374.out)⟩; have n4_ : Aside0 (Kd.R Kd.bool 4 w45 w.heap.size (fun k_ => (True ∧ some k_ ≠ (.slice Ao34 t365.length co34 : Value).ownBlock)) (.slice Ao44 t376.length co44) t376) := ⟨by rw [← hq_]; exact (by (with_reducible repeat (first | apply Kd.R_alloc | apply Kd.R_drewN | apply Kd.R_drew)); exact HO378.out)⟩; have n5_ : Aside0 (Kd.R (Kd.int .i64) 3 w45 w.heap.size (fun k_ => (True ∧ some k_ ≠ (.slice Ao47 t368.length co47 : Value).ownBlock)) (.slice Ao46 t379.length co46) t379) := ⟨by rw [← hq_]; exact (by (with_reducible repeat (first | apply Kd.R_alloc | apply Kd.R_drewN | apply Kd.R_drew)); exact HO381.out)⟩; have n6_ : Aside0 (w45.heap[gb359]? = some (.cells #[.int .i64 a0_0, .slice A0_1 l0_1.length c0_1] 24 (0, 0))) := ⟨by rw [← hq_]; exact (by (with_reducible repeat (first | refine blk_drewN ?_ _ | refine blk_drew ?_ | refine blk_alloc ?_ _)); exact BK359.out)⟩; have n7_ : Aside0 (w45.heap[gb375]? = some (.cells #[.int .i64 t371, .slice Ao41 t372.length co41] 30 (0, 0))) := ⟨by rw [← hq_]; exact (by (with_reducible repeat (first | refine blk_drewN ?_ _ | refine blk_drew ?_ | refine blk_alloc ?_ _)); exact BK375.out)⟩; have n8_ : Aside0 (Below w.heap.size w w45) := ⟨by rw [← hq_]; exact (by repeat (first | (with_reducible first | exact HB.out | apply below_alloc | apply pw_below_drewN | apply below_drew1 | refine below_set ?_ GE359.out | refine below_set ?_ GE375.out) | exact HB.out))⟩; clear HO364 HO367 HO370 HO374 HO378 HO381 BK359 BK375 HB hq_; have HO364 := n0_; have HO367 := n1_; have HO370 := n2_; have HO374 := n3_; have HO378 := n4_; have HO381 := n5_; have BK359 := n6_; have BK375 := n7_; have HB := n8_; clear n0_ n1_ n2_ n3_ n4_ n5_ n6_ n7_ n8_))
            have n0_ := Aside0.mk (Kd.R_drew HO364.out)
            have n1_ := Aside0.mk (Kd.R_drew HO367.out)
            have n2_ := Aside0.mk (Kd.R_drew HO370.out)
            have n3_ := Aside0.mk (Kd.R_drew HO374.out)
            have n4_ := Aside0.mk (Kd.R_drew HO378.out)
            have n5_ := Aside0.mk (Kd.R_drew HO381.out)
            have n6_ := Aside0.mk (blk_drew BK359.out)
            have n7_ := Aside0.mk (blk_drew BK375.out)
            have n8_ := Aside0.mk (below_drew1 HB.out)
            clear HO364
            clear HO367
            clear HO370
            clear HO374
            clear HO378
            clear HO381
            clear BK359
            clear BK375
            clear HB
            have HO364 := n0_
            have HO367 := n1_
            have HO370 := n2_
            have HO374 := n3_
            have HO378 := n4_
            have HO381 := n5_
            have BK359 := n6_
            have BK375 := n7_
            have HB := n8_
            clear n0_ n1_ n2_ n3_ n4_ n5_ n6_ n7_ n8_
            refine start_ (n := 5) (S := fun w' => w'.cell? ⟨gb375, 0, none⟩ = some (.int .i64 t371) ∧ w'.cell? ⟨gb375, 1, none⟩ = some (.slice Ao41 t372.length co41) ∧ w'.cell? ⟨gb359, 0, none⟩ = some (.int .i64 a0_0) ∧ w'.cell? ⟨gb359, 1, none⟩ = some (.slice A0_1 l0_1.length c0_1)) (ds := []) #[false, false, false, false, false] (by kernel_rfl) rfl rfl ⟨(blk_cell BK375.out 0).trans rfl, (blk_cell BK375.out 1).trans rfl, (blk_cell BK359.out 0).trans rfl, (blk_cell BK359.out 1).trans rfl⟩ (fun hHeld => ?_)
            generalize w45.drew = w48 at HO364 HO367 HO370 HO374 HO378 HO381 BK359 BK375 HB hHeld ⊢
            refine take_ (i := 0) (N := some 38) (v := ?_) (a' := ?_) #[true, false, false, false, false] rfl rfl (by kernel_rfl) (fun _ _ _ h => h) (Or.inl ⟨by rfl, ?_⟩) hHeld ?_ ?_
            rotate_left
            · rintro w' ⟨s0, s1, s2, s3⟩
              go_simp
              with_reducible rfl
            rotate_left
            · simp only [Act.put, List.setIfInBounds_toArray, List.set_cons_zero, List.set_cons_succ, i64_w, i32_w]
              rfl
            refine take_ (i := 1) (N := some 39) (v := ?_) (a' := ?_) #[true, true, false, false, false] rfl rfl (by kernel_rfl) (fun _ _ _ h => h) (Or.inl ⟨by rfl, ?_⟩) hHeld ?_ ?_
            rotate_left
            · rintro w' ⟨s0, s1, s2, s3⟩
              go_simp
              with_reducible rfl
            rotate_left
            · simp only [Act.put, List.setIfInBounds_toArray, List.set_cons_zero, List.set_cons_succ, i64_w, i32_w]
              rfl
            refine one_ (i := 2) (N := some 40) #[true, true, true, false, false] rfl rfl (by kernel_rfl) (by decide) (fun K hK => ?_)
            refine goes_ Try.func16 (by kernel_rfl) rfl #[.agg #[.int .i64 a0_0, .slice A0_1 l0_1.length c0_1]] (by rfl) rfl rfl (by (try simp only [List.map_toArray, List.map_cons, List.map_nil]); first | done | rfl | (simp only [List.length_drop, List.length_take]; rfl)) ?_
            with_reducible refine (laws_toNet.calls k a0_0 _ _ l0_1 t383 t384 _ ?side1 ?side2 A18.out).mono ?_
            (case side1 => repeat (first | exact (Kd.C_below HR0_1.out HB.out) | (with_reducible refine Kd.C_alloc ?_ _) | (with_reducible refine Kd.C_drewN ?_ _) | (with_reducible refine Kd.C_drew ?_)))
            (case side2 => exact HC0_1.out)
            rintro e w49 ⟨v385, rfl, ho0, hb⟩
            refine ⟨_, rfl, ?_⟩
            have n0_ := Aside0.mk (Kd.R_elder' (by (with_reducible repeat (first | apply Kd.R_alloc | apply Kd.R_drewN | apply Kd.R_drew)); exact HO364.out) (Kd.R_base ho0) hb)
            have n1_ := Aside0.mk (Kd.R_below (by (with_reducible repeat (first | apply Kd.R_alloc | apply Kd.R_drewN | apply Kd.R_drew)); exact HO367.out) hb)
            have n2_ := Aside0.mk (Kd.R_below (by (with_reducible repeat (first | apply Kd.R_alloc | apply Kd.R_drewN | apply Kd.R_drew)); exact HO370.out) hb)
            have n3_ := Aside0.mk (Kd.R_elder' (by (with_reducible repeat (first | apply Kd.R_alloc | apply Kd.R_drewN | apply Kd.R_drew)); exact HO374.out) (Kd.R_base ho0) hb)
            have n4_ := Aside0.mk (Kd.R_below (by (with_reducible repeat (first | apply Kd.R_alloc | apply Kd.R_drewN | apply Kd.R_drew)); exact HO378.out) hb)
            have n5_ := Aside0.mk (Kd.R_below (by (with_reducible repeat (first | apply Kd.R_alloc | apply Kd.R_drewN | apply Kd.R_drew)); exact HO381.out) hb)
            have n6_ := Aside0.mk (Kd.R_lower (Kd.R_new' (Kd.R_new' ho0 (Kd.R_lt (by (with_reducible repeat (first | apply Kd.R_alloc | apply Kd.R_drewN | apply Kd.R_drew)); exact HO364.out))) (Kd.R_lt (by (with_reducible repeat (first | apply Kd.R_alloc | apply Kd.R_drewN | apply Kd.R_drew)); exact HO374.out))) (below_size (by repeat (first | (with_reducible first | exact HB.out | apply below_alloc | apply pw_below_drewN | apply below_drew1 | refine below_set ?_ GE359.out | refine below_set ?_ GE375.out) | exact HB.out))))
            have n7_ := Aside0.mk (blk_below (g := gb359) (o := .cells #[.int .i64 a0_0, .slice A0_1 l0_1.length c0_1] 24 (0, 0)) (by (with_reducible repeat (first | refine blk_drewN ?_ _ | refine blk_drew ?_ | refine blk_alloc ?_ _)); exact BK359.out) hb)
            have n8_ := Aside0.mk (blk_below (g := gb375) (o := .cells #[.int .i64 t371, .slice Ao41 t372.length co41] 30 (0, 0)) (by (with_reducible repeat (first | refine blk_drewN ?_ _ | refine blk_drew ?_ | refine blk_alloc ?_ _)); exact BK375.out) hb)
            have n9_ := Aside0.mk (below_step (by repeat (first | (with_reducible first | exact HB.out | apply below_alloc | apply pw_below_drewN | apply below_drew1 | refine below_set ?_ GE359.out | refine below_set ?_ GE375.out) | exact HB.out)) hb)
            clear HO364
            clear HO367
            clear HO370
            clear HO374
            clear HO378
            clear HO381
            clear BK359
            clear BK375
            clear HB
            have HO364 := n0_
            have HO367 := n1_
            have HO370 := n2_
            have HO374 := n3_
            have HO378 := n4_
            have HO381 := n5_
            have HO386 := n6_
            have BK359 := n7_
            have BK375 := n8_
            have HB := n9_
            clear n0_ n1_ n2_ n3_ n4_ n5_ n6_ n7_ n8_ n9_
            (try clear hb)
            (try clear hb2)
            (try clear hk)
            (try clear hi)
            (try clear ho0)
            obtain ⟨Ao50, co50, eo50⟩ := Kd.R_slice HO386.out
            (first | subst eo50 | (injection eo50 with f1_ f2_ f3_; have f4_ := f1_.symm; have f5_ := f3_.symm; clear f1_ f2_ f3_; subst f4_; subst f5_))
            refine hK.out _ _ ⟨(blk_cell BK375.out 0).trans rfl, (blk_cell BK375.out 1).trans rfl, (blk_cell BK359.out 0).trans rfl, (blk_cell BK359.out 1).trans rfl⟩ (fun hHeld => ?_)
            clear hK K
            refine norm_ (a' := ?_) ?_ ?_
            rotate_left
            · show Act.put _ (some 40) _ = _
              simp only [Act.put, List.setIfInBounds_toArray, List.set_cons_zero, List.set_cons_succ, i64_w, i32_w]
              rfl
            refine one_ (i := 3) (N := some 41) #[true, true, true, true, false] rfl rfl (by kernel_rfl) (by decide) (fun K hK => ?_)
            refine goes_ Try.func19 (by kernel_rfl) rfl #[.agg #[.int .i64 t371, .slice Ao41 t372.length co41], .agg #[.int .i64 t383, .slice Ao50 t384.length co50]] (by rfl) rfl rfl (by (try simp only [List.map_toArray, List.map_cons, List.map_nil]); first | done | rfl | (simp only [List.length_drop, List.length_take]; rfl)) ?_
            with_reducible refine (laws_eqNet.calls k t371 _ _ t372 t383 _ _ t384 true _ ?side1 ?side2 ?side3 ?side4 A19.out).mono ?_
            (case side1 => repeat (first | exact (Kd.R_reads' HO374.out).2.2 | (with_reducible refine Kd.C_alloc ?_ _) | (with_reducible refine Kd.C_drewN ?_ _) | (with_reducible refine Kd.C_drew ?_)))
            (case side2 => exact (Kd.R_reads' HO374.out).2.1)
            (case side3 => repeat (first | exact (Kd.R_reads' HO386.out).2.2 | (with_reducible refine Kd.C_alloc ?_ _) | (with_reducible refine Kd.C_drewN ?_ _) | (with_reducible refine Kd.C_drew ?_)))
            (case side4 => exact (Kd.R_reads' HO386.out).2.1)
            rintro e w51 ⟨rfl, hb⟩
            refine ⟨_, rfl, ?_⟩
            have n0_ := Aside0.mk (Kd.R_below (by (with_reducible repeat (first | apply Kd.R_alloc | apply Kd.R_drewN | apply Kd.R_drew)); exact HO364.out) hb)
            have n1_ := Aside0.mk (Kd.R_below (by (with_reducible repeat (first | apply Kd.R_alloc | apply Kd.R_drewN | apply Kd.R_drew)); exact HO367.out) hb)
            have n2_ := Aside0.mk (Kd.R_below (by (with_reducible repeat (first | apply Kd.R_alloc | apply Kd.R_drewN | apply Kd.R_drew)); exact HO370.out) hb)
            have n3_ := Aside0.mk (Kd.R_below (by (with_reducible repeat (first | apply Kd.R_alloc | apply Kd.R_drewN | apply Kd.R_drew)); exact HO374.out) hb)
            have n4_ := Aside0.mk (Kd.R_below (by (with_reducible repeat (first | apply Kd.R_alloc | apply Kd.R_drewN | apply Kd.R_drew)); exact HO378.out) hb)
            have n5_ := Aside0.mk (Kd.R_below (by (with_reducible repeat (first | apply Kd.R_alloc | apply Kd.R_drewN | apply Kd.R_drew)); exact HO381.out) hb)
            have n6_ := Aside0.mk (Kd.R_below (by (with_reducible repeat (first | apply Kd.R_alloc | apply Kd.R_drewN | apply Kd.R_drew)); exact HO386.out) hb)
            have n7_ := Aside0.mk (blk_below (g := gb359) (o := .cells #[.int .i64 a0_0, .slice A0_1 l0_1.length c0_1] 24 (0, 0)) (by (with_reducible repeat (first | refine blk_drewN ?_ _ | refine blk_drew ?_ | refine blk_alloc ?_ _)); exact BK359.out) hb)
            have n8_ := Aside0.mk (blk_below (g := gb375) (o := .cells #[.int .i64 t371, .slice Ao41 t372.length co41] 30 (0, 0)) (by (with_reducible repeat (first | refine blk_drewN ?_ _ | refine blk_drew ?_ | refine blk_alloc ?_ _)); exact BK375.out) hb)
            have n9_ := Aside0.mk (below_step (by repeat (first | (with_reducible first | exact HB.out | apply below_alloc | apply pw_below_drewN | apply below_drew1 | refine below_set ?_ GE359.out | refine below_set ?_ GE375.out) | exact HB.out)) hb)
            clear HO364
            clear HO367
            clear HO370
            clear HO374
            clear HO378
            clear HO381
            clear HO386
            clear BK359
            clear BK375
            clear HB
            have HO364 := n0_
            have HO367 := n1_
            have HO370 := n2_
            have HO374 := n3_
            have HO378 := n4_
            have HO381 := n5_
            have HO386 := n6_
            have BK359 := n7_
            have BK375 := n8_
            have HB := n9_
            clear n0_ n1_ n2_ n3_ n4_ n5_ n6_ n7_ n8_ n9_
            (try clear hb)
            (try clear hb2)
            (try clear hk)
            (try clear hi)
            refine hK.out _ _ ⟨(blk_cell BK375.out 0).trans rfl, (blk_cell BK375.out 1).trans rfl, (blk_cell BK359.out 0).trans rfl, (blk_cell BK359.out 1).trans rfl⟩ (fun hHeld => ?_)
            clear hK K
            refine norm_ (a' := ?_) ?_ ?_
            rotate_left
            · show Act.put _ (some 41) _ = _
              simp only [Act.put, List.setIfInBounds_toArray, List.set_cons_zero, List.set_cons_succ, i64_w, i32_w]
              rfl
            refine pure_ (i := 4) (N := some 42) (v := ?_) (a' := ?_) #[true, true, true, true, true] rfl rfl (by kernel_rfl) (fun _ _ _ h => h) (Or.inl ⟨by rfl, ?_⟩) ?_ ?_
            rotate_left
            · intro w'
              go_simp
              with_reducible rfl
            rotate_left
            · simp only [Act.put, List.setIfInBounds_toArray, List.set_cons_zero, List.set_cons_succ, i64_w, i32_w]
              rfl
            refine done_ (by kernel_rfl) ?_
            go_upto_region 20 with (first | ((with_reducible refine gate_callee (f := 17) rfl ?_); refine goesL_ (some 45) rfl rfl Try.func17 (by kernel_rfl) rfl #[.slice A1 l1.length c1] rfl (by (try simp only [List.map_toArray, List.map_cons, List.map_nil]); first | done | rfl | (simp only [List.length_drop, List.length_take]; rfl)) ?_; (with_reducible refine (laws_toBoolS.calls k _ _ l1 t388 _ ?side1 ?side2 A21.out).mono ?_); (case side1 => repeat (first | exact (Kd.C_below HR1.out HB.out) | (with_reducible refine Kd.C_alloc ?_ _) | (with_reducible refine Kd.C_drewN ?_ _) | (with_reducible refine Kd.C_drew ?_))); (case side2 => exact HC1.out); rintro e w52 ⟨v389, rfl, ho0, hb⟩; refine ⟨_, rfl, ?_⟩; have n0_ := Aside0.mk (Kd.R_below (by (with_reducible repeat (first | apply Kd.R_alloc | apply Kd.R_drewN | apply Kd.R_drew)); exact HO364.out) hb); have n1_ := Aside0.mk (Kd.R_elder' (by (with_reducible repeat (first | apply Kd.R_alloc | apply Kd.R_drewN | apply Kd.R_drew)); exact HO367.out) (Kd.R_base ho0) hb); have n2_ := Aside0.mk (Kd.R_below (by (with_reducible repeat (first | apply Kd.R_alloc | apply Kd.R_drewN | apply Kd.R_drew)); exact HO370.out) hb); have n3_ := Aside0.mk (Kd.R_below (by (with_reducible repeat (first | apply Kd.R_alloc | apply Kd.R_drewN | apply Kd.R_drew)); exact HO374.out) hb); have n4_ := Aside0.mk (Kd.R_elder' (by (with_reducible repeat (first | apply Kd.R_alloc | apply Kd.R_drewN | apply Kd.R_drew)); exact HO378.out) (Kd.R_base ho0) hb); have n5_ := Aside0.mk (Kd.R_below (by (with_reducible repeat (first | apply Kd.R_alloc | apply Kd.R_drewN | apply Kd.R_drew)); exact HO381.out) hb); have n6_ := Aside0.mk (Kd.R_below (by (with_reducible repeat (first | apply Kd.R_alloc | apply Kd.R_drewN | apply Kd.R_drew)); exact HO386.out) hb); have n7_ := Aside0.mk (Kd.R_lower (Kd.R_new' (Kd.R_new' ho0 (Kd.R_lt (by (with_reducible repeat (first | apply Kd.R_alloc | apply Kd.R_drewN | apply Kd.R_drew)); exact HO367.out))) (Kd.R_lt (by (with_reducible repeat (first | apply Kd.R_alloc | apply Kd.R_drewN | apply Kd.R_drew)); exact HO378.out))) (below_size (by repeat (first | (with_reducible first | exact HB.out | apply below_alloc | apply pw_below_drewN | apply below_drew1 | refine below_set ?_ GE359.out | refine below_set ?_ GE375.out) | exact HB.out)))); have n8_ := Aside0.mk (blk_below (g := gb359) (o := .cells #[.int .i64 a0_0, .slice A0_1 l0_1.length c0_1] 24 (0, 0)) (by (with_reducible repeat (first | refine blk_drewN ?_ _ | refine blk_drew ?_ | refine blk_alloc ?_ _)); exact BK359.out) hb); have n9_ := Aside0.mk (blk_below (g := gb375) (o := .cells #[.int .i64 t371, .slice Ao41 t372.length co41] 30 (0, 0)) (by (with_reducible repeat (first | refine blk_drewN ?_ _ | refine blk_drew ?_ | refine blk_alloc ?_ _)); exact BK375.out) hb); have n10_ := Aside0.mk (below_step (by repeat (first | (with_reducible first | exact HB.out | apply below_alloc | apply pw_below_drewN | apply below_drew1 | refine below_set ?_ GE359.out | refine below_set ?_ GE375.out) | exact HB.out)) hb); clear HO364; clear HO367; clear HO370; clear HO374; clear HO378; clear HO381; clear HO386; clear BK359; clear BK375; clear HB; have HO364 := n0_; have HO367 := n1_; have HO370 := n2_; have HO374 := n3_; have HO378 := n4_; have HO381 := n5_; have HO386 := n6_; have HO390 := n7_; have BK359 := n8_; have BK375 := n9_; have HB := n10_; clear n0_ n1_ n2_ n3_ n4_ n5_ n6_ n7_ n8_ n9_ n10_; (try clear hb); (try clear hb2); (try clear hk); (try clear hi); (try clear ho0); obtain ⟨Ao53, co53, eo53⟩ := Kd.R_slice HO390.out; subst eo53) | ((with_reducible refine gate_callee (f := 20) rfl ?_); refine goesL_ (some 46) rfl rfl Try.func20 (by kernel_rfl) rfl #[.slice Ao44 t376.length co44, .slice Ao53 t388.length co53] rfl (by (try simp only [List.map_toArray, List.map_cons, List.map_nil]); first | done | rfl | (simp only [List.length_drop, List.length_take]; rfl)) ?_; (with_reducible refine (laws_eqBoolS.calls k _ _ t376 _ _ t388 true _ ?side1 ?side2 ?side3 ?side4 A22.out).mono ?_); (case side1 => repeat (first | exact (Kd.R_reads' HO378.out).2.2 | (with_reducible refine Kd.C_alloc ?_ _) | (with_reducible refine Kd.C_drewN ?_ _) | (with_reducible refine Kd.C_drew ?_))); (case side2 => exact (Kd.R_reads' HO378.out).2.1); (case side3 => repeat (first | exact (Kd.R_reads' HO390.out).2.2 | (with_reducible refine Kd.C_alloc ?_ _) | (with_reducible refine Kd.C_drewN ?_ _) | (with_reducible refine Kd.C_drew ?_))); (case side4 => exact (Kd.R_reads' HO390.out).2.1); rintro e w' ⟨rfl, ⟨nd, rfl⟩⟩; refine ⟨_, rfl, ?_⟩; have hcz54_0 : w52.cell? ⟨gb375, 0, none⟩ = some (.int .i64 t371) := (blk_cell BK375.out 0).trans rfl; have hcz54_1 : w52.cell? ⟨gb375, 1, none⟩ = some (.slice Ao41 t372.length co41) := (blk_cell BK375.out 1).trans rfl; have hfz54_0 := blk_frozen BK375.out 0; have hfz54_1 := blk_frozen BK375.out 1) | ((with_reducible refine gate_callee (f := 26) rfl ?_); refine goesL_ (some 50) rfl rfl Try.func26 (by kernel_rfl) rfl #[.agg #[.int .i64 t371, .slice Ao41 t372.length co41], .int .i64 1] rfl (by (try simp only [List.map_toArray, List.map_cons, List.map_nil]); first | done | rfl | (simp only [List.length_drop, List.length_take]; rfl)) ?_; (with_reducible refine (laws_markNet.calls k t371 (fun k_ => some k_ = (.slice Ao41 t372.length co41 : Value).ownBlock) (.slice Ao41 t372.length co41) t372 1 t392 t393 w _ ?side1 ?side2 A24.out).mono ?_); (case side1 => repeat (first | (with_reducible first | exact HB.out | apply below_alloc | apply pw_below_drewN | apply below_drew1 | refine below_set ?_ GE359.out | refine below_set ?_ GE375.out) | exact HB.out)); (case side2 => exact Kd.R_tight rfl HO374.out); rintro e w55 ⟨rfl, hy0, hb, hkp⟩; refine ⟨_, rfl, ?_⟩; have n0_ := Aside0.mk (blk_kept (by (with_reducible repeat (first | refine blk_drewN ?_ _ | refine blk_drew ?_ | refine blk_alloc ?_ _)); exact BK359.out) hkp (fun hs_ => (fun e_ => (Kd.R_ne HO374.out BK359.out (by decide)) e_) hs_)); have n1_ := Aside0.mk (Kd.R_mono (ok' := fun k_ => some k_ ≠ (.slice Ao41 t372.length co41 : Value).ownBlock ∧ some k_ ≠ (.slice Ao50 t384.length co50 : Value).ownBlock) (Kd.R_keptB (HO364.out) hkp (fun k_ hk_ hs_ => (hk_.1.2) hs_)) (fun k_ hk_ => ⟨hk_.1.1.2, hk_.1.2⟩)); have n2_ := Aside0.mk (Kd.R_mono (ok' := fun k_ => some k_ ≠ (.slice Ao44 t376.length co44 : Value).ownBlock ∧ some k_ ≠ (.slice Ao53 t388.length co53 : Value).ownBlock) (Kd.R_keptB ((Kd.R_apart' HO367.out (Kd.R_typed HO374.out) (by decide))) hkp (fun k_ hk_ hs_ => (hk_.2) hs_)) (fun k_ hk_ => ⟨hk_.1.1.1.2, hk_.1.1.2⟩)); have n3_ := Aside0.mk (Kd.R_mono (ok' := fun k_ => some k_ ≠ (.slice Ao46 t379.length co46 : Value).ownBlock) (Kd.R_keptB ((Kd.R_apart' HO370.out (Kd.R_typed HO374.out) (by decide))) hkp (fun k_ hk_ hs_ => (hk_.2) hs_)) (fun k_ hk_ => hk_.1.1.2)); have n4_ := Aside0.mk (Kd.R_reok rfl hy0 (fun k_ e_ => HO374.out.1 k_ e_)); have n5_ := Aside0.mk (blk_kept (by (with_reducible repeat (first | refine blk_drewN ?_ _ | refine blk_drew ?_ | refine blk_alloc ?_ _)); exact BK375.out) hkp (fun hs_ => (fun e_ => (Kd.R_ne HO374.out BK375.out (by decide)) e_) hs_)); have n6_ := Aside0.mk (Kd.R_mono (ok' := fun k_ => some k_ ≠ (.slice Ao34 t365.length co34 : Value).ownBlock ∧ some k_ ≠ (.slice Ao53 t388.length co53 : Value).ownBlock) (Kd.R_keptB ((Kd.R_apart' HO378.out (Kd.R_typed HO374.out) (by decide))) hkp (fun k_ hk_ hs_ => (hk_.2) hs_)) (fun k_ hk_ => ⟨hk_.1.1.1.2, hk_.1.1.2⟩)); have n7_ := Aside0.mk (Kd.R_mono (ok' := fun k_ => some k_ ≠ (.slice Ao47 t368.length co47 : Value).ownBlock) (Kd.R_keptB ((Kd.R_apart' HO381.out (Kd.R_typed HO374.out) (by decide))) hkp (fun k_ hk_ hs_ => (hk_.2) hs_)) (fun k_ hk_ => hk_.1.1.2)); have n8_ := Aside0.mk (Kd.R_mono (ok' := fun k_ => some k_ ≠ (.slice Ao33 t362.length co33 : Value).ownBlock ∧ some k_ ≠ (.slice Ao41 t372.length co41 : Value).ownBlock) (Kd.R_keptB (HO386.out) hkp (fun k_ hk_ hs_ => (hk_.2) hs_)) (fun k_ hk_ => ⟨hk_.1.1.2, hk_.1.2⟩)); have n9_ := Aside0.mk (Kd.R_mono (ok' := fun k_ => some k_ ≠ (.slice Ao34 t365.length co34 : Value).ownBlock ∧ some k_ ≠ (.slice Ao44 t376.length co44 : Value).ownBlock) (Kd.R_keptB ((Kd.R_apart' HO390.out (Kd.R_typed HO374.out) (by decide))) hkp (fun k_ hk_ hs_ => (hk_.2) hs_)) (fun k_ hk_ => ⟨hk_.1.1.1.2, hk_.1.1.2⟩)); have n10_ := Aside0.mk (hb); clear BK359; clear HO364; clear HO367; clear HO370; clear HO374; clear BK375; clear HO378; clear HO381; clear HO386; clear HO390; clear HB; have BK359 := n0_; have HO364 := n1_; have HO367 := n2_; have HO370 := n3_; have HO374 := n4_; have BK375 := n5_; have HO378 := n6_; have HO381 := n7_; have HO386 := n8_; have HO390 := n9_; have HB := n10_; clear n0_ n1_ n2_ n3_ n4_ n5_ n6_ n7_ n8_ n9_ n10_; (try clear hb); (try clear hkp); (try clear hy0)) | ((with_reducible refine gate_callee (f := 27) rfl ?_); refine goesL_ (some 53) rfl rfl Try.func27 (by kernel_rfl) rfl #[.slice Ao44 t376.length co44, .int .i64 t392] rfl (by (try simp only [List.map_toArray, List.map_cons, List.map_nil]); first | done | rfl | (simp only [List.length_drop, List.length_take]; rfl)) ?_; (with_reducible refine (laws_markBoolS.calls k (fun k_ => some k_ = (.slice Ao44 t376.length co44 : Value).ownBlock) (.slice Ao44 t376.length co44) t376 t392 t394 t395 w _ ?side1 ?side2 A25.out).mono ?_); (case side1 => repeat (first | (with_reducible first | exact HB.out | apply below_alloc | apply pw_below_drewN | apply below_drew1 | refine below_set ?_ GE359.out | refine below_set ?_ GE375.out) | exact HB.out)); (case side2 => exact Kd.R_tight rfl HO378.out); rintro e w56 ⟨rfl, hy0, hb, hkp⟩; refine ⟨_, rfl, ?_⟩; have n0_ := Aside0.mk (blk_kept (by (with_reducible repeat (first | refine blk_drewN ?_ _ | refine blk_drew ?_ | refine blk_alloc ?_ _)); exact BK359.out) hkp (fun hs_ => (fun e_ => (Kd.R_ne HO378.out BK359.out (by decide)) e_) hs_)); have n1_ := Aside0.mk (Kd.R_mono (ok' := fun k_ => some k_ ≠ (.slice Ao41 t372.length co41 : Value).ownBlock ∧ some k_ ≠ (.slice Ao50 t384.length co50 : Value).ownBlock) (Kd.R_keptB ((Kd.R_apart' HO364.out (Kd.R_typed HO378.out) (by decide))) hkp (fun k_ hk_ hs_ => (hk_.2) hs_)) (fun k_ hk_ => ⟨hk_.1.1.1, hk_.1.1.2⟩)); have n2_ := Aside0.mk (Kd.R_mono (ok' := fun k_ => some k_ ≠ (.slice Ao44 t376.length co44 : Value).ownBlock ∧ some k_ ≠ (.slice Ao53 t388.length co53 : Value).ownBlock) (Kd.R_keptB (HO367.out) hkp (fun k_ hk_ hs_ => (hk_.1) hs_)) (fun k_ hk_ => ⟨hk_.1.1, hk_.1.2⟩)); have n3_ := Aside0.mk (Kd.R_mono (ok' := fun k_ => some k_ ≠ (.slice Ao46 t379.length co46 : Value).ownBlock) (Kd.R_keptB ((Kd.R_apart' HO370.out (Kd.R_typed HO378.out) (by decide))) hkp (fun k_ hk_ hs_ => (hk_.2) hs_)) (fun k_ hk_ => hk_.1.1)); have n4_ := Aside0.mk (Kd.R_mono (ok' := fun k_ => some k_ ≠ (.slice Ao33 t362.length co33 : Value).ownBlock ∧ some k_ ≠ (.slice Ao50 t384.length co50 : Value).ownBlock) (Kd.R_keptB ((Kd.R_apart' HO374.out (Kd.R_typed HO378.out) (by decide))) hkp (fun k_ hk_ hs_ => (hk_.2) hs_)) (fun k_ hk_ => ⟨hk_.1.1.1.2, hk_.1.1.2⟩)); have n5_ := Aside0.mk (blk_kept (by (with_reducible repeat (first | refine blk_drewN ?_ _ | refine blk_drew ?_ | refine blk_alloc ?_ _)); exact BK375.out) hkp (fun hs_ => (fun e_ => (Kd.R_ne HO378.out BK375.out (by decide)) e_) hs_)); have n6_ := Aside0.mk (Kd.R_reok rfl hy0 (fun k_ e_ => HO378.out.1 k_ e_)); have n7_ := Aside0.mk (Kd.R_mono (ok' := fun k_ => some k_ ≠ (.slice Ao47 t368.length co47 : Value).ownBlock) (Kd.R_keptB ((Kd.R_apart' HO381.out (Kd.R_typed HO378.out) (by decide))) hkp (fun k_ hk_ hs_ => (hk_.2) hs_)) (fun k_ hk_ => hk_.1.1)); have n8_ := Aside0.mk (Kd.R_mono (ok' := fun k_ => some k_ ≠ (.slice Ao33 t362.length co33 : Value).ownBlock ∧ some k_ ≠ (.slice Ao41 t372.length co41 : Value).ownBlock) (Kd.R_keptB ((Kd.R_apart' HO386.out (Kd.R_typed HO378.out) (by decide))) hkp (fun k_ hk_ hs_ => (hk_.2) hs_)) (fun k_ hk_ => ⟨hk_.1.1.1, hk_.1.1.2⟩)); have n9_ := Aside0.mk (Kd.R_mono (ok' := fun k_ => some k_ ≠ (.slice Ao34 t365.length co34 : Value).ownBlock ∧ some k_ ≠ (.slice Ao44 t376.length co44 : Value).ownBlock) (Kd.R_keptB (HO390.out) hkp (fun k_ hk_ hs_ => (hk_.2) hs_)) (fun k_ hk_ => ⟨hk_.1.1, hk_.1.2⟩)); have n10_ := Aside0.mk (hb); clear BK359; clear HO364; clear HO367; clear HO370; clear HO374; clear BK375; clear HO378; clear HO381; clear HO386; clear HO390; clear HB; have BK359 := n0_; have HO364 := n1_; have HO367 := n2_; have HO370 := n3_; have HO374 := n4_; have BK375 := n5_; have HO378 := n6_; have HO381 := n7_; have HO386 := n8_; have HO390 := n9_; have HB := n10_; clear n0_ n1_ n2_ n3_ n4_ n5_ n6_ n7_ n8_ n9_ n10_; (try clear hb); (try clear hkp); (try clear hy0)))
            (try simp only [Act.put, List.setIfInBounds_toArray, List.set_cons_zero, List.set_cons_succ])
            go_cut [61] (fun v61 wc => ∃ (kq : Nat) (x61_25 : Bool), v61 = .bool x61_25 ∧ Aside0 (laws_FnExactIslandNumbers.j0 kq l1 t368 t379 x61_25 a0_0 l0_1 = some r) ∧ Aside0 (kq ≤ k) ∧ Aside0 (Kd.R (Kd.int .i64) 3 wc w.heap.size (fun k_ => some k_ ≠ ((.slice Ao46 t379.length co46) : Value).ownBlock) (.slice Ao47 t368.length co47) t368) ∧ Aside0 (Kd.R (Kd.int .i64) 3 wc w.heap.size (fun k_ => some k_ ≠ ((.slice Ao47 t368.length co47) : Value).ownBlock) (.slice Ao46 t379.length co46) t379) ∧ Aside0 (Kd.R k73 73 wc w.heap.size (fun _ => True) (.slice Ao41 t372.length co41) t393) ∧ Aside0 (wc.heap[gb359]? = some (.cells #[.int .i64 a0_0, (.slice A0_1 l0_1.length c0_1)] 24 (0, 0))) ∧ Aside0 (wc.heap[gb375]? = some (.cells #[.int .i64 t371, (.slice Ao41 t372.length co41)] 30 (0, 0))) ∧ Aside0 (Below w.heap.size w wc))
            case first =>
              have H := HC26.out
              clear HC26
              by_cases c57 : t394 < 0
              · rw [if_pos c57] at H
                have c57b0 : decide (t394 < 0) = true := decide_eq_true c57
                clear c57
                (first | rw [c57b0] | (simp only [i64_w, i32_w]; rw [c57b0]) | skip)
                have H' := Aside0.mk H
                clear H
                go_wp2
                go_meet
                case rel => exact ⟨_, (true), (by first | rfl | (simp; done) | (simp [*]; done)), H', ⟨by first | omega | exact Nat.le_refl _⟩, ⟨by (with_reducible repeat (first | apply Kd.R_alloc | apply Kd.R_drewN | apply Kd.R_drew)); exact HO370.out⟩, ⟨by (with_reducible repeat (first | apply Kd.R_alloc | apply Kd.R_drewN | apply Kd.R_drew)); exact HO381.out⟩, ⟨by (with_reducible repeat (first | apply Kd.R_alloc | apply Kd.R_drewN | apply Kd.R_drew)); exact Kd.R_mono HO374.out (fun _ hk => trivial)⟩, ⟨by (with_reducible repeat (first | refine blk_drewN ?_ _ | refine blk_drew ?_ | refine blk_alloc ?_ _)); exact BK359.out⟩, ⟨by (with_reducible repeat (first | refine blk_drewN ?_ _ | refine blk_drew ?_ | refine blk_alloc ?_ _)); exact BK375.out⟩, ⟨by repeat (first | (with_reducible first | exact HB.out | apply below_alloc | apply pw_below_drewN | apply below_drew1 | refine below_set ?_ GE359.out | refine below_set ?_ GE375.out) | exact HB.out)⟩⟩
              · rw [if_neg c57] at H
                have c57b0 : decide (t394 < 0) = false := decide_eq_false c57
                clear c57
                (first | rw [c57b0] | (simp only [i64_w, i32_w]; rw [c57b0]) | skip)
                replace H := Option.bind_eq_some_iff.mp H
                obtain ⟨t396, A580, H⟩ := H
                replace H : (laws_FnExactIslandNumbers.j0 k l1 t368 t379 (!t396) a0_0 l0_1) = some r := H
                have A58 := Aside0.mk A580
                clear A580
                have H' := Aside0.mk H
                clear H
                go_wp2_with (first | (go_at_call 25; (with_reducible refine (laws_eqIntS.calls k _ _ t379 _ _ t368 t396 _ ?side1 ?side2 ?side3 ?side4 A58.out).mono ?_); (case side1 => repeat (first | exact (Kd.R_reads' HO381.out).2.2 | (with_reducible refine Kd.C_alloc ?_ _) | (with_reducible refine Kd.C_drewN ?_ _) | (with_reducible refine Kd.C_drew ?_))); (case side2 => exact (Kd.R_reads' HO381.out).2.1); (case side3 => repeat (first | exact (Kd.R_reads' HO370.out).2.2 | (with_reducible refine Kd.C_alloc ?_ _) | (with_reducible refine Kd.C_drewN ?_ _) | (with_reducible refine Kd.C_drew ?_))); (case side4 => exact (Kd.R_reads' HO370.out).2.1); rintro e w' ⟨rfl, ⟨nd, rfl⟩⟩))
                go_meet
                case rel => exact ⟨_, (!t396), (by first | rfl | (simp; done) | (simp [*]; done)), H', ⟨by first | omega | exact Nat.le_refl _⟩, ⟨by (with_reducible repeat (first | apply Kd.R_alloc | apply Kd.R_drewN | apply Kd.R_drew)); exact HO370.out⟩, ⟨by (with_reducible repeat (first | apply Kd.R_alloc | apply Kd.R_drewN | apply Kd.R_drew)); exact HO381.out⟩, ⟨by (with_reducible repeat (first | apply Kd.R_alloc | apply Kd.R_drewN | apply Kd.R_drew)); exact Kd.R_mono HO374.out (fun _ hk => trivial)⟩, ⟨by (with_reducible repeat (first | refine blk_drewN ?_ _ | refine blk_drew ?_ | refine blk_alloc ?_ _)); exact BK359.out⟩, ⟨by (with_reducible repeat (first | refine blk_drewN ?_ _ | refine blk_drew ?_ | refine blk_alloc ?_ _)); exact BK375.out⟩, ⟨by repeat (first | (with_reducible first | exact HB.out | apply below_alloc | apply pw_below_drewN | apply below_drew1 | refine below_set ?_ GE359.out | refine below_set ?_ GE375.out) | exact HB.out)⟩⟩
            case rest =>
              clear HC26
              try clear c1
              try clear c2
              try clear p2
              try clear c3
              try clear c3b0
              try clear c3b1
              try clear c5
              try clear c6
              try clear c6b0
              try clear c14
              try clear c16
              try clear c17
              try clear c19
              try clear c20
              try clear c23
              try clear c24
              try clear c25
              try clear c26
              try clear c27
              try clear c39
              try clear c57
              try clear c57b0
              try clear hcz28_0
              try clear hcz28_1
              try clear hcz30_0
              try clear hcz30_1
              try clear hcz36_0
              try clear hcz36_1
              try clear hcz40_0
              try clear hcz40_1
              try clear hcz43_0
              try clear hcz43_1
              try clear hcz54_0
              try clear hcz54_1
              try clear hcz8_0
              try clear hcz8_1
              try clear hfz28_0
              try clear hfz28_1
              try clear hfz30_0
              try clear hfz30_1
              try clear hfz36_0
              try clear hfz36_1
              try clear hfz40_0
              try clear hfz40_1
              try clear hfz43_0
              try clear hfz43_1
              try clear hfz54_0
              try clear hfz54_1
              try clear hfz8_0
              try clear hfz8_1
              obtain ⟨kq, x61_25, rfl, HA, HJ25, HO_6, HO_9, HO_376001, BK359, BK375, HB⟩ := hcut
              have hl376001_25 := (Kd.R_reads' HO_376001.out).1
              rw [hl376001_25] at HO_376001
              (try simp only [hl376001_25])
              (try simp only [hl376001_25] at BK359)
              (try simp only [hl376001_25] at BK375)
              (try simp only [hl376001_25] at HO_6)
              (try simp only [hl376001_25] at HO_9)
              cases kq with
              | zero => exact absurd HA.out (by simp [laws_FnExactIslandNumbers.j0])
              | succ kj25 =>
                have H := HA.out
                clear HA
                simp only [laws_FnExactIslandNumbers.j0] at H
                by_cases c59 : x61_25 = true
                · subst c59
                  have H1 : (none) = some r := by rw [if_pos rfl] at H; exact H
                  clear H
                  have H := H1
                  clear H1
                  exact absurd H (by simp)
                · replace c59 := Bool.eq_false_iff.mpr c59
                  subst c59
                  have H1 : ((laws_markIntS.f kj25 t379 1).bind fun bt397 => ((laws_heldIntS.f kj25 bt397.2 1).bind fun t399 => (if t399 < 0 then (none) else (if t399 = bt397.1 then ((laws_toNet.f kj25 a0_0 l0_1).bind fun bt400 => ((laws_toBoolS.f kj25 l1).bind fun t404 => ((impl_IslandNumbers.f kj25 bt400.1 bt400.2 t404).bind fun t407 => ((laws_eqIntS.f kj25 t407 t368).bind fun t410 => (if t410 = true then ((laws_heldIntS.f kj25 bt397.2 1).bind fun t411 => (if t411 < 0 then (none) else (if t411 = bt397.1 then (some true) else (none)))) else (none)))))) else (none))))) = some r := by rw [if_neg (show ¬ (false = true) by decide)] at H; exact H
                  clear H
                  have H := H1
                  clear H1
                  replace H := Option.bind_eq_some_iff.mp H
                  obtain ⟨⟨t397, t398⟩, A600, H⟩ := H
                  replace H : ((laws_heldIntS.f kj25 t398 1).bind fun t399 => (if t399 < 0 then (none) else (if t399 = t397 then ((laws_toNet.f kj25 a0_0 l0_1).bind fun bt400 => ((laws_toBoolS.f kj25 l1).bind fun t404 => ((impl_IslandNumbers.f kj25 bt400.1 bt400.2 t404).bind fun t407 => ((laws_eqIntS.f kj25 t407 t368).bind fun t410 => (if t410 = true then ((laws_heldIntS.f kj25 t398 1).bind fun t411 => (if t411 < 0 then (none) else (if t411 = t397 then (some true) else (none)))) else (none)))))) else (none)))) = some r := H
                  have A60 := Aside0.mk A600
                  clear A600
                  replace H := Option.bind_eq_some_iff.mp H
                  obtain ⟨t399, A610, H⟩ := H
                  replace H : (if t399 < 0 then (none) else (if t399 = t397 then ((laws_toNet.f kj25 a0_0 l0_1).bind fun bt400 => ((laws_toBoolS.f kj25 l1).bind fun t404 => ((impl_IslandNumbers.f kj25 bt400.1 bt400.2 t404).bind fun t407 => ((laws_eqIntS.f kj25 t407 t368).bind fun t410 => (if t410 = true then ((laws_heldIntS.f kj25 t398 1).bind fun t411 => (if t411 < 0 then (none) else (if t411 = t397 then (some true) else (none)))) else (none)))))) else (none))) = some r := H
                  have A61 := Aside0.mk A610
                  clear A610
                  by_cases c62 : t399 < 0
                  · rw [if_pos c62] at H
                    exact absurd H (by simp)
                  · rw [if_neg c62] at H
                    have c62b0 : decide (t399 < 0) = false := decide_eq_false c62
                    clear c62
                    by_cases c63 : t399 = t397
                    · rw [if_pos c63] at H
                      have c63b0 : (t399 == t397) = true := beq_iff_eq.mpr c63
                      have c63b1 : (t399 != t397) = false := bne_eq_false_iff_eq.mpr c63
                      clear c63
                      replace H := Option.bind_eq_some_iff.mp H
                      obtain ⟨⟨t400, t401⟩, A640, H⟩ := H
                      replace H : ((laws_toBoolS.f kj25 l1).bind fun t404 => ((impl_IslandNumbers.f kj25 t400 t401 t404).bind fun t407 => ((laws_eqIntS.f kj25 t407 t368).bind fun t410 => (if t410 = true then ((laws_heldIntS.f kj25 t398 1).bind fun t411 => (if t411 < 0 then (none) else (if t411 = t397 then (some true) else (none)))) else (none))))) = some r := H
                      have A64 := Aside0.mk A640
                      clear A640
                      replace H := Option.bind_eq_some_iff.mp H
                      obtain ⟨t404, A650, H⟩ := H
                      replace H : ((impl_IslandNumbers.f kj25 t400 t401 t404).bind fun t407 => ((laws_eqIntS.f kj25 t407 t368).bind fun t410 => (if t410 = true then ((laws_heldIntS.f kj25 t398 1).bind fun t411 => (if t411 < 0 then (none) else (if t411 = t397 then (some true) else (none)))) else (none)))) = some r := H
                      have A65 := Aside0.mk A650
                      clear A650
                      replace H := Option.bind_eq_some_iff.mp H
                      obtain ⟨t407, A660, H⟩ := H
                      replace H : ((laws_eqIntS.f kj25 t407 t368).bind fun t410 => (if t410 = true then ((laws_heldIntS.f kj25 t398 1).bind fun t411 => (if t411 < 0 then (none) else (if t411 = t397 then (some true) else (none)))) else (none))) = some r := H
                      have A66 := Aside0.mk A660
                      clear A660
                      replace H := Option.bind_eq_some_iff.mp H
                      obtain ⟨t410, A670, H⟩ := H
                      replace H : (if t410 = true then ((laws_heldIntS.f kj25 t398 1).bind fun t411 => (if t411 < 0 then (none) else (if t411 = t397 then (some true) else (none)))) else (none)) = some r := H
                      have A67 := Aside0.mk A670
                      clear A670
                      by_cases c68 : t410 = true
                      · subst c68
                        have H1 : ((laws_heldIntS.f kj25 t398 1).bind fun t411 => (if t411 < 0 then (none) else (if t411 = t397 then (some true) else (none)))) = some r := by rw [if_pos rfl] at H; exact H
                        clear H
                        have H := H1
                        clear H1
                        replace H := Option.bind_eq_some_iff.mp H
                        obtain ⟨t411, A690, H⟩ := H
                        replace H : (if t411 < 0 then (none) else (if t411 = t397 then (some true) else (none))) = some r := H
                        have A69 := Aside0.mk A690
                        clear A690
                        by_cases c70 : t411 < 0
                        · rw [if_pos c70] at H
                          exact absurd H (by simp)
                        · rw [if_neg c70] at H
                          have c70b0 : decide (t411 < 0) = false := decide_eq_false c70
                          clear c70
                          by_cases c71 : t411 = t397
                          · rw [if_pos c71] at H
                            have c71b0 : (t411 == t397) = true := beq_iff_eq.mpr c71
                            have c71b1 : (t411 != t397) = false := bne_eq_false_iff_eq.mpr c71
                            clear c71
                            obtain rfl := Option.some.inj H
                            go_wp2_with (first | ((with_reducible refine gate_callee (f := 28) rfl ?_); refine goesL_ (some 64) rfl rfl Try.func28 (by kernel_rfl) rfl #[.slice Ao46 t379.length co46, .int .i64 1] rfl (by (try simp only [List.map_toArray, List.map_cons, List.map_nil]); first | done | rfl | (simp only [List.length_drop, List.length_take]; rfl)) ?_; (with_reducible refine (laws_markIntS.calls kj25 (fun k_ => some k_ = (.slice Ao46 t379.length co46 : Value).ownBlock) (.slice Ao46 t379.length co46) t379 1 t397 t398 w _ ?side1 ?side2 A60.out).mono ?_); (case side1 => repeat (first | (with_reducible first | exact HB.out | apply below_alloc | apply pw_below_drewN | apply below_drew1 | refine below_set ?_ GE359.out | refine below_set ?_ GE375.out) | exact HB.out)); (case side2 => exact Kd.R_tight rfl HO_9.out); rintro e w72 ⟨rfl, hy0, hb, hkp⟩; refine ⟨_, rfl, ?_⟩; have n0_ := Aside0.mk (Kd.R_mono (ok' := fun k_ => some k_ ≠ (.slice Ao46 t379.length co46 : Value).ownBlock) (Kd.R_keptB (HO_6.out) hkp (fun k_ hk_ hs_ => (hk_) hs_)) (fun k_ hk_ => hk_.1)); have n1_ := Aside0.mk (Kd.R_reok rfl hy0 (fun k_ e_ => HO_9.out.1 k_ e_)); have n2_ := Aside0.mk (Kd.R_mono (ok' := fun k_ => True) (Kd.R_keptB ((Kd.R_apart' HO_376001.out (Kd.R_typed HO_9.out) (by decide))) hkp (fun k_ hk_ hs_ => (hk_.2) hs_)) (fun k_ hk_ => trivial)); have n3_ := Aside0.mk (blk_kept (by (with_reducible repeat (first | refine blk_drewN ?_ _ | refine blk_drew ?_ | refine blk_alloc ?_ _)); exact BK359.out) hkp (fun hs_ => (fun e_ => (Kd.R_ne HO_9.out BK359.out (by decide)) e_) hs_)); have n4_ := Aside0.mk (blk_kept (by (with_reducible repeat (first | refine blk_drewN ?_ _ | refine blk_drew ?_ | refine blk_alloc ?_ _)); exact BK375.out) hkp (fun hs_ => (fun e_ => (Kd.R_ne HO_9.out BK375.out (by decide)) e_) hs_)); have n5_ := Aside0.mk (hb); clear HO_6; clear HO_9; clear HO_376001; clear BK359; clear BK375; clear HB; have HO_6 := n0_; have HO_9 := n1_; have HO_376001 := n2_; have BK359 := n3_; have BK375 := n4_; have HB := n5_; clear n0_ n1_ n2_ n3_ n4_ n5_; (try clear hb); (try clear hkp); (try clear hy0)) | ((with_reducible refine gate_callee (f := 29) rfl ?_); refine goesL_ (some 67) rfl rfl Try.func29 (by kernel_rfl) rfl #[.slice Ao46 t398.length co46, .int .i64 1] rfl (by (try simp only [List.map_toArray, List.map_cons, List.map_nil]); first | done | (rw [show t398.length = t379.length from (Kd.R_reads' HO_9.out).1.symm] <;> rfl) | rfl | (simp only [List.length_drop, List.length_take]; rfl)) ?_; (with_reducible refine (laws_heldIntS.calls kj25 _ _ t398 1 t399 _ ?side1 ?side2 A61.out).mono ?_); (case side1 => repeat (first | exact (Kd.R_reads' HO_9.out).2.2 | (with_reducible refine Kd.C_alloc ?_ _) | (with_reducible refine Kd.C_drewN ?_ _) | (with_reducible refine Kd.C_drew ?_))); (case side2 => rw [show t398.length = t379.length from (Kd.R_reads' HO_9.out).1.symm]; exact (Kd.R_reads' HO_9.out).2.1); rintro e w' ⟨rfl, ⟨nd, rfl⟩⟩; refine ⟨_, rfl, ?_⟩; have hnb73 := NB359_375.out; have hnc73 := NB375_359.out; have hcz74_0 : w72.cell? ⟨gb359, 0, none⟩ = some (.int .i64 a0_0) := (blk_cell BK359.out 0).trans rfl; have hcz74_1 : w72.cell? ⟨gb359, 1, none⟩ = some (.slice A0_1 l0_1.length c0_1) := (blk_cell BK359.out 1).trans rfl; have hfz74_0 := blk_frozen BK359.out 0; have hfz74_1 := blk_frozen BK359.out 1) | ((with_reducible refine gate_callee (f := 16) rfl ?_); refine goesL_ (some 74) rfl rfl Try.func16 (by kernel_rfl) rfl #[.agg #[.int .i64 a0_0, .slice A0_1 l0_1.length c0_1]] rfl (by (try simp only [List.map_toArray, List.map_cons, List.map_nil]); first | done | rfl | (simp only [List.length_drop, List.length_take]; rfl)) ?_; (with_reducible refine (laws_toNet.calls kj25 a0_0 _ _ l0_1 t400 t401 _ ?side1 ?side2 A64.out).mono ?_); (case side1 => repeat (first | exact (Kd.C_below HR0_1.out (by repeat (first | (with_reducible first | exact HB.out | apply below_alloc | apply pw_below_drewN | apply below_drew1 | refine below_set ?_ GE359.out | refine below_set ?_ GE375.out) | exact HB.out))) | (with_reducible refine Kd.C_alloc ?_ _) | (with_reducible refine Kd.C_drewN ?_ _) | (with_reducible refine Kd.C_drew ?_))); (case side2 => exact HC0_1.out); rintro e w75 ⟨v402, rfl, ho0, hb⟩; refine ⟨_, rfl, ?_⟩; have n0_ := Aside0.mk (Kd.R_below (by (with_reducible repeat (first | apply Kd.R_alloc | apply Kd.R_drewN | apply Kd.R_drew)); exact HO_6.out) hb); have n1_ := Aside0.mk (Kd.R_below (by (with_reducible repeat (first | apply Kd.R_alloc | apply Kd.R_drewN | apply Kd.R_drew)); exact HO_9.out) hb); have n2_ := Aside0.mk (Kd.R_elder' (by (with_reducible repeat (first | apply Kd.R_alloc | apply Kd.R_drewN | apply Kd.R_drew)); exact HO_376001.out) (Kd.R_base ho0) hb); have n3_ := Aside0.mk (Kd.R_lower (Kd.R_new' ho0 (Kd.R_lt (by (with_reducible repeat (first | apply Kd.R_alloc | apply Kd.R_drewN | apply Kd.R_drew)); exact HO_376001.out))) (below_size (by repeat (first | (with_reducible first | exact HB.out | apply below_alloc | apply pw_below_drewN | apply below_drew1 | refine below_set ?_ GE359.out | refine below_set ?_ GE375.out) | exact HB.out)))); have n4_ := Aside0.mk (blk_below (g := gb359) (o := .cells #[.int .i64 a0_0, .slice A0_1 l0_1.length c0_1] 24 (0, 0)) (by (with_reducible repeat (first | refine blk_drewN ?_ _ | refine blk_drew ?_ | refine blk_alloc ?_ _)); exact BK359.out) hb); have n5_ := Aside0.mk (blk_below (g := gb375) (o := .cells #[.int .i64 t371, .slice Ao41 t393.length co41] 30 (0, 0)) (by (with_reducible repeat (first | refine blk_drewN ?_ _ | refine blk_drew ?_ | refine blk_alloc ?_ _)); exact BK375.out) hb); have n6_ := Aside0.mk (below_step (by repeat (first | (with_reducible first | exact HB.out | apply below_alloc | apply pw_below_drewN | apply below_drew1 | refine below_set ?_ GE359.out | refine below_set ?_ GE375.out) | exact HB.out)) hb); clear HO_6; clear HO_9; clear HO_376001; clear BK359; clear BK375; clear HB; have HO_6 := n0_; have HO_9 := n1_; have HO_376001 := n2_; have HO403 := n3_; have BK359 := n4_; have BK375 := n5_; have HB := n6_; clear n0_ n1_ n2_ n3_ n4_ n5_ n6_; (try clear hb); (try clear hb2); (try clear hk); (try clear hi); (try clear ho0)) | ((with_reducible refine gate_callee (f := 17) rfl ?_); refine goesL_ (some 76) rfl rfl Try.func17 (by kernel_rfl) rfl #[.slice A1 l1.length c1] rfl (by (try simp only [List.map_toArray, List.map_cons, List.map_nil]); first | done | rfl | (simp only [List.length_drop, List.length_take]; rfl)) ?_; (with_reducible refine (laws_toBoolS.calls kj25 _ _ l1 t404 _ ?side1 ?side2 A65.out).mono ?_); (case side1 => repeat (first | exact (Kd.C_below HR1.out HB.out) | (with_reducible refine Kd.C_alloc ?_ _) | (with_reducible refine Kd.C_drewN ?_ _) | (with_reducible refine Kd.C_drew ?_))); (case side2 => exact HC1.out); rintro e w76 ⟨v405, rfl, ho0, hb⟩; refine ⟨_, rfl, ?_⟩; have n0_ := Aside0.mk (Kd.R_below (by (with_reducible repeat (first | apply Kd.R_alloc | apply Kd.R_drewN | apply Kd.R_drew)); exact HO_6.out) hb); have n1_ := Aside0.mk (Kd.R_below (by (with_reducible repeat (first | apply Kd.R_alloc | apply Kd.R_drewN | apply Kd.R_drew)); exact HO_9.out) hb); have n2_ := Aside0.mk (Kd.R_below (by (with_reducible repeat (first | apply Kd.R_alloc | apply Kd.R_drewN | apply Kd.R_drew)); exact HO_376001.out) hb); have n3_ := Aside0.mk (Kd.R_below (by (with_reducible repeat (first | apply Kd.R_alloc | apply Kd.R_drewN | apply Kd.R_drew)); exact HO403.out) hb); have n4_ := Aside0.mk (Kd.R_lower ho0 (below_size (by repeat (first | (with_reducible first | exact HB.out | apply below_alloc | apply pw_below_drewN | apply below_drew1 | refine below_set ?_ GE359.out | refine below_set ?_ GE375.out) | exact HB.out)))); have n5_ := Aside0.mk (blk_below (g := gb359) (o := .cells #[.int .i64 a0_0, .slice A0_1 l0_1.length c0_1] 24 (0, 0)) (by (with_reducible repeat (first | refine blk_drewN ?_ _ | refine blk_drew ?_ | refine blk_alloc ?_ _)); exact BK359.out) hb); have n6_ := Aside0.mk (blk_below (g := gb375) (o := .cells #[.int .i64 t371, .slice Ao41 t393.length co41] 30 (0, 0)) (by (with_reducible repeat (first | refine blk_drewN ?_ _ | refine blk_drew ?_ | refine blk_alloc ?_ _)); exact BK375.out) hb); have n7_ := Aside0.mk (below_step (by repeat (first | (with_reducible first | exact HB.out | apply below_alloc | apply pw_below_drewN | apply below_drew1 | refine below_set ?_ GE359.out | refine below_set ?_ GE375.out) | exact HB.out)) hb); clear HO_6; clear HO_9; clear HO_376001; clear HO403; clear BK359; clear BK375; clear HB; have HO_6 := n0_; have HO_9 := n1_; have HO_376001 := n2_; have HO403 := n3_; have HO406 := n4_; have BK359 := n5_; have BK375 := n6_; have HB := n7_; clear n0_ n1_ n2_ n3_ n4_ n5_ n6_ n7_; (try clear hb); (try clear hb2); (try clear hk); (try clear hi); (try clear ho0); obtain ⟨Ao77, co77, eo77⟩ := Kd.R_slice HO403.out; subst eo77; obtain ⟨Ao78, co78, eo78⟩ := Kd.R_slice HO406.out; subst eo78) | ((with_reducible refine gate_callee (f := 24) rfl ?_); refine goesL_ (some 77) rfl rfl Try.func24 (by kernel_rfl) rfl #[.agg #[.int .i64 t400, .slice Ao77 t401.length co77], .slice Ao78 t404.length co78] rfl (by (try simp only [List.map_toArray, List.map_cons, List.map_nil]); first | done | rfl | (simp only [List.length_drop, List.length_take]; rfl)) ?_; (with_reducible refine (impl_IslandNumbers.calls kj25 t400 _ _ t401 _ _ t404 t407 _ ?side1 ?side2 ?side3 ?side4 A66.out).mono ?_); (case side1 => repeat (first | exact (Kd.R_reads' HO403.out).2.2 | (with_reducible refine Kd.C_alloc ?_ _) | (with_reducible refine Kd.C_drewN ?_ _) | (with_reducible refine Kd.C_drew ?_))); (case side2 => exact (Kd.R_reads' HO403.out).2.1); (case side3 => repeat (first | exact (Kd.R_reads' HO406.out).2.2 | (with_reducible refine Kd.C_alloc ?_ _) | (with_reducible refine Kd.C_drewN ?_ _) | (with_reducible refine Kd.C_drew ?_))); (case side4 => exact (Kd.R_reads' HO406.out).2.1); rintro e w79 ⟨v408, rfl, ho0, hb⟩; refine ⟨_, rfl, ?_⟩; have n0_ := Aside0.mk (Kd.R_elder' (by (with_reducible repeat (first | apply Kd.R_alloc | apply Kd.R_drewN | apply Kd.R_drew)); exact HO_6.out) (Kd.R_base ho0) hb); have n1_ := Aside0.mk (Kd.R_elder' (by (with_reducible repeat (first | apply Kd.R_alloc | apply Kd.R_drewN | apply Kd.R_drew)); exact HO_9.out) (Kd.R_base ho0) hb); have n2_ := Aside0.mk (Kd.R_below (by (with_reducible repeat (first | apply Kd.R_alloc | apply Kd.R_drewN | apply Kd.R_drew)); exact HO_376001.out) hb); have n3_ := Aside0.mk (Kd.R_below (by (with_reducible repeat (first | apply Kd.R_alloc | apply Kd.R_drewN | apply Kd.R_drew)); exact HO403.out) hb); have n4_ := Aside0.mk (Kd.R_below (by (with_reducible repeat (first | apply Kd.R_alloc | apply Kd.R_drewN | apply Kd.R_drew)); exact HO406.out) hb); have n5_ := Aside0.mk (Kd.R_lower (Kd.R_new' (Kd.R_new' ho0 (Kd.R_lt (by (with_reducible repeat (first | apply Kd.R_alloc | apply Kd.R_drewN | apply Kd.R_drew)); exact HO_6.out))) (Kd.R_lt (by (with_reducible repeat (first | apply Kd.R_alloc | apply Kd.R_drewN | apply Kd.R_drew)); exact HO_9.out))) (below_size (by repeat (first | (with_reducible first | exact HB.out | apply below_alloc | apply pw_below_drewN | apply below_drew1 | refine below_set ?_ GE359.out | refine below_set ?_ GE375.out) | exact HB.out)))); have n6_ := Aside0.mk (blk_below (g := gb359) (o := .cells #[.int .i64 a0_0, .slice A0_1 l0_1.length c0_1] 24 (0, 0)) (by (with_reducible repeat (first | refine blk_drewN ?_ _ | refine blk_drew ?_ | refine blk_alloc ?_ _)); exact BK359.out) hb); have n7_ := Aside0.mk (blk_below (g := gb375) (o := .cells #[.int .i64 t371, .slice Ao41 t393.length co41] 30 (0, 0)) (by (with_reducible repeat (first | refine blk_drewN ?_ _ | refine blk_drew ?_ | refine blk_alloc ?_ _)); exact BK375.out) hb); have n8_ := Aside0.mk (below_step (by repeat (first | (with_reducible first | exact HB.out | apply below_alloc | apply pw_below_drewN | apply below_drew1 | refine below_set ?_ GE359.out | refine below_set ?_ GE375.out) | exact HB.out)) hb); clear HO_6; clear HO_9; clear HO_376001; clear HO403; clear HO406; clear BK359; clear BK375; clear HB; have HO_6 := n0_; have HO_9 := n1_; have HO_376001 := n2_; have HO403 := n3_; have HO406 := n4_; have HO409 := n5_; have BK359 := n6_; have BK375 := n7_; have HB := n8_; clear n0_ n1_ n2_ n3_ n4_ n5_ n6_ n7_ n8_; (try clear hb); (try clear hb2); (try clear hk); (try clear hi); (try clear ho0); obtain ⟨Ao80, co80, eo80⟩ := Kd.R_slice HO409.out; subst eo80) | ((with_reducible refine gate_callee (f := 25) rfl ?_); refine goesL_ (some 80) rfl rfl Try.func25 (by kernel_rfl) rfl #[.slice Ao80 t407.length co80, .slice Ao47 t368.length co47] rfl (by (try simp only [List.map_toArray, List.map_cons, List.map_nil]); first | done | rfl | (simp only [List.length_drop, List.length_take]; rfl)) ?_; (with_reducible refine (laws_eqIntS.calls kj25 _ _ t407 _ _ t368 true _ ?side1 ?side2 ?side3 ?side4 A67.out).mono ?_); (case side1 => repeat (first | exact (Kd.R_reads' HO409.out).2.2 | (with_reducible refine Kd.C_alloc ?_ _) | (with_reducible refine Kd.C_drewN ?_ _) | (with_reducible refine Kd.C_drew ?_))); (case side2 => exact (Kd.R_reads' HO409.out).2.1); (case side3 => repeat (first | exact (Kd.R_reads' HO_6.out).2.2 | (with_reducible refine Kd.C_alloc ?_ _) | (with_reducible refine Kd.C_drewN ?_ _) | (with_reducible refine Kd.C_drew ?_))); (case side4 => exact (Kd.R_reads' HO_6.out).2.1); rintro e w' ⟨rfl, ⟨nd, rfl⟩⟩; refine ⟨_, rfl, ?_⟩) | ((with_reducible refine gate_callee (f := 29) rfl ?_); refine goesL_ (some 84) rfl rfl Try.func29 (by kernel_rfl) rfl #[.slice Ao46 t398.length co46, .int .i64 1] rfl (by (try simp only [List.map_toArray, List.map_cons, List.map_nil]); first | done | (rw [show t398.length = t379.length from (Kd.R_reads' HO_9.out).1.symm] <;> rfl) | rfl | (simp only [List.length_drop, List.length_take]; rfl)) ?_; (with_reducible refine (laws_heldIntS.calls kj25 _ _ t398 1 t411 _ ?side1 ?side2 A69.out).mono ?_); (case side1 => repeat (first | exact (Kd.R_reads' HO_9.out).2.2 | (with_reducible refine Kd.C_alloc ?_ _) | (with_reducible refine Kd.C_drewN ?_ _) | (with_reducible refine Kd.C_drew ?_))); (case side2 => rw [show t398.length = t379.length from (Kd.R_reads' HO_9.out).1.symm]; exact (Kd.R_reads' HO_9.out).2.1); rintro e w' ⟨rfl, ⟨nd, rfl⟩⟩; refine ⟨_, rfl, ?_⟩))
                            go_ret
                            exact ⟨by first | rfl | (simp [errW_none, errW_some] <;> rfl) | (simp [*, errW_none, errW_some] <;> rfl), by repeat (first | (with_reducible first | exact HB.out | apply below_alloc | apply pw_below_drewN | apply below_drew1 | refine below_set ?_ GE359.out | refine below_set ?_ GE375.out) | exact HB.out)⟩
                          · rw [if_neg c71] at H
                            exact absurd H (by simp)
                      · replace c68 := Bool.eq_false_iff.mpr c68
                        subst c68
                        have H1 : (none) = some r := by rw [if_neg (show ¬ (false = true) by decide)] at H; exact H
                        clear H
                        have H := H1
                        clear H1
                        exact absurd H (by simp)
                    · rw [if_neg c63] at H
                      exact absurd H (by simp)
          · replace c23 := Bool.eq_false_iff.mpr c23
            subst c23
            have H1 : (none) = some r := by rw [if_neg (show ¬ (false = true) by decide)] at H; exact H
            clear H
            have H := H1
            clear H1
            exact absurd H (by simp)
        · replace c20 := Bool.eq_false_iff.mpr c20
          subst c20
          have H1 : (none) = some r := by rw [if_neg (show ¬ (false = true) by decide)] at H; exact H
          clear H
          have H := H1
          clear H1
          exact absurd H (by simp)
      · replace c17 := Bool.eq_false_iff.mpr c17
        subst c17
        have H1 : (none) = some r := by rw [if_neg (show ¬ (false = true) by decide)] at H; exact H
        clear H
        have H := H1
        clear H1
        exact absurd H (by simp)

end Go.Proofs.Ytknddipjabkfbaa.P

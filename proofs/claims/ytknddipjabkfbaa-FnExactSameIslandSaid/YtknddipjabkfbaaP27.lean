/- Contracts of Go functions of this seat's translation, written by this repo's wip/mk.py: it calls the kit's print.py with contracts typed by hand in place of functions that it does not take. Not trusted: Lean checks it. -/
import Derived.Test.YtknddipjabkfbaaP0
import Derived.Test.YtknddipjabkfbaaP2
import Derived.Test.YtknddipjabkfbaaP9
import Derived.Test.YtknddipjabkfbaaP12
import Derived.Test.YtknddipjabkfbaaP13
import Derived.Test.YtknddipjabkfbaaP22
import Derived.Test.YtknddipjabkfbaaP25
import Derived.Test.YtknddipjabkfbaaP26
namespace Go.Proofs.Ytknddipjabkfbaa.P
open Go.RowKit Go.Proofs.YtknddipjabkfbaaW.PrintWords Go.Proofs.YtknddipjabkfbaaW.PrintLast Go.Proofs.YtknddipjabkfbaaW.PrintMore
attribute [local go_sem] max2_int min2_int max_two min_two max_three min_three max_four min_four   -- for this text's walks alone
set_option linter.unusedVariables false
set_option linter.unusedSimpArgs false

/-! ### laws_FnExactSameIsland: function 3 -/
def laws_FnExactSameIsland.f (k : Nat) (a0_0 : Int) (l0_1 : List (S91)) (l1 : List Bool) (a2 : Int) (a3 : Int) : Option (Bool) := if (l1.length : Int) > 1048576 then (some true) else ((laws_szNet.f a0_0 l0_1 1048576).bind fun t221 => (if t221 < 0 then (some true) else ((laws_toNet.f k a0_0 l0_1).bind fun bt222 => ((laws_toBoolS.f k l1).bind fun t226 => ((spec_SameIsland.f k bt222.1 bt222.2 t226 a2 a3).bind fun t229 => ((laws_toNet.f k a0_0 l0_1).bind fun bt230 => ((laws_toBoolS.f k l1).bind fun t235 => ((impl_SameIsland.f k bt230.1 bt230.2 t235 a2 a3).bind fun t238 => (if (t238 != t229) = true then (none) else ((laws_toNet.f k a0_0 l0_1).bind fun bt239 => ((laws_eqNet.f k bt230.1 bt230.2 bt239.1 bt239.2).bind fun t243 => (if t243 = true then ((laws_toBoolS.f k l1).bind fun t244 => ((laws_eqBoolS.f k t235 t244).bind fun t247 => (if t247 = true then (some true) else (none)))) else (none)))))))))))))
theorem laws_FnExactSameIsland.mono : ∀ a0 a1 a2 a3 a4 k, LeO (laws_FnExactSameIsland.f k a0 a1 a2 a3 a4) (laws_FnExactSameIsland.f (k + 1) a0 a1 a2 a3 a4) := by
  intro a0 a1 a2 a3 a4 k
  unfold laws_FnExactSameIsland.f
  repeat' first
      | (with_reducible exact impl_SameIsland.mono _ _ _ _ _ _)
      | (with_reducible exact laws_eqBoolS.mono _ _ _)
      | (with_reducible exact laws_eqNet.mono _ _ _ _ _)
      | (with_reducible exact laws_toBoolS.mono _ _)
      | (with_reducible exact laws_toNet.mono _ _ _)
      | (with_reducible exact spec_SameIsland.mono _ _ _ _ _ _)
      | (with_reducible exact LeO.refl _)
      | (with_reducible exact LeO.none _)
      | (with_reducible refine LeO.ite ?_ ?_)
      | (with_reducible refine LeO.bind ?_ (fun _ => ?_))
      | exact impl_SameIsland.mono _ _ _ _ _ _
      | exact laws_eqBoolS.mono _ _ _
      | exact laws_eqNet.mono _ _ _ _ _
      | exact laws_toBoolS.mono _ _
      | exact laws_toNet.mono _ _ _
      | exact spec_SameIsland.mono _ _ _ _ _ _
      | exact LeO.none _
      | refine LeO.ite ?_ ?_
      | refine LeO.bind ?_ (fun _ => ?_)
set_option maxHeartbeats 8000000 in
set_option maxRecDepth 100000 in
theorem laws_FnExactSameIsland.calls (k : Nat) (a0_0 : Int) (A0_1 : Option Addr) (c0_1 : Nat) (l0_1 : List (S91)) (A1 : Option Addr) (c1 : Nat) (l1 : List Bool) (a2 : Int) (a3 : Int) (r : Bool) (w : World) (hr0_1 : Kd.C k91 w A0_1 l0_1.length l0_1) (hc0_1 : l0_1.length ≤ c0_1) (hr1 : Kd.C Kd.bool w A1 l1.length l1) (hc1 : l1.length ≤ c1) (h : laws_FnExactSameIsland.f k a0_0 l0_1 l1 a2 a3 = some r) :
    Calls Try.prog 3 #[.agg #[.int .i64 a0_0, .slice A0_1 l0_1.length c0_1], .slice A1 l1.length c1, .int .i64 a2, .int .i64 a3] w fun e w' => e = .returned (.bool r) ∧ Below w.heap.size w w' := by
  have hu24 := Try.underlying24
  have hu30 := Try.underlying30
  have HR0_1 := Aside0.mk hr0_1
  have HC0_1 := Aside0.mk hc0_1
  clear hr0_1 hc0_1
  have HR1 := Aside0.mk hr1
  have HC1 := Aside0.mk hc1
  clear hr1 hc1
  have HB := Aside0.mk (Below.refl w.heap.size w)
  have H : (if (l1.length : Int) > 1048576 then (some true) else ((laws_szNet.f a0_0 l0_1 1048576).bind fun t221 => (if t221 < 0 then (some true) else ((laws_toNet.f k a0_0 l0_1).bind fun bt222 => ((laws_toBoolS.f k l1).bind fun t226 => ((spec_SameIsland.f k bt222.1 bt222.2 t226 a2 a3).bind fun t229 => ((laws_toNet.f k a0_0 l0_1).bind fun bt230 => ((laws_toBoolS.f k l1).bind fun t235 => ((impl_SameIsland.f k bt230.1 bt230.2 t235 a2 a3).bind fun t238 => (if (t238 != t229) = true then (none) else ((laws_toNet.f k a0_0 l0_1).bind fun bt239 => ((laws_eqNet.f k bt230.1 bt230.2 bt239.1 bt239.2).bind fun t243 => (if t243 = true then ((laws_toBoolS.f k l1).bind fun t244 => ((laws_eqBoolS.f k t235 t244).bind fun t247 => (if t247 = true then (some true) else (none)))) else (none)))))))))))))) = some r := h
  clear h
  by_cases c5 : (l1.length : Int) > 1048576
  · rw [if_pos c5] at H
    have c5b0 : decide (1048576 < (l1.length : Int)) = true := decide_eq_true c5
    have c5b1 : decide (1048576 < l1.length) = true := decide_eq_true (by omega)
    clear c5
    obtain rfl := Option.some.inj H
    go_enter Try.func3, Try.ntmps3
    go_wp2_with (first | ((with_reducible refine gate_dst (N := 4) rfl ?_); refine box_event ?hg (N := 4) ?hd (cs := #[.int .i64 a0_0, .slice A0_1 l0_1.length c0_1]) (t := 24) ?hr ?_; (case hd => rfl); (case hg => rfl); (case hr => first | (go_simp; done) | (go_simp; rfl)); intro gb220 hg w6 hbox hb; have n0_ := Aside0.mk (below_step (by repeat (first | (with_reducible first | exact HB.out | apply below_alloc | apply pw_below_drewN | apply below_drew1) | exact HB.out)) hb); have n1_ := Aside0.mk (hbox); have n2_ := Aside0.mk ((by rw [hg]; exact (below_size (by repeat (first | (with_reducible first | exact HB.out | apply below_alloc | apply pw_below_drewN | apply below_drew1) | exact HB.out))) : w.heap.size ≤ gb220)); have n3_ := Aside0.mk ((by rw [hg]; exact (below_size (by repeat (first | (with_reducible first | exact HB.out | apply below_alloc | apply pw_below_drewN | apply below_drew1) | exact HB.out))) : w.heap.size ≤ gb220)); clear HB; have HB := n0_; have BK220 := n1_; have GW220 := n2_; have GE220 := n3_; clear n0_ n1_ n2_ n3_; clear hb hbox hg))
    go_ret
    exact ⟨by first | rfl | (simp [errW_none, errW_some] <;> rfl) | (simp [*, errW_none, errW_some] <;> rfl), by repeat (first | (with_reducible first | exact HB.out | apply below_alloc | apply pw_below_drewN | apply below_drew1 | refine below_set ?_ GE220.out) | exact HB.out)⟩
  · rw [if_neg c5] at H
    have c5b0 : decide (1048576 < (l1.length : Int)) = false := decide_eq_false c5
    have c5b1 : decide (1048576 < l1.length) = false := decide_eq_false (by omega)
    clear c5
    replace H := Option.bind_eq_some_iff.mp H
    obtain ⟨t221, A70, H⟩ := H
    replace H : (if t221 < 0 then (some true) else ((laws_toNet.f k a0_0 l0_1).bind fun bt222 => ((laws_toBoolS.f k l1).bind fun t226 => ((spec_SameIsland.f k bt222.1 bt222.2 t226 a2 a3).bind fun t229 => ((laws_toNet.f k a0_0 l0_1).bind fun bt230 => ((laws_toBoolS.f k l1).bind fun t235 => ((impl_SameIsland.f k bt230.1 bt230.2 t235 a2 a3).bind fun t238 => (if (t238 != t229) = true then (none) else ((laws_toNet.f k a0_0 l0_1).bind fun bt239 => ((laws_eqNet.f k bt230.1 bt230.2 bt239.1 bt239.2).bind fun t243 => (if t243 = true then ((laws_toBoolS.f k l1).bind fun t244 => ((laws_eqBoolS.f k t235 t244).bind fun t247 => (if t247 = true then (some true) else (none)))) else (none)))))))))))) = some r := H
    have A7 := Aside0.mk A70
    clear A70
    by_cases c8 : t221 < 0
    · rw [if_pos c8] at H
      have c8b0 : decide (t221 < 0) = true := decide_eq_true c8
      clear c8
      obtain rfl := Option.some.inj H
      go_enter Try.func3, Try.ntmps3
      go_wp2_with (first | ((with_reducible refine gate_dst (N := 4) rfl ?_); refine box_event ?hg (N := 4) ?hd (cs := #[.int .i64 a0_0, .slice A0_1 l0_1.length c0_1]) (t := 24) ?hr ?_; (case hd => rfl); (case hg => rfl); (case hr => first | (go_simp; done) | (go_simp; rfl)); intro gb220 hg w9 hbox hb; have n0_ := Aside0.mk (below_step (by repeat (first | (with_reducible first | exact HB.out | apply below_alloc | apply pw_below_drewN | apply below_drew1) | exact HB.out)) hb); have n1_ := Aside0.mk (hbox); have n2_ := Aside0.mk ((by rw [hg]; exact (below_size (by repeat (first | (with_reducible first | exact HB.out | apply below_alloc | apply pw_below_drewN | apply below_drew1) | exact HB.out))) : w.heap.size ≤ gb220)); have n3_ := Aside0.mk ((by rw [hg]; exact (below_size (by repeat (first | (with_reducible first | exact HB.out | apply below_alloc | apply pw_below_drewN | apply below_drew1) | exact HB.out))) : w.heap.size ≤ gb220)); clear HB; have HB := n0_; have BK220 := n1_; have GW220 := n2_; have GE220 := n3_; clear n0_ n1_ n2_ n3_; clear hb hbox hg; have hcz10_0 : w9.cell? ⟨gb220, 0, none⟩ = some (.int .i64 a0_0) := (blk_cell BK220.out 0).trans rfl; have hcz10_1 : w9.cell? ⟨gb220, 1, none⟩ = some (.slice A0_1 l0_1.length c0_1) := (blk_cell BK220.out 1).trans rfl; have hfz10_0 := blk_frozen BK220.out 0; have hfz10_1 := blk_frozen BK220.out 1) | ((with_reducible refine gate_callee (f := 14) rfl ?_); refine goesL_ (some 19) rfl rfl Try.func14 (by kernel_rfl) rfl #[.agg #[.int .i64 a0_0, .slice A0_1 l0_1.length c0_1], .int .i64 1048576] rfl (by (try simp only [List.map_toArray, List.map_cons, List.map_nil]); first | done | rfl | (simp only [List.length_drop, List.length_take]; rfl)) ?_; (with_reducible refine (laws_szNet.calls a0_0 _ _ l0_1 1048576 t221 _ ?side1 ?side2 A7.out).mono ?_); (case side1 => repeat (first | exact (Kd.C_below HR0_1.out HB.out) | (with_reducible refine Kd.C_alloc ?_ _) | (with_reducible refine Kd.C_drewN ?_ _) | (with_reducible refine Kd.C_drew ?_))); (case side2 => exact HC0_1.out); rintro e w11 ⟨rfl, hb⟩; refine ⟨_, rfl, ?_⟩; have n0_ := Aside0.mk (blk_below (g := gb220) (o := .cells #[.int .i64 a0_0, .slice A0_1 l0_1.length c0_1] 24 (0, 0)) (by (with_reducible repeat (first | refine blk_drewN ?_ _ | refine blk_drew ?_ | refine blk_alloc ?_ _)); exact BK220.out) hb); have n1_ := Aside0.mk (below_step (by repeat (first | (with_reducible first | exact HB.out | apply below_alloc | apply pw_below_drewN | apply below_drew1 | refine below_set ?_ GE220.out) | exact HB.out)) hb); clear BK220; clear HB; have BK220 := n0_; have HB := n1_; clear n0_ n1_; (try clear hb); (try clear hb2); (try clear hk); (try clear hi)))
      go_ret
      exact ⟨by first | rfl | (simp [errW_none, errW_some] <;> rfl) | (simp [*, errW_none, errW_some] <;> rfl), by repeat (first | (with_reducible first | exact HB.out | apply below_alloc | apply pw_below_drewN | apply below_drew1 | refine below_set ?_ GE220.out) | exact HB.out)⟩
    · rw [if_neg c8] at H
      have c8b0 : decide (t221 < 0) = false := decide_eq_false c8
      clear c8
      replace H := Option.bind_eq_some_iff.mp H
      obtain ⟨⟨t222, t223⟩, A120, H⟩ := H
      replace H : ((laws_toBoolS.f k l1).bind fun t226 => ((spec_SameIsland.f k t222 t223 t226 a2 a3).bind fun t229 => ((laws_toNet.f k a0_0 l0_1).bind fun bt230 => ((laws_toBoolS.f k l1).bind fun t235 => ((impl_SameIsland.f k bt230.1 bt230.2 t235 a2 a3).bind fun t238 => (if (t238 != t229) = true then (none) else ((laws_toNet.f k a0_0 l0_1).bind fun bt239 => ((laws_eqNet.f k bt230.1 bt230.2 bt239.1 bt239.2).bind fun t243 => (if t243 = true then ((laws_toBoolS.f k l1).bind fun t244 => ((laws_eqBoolS.f k t235 t244).bind fun t247 => (if t247 = true then (some true) else (none)))) else (none)))))))))) = some r := H
      have A12 := Aside0.mk A120
      clear A120
      replace H := Option.bind_eq_some_iff.mp H
      obtain ⟨t226, A130, H⟩ := H
      replace H : ((spec_SameIsland.f k t222 t223 t226 a2 a3).bind fun t229 => ((laws_toNet.f k a0_0 l0_1).bind fun bt230 => ((laws_toBoolS.f k l1).bind fun t235 => ((impl_SameIsland.f k bt230.1 bt230.2 t235 a2 a3).bind fun t238 => (if (t238 != t229) = true then (none) else ((laws_toNet.f k a0_0 l0_1).bind fun bt239 => ((laws_eqNet.f k bt230.1 bt230.2 bt239.1 bt239.2).bind fun t243 => (if t243 = true then ((laws_toBoolS.f k l1).bind fun t244 => ((laws_eqBoolS.f k t235 t244).bind fun t247 => (if t247 = true then (some true) else (none)))) else (none))))))))) = some r := H
      have A13 := Aside0.mk A130
      clear A130
      replace H := Option.bind_eq_some_iff.mp H
      obtain ⟨t229, A140, H⟩ := H
      replace H : ((laws_toNet.f k a0_0 l0_1).bind fun bt230 => ((laws_toBoolS.f k l1).bind fun t235 => ((impl_SameIsland.f k bt230.1 bt230.2 t235 a2 a3).bind fun t238 => (if (t238 != t229) = true then (none) else ((laws_toNet.f k a0_0 l0_1).bind fun bt239 => ((laws_eqNet.f k bt230.1 bt230.2 bt239.1 bt239.2).bind fun t243 => (if t243 = true then ((laws_toBoolS.f k l1).bind fun t244 => ((laws_eqBoolS.f k t235 t244).bind fun t247 => (if t247 = true then (some true) else (none)))) else (none)))))))) = some r := H
      have A14 := Aside0.mk A140
      clear A140
      replace H := Option.bind_eq_some_iff.mp H
      obtain ⟨⟨t230, t231⟩, A150, H⟩ := H
      replace H : ((laws_toBoolS.f k l1).bind fun t235 => ((impl_SameIsland.f k t230 t231 t235 a2 a3).bind fun t238 => (if (t238 != t229) = true then (none) else ((laws_toNet.f k a0_0 l0_1).bind fun bt239 => ((laws_eqNet.f k t230 t231 bt239.1 bt239.2).bind fun t243 => (if t243 = true then ((laws_toBoolS.f k l1).bind fun t244 => ((laws_eqBoolS.f k t235 t244).bind fun t247 => (if t247 = true then (some true) else (none)))) else (none))))))) = some r := H
      have A15 := Aside0.mk A150
      clear A150
      replace H := Option.bind_eq_some_iff.mp H
      obtain ⟨t235, A160, H⟩ := H
      replace H : ((impl_SameIsland.f k t230 t231 t235 a2 a3).bind fun t238 => (if (t238 != t229) = true then (none) else ((laws_toNet.f k a0_0 l0_1).bind fun bt239 => ((laws_eqNet.f k t230 t231 bt239.1 bt239.2).bind fun t243 => (if t243 = true then ((laws_toBoolS.f k l1).bind fun t244 => ((laws_eqBoolS.f k t235 t244).bind fun t247 => (if t247 = true then (some true) else (none)))) else (none)))))) = some r := H
      have A16 := Aside0.mk A160
      clear A160
      replace H := Option.bind_eq_some_iff.mp H
      obtain ⟨t238, A170, H⟩ := H
      replace H : (if (t238 != t229) = true then (none) else ((laws_toNet.f k a0_0 l0_1).bind fun bt239 => ((laws_eqNet.f k t230 t231 bt239.1 bt239.2).bind fun t243 => (if t243 = true then ((laws_toBoolS.f k l1).bind fun t244 => ((laws_eqBoolS.f k t235 t244).bind fun t247 => (if t247 = true then (some true) else (none)))) else (none))))) = some r := H
      have A17 := Aside0.mk A170
      clear A170
      by_cases c18 : (t238 != t229) = true
      · rw [if_pos c18] at H
        exact absurd H (by simp)
      · rw [if_neg c18] at H
        have c18b0 : (t238 != t229) = false := by simpa using c18
        (try (have c18b1 : decide (t238 = t229) = true := by simpa using c18))
        (try (have c18b2 : (t238 == t229) = true := by simpa using c18))
        clear c18
        replace H := Option.bind_eq_some_iff.mp H
        obtain ⟨⟨t239, t240⟩, A190, H⟩ := H
        replace H : ((laws_eqNet.f k t230 t231 t239 t240).bind fun t243 => (if t243 = true then ((laws_toBoolS.f k l1).bind fun t244 => ((laws_eqBoolS.f k t235 t244).bind fun t247 => (if t247 = true then (some true) else (none)))) else (none))) = some r := H
        have A19 := Aside0.mk A190
        clear A190
        replace H := Option.bind_eq_some_iff.mp H
        obtain ⟨t243, A200, H⟩ := H
        replace H : (if t243 = true then ((laws_toBoolS.f k l1).bind fun t244 => ((laws_eqBoolS.f k t235 t244).bind fun t247 => (if t247 = true then (some true) else (none)))) else (none)) = some r := H
        have A20 := Aside0.mk A200
        clear A200
        by_cases c21 : t243 = true
        · subst c21
          have H1 : ((laws_toBoolS.f k l1).bind fun t244 => ((laws_eqBoolS.f k t235 t244).bind fun t247 => (if t247 = true then (some true) else (none)))) = some r := by rw [if_pos rfl] at H; exact H
          clear H
          have H := H1
          clear H1
          replace H := Option.bind_eq_some_iff.mp H
          obtain ⟨t244, A220, H⟩ := H
          replace H : ((laws_eqBoolS.f k t235 t244).bind fun t247 => (if t247 = true then (some true) else (none))) = some r := H
          have A22 := Aside0.mk A220
          clear A220
          replace H := Option.bind_eq_some_iff.mp H
          obtain ⟨t247, A230, H⟩ := H
          replace H : (if t247 = true then (some true) else (none)) = some r := H
          have A23 := Aside0.mk A230
          clear A230
          by_cases c24 : t247 = true
          · subst c24
            have H1 : (some true) = some r := by rw [if_pos rfl] at H; exact H
            clear H
            have H := H1
            clear H1
            obtain rfl := Option.some.inj H
            go_enter Try.func3, Try.ntmps3
            try go_wp2_with (first | ((with_reducible refine gate_dst (N := 4) rfl ?_); refine box_event ?hg (N := 4) ?hd (cs := #[.int .i64 a0_0, .slice A0_1 l0_1.length c0_1]) (t := 24) ?hr ?_; (case hd => rfl); (case hg => rfl); (case hr => first | (go_simp; done) | (go_simp; rfl)); intro gb220 hg w25 hbox hb; have n0_ := Aside0.mk (below_step (by repeat (first | (with_reducible first | exact HB.out | apply below_alloc | apply pw_below_drewN | apply below_drew1) | exact HB.out)) hb); have n1_ := Aside0.mk (hbox); have n2_ := Aside0.mk ((by rw [hg]; exact (below_size (by repeat (first | (with_reducible first | exact HB.out | apply below_alloc | apply pw_below_drewN | apply below_drew1) | exact HB.out))) : w.heap.size ≤ gb220)); have n3_ := Aside0.mk ((by rw [hg]; exact (below_size (by repeat (first | (with_reducible first | exact HB.out | apply below_alloc | apply pw_below_drewN | apply below_drew1) | exact HB.out))) : w.heap.size ≤ gb220)); clear HB; have HB := n0_; have BK220 := n1_; have GW220 := n2_; have GE220 := n3_; clear n0_ n1_ n2_ n3_; clear hb hbox hg; have hcz26_0 : w25.cell? ⟨gb220, 0, none⟩ = some (.int .i64 a0_0) := (blk_cell BK220.out 0).trans rfl; have hcz26_1 : w25.cell? ⟨gb220, 1, none⟩ = some (.slice A0_1 l0_1.length c0_1) := (blk_cell BK220.out 1).trans rfl; have hfz26_0 := blk_frozen BK220.out 0; have hfz26_1 := blk_frozen BK220.out 1) | ((with_reducible refine gate_callee (f := 14) rfl ?_); refine goesL_ (some 19) rfl rfl Try.func14 (by kernel_rfl) rfl #[.agg #[.int .i64 a0_0, .slice A0_1 l0_1.length c0_1], .int .i64 1048576] rfl (by (try simp only [List.map_toArray, List.map_cons, List.map_nil]); first | done | rfl | (simp only [List.length_drop, List.length_take]; rfl)) ?_; (with_reducible refine (laws_szNet.calls a0_0 _ _ l0_1 1048576 t221 _ ?side1 ?side2 A7.out).mono ?_); (case side1 => repeat (first | exact (Kd.C_below HR0_1.out HB.out) | (with_reducible refine Kd.C_alloc ?_ _) | (with_reducible refine Kd.C_drewN ?_ _) | (with_reducible refine Kd.C_drew ?_))); (case side2 => exact HC0_1.out); rintro e w27 ⟨rfl, hb⟩; refine ⟨_, rfl, ?_⟩; have n0_ := Aside0.mk (blk_below (g := gb220) (o := .cells #[.int .i64 a0_0, .slice A0_1 l0_1.length c0_1] 24 (0, 0)) (by (with_reducible repeat (first | refine blk_drewN ?_ _ | refine blk_drew ?_ | refine blk_alloc ?_ _)); exact BK220.out) hb); have n1_ := Aside0.mk (below_step (by repeat (first | (with_reducible first | exact HB.out | apply below_alloc | apply pw_below_drewN | apply below_drew1 | refine below_set ?_ GE220.out) | exact HB.out)) hb); clear BK220; clear HB; have BK220 := n0_; have HB := n1_; clear n0_ n1_; (try clear hb); (try clear hb2); (try clear hk); (try clear hi); have hcz28_0 : w27.cell? ⟨gb220, 0, none⟩ = some (.int .i64 a0_0) := (blk_cell BK220.out 0).trans rfl; have hcz28_1 : w27.cell? ⟨gb220, 1, none⟩ = some (.slice A0_1 l0_1.length c0_1) := (blk_cell BK220.out 1).trans rfl; have hfz28_0 := blk_frozen BK220.out 0; have hfz28_1 := blk_frozen BK220.out 1) | ((with_reducible refine gate_callee (f := 16) rfl ?_); refine goesL_ (some 23) rfl rfl Try.func16 (by kernel_rfl) rfl #[.agg #[.int .i64 a0_0, .slice A0_1 l0_1.length c0_1]] rfl (by (try simp only [List.map_toArray, List.map_cons, List.map_nil]); first | done | rfl | (simp only [List.length_drop, List.length_take]; rfl)) ?_; (with_reducible refine (laws_toNet.calls k a0_0 _ _ l0_1 t222 t223 _ ?side1 ?side2 A12.out).mono ?_); (case side1 => repeat (first | exact (Kd.C_below HR0_1.out HB.out) | (with_reducible refine Kd.C_alloc ?_ _) | (with_reducible refine Kd.C_drewN ?_ _) | (with_reducible refine Kd.C_drew ?_))); (case side2 => exact HC0_1.out); rintro e w29 ⟨v224, rfl, ho0, hb⟩; refine ⟨_, rfl, ?_⟩; have n0_ := Aside0.mk (Kd.R_lower ho0 (below_size (by repeat (first | (with_reducible first | exact HB.out | apply below_alloc | apply pw_below_drewN | apply below_drew1 | refine below_set ?_ GE220.out) | exact HB.out)))); have n1_ := Aside0.mk (blk_below (g := gb220) (o := .cells #[.int .i64 a0_0, .slice A0_1 l0_1.length c0_1] 24 (0, 0)) (by (with_reducible repeat (first | refine blk_drewN ?_ _ | refine blk_drew ?_ | refine blk_alloc ?_ _)); exact BK220.out) hb); have n2_ := Aside0.mk (below_step (by repeat (first | (with_reducible first | exact HB.out | apply below_alloc | apply pw_below_drewN | apply below_drew1 | refine below_set ?_ GE220.out) | exact HB.out)) hb); clear BK220; clear HB; have HO225 := n0_; have BK220 := n1_; have HB := n2_; clear n0_ n1_ n2_; (try clear hb); (try clear hb2); (try clear hk); (try clear hi); (try clear ho0)) | ((with_reducible refine gate_callee (f := 17) rfl ?_); refine goesL_ (some 25) rfl rfl Try.func17 (by kernel_rfl) rfl #[.slice A1 l1.length c1] rfl (by (try simp only [List.map_toArray, List.map_cons, List.map_nil]); first | done | rfl | (simp only [List.length_drop, List.length_take]; rfl)) ?_; (with_reducible refine (laws_toBoolS.calls k _ _ l1 t226 _ ?side1 ?side2 A13.out).mono ?_); (case side1 => repeat (first | exact (Kd.C_below HR1.out HB.out) | (with_reducible refine Kd.C_alloc ?_ _) | (with_reducible refine Kd.C_drewN ?_ _) | (with_reducible refine Kd.C_drew ?_))); (case side2 => exact HC1.out); rintro e w30 ⟨v227, rfl, ho0, hb⟩; refine ⟨_, rfl, ?_⟩; have n0_ := Aside0.mk (Kd.R_below (by (with_reducible repeat (first | apply Kd.R_alloc | apply Kd.R_drewN | apply Kd.R_drew)); exact HO225.out) hb); have n1_ := Aside0.mk (Kd.R_lower ho0 (below_size (by repeat (first | (with_reducible first | exact HB.out | apply below_alloc | apply pw_below_drewN | apply below_drew1 | refine below_set ?_ GE220.out) | exact HB.out)))); have n2_ := Aside0.mk (blk_below (g := gb220) (o := .cells #[.int .i64 a0_0, .slice A0_1 l0_1.length c0_1] 24 (0, 0)) (by (with_reducible repeat (first | refine blk_drewN ?_ _ | refine blk_drew ?_ | refine blk_alloc ?_ _)); exact BK220.out) hb); have n3_ := Aside0.mk (below_step (by repeat (first | (with_reducible first | exact HB.out | apply below_alloc | apply pw_below_drewN | apply below_drew1 | refine below_set ?_ GE220.out) | exact HB.out)) hb); clear HO225; clear BK220; clear HB; have HO225 := n0_; have HO228 := n1_; have BK220 := n2_; have HB := n3_; clear n0_ n1_ n2_ n3_; (try clear hb); (try clear hb2); (try clear hk); (try clear hi); (try clear ho0); obtain ⟨Ao31, co31, eo31⟩ := Kd.R_slice HO225.out; subst eo31; obtain ⟨Ao32, co32, eo32⟩ := Kd.R_slice HO228.out; subst eo32) | ((with_reducible refine gate_callee (f := 15) rfl ?_); refine goesL_ (some 28) rfl rfl Try.func15 (by kernel_rfl) rfl #[.agg #[.int .i64 t222, .slice Ao31 t223.length co31], .slice Ao32 t226.length co32, .int .i64 a2, .int .i64 a3] rfl (by (try simp only [List.map_toArray, List.map_cons, List.map_nil]); first | done | rfl | (simp only [List.length_drop, List.length_take]; rfl)) ?_; (with_reducible refine (spec_SameIsland.calls k t222 _ _ t223 _ _ t226 a2 a3 t229 _ ?side1 ?side2 ?side3 ?side4 A14.out).mono ?_); (case side1 => repeat (first | exact (Kd.R_reads' HO225.out).2.2 | (with_reducible refine Kd.C_alloc ?_ _) | (with_reducible refine Kd.C_drewN ?_ _) | (with_reducible refine Kd.C_drew ?_))); (case side2 => exact (Kd.R_reads' HO225.out).2.1); (case side3 => repeat (first | exact (Kd.R_reads' HO228.out).2.2 | (with_reducible refine Kd.C_alloc ?_ _) | (with_reducible refine Kd.C_drewN ?_ _) | (with_reducible refine Kd.C_drew ?_))); (case side4 => exact (Kd.R_reads' HO228.out).2.1); rintro e w33 ⟨rfl, hb⟩; refine ⟨_, rfl, ?_⟩; have n0_ := Aside0.mk (Kd.R_below (by (with_reducible repeat (first | apply Kd.R_alloc | apply Kd.R_drewN | apply Kd.R_drew)); exact HO225.out) hb); have n1_ := Aside0.mk (Kd.R_below (by (with_reducible repeat (first | apply Kd.R_alloc | apply Kd.R_drewN | apply Kd.R_drew)); exact HO228.out) hb); have n2_ := Aside0.mk (blk_below (g := gb220) (o := .cells #[.int .i64 a0_0, .slice A0_1 l0_1.length c0_1] 24 (0, 0)) (by (with_reducible repeat (first | refine blk_drewN ?_ _ | refine blk_drew ?_ | refine blk_alloc ?_ _)); exact BK220.out) hb); have n3_ := Aside0.mk (below_step (by repeat (first | (with_reducible first | exact HB.out | apply below_alloc | apply pw_below_drewN | apply below_drew1 | refine below_set ?_ GE220.out) | exact HB.out)) hb); clear HO225; clear HO228; clear BK220; clear HB; have HO225 := n0_; have HO228 := n1_; have BK220 := n2_; have HB := n3_; clear n0_ n1_ n2_ n3_; (try clear hb); (try clear hb2); (try clear hk); (try clear hi); have hcz34_0 : w33.cell? ⟨gb220, 0, none⟩ = some (.int .i64 a0_0) := (blk_cell BK220.out 0).trans rfl; have hcz34_1 : w33.cell? ⟨gb220, 1, none⟩ = some (.slice A0_1 l0_1.length c0_1) := (blk_cell BK220.out 1).trans rfl; have hfz34_0 := blk_frozen BK220.out 0; have hfz34_1 := blk_frozen BK220.out 1) | ((with_reducible refine gate_callee (f := 16) rfl ?_); refine goesL_ (some 30) rfl rfl Try.func16 (by kernel_rfl) rfl #[.agg #[.int .i64 a0_0, .slice A0_1 l0_1.length c0_1]] rfl (by (try simp only [List.map_toArray, List.map_cons, List.map_nil]); first | done | rfl | (simp only [List.length_drop, List.length_take]; rfl)) ?_; (with_reducible refine (laws_toNet.calls k a0_0 _ _ l0_1 t230 t231 _ ?side1 ?side2 A15.out).mono ?_); (case side1 => repeat (first | exact (Kd.C_below HR0_1.out HB.out) | (with_reducible refine Kd.C_alloc ?_ _) | (with_reducible refine Kd.C_drewN ?_ _) | (with_reducible refine Kd.C_drew ?_))); (case side2 => exact HC0_1.out); rintro e w35 ⟨v232, rfl, ho0, hb⟩; refine ⟨_, rfl, ?_⟩; have n0_ := Aside0.mk (Kd.R_elder' (by (with_reducible repeat (first | apply Kd.R_alloc | apply Kd.R_drewN | apply Kd.R_drew)); exact HO225.out) (Kd.R_base ho0) hb); have n1_ := Aside0.mk (Kd.R_below (by (with_reducible repeat (first | apply Kd.R_alloc | apply Kd.R_drewN | apply Kd.R_drew)); exact HO228.out) hb); have n2_ := Aside0.mk (Kd.R_lower (Kd.R_new' ho0 (Kd.R_lt (by (with_reducible repeat (first | apply Kd.R_alloc | apply Kd.R_drewN | apply Kd.R_drew)); exact HO225.out))) (below_size (by repeat (first | (with_reducible first | exact HB.out | apply below_alloc | apply pw_below_drewN | apply below_drew1 | refine below_set ?_ GE220.out) | exact HB.out)))); have n3_ := Aside0.mk (blk_below (g := gb220) (o := .cells #[.int .i64 a0_0, .slice A0_1 l0_1.length c0_1] 24 (0, 0)) (by (with_reducible repeat (first | refine blk_drewN ?_ _ | refine blk_drew ?_ | refine blk_alloc ?_ _)); exact BK220.out) hb); have n4_ := Aside0.mk (below_step (by repeat (first | (with_reducible first | exact HB.out | apply below_alloc | apply pw_below_drewN | apply below_drew1 | refine below_set ?_ GE220.out) | exact HB.out)) hb); clear HO225; clear HO228; clear BK220; clear HB; have HO225 := n0_; have HO228 := n1_; have HO233 := n2_; have BK220 := n3_; have HB := n4_; clear n0_ n1_ n2_ n3_ n4_; (try clear hb); (try clear hb2); (try clear hk); (try clear hi); (try clear ho0)) | ((with_reducible refine gate_dst (N := 11) rfl ?_); refine box_event ?hg (N := 11) ?hd (cs := #[.int .i64 0, .slice none 0 0]) (t := 30) ?hr ?_; (case hd => rfl); (case hg => rfl); (case hr => first | (go_simp; done) | (go_simp; rfl)); intro gb234 hg w36 hbox hb; have n0_ := Aside0.mk (Kd.R_below (by (with_reducible repeat (first | apply Kd.R_alloc | apply Kd.R_drewN | apply Kd.R_drew)); exact HO225.out) hb); have n1_ := Aside0.mk (Kd.R_below (by (with_reducible repeat (first | apply Kd.R_alloc | apply Kd.R_drewN | apply Kd.R_drew)); exact HO228.out) hb); have n2_ := Aside0.mk (Kd.R_below (by (with_reducible repeat (first | apply Kd.R_alloc | apply Kd.R_drewN | apply Kd.R_drew)); exact HO233.out) hb); have n3_ := Aside0.mk (blk_below (g := gb220) (o := .cells #[.int .i64 a0_0, .slice A0_1 l0_1.length c0_1] 24 (0, 0)) (by (with_reducible repeat (first | refine blk_drewN ?_ _ | refine blk_drew ?_ | refine blk_alloc ?_ _)); exact BK220.out) hb); have n4_ := Aside0.mk (below_step (by repeat (first | (with_reducible first | exact HB.out | apply below_alloc | apply pw_below_drewN | apply below_drew1 | refine below_set ?_ GE220.out) | exact HB.out)) hb); have n5_ := Aside0.mk (hbox); have n6_ := Aside0.mk ((by rw [hg]; exact (below_size (by repeat (first | (with_reducible first | exact HB.out | apply below_alloc | apply pw_below_drewN | apply below_drew1 | refine below_set ?_ GE220.out) | exact HB.out))) : w.heap.size ≤ gb234)); have n7_ := Aside0.mk ((by rw [hg]; exact (below_size (by repeat (first | (with_reducible first | exact HB.out | apply below_alloc | apply pw_below_drewN | apply below_drew1 | refine below_set ?_ GE220.out) | exact HB.out))) : w.heap.size ≤ gb234)); have n8_ := Aside0.mk ((by rw [hg]; exact Nat.ne_of_lt (blk_lt (g := gb220) (o := .cells #[.int .i64 a0_0, .slice A0_1 l0_1.length c0_1] 24 (0, 0)) (by (with_reducible repeat (first | refine blk_drewN ?_ _ | refine blk_drew ?_ | refine blk_alloc ?_ _)); exact BK220.out)) : gb220 ≠ gb234)); have n9_ := Aside0.mk ((by rw [hg]; exact Nat.ne_of_gt (blk_lt (g := gb220) (o := .cells #[.int .i64 a0_0, .slice A0_1 l0_1.length c0_1] 24 (0, 0)) (by (with_reducible repeat (first | refine blk_drewN ?_ _ | refine blk_drew ?_ | refine blk_alloc ?_ _)); exact BK220.out)) : gb234 ≠ gb220)); clear HO225; clear HO228; clear HO233; clear BK220; clear HB; have HO225 := n0_; have HO228 := n1_; have HO233 := n2_; have BK220 := n3_; have HB := n4_; have BK234 := n5_; have GW234 := n6_; have GE234 := n7_; have NB220_234 := n8_; have NB234_220 := n9_; clear n0_ n1_ n2_ n3_ n4_ n5_ n6_ n7_ n8_ n9_; clear hb hbox hg; have hnb37 := NB234_220.out; have hnc37 := NB220_234.out; have hcz38_0 : w36.cell? ⟨gb234, 0, none⟩ = some (.int .i64 0) := (blk_cell BK234.out 0).trans rfl; have hcz38_1 : w36.cell? ⟨gb234, 1, none⟩ = some (.slice none 0 0) := (blk_cell BK234.out 1).trans rfl; have hfz38_0 := blk_frozen BK234.out 0; have hfz38_1 := blk_frozen BK234.out 1; obtain ⟨Ao39, co39, eo39⟩ := Kd.R_slice HO233.out; subst eo39) | ((with_reducible refine gate_callee (f := 17) rfl ?_); refine goesL_ (some 32) rfl rfl Try.func17 (by kernel_rfl) rfl #[.slice A1 l1.length c1] rfl (by (try simp only [List.map_toArray, List.map_cons, List.map_nil]); first | done | rfl | (simp only [List.length_drop, List.length_take]; rfl)) ?_; (with_reducible refine (laws_toBoolS.calls k _ _ l1 t235 _ ?side1 ?side2 A16.out).mono ?_); (case side1 => exact Kd.C_below HR1.out (by repeat (first | (with_reducible first | exact HB.out | apply below_alloc | apply pw_below_drewN | apply below_drew1 | refine below_set ?_ GE220.out | refine below_set ?_ GE234.out) | exact HB.out))); (case side2 => exact HC1.out); rintro e w40 ⟨v236, rfl, ho0, hb⟩; refine ⟨_, rfl, ?_⟩; have n0_ := Aside0.mk (Kd.R_below (by (with_reducible repeat (first | apply Kd.R_alloc | apply Kd.R_drewN | apply Kd.R_drew)); exact (Kd.R_mono (Kd.R_far (p := ⟨gb234, 1, none⟩) (Kd.R_far (p := ⟨gb234, 0, none⟩) (Kd.R_types HO225.out BK234.out (by decide)) (fun _ hk => hk.2) (.int .i64 t230)) (fun _ hk => hk.2) (.slice Ao39 t231.length co39)) (fun _ h_ => h_.1))) hb); have n1_ := Aside0.mk (Kd.R_elder' (by (with_reducible repeat (first | apply Kd.R_alloc | apply Kd.R_drewN | apply Kd.R_drew)); exact (Kd.R_mono (Kd.R_far (p := ⟨gb234, 1, none⟩) (Kd.R_far (p := ⟨gb234, 0, none⟩) (Kd.R_types HO228.out BK234.out (by decide)) (fun _ hk => hk.2) (.int .i64 t230)) (fun _ hk => hk.2) (.slice Ao39 t231.length co39)) (fun _ h_ => h_.1))) (Kd.R_base ho0) hb); have n2_ := Aside0.mk (Kd.R_below (by (with_reducible repeat (first | apply Kd.R_alloc | apply Kd.R_drewN | apply Kd.R_drew)); exact (Kd.R_mono (Kd.R_far (p := ⟨gb234, 1, none⟩) (Kd.R_far (p := ⟨gb234, 0, none⟩) (Kd.R_types HO233.out BK234.out (by decide)) (fun _ hk => hk.2) (.int .i64 t230)) (fun _ hk => hk.2) (.slice Ao39 t231.length co39)) (fun _ h_ => h_.1))) hb); have n3_ := Aside0.mk (Kd.R_lower (Kd.R_new' ho0 (Kd.R_lt (by (with_reducible repeat (first | apply Kd.R_alloc | apply Kd.R_drewN | apply Kd.R_drew)); exact (Kd.R_mono (Kd.R_far (p := ⟨gb234, 1, none⟩) (Kd.R_far (p := ⟨gb234, 0, none⟩) (Kd.R_types HO228.out BK234.out (by decide)) (fun _ hk => hk.2) (.int .i64 t230)) (fun _ hk => hk.2) (.slice Ao39 t231.length co39)) (fun _ h_ => h_.1))))) (below_size (by repeat (first | (with_reducible first | exact HB.out | apply below_alloc | apply pw_below_drewN | apply below_drew1 | refine below_set ?_ GE220.out | refine below_set ?_ GE234.out) | exact HB.out)))); have n4_ := Aside0.mk (blk_below (g := gb220) (o := .cells #[.int .i64 a0_0, .slice A0_1 l0_1.length c0_1] 24 (0, 0)) (by (with_reducible repeat (first | refine blk_drewN ?_ _ | refine blk_drew ?_ | refine blk_alloc ?_ _)); refine blk_far ?_ NB220_234.out _; (with_reducible repeat (first | refine blk_drewN ?_ _ | refine blk_drew ?_ | refine blk_alloc ?_ _)); refine blk_far ?_ NB220_234.out _; (with_reducible repeat (first | refine blk_drewN ?_ _ | refine blk_drew ?_ | refine blk_alloc ?_ _)); exact BK220.out) hb); have n5_ := Aside0.mk (blk_below (g := gb234) (o := .cells #[.int .i64 t230, .slice Ao39 t231.length co39] 30 (0, 0)) (by (with_reducible repeat (first | refine blk_drewN ?_ _ | refine blk_drew ?_ | refine blk_alloc ?_ _)); refine blk_put (cs := #[.int .i64 t230, .slice none 0 0]) ?_ 1 _ rfl; (with_reducible repeat (first | refine blk_drewN ?_ _ | refine blk_drew ?_ | refine blk_alloc ?_ _)); refine blk_put (cs := #[.int .i64 0, .slice none 0 0]) ?_ 0 _ rfl; (with_reducible repeat (first | refine blk_drewN ?_ _ | refine blk_drew ?_ | refine blk_alloc ?_ _)); exact BK234.out) hb); have n6_ := Aside0.mk (below_step (by repeat (first | (with_reducible first | exact HB.out | apply below_alloc | apply pw_below_drewN | apply below_drew1 | refine below_set ?_ GE220.out | refine below_set ?_ GE234.out) | exact HB.out)) hb); clear HO225; clear HO228; clear HO233; clear BK220; clear BK234; clear HB; have HO225 := n0_; have HO228 := n1_; have HO233 := n2_; have HO237 := n3_; have BK220 := n4_; have BK234 := n5_; have HB := n6_; clear n0_ n1_ n2_ n3_ n4_ n5_ n6_; (try clear hb); (try clear hb2); (try clear hk); (try clear hi); (try clear ho0); have hcz41_0 : w40.cell? ⟨gb234, 0, none⟩ = some (.int .i64 t230) := (blk_cell BK234.out 0).trans rfl; have hcz41_1 : w40.cell? ⟨gb234, 1, none⟩ = some (.slice Ao39 t231.length co39) := (blk_cell BK234.out 1).trans rfl; have hfz41_0 := blk_frozen BK234.out 0; have hfz41_1 := blk_frozen BK234.out 1; obtain ⟨Ao42, co42, eo42⟩ := Kd.R_slice HO237.out; subst eo42) | ((with_reducible refine gate_callee (f := 18) rfl ?_); refine goesL_ (some 37) rfl rfl Try.func18 (by kernel_rfl) rfl #[.agg #[.int .i64 t230, .slice Ao39 t231.length co39], .slice Ao42 t235.length co42, .int .i64 a2, .int .i64 a3] rfl (by (try simp only [List.map_toArray, List.map_cons, List.map_nil]); first | done | rfl | (simp only [List.length_drop, List.length_take]; rfl)) ?_; (with_reducible refine (impl_SameIsland.calls k t230 _ _ t231 _ _ t235 a2 a3 t238 _ ?side1 ?side2 ?side3 ?side4 A17.out).mono ?_); (case side1 => repeat (first | exact (Kd.R_reads' HO233.out).2.2 | (with_reducible refine Kd.C_alloc ?_ _) | (with_reducible refine Kd.C_drewN ?_ _) | (with_reducible refine Kd.C_drew ?_))); (case side2 => exact (Kd.R_reads' HO233.out).2.1); (case side3 => repeat (first | exact (Kd.R_reads' HO237.out).2.2 | (with_reducible refine Kd.C_alloc ?_ _) | (with_reducible refine Kd.C_drewN ?_ _) | (with_reducible refine Kd.C_drew ?_))); (case side4 => exact (Kd.R_reads' HO237.out).2.1); rintro e w43 ⟨rfl, hb⟩; refine ⟨_, rfl, ?_⟩; have n0_ := Aside0.mk (Kd.R_below (by (with_reducible repeat (first | apply Kd.R_alloc | apply Kd.R_drewN | apply Kd.R_drew)); exact HO225.out) hb); have n1_ := Aside0.mk (Kd.R_below (by (with_reducible repeat (first | apply Kd.R_alloc | apply Kd.R_drewN | apply Kd.R_drew)); exact HO228.out) hb); have n2_ := Aside0.mk (Kd.R_below (by (with_reducible repeat (first | apply Kd.R_alloc | apply Kd.R_drewN | apply Kd.R_drew)); exact HO233.out) hb); have n3_ := Aside0.mk (Kd.R_below (by (with_reducible repeat (first | apply Kd.R_alloc | apply Kd.R_drewN | apply Kd.R_drew)); exact HO237.out) hb); have n4_ := Aside0.mk (blk_below (g := gb220) (o := .cells #[.int .i64 a0_0, .slice A0_1 l0_1.length c0_1] 24 (0, 0)) (by (with_reducible repeat (first | refine blk_drewN ?_ _ | refine blk_drew ?_ | refine blk_alloc ?_ _)); exact BK220.out) hb); have n5_ := Aside0.mk (blk_below (g := gb234) (o := .cells #[.int .i64 t230, .slice Ao39 t231.length co39] 30 (0, 0)) (by (with_reducible repeat (first | refine blk_drewN ?_ _ | refine blk_drew ?_ | refine blk_alloc ?_ _)); exact BK234.out) hb); have n6_ := Aside0.mk (below_step (by repeat (first | (with_reducible first | exact HB.out | apply below_alloc | apply pw_below_drewN | apply below_drew1 | refine below_set ?_ GE220.out | refine below_set ?_ GE234.out) | exact HB.out)) hb); clear HO225; clear HO228; clear HO233; clear HO237; clear BK220; clear BK234; clear HB; have HO225 := n0_; have HO228 := n1_; have HO233 := n2_; have HO237 := n3_; have BK220 := n4_; have BK234 := n5_; have HB := n6_; clear n0_ n1_ n2_ n3_ n4_ n5_ n6_; (try clear hb); (try clear hb2); (try clear hk); (try clear hi)))
            have n0_ := Aside0.mk (Kd.R_drew HO225.out)
            have n1_ := Aside0.mk (Kd.R_drew HO228.out)
            have n2_ := Aside0.mk (Kd.R_drew HO233.out)
            have n3_ := Aside0.mk (Kd.R_drew HO237.out)
            have n4_ := Aside0.mk (blk_drew BK220.out)
            have n5_ := Aside0.mk (blk_drew BK234.out)
            have n6_ := Aside0.mk (below_drew1 HB.out)
            clear HO225
            clear HO228
            clear HO233
            clear HO237
            clear BK220
            clear BK234
            clear HB
            have HO225 := n0_
            have HO228 := n1_
            have HO233 := n2_
            have HO237 := n3_
            have BK220 := n4_
            have BK234 := n5_
            have HB := n6_
            clear n0_ n1_ n2_ n3_ n4_ n5_ n6_
            refine start_ (n := 5) (S := fun w' => w'.cell? ⟨gb234, 0, none⟩ = some (.int .i64 t230) ∧ w'.cell? ⟨gb234, 1, none⟩ = some (.slice Ao39 t231.length co39) ∧ w'.cell? ⟨gb220, 0, none⟩ = some (.int .i64 a0_0) ∧ w'.cell? ⟨gb220, 1, none⟩ = some (.slice A0_1 l0_1.length c0_1)) (ds := []) #[false, false, false, false, false] (by kernel_rfl) rfl rfl ⟨(blk_cell BK234.out 0).trans rfl, (blk_cell BK234.out 1).trans rfl, (blk_cell BK220.out 0).trans rfl, (blk_cell BK220.out 1).trans rfl⟩ (fun hHeld => ?_)
            generalize w43.drew = w44 at HO225 HO228 HO233 HO237 BK220 BK234 HB hHeld ⊢
            refine take_ (i := 0) (N := some 41) (v := ?_) (a' := ?_) #[true, false, false, false, false] rfl rfl (by kernel_rfl) (fun _ _ _ h => h) (Or.inl ⟨by rfl, ?_⟩) hHeld ?_ ?_
            rotate_left
            · rintro w' ⟨s0, s1, s2, s3⟩
              go_simp
              with_reducible rfl
            rotate_left
            · simp only [Act.put, List.setIfInBounds_toArray, List.set_cons_zero, List.set_cons_succ, i64_w, i32_w]
              rfl
            refine take_ (i := 1) (N := some 42) (v := ?_) (a' := ?_) #[true, true, false, false, false] rfl rfl (by kernel_rfl) (fun _ _ _ h => h) (Or.inl ⟨by rfl, ?_⟩) hHeld ?_ ?_
            rotate_left
            · rintro w' ⟨s0, s1, s2, s3⟩
              go_simp
              with_reducible rfl
            rotate_left
            · simp only [Act.put, List.setIfInBounds_toArray, List.set_cons_zero, List.set_cons_succ, i64_w, i32_w]
              rfl
            refine one_ (i := 2) (N := some 43) #[true, true, true, false, false] rfl rfl (by kernel_rfl) (by decide) (fun K hK => ?_)
            refine goes_ Try.func16 (by kernel_rfl) rfl #[.agg #[.int .i64 a0_0, .slice A0_1 l0_1.length c0_1]] (by rfl) rfl rfl (by (try simp only [List.map_toArray, List.map_cons, List.map_nil]); first | done | rfl | (simp only [List.length_drop, List.length_take]; rfl)) ?_
            with_reducible refine (laws_toNet.calls k a0_0 _ _ l0_1 t239 t240 _ ?side1 ?side2 A19.out).mono ?_
            (case side1 => repeat (first | exact (Kd.C_below HR0_1.out HB.out) | (with_reducible refine Kd.C_alloc ?_ _) | (with_reducible refine Kd.C_drewN ?_ _) | (with_reducible refine Kd.C_drew ?_)))
            (case side2 => exact HC0_1.out)
            rintro e w45 ⟨v241, rfl, ho0, hb⟩
            refine ⟨_, rfl, ?_⟩
            have n0_ := Aside0.mk (Kd.R_elder' (by (with_reducible repeat (first | apply Kd.R_alloc | apply Kd.R_drewN | apply Kd.R_drew)); exact HO225.out) (Kd.R_base ho0) hb)
            have n1_ := Aside0.mk (Kd.R_below (by (with_reducible repeat (first | apply Kd.R_alloc | apply Kd.R_drewN | apply Kd.R_drew)); exact HO228.out) hb)
            have n2_ := Aside0.mk (Kd.R_elder' (by (with_reducible repeat (first | apply Kd.R_alloc | apply Kd.R_drewN | apply Kd.R_drew)); exact HO233.out) (Kd.R_base ho0) hb)
            have n3_ := Aside0.mk (Kd.R_below (by (with_reducible repeat (first | apply Kd.R_alloc | apply Kd.R_drewN | apply Kd.R_drew)); exact HO237.out) hb)
            have n4_ := Aside0.mk (Kd.R_lower (Kd.R_new' (Kd.R_new' ho0 (Kd.R_lt (by (with_reducible repeat (first | apply Kd.R_alloc | apply Kd.R_drewN | apply Kd.R_drew)); exact HO225.out))) (Kd.R_lt (by (with_reducible repeat (first | apply Kd.R_alloc | apply Kd.R_drewN | apply Kd.R_drew)); exact HO233.out))) (below_size (by repeat (first | (with_reducible first | exact HB.out | apply below_alloc | apply pw_below_drewN | apply below_drew1 | refine below_set ?_ GE220.out | refine below_set ?_ GE234.out) | exact HB.out))))
            have n5_ := Aside0.mk (blk_below (g := gb220) (o := .cells #[.int .i64 a0_0, .slice A0_1 l0_1.length c0_1] 24 (0, 0)) (by (with_reducible repeat (first | refine blk_drewN ?_ _ | refine blk_drew ?_ | refine blk_alloc ?_ _)); exact BK220.out) hb)
            have n6_ := Aside0.mk (blk_below (g := gb234) (o := .cells #[.int .i64 t230, .slice Ao39 t231.length co39] 30 (0, 0)) (by (with_reducible repeat (first | refine blk_drewN ?_ _ | refine blk_drew ?_ | refine blk_alloc ?_ _)); exact BK234.out) hb)
            have n7_ := Aside0.mk (below_step (by repeat (first | (with_reducible first | exact HB.out | apply below_alloc | apply pw_below_drewN | apply below_drew1 | refine below_set ?_ GE220.out | refine below_set ?_ GE234.out) | exact HB.out)) hb)
            clear HO225
            clear HO228
            clear HO233
            clear HO237
            clear BK220
            clear BK234
            clear HB
            have HO225 := n0_
            have HO228 := n1_
            have HO233 := n2_
            have HO237 := n3_
            have HO242 := n4_
            have BK220 := n5_
            have BK234 := n6_
            have HB := n7_
            clear n0_ n1_ n2_ n3_ n4_ n5_ n6_ n7_
            (try clear hb)
            (try clear hb2)
            (try clear hk)
            (try clear hi)
            (try clear ho0)
            obtain ⟨Ao46, co46, eo46⟩ := Kd.R_slice HO242.out
            (first | subst eo46 | (injection eo46 with f1_ f2_ f3_; have f4_ := f1_.symm; have f5_ := f3_.symm; clear f1_ f2_ f3_; subst f4_; subst f5_))
            refine hK.out _ _ ⟨(blk_cell BK234.out 0).trans rfl, (blk_cell BK234.out 1).trans rfl, (blk_cell BK220.out 0).trans rfl, (blk_cell BK220.out 1).trans rfl⟩ (fun hHeld => ?_)
            clear hK K
            refine norm_ (a' := ?_) ?_ ?_
            rotate_left
            · show Act.put _ (some 43) _ = _
              simp only [Act.put, List.setIfInBounds_toArray, List.set_cons_zero, List.set_cons_succ, i64_w, i32_w]
              rfl
            refine one_ (i := 3) (N := some 44) #[true, true, true, true, false] rfl rfl (by kernel_rfl) (by decide) (fun K hK => ?_)
            refine goes_ Try.func19 (by kernel_rfl) rfl #[.agg #[.int .i64 t230, .slice Ao39 t231.length co39], .agg #[.int .i64 t239, .slice Ao46 t240.length co46]] (by rfl) rfl rfl (by (try simp only [List.map_toArray, List.map_cons, List.map_nil]); first | done | rfl | (simp only [List.length_drop, List.length_take]; rfl)) ?_
            with_reducible refine (laws_eqNet.calls k t230 _ _ t231 t239 _ _ t240 true _ ?side1 ?side2 ?side3 ?side4 A20.out).mono ?_
            (case side1 => repeat (first | exact (Kd.R_reads' HO233.out).2.2 | (with_reducible refine Kd.C_alloc ?_ _) | (with_reducible refine Kd.C_drewN ?_ _) | (with_reducible refine Kd.C_drew ?_)))
            (case side2 => exact (Kd.R_reads' HO233.out).2.1)
            (case side3 => repeat (first | exact (Kd.R_reads' HO242.out).2.2 | (with_reducible refine Kd.C_alloc ?_ _) | (with_reducible refine Kd.C_drewN ?_ _) | (with_reducible refine Kd.C_drew ?_)))
            (case side4 => exact (Kd.R_reads' HO242.out).2.1)
            rintro e w47 ⟨rfl, hb⟩
            refine ⟨_, rfl, ?_⟩
            have n0_ := Aside0.mk (Kd.R_below (by (with_reducible repeat (first | apply Kd.R_alloc | apply Kd.R_drewN | apply Kd.R_drew)); exact HO225.out) hb)
            have n1_ := Aside0.mk (Kd.R_below (by (with_reducible repeat (first | apply Kd.R_alloc | apply Kd.R_drewN | apply Kd.R_drew)); exact HO228.out) hb)
            have n2_ := Aside0.mk (Kd.R_below (by (with_reducible repeat (first | apply Kd.R_alloc | apply Kd.R_drewN | apply Kd.R_drew)); exact HO233.out) hb)
            have n3_ := Aside0.mk (Kd.R_below (by (with_reducible repeat (first | apply Kd.R_alloc | apply Kd.R_drewN | apply Kd.R_drew)); exact HO237.out) hb)
            have n4_ := Aside0.mk (Kd.R_below (by (with_reducible repeat (first | apply Kd.R_alloc | apply Kd.R_drewN | apply Kd.R_drew)); exact HO242.out) hb)
            have n5_ := Aside0.mk (blk_below (g := gb220) (o := .cells #[.int .i64 a0_0, .slice A0_1 l0_1.length c0_1] 24 (0, 0)) (by (with_reducible repeat (first | refine blk_drewN ?_ _ | refine blk_drew ?_ | refine blk_alloc ?_ _)); exact BK220.out) hb)
            have n6_ := Aside0.mk (blk_below (g := gb234) (o := .cells #[.int .i64 t230, .slice Ao39 t231.length co39] 30 (0, 0)) (by (with_reducible repeat (first | refine blk_drewN ?_ _ | refine blk_drew ?_ | refine blk_alloc ?_ _)); exact BK234.out) hb)
            have n7_ := Aside0.mk (below_step (by repeat (first | (with_reducible first | exact HB.out | apply below_alloc | apply pw_below_drewN | apply below_drew1 | refine below_set ?_ GE220.out | refine below_set ?_ GE234.out) | exact HB.out)) hb)
            clear HO225
            clear HO228
            clear HO233
            clear HO237
            clear HO242
            clear BK220
            clear BK234
            clear HB
            have HO225 := n0_
            have HO228 := n1_
            have HO233 := n2_
            have HO237 := n3_
            have HO242 := n4_
            have BK220 := n5_
            have BK234 := n6_
            have HB := n7_
            clear n0_ n1_ n2_ n3_ n4_ n5_ n6_ n7_
            (try clear hb)
            (try clear hb2)
            (try clear hk)
            (try clear hi)
            refine hK.out _ _ ⟨(blk_cell BK234.out 0).trans rfl, (blk_cell BK234.out 1).trans rfl, (blk_cell BK220.out 0).trans rfl, (blk_cell BK220.out 1).trans rfl⟩ (fun hHeld => ?_)
            clear hK K
            refine norm_ (a' := ?_) ?_ ?_
            rotate_left
            · show Act.put _ (some 44) _ = _
              simp only [Act.put, List.setIfInBounds_toArray, List.set_cons_zero, List.set_cons_succ, i64_w, i32_w]
              rfl
            refine pure_ (i := 4) (N := some 45) (v := ?_) (a' := ?_) #[true, true, true, true, true] rfl rfl (by kernel_rfl) (fun _ _ _ h => h) (Or.inl ⟨by rfl, ?_⟩) ?_ ?_
            rotate_left
            · intro w'
              go_simp
              with_reducible rfl
            rotate_left
            · simp only [Act.put, List.setIfInBounds_toArray, List.set_cons_zero, List.set_cons_succ, i64_w, i32_w]
              rfl
            refine done_ (by kernel_rfl) ?_
            try go_wp2_with (first | ((with_reducible refine gate_callee (f := 17) rfl ?_); refine goesL_ (some 48) rfl rfl Try.func17 (by kernel_rfl) rfl #[.slice A1 l1.length c1] rfl (by (try simp only [List.map_toArray, List.map_cons, List.map_nil]); first | done | rfl | (simp only [List.length_drop, List.length_take]; rfl)) ?_; (with_reducible refine (laws_toBoolS.calls k _ _ l1 t244 _ ?side1 ?side2 A22.out).mono ?_); (case side1 => repeat (first | exact (Kd.C_below HR1.out HB.out) | (with_reducible refine Kd.C_alloc ?_ _) | (with_reducible refine Kd.C_drewN ?_ _) | (with_reducible refine Kd.C_drew ?_))); (case side2 => exact HC1.out); rintro e w48 ⟨v245, rfl, ho0, hb⟩; refine ⟨_, rfl, ?_⟩; have n0_ := Aside0.mk (Kd.R_below (by (with_reducible repeat (first | apply Kd.R_alloc | apply Kd.R_drewN | apply Kd.R_drew)); exact HO225.out) hb); have n1_ := Aside0.mk (Kd.R_elder' (by (with_reducible repeat (first | apply Kd.R_alloc | apply Kd.R_drewN | apply Kd.R_drew)); exact HO228.out) (Kd.R_base ho0) hb); have n2_ := Aside0.mk (Kd.R_below (by (with_reducible repeat (first | apply Kd.R_alloc | apply Kd.R_drewN | apply Kd.R_drew)); exact HO233.out) hb); have n3_ := Aside0.mk (Kd.R_elder' (by (with_reducible repeat (first | apply Kd.R_alloc | apply Kd.R_drewN | apply Kd.R_drew)); exact HO237.out) (Kd.R_base ho0) hb); have n4_ := Aside0.mk (Kd.R_below (by (with_reducible repeat (first | apply Kd.R_alloc | apply Kd.R_drewN | apply Kd.R_drew)); exact HO242.out) hb); have n5_ := Aside0.mk (Kd.R_lower (Kd.R_new' (Kd.R_new' ho0 (Kd.R_lt (by (with_reducible repeat (first | apply Kd.R_alloc | apply Kd.R_drewN | apply Kd.R_drew)); exact HO228.out))) (Kd.R_lt (by (with_reducible repeat (first | apply Kd.R_alloc | apply Kd.R_drewN | apply Kd.R_drew)); exact HO237.out))) (below_size (by repeat (first | (with_reducible first | exact HB.out | apply below_alloc | apply pw_below_drewN | apply below_drew1 | refine below_set ?_ GE220.out | refine below_set ?_ GE234.out) | exact HB.out)))); have n6_ := Aside0.mk (blk_below (g := gb220) (o := .cells #[.int .i64 a0_0, .slice A0_1 l0_1.length c0_1] 24 (0, 0)) (by (with_reducible repeat (first | refine blk_drewN ?_ _ | refine blk_drew ?_ | refine blk_alloc ?_ _)); exact BK220.out) hb); have n7_ := Aside0.mk (blk_below (g := gb234) (o := .cells #[.int .i64 t230, .slice Ao39 t231.length co39] 30 (0, 0)) (by (with_reducible repeat (first | refine blk_drewN ?_ _ | refine blk_drew ?_ | refine blk_alloc ?_ _)); exact BK234.out) hb); have n8_ := Aside0.mk (below_step (by repeat (first | (with_reducible first | exact HB.out | apply below_alloc | apply pw_below_drewN | apply below_drew1 | refine below_set ?_ GE220.out | refine below_set ?_ GE234.out) | exact HB.out)) hb); clear HO225; clear HO228; clear HO233; clear HO237; clear HO242; clear BK220; clear BK234; clear HB; have HO225 := n0_; have HO228 := n1_; have HO233 := n2_; have HO237 := n3_; have HO242 := n4_; have HO246 := n5_; have BK220 := n6_; have BK234 := n7_; have HB := n8_; clear n0_ n1_ n2_ n3_ n4_ n5_ n6_ n7_ n8_; (try clear hb); (try clear hb2); (try clear hk); (try clear hi); (try clear ho0); obtain ⟨Ao49, co49, eo49⟩ := Kd.R_slice HO246.out; subst eo49) | ((with_reducible refine gate_callee (f := 20) rfl ?_); refine goesL_ (some 49) rfl rfl Try.func20 (by kernel_rfl) rfl #[.slice Ao42 t235.length co42, .slice Ao49 t244.length co49] rfl (by (try simp only [List.map_toArray, List.map_cons, List.map_nil]); first | done | rfl | (simp only [List.length_drop, List.length_take]; rfl)) ?_; (with_reducible refine (laws_eqBoolS.calls k _ _ t235 _ _ t244 true _ ?side1 ?side2 ?side3 ?side4 A23.out).mono ?_); (case side1 => repeat (first | exact (Kd.R_reads' HO237.out).2.2 | (with_reducible refine Kd.C_alloc ?_ _) | (with_reducible refine Kd.C_drewN ?_ _) | (with_reducible refine Kd.C_drew ?_))); (case side2 => exact (Kd.R_reads' HO237.out).2.1); (case side3 => repeat (first | exact (Kd.R_reads' HO246.out).2.2 | (with_reducible refine Kd.C_alloc ?_ _) | (with_reducible refine Kd.C_drewN ?_ _) | (with_reducible refine Kd.C_drew ?_))); (case side4 => exact (Kd.R_reads' HO246.out).2.1); rintro e w' ⟨rfl, ⟨nd, rfl⟩⟩; refine ⟨_, rfl, ?_⟩))
            go_ret
            exact ⟨by first | rfl | (simp [errW_none, errW_some] <;> rfl) | (simp [*, errW_none, errW_some] <;> rfl), by repeat (first | (with_reducible first | exact HB.out | apply below_alloc | apply pw_below_drewN | apply below_drew1 | refine below_set ?_ GE220.out | refine below_set ?_ GE234.out) | exact HB.out)⟩
          · replace c24 := Bool.eq_false_iff.mpr c24
            subst c24
            have H1 : (none) = some r := by rw [if_neg (show ¬ (false = true) by decide)] at H; exact H
            clear H
            have H := H1
            clear H1
            exact absurd H (by simp)
        · replace c21 := Bool.eq_false_iff.mpr c21
          subst c21
          have H1 : (none) = some r := by rw [if_neg (show ¬ (false = true) by decide)] at H; exact H
          clear H
          have H := H1
          clear H1
          exact absurd H (by simp)

end Go.Proofs.Ytknddipjabkfbaa.P

/- Contracts of Go functions of this seat's translation, written by this repo's wip/mk.py: it calls the kit's print.py with contracts typed by hand in place of functions that it does not take. Not trusted: Lean checks it. -/
import Derived.Test.YtcchhgpdallpmaaP0
import Derived.Test.YtcchhgpdallpmaaP27
import Derived.Test.YtcchhgpdallpmaaP31
import Derived.Test.YtcchhgpdallpmaaP36
import Derived.Test.YtcchhgpdallpmaaP44
import Derived.Test.YtcchhgpdallpmaaP47
namespace Go.Proofs.Ytcchhgpdallpmaa.P
open Go.RowKit Go.Proofs.YtcchhgpdallpmaaW.PrintWords Go.Proofs.YtcchhgpdallpmaaW.PrintLast Go.Proofs.YtcchhgpdallpmaaW.PrintMore
attribute [local go_sem] max2_int min2_int max_two min_two max_three min_three max_four min_four   -- for this text's walks alone
set_option linter.unusedVariables false
set_option linter.unusedSimpArgs false

/-! ### laws_FnExactOtherEnd: function 11 -/
def laws_FnExactOtherEnd.f (k : Nat) (a0_0 : Int) (l0_1 : List (S82)) (a1 : Int) (a2 : Int) : Option (Bool) := (laws_szNet.f a0_0 l0_1 1048576).bind fun t427 => (if t427 < 0 then (some true) else ((laws_toNet.f k a0_0 l0_1).bind fun bt428 => ((spec_OtherEnd.f k bt428.1 bt428.2 a1 a2).bind fun t432 => ((laws_toNet.f k a0_0 l0_1).bind fun bt433 => ((impl_OtherEnd.f k bt433.1 bt433.2 a1 a2).bind fun t438 => (if t438 = t432 then ((laws_toNet.f k a0_0 l0_1).bind fun bt439 => ((laws_eqNet.f k bt433.1 bt433.2 bt439.1 bt439.2).bind fun t443 => (if t443 = true then (some true) else (some false)))) else (some false)))))))
theorem laws_FnExactOtherEnd.mono : ∀ a0 a1 a2 a3 k, LeO (laws_FnExactOtherEnd.f k a0 a1 a2 a3) (laws_FnExactOtherEnd.f (k + 1) a0 a1 a2 a3) := by
  intro a0 a1 a2 a3 k
  unfold laws_FnExactOtherEnd.f
  repeat' first
      | (with_reducible exact impl_OtherEnd.mono _ _ _ _ _)
      | (with_reducible exact laws_eqNet.mono _ _ _ _ _)
      | (with_reducible exact laws_toNet.mono _ _ _)
      | (with_reducible exact spec_OtherEnd.mono _ _ _ _ _)
      | (with_reducible exact LeO.refl _)
      | (with_reducible exact LeO.none _)
      | (with_reducible refine LeO.ite ?_ ?_)
      | (with_reducible refine LeO.bind ?_ (fun _ => ?_))
      | exact impl_OtherEnd.mono _ _ _ _ _
      | exact laws_eqNet.mono _ _ _ _ _
      | exact laws_toNet.mono _ _ _
      | exact spec_OtherEnd.mono _ _ _ _ _
      | exact LeO.none _
      | refine LeO.ite ?_ ?_
      | refine LeO.bind ?_ (fun _ => ?_)
set_option maxHeartbeats 8000000 in
set_option maxRecDepth 100000 in
theorem laws_FnExactOtherEnd.calls (k : Nat) (a0_0 : Int) (A0_1 : Option Addr) (c0_1 : Nat) (l0_1 : List (S82)) (a1 : Int) (a2 : Int) (r : Bool) (w : World) (hr0_1 : Kd.C k82 w A0_1 l0_1.length l0_1) (hc0_1 : l0_1.length ≤ c0_1) (h : laws_FnExactOtherEnd.f k a0_0 l0_1 a1 a2 = some r) :
    Calls Try.prog 11 #[.agg #[.int .i64 a0_0, .slice A0_1 l0_1.length c0_1], .int .i64 a1, .int .i64 a2] w fun e w' => e = .returned (.bool r) ∧ Below w.heap.size w w' := by
  have hu41 := Try.underlying41
  have hu46 := Try.underlying46
  have HR0_1 := Aside0.mk hr0_1
  have HC0_1 := Aside0.mk hc0_1
  clear hr0_1 hc0_1
  have HB := Aside0.mk (Below.refl w.heap.size w)
  have H : ((laws_szNet.f a0_0 l0_1 1048576).bind fun t427 => (if t427 < 0 then (some true) else ((laws_toNet.f k a0_0 l0_1).bind fun bt428 => ((spec_OtherEnd.f k bt428.1 bt428.2 a1 a2).bind fun t432 => ((laws_toNet.f k a0_0 l0_1).bind fun bt433 => ((impl_OtherEnd.f k bt433.1 bt433.2 a1 a2).bind fun t438 => (if t438 = t432 then ((laws_toNet.f k a0_0 l0_1).bind fun bt439 => ((laws_eqNet.f k bt433.1 bt433.2 bt439.1 bt439.2).bind fun t443 => (if t443 = true then (some true) else (some false)))) else (some false)))))))) = some r := h
  clear h
  replace H := Option.bind_eq_some_iff.mp H
  obtain ⟨t427, A40, H⟩ := H
  replace H : (if t427 < 0 then (some true) else ((laws_toNet.f k a0_0 l0_1).bind fun bt428 => ((spec_OtherEnd.f k bt428.1 bt428.2 a1 a2).bind fun t432 => ((laws_toNet.f k a0_0 l0_1).bind fun bt433 => ((impl_OtherEnd.f k bt433.1 bt433.2 a1 a2).bind fun t438 => (if t438 = t432 then ((laws_toNet.f k a0_0 l0_1).bind fun bt439 => ((laws_eqNet.f k bt433.1 bt433.2 bt439.1 bt439.2).bind fun t443 => (if t443 = true then (some true) else (some false)))) else (some false))))))) = some r := H
  have A4 := Aside0.mk A40
  clear A40
  by_cases c5 : t427 < 0
  · rw [if_pos c5] at H
    have c5b0 : decide (t427 < 0) = true := decide_eq_true c5
    clear c5
    obtain rfl := Option.some.inj H
    go_enter Try.func11, Try.ntmps11
    go_wp2_with (first | ((with_reducible refine gate_dst (N := 3) rfl ?_); refine box_event ?hg (N := 3) ?hd (cs := #[.int .i64 a0_0, .slice A0_1 l0_1.length c0_1]) (t := 41) ?hr ?_; (case hd => rfl); (case hg => rfl); (case hr => first | (go_simp; done) | (go_simp; rfl)); intro gb426 hg w6 hbox hb; have n0_ := Aside0.mk (below_step (by repeat (first | (with_reducible first | exact HB.out | apply below_alloc | apply pw_below_drewN | apply below_drew1) | exact HB.out)) hb); have n1_ := Aside0.mk (hbox); have n2_ := Aside0.mk ((by rw [hg]; exact (below_size (by repeat (first | (with_reducible first | exact HB.out | apply below_alloc | apply pw_below_drewN | apply below_drew1) | exact HB.out))) : w.heap.size ≤ gb426)); have n3_ := Aside0.mk ((by rw [hg]; exact (below_size (by repeat (first | (with_reducible first | exact HB.out | apply below_alloc | apply pw_below_drewN | apply below_drew1) | exact HB.out))) : w.heap.size ≤ gb426)); clear HB; have HB := n0_; have BK426 := n1_; have GW426 := n2_; have GE426 := n3_; clear n0_ n1_ n2_ n3_; clear hb hbox hg; have hcz7_0 : w6.cell? ⟨gb426, 0, none⟩ = some (.int .i64 a0_0) := (blk_cell BK426.out 0).trans rfl; have hcz7_1 : w6.cell? ⟨gb426, 1, none⟩ = some (.slice A0_1 l0_1.length c0_1) := (blk_cell BK426.out 1).trans rfl; have hfz7_0 := blk_frozen BK426.out 0; have hfz7_1 := blk_frozen BK426.out 1) | ((with_reducible refine gate_callee (f := 31) rfl ?_); refine goesL_ (some 13) rfl rfl Try.func31 (by kernel_rfl) rfl #[.agg #[.int .i64 a0_0, .slice A0_1 l0_1.length c0_1], .int .i64 1048576] rfl (by (try simp only [List.map_toArray, List.map_cons, List.map_nil]); first | done | rfl | (simp only [List.length_drop, List.length_take]; rfl)) ?_; (with_reducible refine (laws_szNet.calls a0_0 _ _ l0_1 1048576 t427 _ ?side1 ?side2 A4.out).mono ?_); (case side1 => repeat (first | exact (Kd.C_below HR0_1.out HB.out) | (with_reducible refine Kd.C_alloc ?_ _) | (with_reducible refine Kd.C_drewN ?_ _) | (with_reducible refine Kd.C_drew ?_))); (case side2 => exact HC0_1.out); rintro e w8 ⟨rfl, hb⟩; refine ⟨_, rfl, ?_⟩; have n0_ := Aside0.mk (blk_below (g := gb426) (o := .cells #[.int .i64 a0_0, .slice A0_1 l0_1.length c0_1] 41 (0, 0)) (by (with_reducible repeat (first | refine blk_drewN ?_ _ | refine blk_drew ?_ | refine blk_alloc ?_ _)); exact BK426.out) hb); have n1_ := Aside0.mk (below_step (by repeat (first | (with_reducible first | exact HB.out | apply below_alloc | apply pw_below_drewN | apply below_drew1 | refine below_set ?_ GE426.out) | exact HB.out)) hb); clear BK426; clear HB; have BK426 := n0_; have HB := n1_; clear n0_ n1_; (try clear hb); (try clear hb2); (try clear hk); (try clear hi)))
    go_ret
    exact ⟨by first | rfl | (simp [errW_none, errW_some] <;> rfl) | (simp [*, errW_none, errW_some] <;> rfl), by repeat (first | (with_reducible first | exact HB.out | apply below_alloc | apply pw_below_drewN | apply below_drew1 | refine below_set ?_ GE426.out) | exact HB.out)⟩
  · rw [if_neg c5] at H
    have c5b0 : decide (t427 < 0) = false := decide_eq_false c5
    clear c5
    replace H := Option.bind_eq_some_iff.mp H
    obtain ⟨⟨t428, t429⟩, A90, H⟩ := H
    replace H : ((spec_OtherEnd.f k t428 t429 a1 a2).bind fun t432 => ((laws_toNet.f k a0_0 l0_1).bind fun bt433 => ((impl_OtherEnd.f k bt433.1 bt433.2 a1 a2).bind fun t438 => (if t438 = t432 then ((laws_toNet.f k a0_0 l0_1).bind fun bt439 => ((laws_eqNet.f k bt433.1 bt433.2 bt439.1 bt439.2).bind fun t443 => (if t443 = true then (some true) else (some false)))) else (some false))))) = some r := H
    have A9 := Aside0.mk A90
    clear A90
    replace H := Option.bind_eq_some_iff.mp H
    obtain ⟨t432, A100, H⟩ := H
    replace H : ((laws_toNet.f k a0_0 l0_1).bind fun bt433 => ((impl_OtherEnd.f k bt433.1 bt433.2 a1 a2).bind fun t438 => (if t438 = t432 then ((laws_toNet.f k a0_0 l0_1).bind fun bt439 => ((laws_eqNet.f k bt433.1 bt433.2 bt439.1 bt439.2).bind fun t443 => (if t443 = true then (some true) else (some false)))) else (some false)))) = some r := H
    have A10 := Aside0.mk A100
    clear A100
    replace H := Option.bind_eq_some_iff.mp H
    obtain ⟨⟨t433, t434⟩, A110, H⟩ := H
    replace H : ((impl_OtherEnd.f k t433 t434 a1 a2).bind fun t438 => (if t438 = t432 then ((laws_toNet.f k a0_0 l0_1).bind fun bt439 => ((laws_eqNet.f k t433 t434 bt439.1 bt439.2).bind fun t443 => (if t443 = true then (some true) else (some false)))) else (some false))) = some r := H
    have A11 := Aside0.mk A110
    clear A110
    replace H := Option.bind_eq_some_iff.mp H
    obtain ⟨t438, A120, H⟩ := H
    replace H : (if t438 = t432 then ((laws_toNet.f k a0_0 l0_1).bind fun bt439 => ((laws_eqNet.f k t433 t434 bt439.1 bt439.2).bind fun t443 => (if t443 = true then (some true) else (some false)))) else (some false)) = some r := H
    have A12 := Aside0.mk A120
    clear A120
    by_cases c13 : t438 = t432
    · rw [if_pos c13] at H
      have c13b0 : (t438 == t432) = true := beq_iff_eq.mpr c13
      have c13b1 : (t438 != t432) = false := bne_eq_false_iff_eq.mpr c13
      clear c13
      replace H := Option.bind_eq_some_iff.mp H
      obtain ⟨⟨t439, t440⟩, A140, H⟩ := H
      replace H : ((laws_eqNet.f k t433 t434 t439 t440).bind fun t443 => (if t443 = true then (some true) else (some false))) = some r := H
      have A14 := Aside0.mk A140
      clear A140
      replace H := Option.bind_eq_some_iff.mp H
      obtain ⟨t443, A150, H⟩ := H
      replace H : (if t443 = true then (some true) else (some false)) = some r := H
      have A15 := Aside0.mk A150
      clear A150
      by_cases c16 : t443 = true
      · subst c16
        have H1 : (some true) = some r := by rw [if_pos rfl] at H; exact H
        clear H
        have H := H1
        clear H1
        obtain rfl := Option.some.inj H
        go_enter Try.func11, Try.ntmps11
        try go_wp2_with (first | ((with_reducible refine gate_dst (N := 3) rfl ?_); refine box_event ?hg (N := 3) ?hd (cs := #[.int .i64 a0_0, .slice A0_1 l0_1.length c0_1]) (t := 41) ?hr ?_; (case hd => rfl); (case hg => rfl); (case hr => first | (go_simp; done) | (go_simp; rfl)); intro gb426 hg w17 hbox hb; have n0_ := Aside0.mk (below_step (by repeat (first | (with_reducible first | exact HB.out | apply below_alloc | apply pw_below_drewN | apply below_drew1) | exact HB.out)) hb); have n1_ := Aside0.mk (hbox); have n2_ := Aside0.mk ((by rw [hg]; exact (below_size (by repeat (first | (with_reducible first | exact HB.out | apply below_alloc | apply pw_below_drewN | apply below_drew1) | exact HB.out))) : w.heap.size ≤ gb426)); have n3_ := Aside0.mk ((by rw [hg]; exact (below_size (by repeat (first | (with_reducible first | exact HB.out | apply below_alloc | apply pw_below_drewN | apply below_drew1) | exact HB.out))) : w.heap.size ≤ gb426)); clear HB; have HB := n0_; have BK426 := n1_; have GW426 := n2_; have GE426 := n3_; clear n0_ n1_ n2_ n3_; clear hb hbox hg; have hcz18_0 : w17.cell? ⟨gb426, 0, none⟩ = some (.int .i64 a0_0) := (blk_cell BK426.out 0).trans rfl; have hcz18_1 : w17.cell? ⟨gb426, 1, none⟩ = some (.slice A0_1 l0_1.length c0_1) := (blk_cell BK426.out 1).trans rfl; have hfz18_0 := blk_frozen BK426.out 0; have hfz18_1 := blk_frozen BK426.out 1) | ((with_reducible refine gate_callee (f := 31) rfl ?_); refine goesL_ (some 13) rfl rfl Try.func31 (by kernel_rfl) rfl #[.agg #[.int .i64 a0_0, .slice A0_1 l0_1.length c0_1], .int .i64 1048576] rfl (by (try simp only [List.map_toArray, List.map_cons, List.map_nil]); first | done | rfl | (simp only [List.length_drop, List.length_take]; rfl)) ?_; (with_reducible refine (laws_szNet.calls a0_0 _ _ l0_1 1048576 t427 _ ?side1 ?side2 A4.out).mono ?_); (case side1 => repeat (first | exact (Kd.C_below HR0_1.out HB.out) | (with_reducible refine Kd.C_alloc ?_ _) | (with_reducible refine Kd.C_drewN ?_ _) | (with_reducible refine Kd.C_drew ?_))); (case side2 => exact HC0_1.out); rintro e w19 ⟨rfl, hb⟩; refine ⟨_, rfl, ?_⟩; have n0_ := Aside0.mk (blk_below (g := gb426) (o := .cells #[.int .i64 a0_0, .slice A0_1 l0_1.length c0_1] 41 (0, 0)) (by (with_reducible repeat (first | refine blk_drewN ?_ _ | refine blk_drew ?_ | refine blk_alloc ?_ _)); exact BK426.out) hb); have n1_ := Aside0.mk (below_step (by repeat (first | (with_reducible first | exact HB.out | apply below_alloc | apply pw_below_drewN | apply below_drew1 | refine below_set ?_ GE426.out) | exact HB.out)) hb); clear BK426; clear HB; have BK426 := n0_; have HB := n1_; clear n0_ n1_; (try clear hb); (try clear hb2); (try clear hk); (try clear hi); have hcz20_0 : w19.cell? ⟨gb426, 0, none⟩ = some (.int .i64 a0_0) := (blk_cell BK426.out 0).trans rfl; have hcz20_1 : w19.cell? ⟨gb426, 1, none⟩ = some (.slice A0_1 l0_1.length c0_1) := (blk_cell BK426.out 1).trans rfl; have hfz20_0 := blk_frozen BK426.out 0; have hfz20_1 := blk_frozen BK426.out 1) | ((with_reducible refine gate_callee (f := 33) rfl ?_); refine goesL_ (some 17) rfl rfl Try.func33 (by kernel_rfl) rfl #[.agg #[.int .i64 a0_0, .slice A0_1 l0_1.length c0_1]] rfl (by (try simp only [List.map_toArray, List.map_cons, List.map_nil]); first | done | rfl | (simp only [List.length_drop, List.length_take]; rfl)) ?_; (with_reducible refine (laws_toNet.calls k a0_0 _ _ l0_1 t428 t429 _ ?side1 ?side2 A9.out).mono ?_); (case side1 => repeat (first | exact (Kd.C_below HR0_1.out HB.out) | (with_reducible refine Kd.C_alloc ?_ _) | (with_reducible refine Kd.C_drewN ?_ _) | (with_reducible refine Kd.C_drew ?_))); (case side2 => exact HC0_1.out); rintro e w21 ⟨v430, rfl, ho0, hb⟩; refine ⟨_, rfl, ?_⟩; have n0_ := Aside0.mk (Kd.R_lower ho0 (below_size (by repeat (first | (with_reducible first | exact HB.out | apply below_alloc | apply pw_below_drewN | apply below_drew1 | refine below_set ?_ GE426.out) | exact HB.out)))); have n1_ := Aside0.mk (blk_below (g := gb426) (o := .cells #[.int .i64 a0_0, .slice A0_1 l0_1.length c0_1] 41 (0, 0)) (by (with_reducible repeat (first | refine blk_drewN ?_ _ | refine blk_drew ?_ | refine blk_alloc ?_ _)); exact BK426.out) hb); have n2_ := Aside0.mk (below_step (by repeat (first | (with_reducible first | exact HB.out | apply below_alloc | apply pw_below_drewN | apply below_drew1 | refine below_set ?_ GE426.out) | exact HB.out)) hb); clear BK426; clear HB; have HO431 := n0_; have BK426 := n1_; have HB := n2_; clear n0_ n1_ n2_; (try clear hb); (try clear hb2); (try clear hk); (try clear hi); (try clear ho0); obtain ⟨Ao22, co22, eo22⟩ := Kd.R_slice HO431.out; subst eo22) | ((with_reducible refine gate_callee (f := 40) rfl ?_); refine goesL_ (some 20) rfl rfl Try.func40 (by kernel_rfl) rfl #[.agg #[.int .i64 t428, .slice Ao22 t429.length co22], .int .i64 a1, .int .i64 a2] rfl (by (try simp only [List.map_toArray, List.map_cons, List.map_nil]); first | done | rfl | (simp only [List.length_drop, List.length_take]; rfl)) ?_; (with_reducible refine (spec_OtherEnd.calls k t428 _ _ t429 a1 a2 t432 _ ?side1 ?side2 A10.out).mono ?_); (case side1 => repeat (first | exact (Kd.R_reads' HO431.out).2.2 | (with_reducible refine Kd.C_alloc ?_ _) | (with_reducible refine Kd.C_drewN ?_ _) | (with_reducible refine Kd.C_drew ?_))); (case side2 => exact (Kd.R_reads' HO431.out).2.1); rintro e w23 ⟨rfl, hb⟩; refine ⟨_, rfl, ?_⟩; have n0_ := Aside0.mk (Kd.R_below (by (with_reducible repeat (first | apply Kd.R_alloc | apply Kd.R_drewN | apply Kd.R_drew)); exact HO431.out) hb); have n1_ := Aside0.mk (blk_below (g := gb426) (o := .cells #[.int .i64 a0_0, .slice A0_1 l0_1.length c0_1] 41 (0, 0)) (by (with_reducible repeat (first | refine blk_drewN ?_ _ | refine blk_drew ?_ | refine blk_alloc ?_ _)); exact BK426.out) hb); have n2_ := Aside0.mk (below_step (by repeat (first | (with_reducible first | exact HB.out | apply below_alloc | apply pw_below_drewN | apply below_drew1 | refine below_set ?_ GE426.out) | exact HB.out)) hb); clear HO431; clear BK426; clear HB; have HO431 := n0_; have BK426 := n1_; have HB := n2_; clear n0_ n1_ n2_; (try clear hb); (try clear hb2); (try clear hk); (try clear hi); have hcz24_0 : w23.cell? ⟨gb426, 0, none⟩ = some (.int .i64 a0_0) := (blk_cell BK426.out 0).trans rfl; have hcz24_1 : w23.cell? ⟨gb426, 1, none⟩ = some (.slice A0_1 l0_1.length c0_1) := (blk_cell BK426.out 1).trans rfl; have hfz24_0 := blk_frozen BK426.out 0; have hfz24_1 := blk_frozen BK426.out 1) | ((with_reducible refine gate_callee (f := 33) rfl ?_); refine goesL_ (some 22) rfl rfl Try.func33 (by kernel_rfl) rfl #[.agg #[.int .i64 a0_0, .slice A0_1 l0_1.length c0_1]] rfl (by (try simp only [List.map_toArray, List.map_cons, List.map_nil]); first | done | rfl | (simp only [List.length_drop, List.length_take]; rfl)) ?_; (with_reducible refine (laws_toNet.calls k a0_0 _ _ l0_1 t433 t434 _ ?side1 ?side2 A11.out).mono ?_); (case side1 => repeat (first | exact (Kd.C_below HR0_1.out HB.out) | (with_reducible refine Kd.C_alloc ?_ _) | (with_reducible refine Kd.C_drewN ?_ _) | (with_reducible refine Kd.C_drew ?_))); (case side2 => exact HC0_1.out); rintro e w25 ⟨v435, rfl, ho0, hb⟩; refine ⟨_, rfl, ?_⟩; have n0_ := Aside0.mk (Kd.R_elder' (by (with_reducible repeat (first | apply Kd.R_alloc | apply Kd.R_drewN | apply Kd.R_drew)); exact HO431.out) (Kd.R_base ho0) hb); have n1_ := Aside0.mk (Kd.R_lower (Kd.R_new' ho0 (Kd.R_lt (by (with_reducible repeat (first | apply Kd.R_alloc | apply Kd.R_drewN | apply Kd.R_drew)); exact HO431.out))) (below_size (by repeat (first | (with_reducible first | exact HB.out | apply below_alloc | apply pw_below_drewN | apply below_drew1 | refine below_set ?_ GE426.out) | exact HB.out)))); have n2_ := Aside0.mk (blk_below (g := gb426) (o := .cells #[.int .i64 a0_0, .slice A0_1 l0_1.length c0_1] 41 (0, 0)) (by (with_reducible repeat (first | refine blk_drewN ?_ _ | refine blk_drew ?_ | refine blk_alloc ?_ _)); exact BK426.out) hb); have n3_ := Aside0.mk (below_step (by repeat (first | (with_reducible first | exact HB.out | apply below_alloc | apply pw_below_drewN | apply below_drew1 | refine below_set ?_ GE426.out) | exact HB.out)) hb); clear HO431; clear BK426; clear HB; have HO431 := n0_; have HO436 := n1_; have BK426 := n2_; have HB := n3_; clear n0_ n1_ n2_ n3_; (try clear hb); (try clear hb2); (try clear hk); (try clear hi); (try clear ho0)) | ((with_reducible refine gate_dst (N := 9) rfl ?_); refine box_event ?hg (N := 9) ?hd (cs := #[.int .i64 0, .slice none 0 0]) (t := 46) ?hr ?_; (case hd => rfl); (case hg => rfl); (case hr => first | (go_simp; done) | (go_simp; rfl)); intro gb437 hg w26 hbox hb; have n0_ := Aside0.mk (Kd.R_below (by (with_reducible repeat (first | apply Kd.R_alloc | apply Kd.R_drewN | apply Kd.R_drew)); exact HO431.out) hb); have n1_ := Aside0.mk (Kd.R_below (by (with_reducible repeat (first | apply Kd.R_alloc | apply Kd.R_drewN | apply Kd.R_drew)); exact HO436.out) hb); have n2_ := Aside0.mk (blk_below (g := gb426) (o := .cells #[.int .i64 a0_0, .slice A0_1 l0_1.length c0_1] 41 (0, 0)) (by (with_reducible repeat (first | refine blk_drewN ?_ _ | refine blk_drew ?_ | refine blk_alloc ?_ _)); exact BK426.out) hb); have n3_ := Aside0.mk (below_step (by repeat (first | (with_reducible first | exact HB.out | apply below_alloc | apply pw_below_drewN | apply below_drew1 | refine below_set ?_ GE426.out) | exact HB.out)) hb); have n4_ := Aside0.mk (hbox); have n5_ := Aside0.mk ((by rw [hg]; exact (below_size (by repeat (first | (with_reducible first | exact HB.out | apply below_alloc | apply pw_below_drewN | apply below_drew1 | refine below_set ?_ GE426.out) | exact HB.out))) : w.heap.size ≤ gb437)); have n6_ := Aside0.mk ((by rw [hg]; exact (below_size (by repeat (first | (with_reducible first | exact HB.out | apply below_alloc | apply pw_below_drewN | apply below_drew1 | refine below_set ?_ GE426.out) | exact HB.out))) : w.heap.size ≤ gb437)); have n7_ := Aside0.mk ((by rw [hg]; exact Nat.ne_of_lt (blk_lt (g := gb426) (o := .cells #[.int .i64 a0_0, .slice A0_1 l0_1.length c0_1] 41 (0, 0)) (by (with_reducible repeat (first | refine blk_drewN ?_ _ | refine blk_drew ?_ | refine blk_alloc ?_ _)); exact BK426.out)) : gb426 ≠ gb437)); have n8_ := Aside0.mk ((by rw [hg]; exact Nat.ne_of_gt (blk_lt (g := gb426) (o := .cells #[.int .i64 a0_0, .slice A0_1 l0_1.length c0_1] 41 (0, 0)) (by (with_reducible repeat (first | refine blk_drewN ?_ _ | refine blk_drew ?_ | refine blk_alloc ?_ _)); exact BK426.out)) : gb437 ≠ gb426)); clear HO431; clear HO436; clear BK426; clear HB; have HO431 := n0_; have HO436 := n1_; have BK426 := n2_; have HB := n3_; have BK437 := n4_; have GW437 := n5_; have GE437 := n6_; have NB426_437 := n7_; have NB437_426 := n8_; clear n0_ n1_ n2_ n3_ n4_ n5_ n6_ n7_ n8_; clear hb hbox hg; have hnb27 := NB437_426.out; have hnc27 := NB426_437.out; have hcz28_0 : w26.cell? ⟨gb437, 0, none⟩ = some (.int .i64 0) := (blk_cell BK437.out 0).trans rfl; have hcz28_1 : w26.cell? ⟨gb437, 1, none⟩ = some (.slice none 0 0) := (blk_cell BK437.out 1).trans rfl; have hfz28_0 := blk_frozen BK437.out 0; have hfz28_1 := blk_frozen BK437.out 1; obtain ⟨Ao29, co29, eo29⟩ := Kd.R_slice HO436.out; subst eo29) | ((with_reducible refine gate_callee (f := 41) rfl ?_); refine goesL_ (some 26) rfl rfl Try.func41 (by kernel_rfl) rfl #[.agg #[.int .i64 t433, .slice Ao29 t434.length co29], .int .i64 a1, .int .i64 a2] rfl (by (try simp only [List.map_toArray, List.map_cons, List.map_nil]); first | done | rfl | (simp only [List.length_drop, List.length_take]; rfl)) ?_; (with_reducible refine (impl_OtherEnd.calls k t433 _ _ t434 a1 a2 t438 _ ?side1 ?side2 A12.out).mono ?_); (case side1 => refine (Kd.R_reads' (e := 70) (base := w.heap.size) (ok := fun k_ => (True ∧ some k_ ≠ (.slice Ao22 t429.length co22 : Value).ownBlock)) (n := t434.length) (c := co29) ?_).2.2; exact (by (with_reducible repeat (first | apply Kd.R_alloc | apply Kd.R_drewN | apply Kd.R_drew)); exact (Kd.R_mono (Kd.R_far (p := ⟨gb437, 1, none⟩) (Kd.R_far (p := ⟨gb437, 0, none⟩) (Kd.R_types HO436.out BK437.out (by decide)) (fun _ hk => hk.2) (.int .i64 t433)) (fun _ hk => hk.2) (.slice Ao29 t434.length co29)) (fun _ h_ => h_.1)))); (case side2 => exact (Kd.R_reads' HO436.out).2.1); rintro e w30 ⟨rfl, hb⟩; refine ⟨_, rfl, ?_⟩; have n0_ := Aside0.mk (Kd.R_below (by (with_reducible repeat (first | apply Kd.R_alloc | apply Kd.R_drewN | apply Kd.R_drew)); exact (Kd.R_mono (Kd.R_far (p := ⟨gb437, 1, none⟩) (Kd.R_far (p := ⟨gb437, 0, none⟩) (Kd.R_types HO431.out BK437.out (by decide)) (fun _ hk => hk.2) (.int .i64 t433)) (fun _ hk => hk.2) (.slice Ao29 t434.length co29)) (fun _ h_ => h_.1))) hb); have n1_ := Aside0.mk (Kd.R_below (by (with_reducible repeat (first | apply Kd.R_alloc | apply Kd.R_drewN | apply Kd.R_drew)); exact (Kd.R_mono (Kd.R_far (p := ⟨gb437, 1, none⟩) (Kd.R_far (p := ⟨gb437, 0, none⟩) (Kd.R_types HO436.out BK437.out (by decide)) (fun _ hk => hk.2) (.int .i64 t433)) (fun _ hk => hk.2) (.slice Ao29 t434.length co29)) (fun _ h_ => h_.1))) hb); have n2_ := Aside0.mk (blk_below (g := gb426) (o := .cells #[.int .i64 a0_0, .slice A0_1 l0_1.length c0_1] 41 (0, 0)) (by (with_reducible repeat (first | refine blk_drewN ?_ _ | refine blk_drew ?_ | refine blk_alloc ?_ _)); refine blk_far ?_ NB426_437.out _; (with_reducible repeat (first | refine blk_drewN ?_ _ | refine blk_drew ?_ | refine blk_alloc ?_ _)); refine blk_far ?_ NB426_437.out _; (with_reducible repeat (first | refine blk_drewN ?_ _ | refine blk_drew ?_ | refine blk_alloc ?_ _)); exact BK426.out) hb); have n3_ := Aside0.mk (blk_below (g := gb437) (o := .cells #[.int .i64 t433, .slice Ao29 t434.length co29] 46 (0, 0)) (by (with_reducible repeat (first | refine blk_drewN ?_ _ | refine blk_drew ?_ | refine blk_alloc ?_ _)); refine blk_put (cs := #[.int .i64 t433, .slice none 0 0]) ?_ 1 _ rfl; (with_reducible repeat (first | refine blk_drewN ?_ _ | refine blk_drew ?_ | refine blk_alloc ?_ _)); refine blk_put (cs := #[.int .i64 0, .slice none 0 0]) ?_ 0 _ rfl; (with_reducible repeat (first | refine blk_drewN ?_ _ | refine blk_drew ?_ | refine blk_alloc ?_ _)); exact BK437.out) hb); have n4_ := Aside0.mk (below_step (by repeat (first | (with_reducible first | exact HB.out | apply below_alloc | apply pw_below_drewN | apply below_drew1 | refine below_set ?_ GE426.out | refine below_set ?_ GE437.out) | exact HB.out)) hb); clear HO431; clear HO436; clear BK426; clear BK437; clear HB; have HO431 := n0_; have HO436 := n1_; have BK426 := n2_; have BK437 := n3_; have HB := n4_; clear n0_ n1_ n2_ n3_ n4_; (try clear hb); (try clear hb2); (try clear hk); (try clear hi)))
        have n0_ := Aside0.mk (Kd.R_drew HO431.out)
        have n1_ := Aside0.mk (Kd.R_drew HO436.out)
        have n2_ := Aside0.mk (blk_drew BK426.out)
        have n3_ := Aside0.mk (blk_drew BK437.out)
        have n4_ := Aside0.mk (below_drew1 HB.out)
        clear HO431
        clear HO436
        clear BK426
        clear BK437
        clear HB
        have HO431 := n0_
        have HO436 := n1_
        have BK426 := n2_
        have BK437 := n3_
        have HB := n4_
        clear n0_ n1_ n2_ n3_ n4_
        refine start_ (n := 5) (S := fun w' => w'.cell? ⟨gb437, 0, none⟩ = some (.int .i64 t433) ∧ w'.cell? ⟨gb437, 1, none⟩ = some (.slice Ao29 t434.length co29) ∧ w'.cell? ⟨gb426, 0, none⟩ = some (.int .i64 a0_0) ∧ w'.cell? ⟨gb426, 1, none⟩ = some (.slice A0_1 l0_1.length c0_1)) (ds := []) #[false, false, false, false, false] (by kernel_rfl) rfl rfl ⟨(blk_cell BK437.out 0).trans rfl, (blk_cell BK437.out 1).trans rfl, (blk_cell BK426.out 0).trans rfl, (blk_cell BK426.out 1).trans rfl⟩ (fun hHeld => ?_)
        generalize w30.drew = w31 at HO431 HO436 BK426 BK437 HB hHeld ⊢
        refine take_ (i := 0) (N := some 30) (v := ?_) (a' := ?_) #[true, false, false, false, false] rfl rfl (by kernel_rfl) (fun _ _ _ h => h) (Or.inl ⟨by rfl, ?_⟩) hHeld ?_ ?_
        rotate_left
        · rintro w' ⟨s0, s1, s2, s3⟩
          go_simp
          with_reducible rfl
        rotate_left
        · simp only [Act.put, List.setIfInBounds_toArray, List.set_cons_zero, List.set_cons_succ, i64_w, i32_w]
          rfl
        refine take_ (i := 1) (N := some 31) (v := ?_) (a' := ?_) #[true, true, false, false, false] rfl rfl (by kernel_rfl) (fun _ _ _ h => h) (Or.inl ⟨by rfl, ?_⟩) hHeld ?_ ?_
        rotate_left
        · rintro w' ⟨s0, s1, s2, s3⟩
          go_simp
          with_reducible rfl
        rotate_left
        · simp only [Act.put, List.setIfInBounds_toArray, List.set_cons_zero, List.set_cons_succ, i64_w, i32_w]
          rfl
        refine one_ (i := 2) (N := some 32) #[true, true, true, false, false] rfl rfl (by kernel_rfl) (by decide) (fun K hK => ?_)
        refine goes_ Try.func33 (by kernel_rfl) rfl #[.agg #[.int .i64 a0_0, .slice A0_1 l0_1.length c0_1]] (by rfl) rfl rfl (by (try simp only [List.map_toArray, List.map_cons, List.map_nil]); first | done | rfl | (simp only [List.length_drop, List.length_take]; rfl)) ?_
        with_reducible refine (laws_toNet.calls k a0_0 _ _ l0_1 t439 t440 _ ?side1 ?side2 A14.out).mono ?_
        (case side1 => repeat (first | exact (Kd.C_below HR0_1.out HB.out) | (with_reducible refine Kd.C_alloc ?_ _) | (with_reducible refine Kd.C_drewN ?_ _) | (with_reducible refine Kd.C_drew ?_)))
        (case side2 => exact HC0_1.out)
        rintro e w32 ⟨v441, rfl, ho0, hb⟩
        refine ⟨_, rfl, ?_⟩
        have n0_ := Aside0.mk (Kd.R_elder' (by (with_reducible repeat (first | apply Kd.R_alloc | apply Kd.R_drewN | apply Kd.R_drew)); exact HO431.out) (Kd.R_base ho0) hb)
        have n1_ := Aside0.mk (Kd.R_elder' (by (with_reducible repeat (first | apply Kd.R_alloc | apply Kd.R_drewN | apply Kd.R_drew)); exact HO436.out) (Kd.R_base ho0) hb)
        have n2_ := Aside0.mk (Kd.R_lower (Kd.R_new' (Kd.R_new' ho0 (Kd.R_lt (by (with_reducible repeat (first | apply Kd.R_alloc | apply Kd.R_drewN | apply Kd.R_drew)); exact HO431.out))) (Kd.R_lt (by (with_reducible repeat (first | apply Kd.R_alloc | apply Kd.R_drewN | apply Kd.R_drew)); exact HO436.out))) (below_size (by repeat (first | (with_reducible first | exact HB.out | apply below_alloc | apply pw_below_drewN | apply below_drew1 | refine below_set ?_ GE426.out | refine below_set ?_ GE437.out) | exact HB.out))))
        have n3_ := Aside0.mk (blk_below (g := gb426) (o := .cells #[.int .i64 a0_0, .slice A0_1 l0_1.length c0_1] 41 (0, 0)) (by (with_reducible repeat (first | refine blk_drewN ?_ _ | refine blk_drew ?_ | refine blk_alloc ?_ _)); exact BK426.out) hb)
        have n4_ := Aside0.mk (blk_below (g := gb437) (o := .cells #[.int .i64 t433, .slice Ao29 t434.length co29] 46 (0, 0)) (by (with_reducible repeat (first | refine blk_drewN ?_ _ | refine blk_drew ?_ | refine blk_alloc ?_ _)); exact BK437.out) hb)
        have n5_ := Aside0.mk (below_step (by repeat (first | (with_reducible first | exact HB.out | apply below_alloc | apply pw_below_drewN | apply below_drew1 | refine below_set ?_ GE426.out | refine below_set ?_ GE437.out) | exact HB.out)) hb)
        clear HO431
        clear HO436
        clear BK426
        clear BK437
        clear HB
        have HO431 := n0_
        have HO436 := n1_
        have HO442 := n2_
        have BK426 := n3_
        have BK437 := n4_
        have HB := n5_
        clear n0_ n1_ n2_ n3_ n4_ n5_
        (try clear hb)
        (try clear hb2)
        (try clear hk)
        (try clear hi)
        (try clear ho0)
        obtain ⟨Ao33, co33, eo33⟩ := Kd.R_slice HO442.out
        (first | subst eo33 | (injection eo33 with f1_ f2_ f3_; have f4_ := f1_.symm; have f5_ := f3_.symm; clear f1_ f2_ f3_; subst f4_; subst f5_))
        refine hK.out _ _ ⟨(blk_cell BK437.out 0).trans rfl, (blk_cell BK437.out 1).trans rfl, (blk_cell BK426.out 0).trans rfl, (blk_cell BK426.out 1).trans rfl⟩ (fun hHeld => ?_)
        clear hK K
        refine norm_ (a' := ?_) ?_ ?_
        rotate_left
        · show Act.put _ (some 32) _ = _
          simp only [Act.put, List.setIfInBounds_toArray, List.set_cons_zero, List.set_cons_succ, i64_w, i32_w]
          rfl
        refine one_ (i := 3) (N := some 33) #[true, true, true, true, false] rfl rfl (by kernel_rfl) (by decide) (fun K hK => ?_)
        refine goes_ Try.func35 (by kernel_rfl) rfl #[.agg #[.int .i64 t433, .slice Ao29 t434.length co29], .agg #[.int .i64 t439, .slice Ao33 t440.length co33]] (by rfl) rfl rfl (by (try simp only [List.map_toArray, List.map_cons, List.map_nil]); first | done | rfl | (simp only [List.length_drop, List.length_take]; rfl)) ?_
        with_reducible refine (laws_eqNet.calls k t433 _ _ t434 t439 _ _ t440 true _ ?side1 ?side2 ?side3 ?side4 A15.out).mono ?_
        (case side1 => repeat (first | exact (Kd.R_reads' HO436.out).2.2 | (with_reducible refine Kd.C_alloc ?_ _) | (with_reducible refine Kd.C_drewN ?_ _) | (with_reducible refine Kd.C_drew ?_)))
        (case side2 => exact (Kd.R_reads' HO436.out).2.1)
        (case side3 => repeat (first | exact (Kd.R_reads' HO442.out).2.2 | (with_reducible refine Kd.C_alloc ?_ _) | (with_reducible refine Kd.C_drewN ?_ _) | (with_reducible refine Kd.C_drew ?_)))
        (case side4 => exact (Kd.R_reads' HO442.out).2.1)
        rintro e w34 ⟨rfl, hb⟩
        refine ⟨_, rfl, ?_⟩
        have n0_ := Aside0.mk (Kd.R_below (by (with_reducible repeat (first | apply Kd.R_alloc | apply Kd.R_drewN | apply Kd.R_drew)); exact HO431.out) hb)
        have n1_ := Aside0.mk (Kd.R_below (by (with_reducible repeat (first | apply Kd.R_alloc | apply Kd.R_drewN | apply Kd.R_drew)); exact HO436.out) hb)
        have n2_ := Aside0.mk (Kd.R_below (by (with_reducible repeat (first | apply Kd.R_alloc | apply Kd.R_drewN | apply Kd.R_drew)); exact HO442.out) hb)
        have n3_ := Aside0.mk (blk_below (g := gb426) (o := .cells #[.int .i64 a0_0, .slice A0_1 l0_1.length c0_1] 41 (0, 0)) (by (with_reducible repeat (first | refine blk_drewN ?_ _ | refine blk_drew ?_ | refine blk_alloc ?_ _)); exact BK426.out) hb)
        have n4_ := Aside0.mk (blk_below (g := gb437) (o := .cells #[.int .i64 t433, .slice Ao29 t434.length co29] 46 (0, 0)) (by (with_reducible repeat (first | refine blk_drewN ?_ _ | refine blk_drew ?_ | refine blk_alloc ?_ _)); exact BK437.out) hb)
        have n5_ := Aside0.mk (below_step (by repeat (first | (with_reducible first | exact HB.out | apply below_alloc | apply pw_below_drewN | apply below_drew1 | refine below_set ?_ GE426.out | refine below_set ?_ GE437.out) | exact HB.out)) hb)
        clear HO431
        clear HO436
        clear HO442
        clear BK426
        clear BK437
        clear HB
        have HO431 := n0_
        have HO436 := n1_
        have HO442 := n2_
        have BK426 := n3_
        have BK437 := n4_
        have HB := n5_
        clear n0_ n1_ n2_ n3_ n4_ n5_
        (try clear hb)
        (try clear hb2)
        (try clear hk)
        (try clear hi)
        refine hK.out _ _ ⟨(blk_cell BK437.out 0).trans rfl, (blk_cell BK437.out 1).trans rfl, (blk_cell BK426.out 0).trans rfl, (blk_cell BK426.out 1).trans rfl⟩ (fun hHeld => ?_)
        clear hK K
        refine norm_ (a' := ?_) ?_ ?_
        rotate_left
        · show Act.put _ (some 33) _ = _
          simp only [Act.put, List.setIfInBounds_toArray, List.set_cons_zero, List.set_cons_succ, i64_w, i32_w]
          rfl
        refine pure_ (i := 4) (N := some 34) (v := ?_) (a' := ?_) #[true, true, true, true, true] rfl rfl (by kernel_rfl) (fun _ _ _ h => h) (Or.inl ⟨by rfl, ?_⟩) ?_ ?_
        rotate_left
        · intro w'
          go_simp
          with_reducible rfl
        rotate_left
        · simp only [Act.put, List.setIfInBounds_toArray, List.set_cons_zero, List.set_cons_succ, i64_w, i32_w]
          rfl
        refine done_ (by kernel_rfl) ?_
        try go_wp2
        go_ret
        exact ⟨by first | rfl | (simp [errW_none, errW_some] <;> rfl) | (simp [*, errW_none, errW_some] <;> rfl), by repeat (first | (with_reducible first | exact HB.out | apply below_alloc | apply pw_below_drewN | apply below_drew1 | refine below_set ?_ GE426.out | refine below_set ?_ GE437.out) | exact HB.out)⟩
      · replace c16 := Bool.eq_false_iff.mpr c16
        subst c16
        have H1 : (some false) = some r := by rw [if_neg (show ¬ (false = true) by decide)] at H; exact H
        clear H
        have H := H1
        clear H1
        obtain rfl := Option.some.inj H
        go_enter Try.func11, Try.ntmps11
        try go_wp2_with (first | ((with_reducible refine gate_dst (N := 3) rfl ?_); refine box_event ?hg (N := 3) ?hd (cs := #[.int .i64 a0_0, .slice A0_1 l0_1.length c0_1]) (t := 41) ?hr ?_; (case hd => rfl); (case hg => rfl); (case hr => first | (go_simp; done) | (go_simp; rfl)); intro gb426 hg w35 hbox hb; have n0_ := Aside0.mk (below_step (by repeat (first | (with_reducible first | exact HB.out | apply below_alloc | apply pw_below_drewN | apply below_drew1) | exact HB.out)) hb); have n1_ := Aside0.mk (hbox); have n2_ := Aside0.mk ((by rw [hg]; exact (below_size (by repeat (first | (with_reducible first | exact HB.out | apply below_alloc | apply pw_below_drewN | apply below_drew1) | exact HB.out))) : w.heap.size ≤ gb426)); have n3_ := Aside0.mk ((by rw [hg]; exact (below_size (by repeat (first | (with_reducible first | exact HB.out | apply below_alloc | apply pw_below_drewN | apply below_drew1) | exact HB.out))) : w.heap.size ≤ gb426)); clear HB; have HB := n0_; have BK426 := n1_; have GW426 := n2_; have GE426 := n3_; clear n0_ n1_ n2_ n3_; clear hb hbox hg; have hcz36_0 : w35.cell? ⟨gb426, 0, none⟩ = some (.int .i64 a0_0) := (blk_cell BK426.out 0).trans rfl; have hcz36_1 : w35.cell? ⟨gb426, 1, none⟩ = some (.slice A0_1 l0_1.length c0_1) := (blk_cell BK426.out 1).trans rfl; have hfz36_0 := blk_frozen BK426.out 0; have hfz36_1 := blk_frozen BK426.out 1) | ((with_reducible refine gate_callee (f := 31) rfl ?_); refine goesL_ (some 13) rfl rfl Try.func31 (by kernel_rfl) rfl #[.agg #[.int .i64 a0_0, .slice A0_1 l0_1.length c0_1], .int .i64 1048576] rfl (by (try simp only [List.map_toArray, List.map_cons, List.map_nil]); first | done | rfl | (simp only [List.length_drop, List.length_take]; rfl)) ?_; (with_reducible refine (laws_szNet.calls a0_0 _ _ l0_1 1048576 t427 _ ?side1 ?side2 A4.out).mono ?_); (case side1 => repeat (first | exact (Kd.C_below HR0_1.out HB.out) | (with_reducible refine Kd.C_alloc ?_ _) | (with_reducible refine Kd.C_drewN ?_ _) | (with_reducible refine Kd.C_drew ?_))); (case side2 => exact HC0_1.out); rintro e w37 ⟨rfl, hb⟩; refine ⟨_, rfl, ?_⟩; have n0_ := Aside0.mk (blk_below (g := gb426) (o := .cells #[.int .i64 a0_0, .slice A0_1 l0_1.length c0_1] 41 (0, 0)) (by (with_reducible repeat (first | refine blk_drewN ?_ _ | refine blk_drew ?_ | refine blk_alloc ?_ _)); exact BK426.out) hb); have n1_ := Aside0.mk (below_step (by repeat (first | (with_reducible first | exact HB.out | apply below_alloc | apply pw_below_drewN | apply below_drew1 | refine below_set ?_ GE426.out) | exact HB.out)) hb); clear BK426; clear HB; have BK426 := n0_; have HB := n1_; clear n0_ n1_; (try clear hb); (try clear hb2); (try clear hk); (try clear hi); have hcz38_0 : w37.cell? ⟨gb426, 0, none⟩ = some (.int .i64 a0_0) := (blk_cell BK426.out 0).trans rfl; have hcz38_1 : w37.cell? ⟨gb426, 1, none⟩ = some (.slice A0_1 l0_1.length c0_1) := (blk_cell BK426.out 1).trans rfl; have hfz38_0 := blk_frozen BK426.out 0; have hfz38_1 := blk_frozen BK426.out 1) | ((with_reducible refine gate_callee (f := 33) rfl ?_); refine goesL_ (some 17) rfl rfl Try.func33 (by kernel_rfl) rfl #[.agg #[.int .i64 a0_0, .slice A0_1 l0_1.length c0_1]] rfl (by (try simp only [List.map_toArray, List.map_cons, List.map_nil]); first | done | rfl | (simp only [List.length_drop, List.length_take]; rfl)) ?_; (with_reducible refine (laws_toNet.calls k a0_0 _ _ l0_1 t428 t429 _ ?side1 ?side2 A9.out).mono ?_); (case side1 => repeat (first | exact (Kd.C_below HR0_1.out HB.out) | (with_reducible refine Kd.C_alloc ?_ _) | (with_reducible refine Kd.C_drewN ?_ _) | (with_reducible refine Kd.C_drew ?_))); (case side2 => exact HC0_1.out); rintro e w39 ⟨v430, rfl, ho0, hb⟩; refine ⟨_, rfl, ?_⟩; have n0_ := Aside0.mk (Kd.R_lower ho0 (below_size (by repeat (first | (with_reducible first | exact HB.out | apply below_alloc | apply pw_below_drewN | apply below_drew1 | refine below_set ?_ GE426.out) | exact HB.out)))); have n1_ := Aside0.mk (blk_below (g := gb426) (o := .cells #[.int .i64 a0_0, .slice A0_1 l0_1.length c0_1] 41 (0, 0)) (by (with_reducible repeat (first | refine blk_drewN ?_ _ | refine blk_drew ?_ | refine blk_alloc ?_ _)); exact BK426.out) hb); have n2_ := Aside0.mk (below_step (by repeat (first | (with_reducible first | exact HB.out | apply below_alloc | apply pw_below_drewN | apply below_drew1 | refine below_set ?_ GE426.out) | exact HB.out)) hb); clear BK426; clear HB; have HO431 := n0_; have BK426 := n1_; have HB := n2_; clear n0_ n1_ n2_; (try clear hb); (try clear hb2); (try clear hk); (try clear hi); (try clear ho0); obtain ⟨Ao40, co40, eo40⟩ := Kd.R_slice HO431.out; subst eo40) | ((with_reducible refine gate_callee (f := 40) rfl ?_); refine goesL_ (some 20) rfl rfl Try.func40 (by kernel_rfl) rfl #[.agg #[.int .i64 t428, .slice Ao40 t429.length co40], .int .i64 a1, .int .i64 a2] rfl (by (try simp only [List.map_toArray, List.map_cons, List.map_nil]); first | done | rfl | (simp only [List.length_drop, List.length_take]; rfl)) ?_; (with_reducible refine (spec_OtherEnd.calls k t428 _ _ t429 a1 a2 t432 _ ?side1 ?side2 A10.out).mono ?_); (case side1 => repeat (first | exact (Kd.R_reads' HO431.out).2.2 | (with_reducible refine Kd.C_alloc ?_ _) | (with_reducible refine Kd.C_drewN ?_ _) | (with_reducible refine Kd.C_drew ?_))); (case side2 => exact (Kd.R_reads' HO431.out).2.1); rintro e w41 ⟨rfl, hb⟩; refine ⟨_, rfl, ?_⟩; have n0_ := Aside0.mk (Kd.R_below (by (with_reducible repeat (first | apply Kd.R_alloc | apply Kd.R_drewN | apply Kd.R_drew)); exact HO431.out) hb); have n1_ := Aside0.mk (blk_below (g := gb426) (o := .cells #[.int .i64 a0_0, .slice A0_1 l0_1.length c0_1] 41 (0, 0)) (by (with_reducible repeat (first | refine blk_drewN ?_ _ | refine blk_drew ?_ | refine blk_alloc ?_ _)); exact BK426.out) hb); have n2_ := Aside0.mk (below_step (by repeat (first | (with_reducible first | exact HB.out | apply below_alloc | apply pw_below_drewN | apply below_drew1 | refine below_set ?_ GE426.out) | exact HB.out)) hb); clear HO431; clear BK426; clear HB; have HO431 := n0_; have BK426 := n1_; have HB := n2_; clear n0_ n1_ n2_; (try clear hb); (try clear hb2); (try clear hk); (try clear hi); have hcz42_0 : w41.cell? ⟨gb426, 0, none⟩ = some (.int .i64 a0_0) := (blk_cell BK426.out 0).trans rfl; have hcz42_1 : w41.cell? ⟨gb426, 1, none⟩ = some (.slice A0_1 l0_1.length c0_1) := (blk_cell BK426.out 1).trans rfl; have hfz42_0 := blk_frozen BK426.out 0; have hfz42_1 := blk_frozen BK426.out 1) | ((with_reducible refine gate_callee (f := 33) rfl ?_); refine goesL_ (some 22) rfl rfl Try.func33 (by kernel_rfl) rfl #[.agg #[.int .i64 a0_0, .slice A0_1 l0_1.length c0_1]] rfl (by (try simp only [List.map_toArray, List.map_cons, List.map_nil]); first | done | rfl | (simp only [List.length_drop, List.length_take]; rfl)) ?_; (with_reducible refine (laws_toNet.calls k a0_0 _ _ l0_1 t433 t434 _ ?side1 ?side2 A11.out).mono ?_); (case side1 => repeat (first | exact (Kd.C_below HR0_1.out HB.out) | (with_reducible refine Kd.C_alloc ?_ _) | (with_reducible refine Kd.C_drewN ?_ _) | (with_reducible refine Kd.C_drew ?_))); (case side2 => exact HC0_1.out); rintro e w43 ⟨v435, rfl, ho0, hb⟩; refine ⟨_, rfl, ?_⟩; have n0_ := Aside0.mk (Kd.R_elder' (by (with_reducible repeat (first | apply Kd.R_alloc | apply Kd.R_drewN | apply Kd.R_drew)); exact HO431.out) (Kd.R_base ho0) hb); have n1_ := Aside0.mk (Kd.R_lower (Kd.R_new' ho0 (Kd.R_lt (by (with_reducible repeat (first | apply Kd.R_alloc | apply Kd.R_drewN | apply Kd.R_drew)); exact HO431.out))) (below_size (by repeat (first | (with_reducible first | exact HB.out | apply below_alloc | apply pw_below_drewN | apply below_drew1 | refine below_set ?_ GE426.out) | exact HB.out)))); have n2_ := Aside0.mk (blk_below (g := gb426) (o := .cells #[.int .i64 a0_0, .slice A0_1 l0_1.length c0_1] 41 (0, 0)) (by (with_reducible repeat (first | refine blk_drewN ?_ _ | refine blk_drew ?_ | refine blk_alloc ?_ _)); exact BK426.out) hb); have n3_ := Aside0.mk (below_step (by repeat (first | (with_reducible first | exact HB.out | apply below_alloc | apply pw_below_drewN | apply below_drew1 | refine below_set ?_ GE426.out) | exact HB.out)) hb); clear HO431; clear BK426; clear HB; have HO431 := n0_; have HO436 := n1_; have BK426 := n2_; have HB := n3_; clear n0_ n1_ n2_ n3_; (try clear hb); (try clear hb2); (try clear hk); (try clear hi); (try clear ho0)) | ((with_reducible refine gate_dst (N := 9) rfl ?_); refine box_event ?hg (N := 9) ?hd (cs := #[.int .i64 0, .slice none 0 0]) (t := 46) ?hr ?_; (case hd => rfl); (case hg => rfl); (case hr => first | (go_simp; done) | (go_simp; rfl)); intro gb437 hg w44 hbox hb; have n0_ := Aside0.mk (Kd.R_below (by (with_reducible repeat (first | apply Kd.R_alloc | apply Kd.R_drewN | apply Kd.R_drew)); exact HO431.out) hb); have n1_ := Aside0.mk (Kd.R_below (by (with_reducible repeat (first | apply Kd.R_alloc | apply Kd.R_drewN | apply Kd.R_drew)); exact HO436.out) hb); have n2_ := Aside0.mk (blk_below (g := gb426) (o := .cells #[.int .i64 a0_0, .slice A0_1 l0_1.length c0_1] 41 (0, 0)) (by (with_reducible repeat (first | refine blk_drewN ?_ _ | refine blk_drew ?_ | refine blk_alloc ?_ _)); exact BK426.out) hb); have n3_ := Aside0.mk (below_step (by repeat (first | (with_reducible first | exact HB.out | apply below_alloc | apply pw_below_drewN | apply below_drew1 | refine below_set ?_ GE426.out) | exact HB.out)) hb); have n4_ := Aside0.mk (hbox); have n5_ := Aside0.mk ((by rw [hg]; exact (below_size (by repeat (first | (with_reducible first | exact HB.out | apply below_alloc | apply pw_below_drewN | apply below_drew1 | refine below_set ?_ GE426.out) | exact HB.out))) : w.heap.size ≤ gb437)); have n6_ := Aside0.mk ((by rw [hg]; exact (below_size (by repeat (first | (with_reducible first | exact HB.out | apply below_alloc | apply pw_below_drewN | apply below_drew1 | refine below_set ?_ GE426.out) | exact HB.out))) : w.heap.size ≤ gb437)); have n7_ := Aside0.mk ((by rw [hg]; exact Nat.ne_of_lt (blk_lt (g := gb426) (o := .cells #[.int .i64 a0_0, .slice A0_1 l0_1.length c0_1] 41 (0, 0)) (by (with_reducible repeat (first | refine blk_drewN ?_ _ | refine blk_drew ?_ | refine blk_alloc ?_ _)); exact BK426.out)) : gb426 ≠ gb437)); have n8_ := Aside0.mk ((by rw [hg]; exact Nat.ne_of_gt (blk_lt (g := gb426) (o := .cells #[.int .i64 a0_0, .slice A0_1 l0_1.length c0_1] 41 (0, 0)) (by (with_reducible repeat (first | refine blk_drewN ?_ _ | refine blk_drew ?_ | refine blk_alloc ?_ _)); exact BK426.out)) : gb437 ≠ gb426)); clear HO431; clear HO436; clear BK426; clear HB; have HO431 := n0_; have HO436 := n1_; have BK426 := n2_; have HB := n3_; have BK437 := n4_; have GW437 := n5_; have GE437 := n6_; have NB426_437 := n7_; have NB437_426 := n8_; clear n0_ n1_ n2_ n3_ n4_ n5_ n6_ n7_ n8_; clear hb hbox hg; have hnb45 := NB437_426.out; have hnc45 := NB426_437.out; have hcz46_0 : w44.cell? ⟨gb437, 0, none⟩ = some (.int .i64 0) := (blk_cell BK437.out 0).trans rfl; have hcz46_1 : w44.cell? ⟨gb437, 1, none⟩ = some (.slice none 0 0) := (blk_cell BK437.out 1).trans rfl; have hfz46_0 := blk_frozen BK437.out 0; have hfz46_1 := blk_frozen BK437.out 1; obtain ⟨Ao47, co47, eo47⟩ := Kd.R_slice HO436.out; subst eo47) | ((with_reducible refine gate_callee (f := 41) rfl ?_); refine goesL_ (some 26) rfl rfl Try.func41 (by kernel_rfl) rfl #[.agg #[.int .i64 t433, .slice Ao47 t434.length co47], .int .i64 a1, .int .i64 a2] rfl (by (try simp only [List.map_toArray, List.map_cons, List.map_nil]); first | done | rfl | (simp only [List.length_drop, List.length_take]; rfl)) ?_; (with_reducible refine (impl_OtherEnd.calls k t433 _ _ t434 a1 a2 t438 _ ?side1 ?side2 A12.out).mono ?_); (case side1 => refine (Kd.R_reads' (e := 70) (base := w.heap.size) (ok := fun k_ => (True ∧ some k_ ≠ (.slice Ao40 t429.length co40 : Value).ownBlock)) (n := t434.length) (c := co47) ?_).2.2; exact (by (with_reducible repeat (first | apply Kd.R_alloc | apply Kd.R_drewN | apply Kd.R_drew)); exact (Kd.R_mono (Kd.R_far (p := ⟨gb437, 1, none⟩) (Kd.R_far (p := ⟨gb437, 0, none⟩) (Kd.R_types HO436.out BK437.out (by decide)) (fun _ hk => hk.2) (.int .i64 t433)) (fun _ hk => hk.2) (.slice Ao47 t434.length co47)) (fun _ h_ => h_.1)))); (case side2 => exact (Kd.R_reads' HO436.out).2.1); rintro e w48 ⟨rfl, hb⟩; refine ⟨_, rfl, ?_⟩; have n0_ := Aside0.mk (Kd.R_below (by (with_reducible repeat (first | apply Kd.R_alloc | apply Kd.R_drewN | apply Kd.R_drew)); exact (Kd.R_mono (Kd.R_far (p := ⟨gb437, 1, none⟩) (Kd.R_far (p := ⟨gb437, 0, none⟩) (Kd.R_types HO431.out BK437.out (by decide)) (fun _ hk => hk.2) (.int .i64 t433)) (fun _ hk => hk.2) (.slice Ao47 t434.length co47)) (fun _ h_ => h_.1))) hb); have n1_ := Aside0.mk (Kd.R_below (by (with_reducible repeat (first | apply Kd.R_alloc | apply Kd.R_drewN | apply Kd.R_drew)); exact (Kd.R_mono (Kd.R_far (p := ⟨gb437, 1, none⟩) (Kd.R_far (p := ⟨gb437, 0, none⟩) (Kd.R_types HO436.out BK437.out (by decide)) (fun _ hk => hk.2) (.int .i64 t433)) (fun _ hk => hk.2) (.slice Ao47 t434.length co47)) (fun _ h_ => h_.1))) hb); have n2_ := Aside0.mk (blk_below (g := gb426) (o := .cells #[.int .i64 a0_0, .slice A0_1 l0_1.length c0_1] 41 (0, 0)) (by (with_reducible repeat (first | refine blk_drewN ?_ _ | refine blk_drew ?_ | refine blk_alloc ?_ _)); refine blk_far ?_ NB426_437.out _; (with_reducible repeat (first | refine blk_drewN ?_ _ | refine blk_drew ?_ | refine blk_alloc ?_ _)); refine blk_far ?_ NB426_437.out _; (with_reducible repeat (first | refine blk_drewN ?_ _ | refine blk_drew ?_ | refine blk_alloc ?_ _)); exact BK426.out) hb); have n3_ := Aside0.mk (blk_below (g := gb437) (o := .cells #[.int .i64 t433, .slice Ao47 t434.length co47] 46 (0, 0)) (by (with_reducible repeat (first | refine blk_drewN ?_ _ | refine blk_drew ?_ | refine blk_alloc ?_ _)); refine blk_put (cs := #[.int .i64 t433, .slice none 0 0]) ?_ 1 _ rfl; (with_reducible repeat (first | refine blk_drewN ?_ _ | refine blk_drew ?_ | refine blk_alloc ?_ _)); refine blk_put (cs := #[.int .i64 0, .slice none 0 0]) ?_ 0 _ rfl; (with_reducible repeat (first | refine blk_drewN ?_ _ | refine blk_drew ?_ | refine blk_alloc ?_ _)); exact BK437.out) hb); have n4_ := Aside0.mk (below_step (by repeat (first | (with_reducible first | exact HB.out | apply below_alloc | apply pw_below_drewN | apply below_drew1 | refine below_set ?_ GE426.out | refine below_set ?_ GE437.out) | exact HB.out)) hb); clear HO431; clear HO436; clear BK426; clear BK437; clear HB; have HO431 := n0_; have HO436 := n1_; have BK426 := n2_; have BK437 := n3_; have HB := n4_; clear n0_ n1_ n2_ n3_ n4_; (try clear hb); (try clear hb2); (try clear hk); (try clear hi)))
        have n0_ := Aside0.mk (Kd.R_drew HO431.out)
        have n1_ := Aside0.mk (Kd.R_drew HO436.out)
        have n2_ := Aside0.mk (blk_drew BK426.out)
        have n3_ := Aside0.mk (blk_drew BK437.out)
        have n4_ := Aside0.mk (below_drew1 HB.out)
        clear HO431
        clear HO436
        clear BK426
        clear BK437
        clear HB
        have HO431 := n0_
        have HO436 := n1_
        have BK426 := n2_
        have BK437 := n3_
        have HB := n4_
        clear n0_ n1_ n2_ n3_ n4_
        refine start_ (n := 5) (S := fun w' => w'.cell? ⟨gb437, 0, none⟩ = some (.int .i64 t433) ∧ w'.cell? ⟨gb437, 1, none⟩ = some (.slice Ao47 t434.length co47) ∧ w'.cell? ⟨gb426, 0, none⟩ = some (.int .i64 a0_0) ∧ w'.cell? ⟨gb426, 1, none⟩ = some (.slice A0_1 l0_1.length c0_1)) (ds := []) #[false, false, false, false, false] (by kernel_rfl) rfl rfl ⟨(blk_cell BK437.out 0).trans rfl, (blk_cell BK437.out 1).trans rfl, (blk_cell BK426.out 0).trans rfl, (blk_cell BK426.out 1).trans rfl⟩ (fun hHeld => ?_)
        generalize w48.drew = w49 at HO431 HO436 BK426 BK437 HB hHeld ⊢
        refine take_ (i := 0) (N := some 30) (v := ?_) (a' := ?_) #[true, false, false, false, false] rfl rfl (by kernel_rfl) (fun _ _ _ h => h) (Or.inl ⟨by rfl, ?_⟩) hHeld ?_ ?_
        rotate_left
        · rintro w' ⟨s0, s1, s2, s3⟩
          go_simp
          with_reducible rfl
        rotate_left
        · simp only [Act.put, List.setIfInBounds_toArray, List.set_cons_zero, List.set_cons_succ, i64_w, i32_w]
          rfl
        refine take_ (i := 1) (N := some 31) (v := ?_) (a' := ?_) #[true, true, false, false, false] rfl rfl (by kernel_rfl) (fun _ _ _ h => h) (Or.inl ⟨by rfl, ?_⟩) hHeld ?_ ?_
        rotate_left
        · rintro w' ⟨s0, s1, s2, s3⟩
          go_simp
          with_reducible rfl
        rotate_left
        · simp only [Act.put, List.setIfInBounds_toArray, List.set_cons_zero, List.set_cons_succ, i64_w, i32_w]
          rfl
        refine one_ (i := 2) (N := some 32) #[true, true, true, false, false] rfl rfl (by kernel_rfl) (by decide) (fun K hK => ?_)
        refine goes_ Try.func33 (by kernel_rfl) rfl #[.agg #[.int .i64 a0_0, .slice A0_1 l0_1.length c0_1]] (by rfl) rfl rfl (by (try simp only [List.map_toArray, List.map_cons, List.map_nil]); first | done | rfl | (simp only [List.length_drop, List.length_take]; rfl)) ?_
        with_reducible refine (laws_toNet.calls k a0_0 _ _ l0_1 t439 t440 _ ?side1 ?side2 A14.out).mono ?_
        (case side1 => repeat (first | exact (Kd.C_below HR0_1.out HB.out) | (with_reducible refine Kd.C_alloc ?_ _) | (with_reducible refine Kd.C_drewN ?_ _) | (with_reducible refine Kd.C_drew ?_)))
        (case side2 => exact HC0_1.out)
        rintro e w50 ⟨v441, rfl, ho0, hb⟩
        refine ⟨_, rfl, ?_⟩
        have n0_ := Aside0.mk (Kd.R_elder' (by (with_reducible repeat (first | apply Kd.R_alloc | apply Kd.R_drewN | apply Kd.R_drew)); exact HO431.out) (Kd.R_base ho0) hb)
        have n1_ := Aside0.mk (Kd.R_elder' (by (with_reducible repeat (first | apply Kd.R_alloc | apply Kd.R_drewN | apply Kd.R_drew)); exact HO436.out) (Kd.R_base ho0) hb)
        have n2_ := Aside0.mk (Kd.R_lower (Kd.R_new' (Kd.R_new' ho0 (Kd.R_lt (by (with_reducible repeat (first | apply Kd.R_alloc | apply Kd.R_drewN | apply Kd.R_drew)); exact HO431.out))) (Kd.R_lt (by (with_reducible repeat (first | apply Kd.R_alloc | apply Kd.R_drewN | apply Kd.R_drew)); exact HO436.out))) (below_size (by repeat (first | (with_reducible first | exact HB.out | apply below_alloc | apply pw_below_drewN | apply below_drew1 | refine below_set ?_ GE426.out | refine below_set ?_ GE437.out) | exact HB.out))))
        have n3_ := Aside0.mk (blk_below (g := gb426) (o := .cells #[.int .i64 a0_0, .slice A0_1 l0_1.length c0_1] 41 (0, 0)) (by (with_reducible repeat (first | refine blk_drewN ?_ _ | refine blk_drew ?_ | refine blk_alloc ?_ _)); exact BK426.out) hb)
        have n4_ := Aside0.mk (blk_below (g := gb437) (o := .cells #[.int .i64 t433, .slice Ao47 t434.length co47] 46 (0, 0)) (by (with_reducible repeat (first | refine blk_drewN ?_ _ | refine blk_drew ?_ | refine blk_alloc ?_ _)); exact BK437.out) hb)
        have n5_ := Aside0.mk (below_step (by repeat (first | (with_reducible first | exact HB.out | apply below_alloc | apply pw_below_drewN | apply below_drew1 | refine below_set ?_ GE426.out | refine below_set ?_ GE437.out) | exact HB.out)) hb)
        clear HO431
        clear HO436
        clear BK426
        clear BK437
        clear HB
        have HO431 := n0_
        have HO436 := n1_
        have HO442 := n2_
        have BK426 := n3_
        have BK437 := n4_
        have HB := n5_
        clear n0_ n1_ n2_ n3_ n4_ n5_
        (try clear hb)
        (try clear hb2)
        (try clear hk)
        (try clear hi)
        (try clear ho0)
        obtain ⟨Ao51, co51, eo51⟩ := Kd.R_slice HO442.out
        (first | subst eo51 | (injection eo51 with f1_ f2_ f3_; have f4_ := f1_.symm; have f5_ := f3_.symm; clear f1_ f2_ f3_; subst f4_; subst f5_))
        refine hK.out _ _ ⟨(blk_cell BK437.out 0).trans rfl, (blk_cell BK437.out 1).trans rfl, (blk_cell BK426.out 0).trans rfl, (blk_cell BK426.out 1).trans rfl⟩ (fun hHeld => ?_)
        clear hK K
        refine norm_ (a' := ?_) ?_ ?_
        rotate_left
        · show Act.put _ (some 32) _ = _
          simp only [Act.put, List.setIfInBounds_toArray, List.set_cons_zero, List.set_cons_succ, i64_w, i32_w]
          rfl
        refine one_ (i := 3) (N := some 33) #[true, true, true, true, false] rfl rfl (by kernel_rfl) (by decide) (fun K hK => ?_)
        refine goes_ Try.func35 (by kernel_rfl) rfl #[.agg #[.int .i64 t433, .slice Ao47 t434.length co47], .agg #[.int .i64 t439, .slice Ao51 t440.length co51]] (by rfl) rfl rfl (by (try simp only [List.map_toArray, List.map_cons, List.map_nil]); first | done | rfl | (simp only [List.length_drop, List.length_take]; rfl)) ?_
        with_reducible refine (laws_eqNet.calls k t433 _ _ t434 t439 _ _ t440 false _ ?side1 ?side2 ?side3 ?side4 A15.out).mono ?_
        (case side1 => repeat (first | exact (Kd.R_reads' HO436.out).2.2 | (with_reducible refine Kd.C_alloc ?_ _) | (with_reducible refine Kd.C_drewN ?_ _) | (with_reducible refine Kd.C_drew ?_)))
        (case side2 => exact (Kd.R_reads' HO436.out).2.1)
        (case side3 => repeat (first | exact (Kd.R_reads' HO442.out).2.2 | (with_reducible refine Kd.C_alloc ?_ _) | (with_reducible refine Kd.C_drewN ?_ _) | (with_reducible refine Kd.C_drew ?_)))
        (case side4 => exact (Kd.R_reads' HO442.out).2.1)
        rintro e w52 ⟨rfl, hb⟩
        refine ⟨_, rfl, ?_⟩
        have n0_ := Aside0.mk (Kd.R_below (by (with_reducible repeat (first | apply Kd.R_alloc | apply Kd.R_drewN | apply Kd.R_drew)); exact HO431.out) hb)
        have n1_ := Aside0.mk (Kd.R_below (by (with_reducible repeat (first | apply Kd.R_alloc | apply Kd.R_drewN | apply Kd.R_drew)); exact HO436.out) hb)
        have n2_ := Aside0.mk (Kd.R_below (by (with_reducible repeat (first | apply Kd.R_alloc | apply Kd.R_drewN | apply Kd.R_drew)); exact HO442.out) hb)
        have n3_ := Aside0.mk (blk_below (g := gb426) (o := .cells #[.int .i64 a0_0, .slice A0_1 l0_1.length c0_1] 41 (0, 0)) (by (with_reducible repeat (first | refine blk_drewN ?_ _ | refine blk_drew ?_ | refine blk_alloc ?_ _)); exact BK426.out) hb)
        have n4_ := Aside0.mk (blk_below (g := gb437) (o := .cells #[.int .i64 t433, .slice Ao47 t434.length co47] 46 (0, 0)) (by (with_reducible repeat (first | refine blk_drewN ?_ _ | refine blk_drew ?_ | refine blk_alloc ?_ _)); exact BK437.out) hb)
        have n5_ := Aside0.mk (below_step (by repeat (first | (with_reducible first | exact HB.out | apply below_alloc | apply pw_below_drewN | apply below_drew1 | refine below_set ?_ GE426.out | refine below_set ?_ GE437.out) | exact HB.out)) hb)
        clear HO431
        clear HO436
        clear HO442
        clear BK426
        clear BK437
        clear HB
        have HO431 := n0_
        have HO436 := n1_
        have HO442 := n2_
        have BK426 := n3_
        have BK437 := n4_
        have HB := n5_
        clear n0_ n1_ n2_ n3_ n4_ n5_
        (try clear hb)
        (try clear hb2)
        (try clear hk)
        (try clear hi)
        refine hK.out _ _ ⟨(blk_cell BK437.out 0).trans rfl, (blk_cell BK437.out 1).trans rfl, (blk_cell BK426.out 0).trans rfl, (blk_cell BK426.out 1).trans rfl⟩ (fun hHeld => ?_)
        clear hK K
        refine norm_ (a' := ?_) ?_ ?_
        rotate_left
        · show Act.put _ (some 33) _ = _
          simp only [Act.put, List.setIfInBounds_toArray, List.set_cons_zero, List.set_cons_succ, i64_w, i32_w]
          rfl
        refine pure_ (i := 4) (N := some 34) (v := ?_) (a' := ?_) #[true, true, true, true, true] rfl rfl (by kernel_rfl) (fun _ _ _ h => h) (Or.inl ⟨by rfl, ?_⟩) ?_ ?_
        rotate_left
        · intro w'
          go_simp
          with_reducible rfl
        rotate_left
        · simp only [Act.put, List.setIfInBounds_toArray, List.set_cons_zero, List.set_cons_succ, i64_w, i32_w]
          rfl
        refine done_ (by kernel_rfl) ?_
        try go_wp2
        go_ret
        exact ⟨by first | rfl | (simp [errW_none, errW_some] <;> rfl) | (simp [*, errW_none, errW_some] <;> rfl), by repeat (first | (with_reducible first | exact HB.out | apply below_alloc | apply pw_below_drewN | apply below_drew1 | refine below_set ?_ GE426.out | refine below_set ?_ GE437.out) | exact HB.out)⟩
    · rw [if_neg c13] at H
      have c13b0 : (t438 == t432) = false := beq_eq_false_iff_ne.mpr c13
      have c13b1 : (t438 != t432) = true := bne_iff_ne.mpr c13
      obtain rfl := Option.some.inj H
      go_enter Try.func11, Try.ntmps11
      go_wp2_with (first | ((with_reducible refine gate_dst (N := 3) rfl ?_); refine box_event ?hg (N := 3) ?hd (cs := #[.int .i64 a0_0, .slice A0_1 l0_1.length c0_1]) (t := 41) ?hr ?_; (case hd => rfl); (case hg => rfl); (case hr => first | (go_simp; done) | (go_simp; rfl)); intro gb426 hg w53 hbox hb; have n0_ := Aside0.mk (below_step (by repeat (first | (with_reducible first | exact HB.out | apply below_alloc | apply pw_below_drewN | apply below_drew1) | exact HB.out)) hb); have n1_ := Aside0.mk (hbox); have n2_ := Aside0.mk ((by rw [hg]; exact (below_size (by repeat (first | (with_reducible first | exact HB.out | apply below_alloc | apply pw_below_drewN | apply below_drew1) | exact HB.out))) : w.heap.size ≤ gb426)); have n3_ := Aside0.mk ((by rw [hg]; exact (below_size (by repeat (first | (with_reducible first | exact HB.out | apply below_alloc | apply pw_below_drewN | apply below_drew1) | exact HB.out))) : w.heap.size ≤ gb426)); clear HB; have HB := n0_; have BK426 := n1_; have GW426 := n2_; have GE426 := n3_; clear n0_ n1_ n2_ n3_; clear hb hbox hg; have hcz54_0 : w53.cell? ⟨gb426, 0, none⟩ = some (.int .i64 a0_0) := (blk_cell BK426.out 0).trans rfl; have hcz54_1 : w53.cell? ⟨gb426, 1, none⟩ = some (.slice A0_1 l0_1.length c0_1) := (blk_cell BK426.out 1).trans rfl; have hfz54_0 := blk_frozen BK426.out 0; have hfz54_1 := blk_frozen BK426.out 1) | ((with_reducible refine gate_callee (f := 31) rfl ?_); refine goesL_ (some 13) rfl rfl Try.func31 (by kernel_rfl) rfl #[.agg #[.int .i64 a0_0, .slice A0_1 l0_1.length c0_1], .int .i64 1048576] rfl (by (try simp only [List.map_toArray, List.map_cons, List.map_nil]); first | done | rfl | (simp only [List.length_drop, List.length_take]; rfl)) ?_; (with_reducible refine (laws_szNet.calls a0_0 _ _ l0_1 1048576 t427 _ ?side1 ?side2 A4.out).mono ?_); (case side1 => repeat (first | exact (Kd.C_below HR0_1.out HB.out) | (with_reducible refine Kd.C_alloc ?_ _) | (with_reducible refine Kd.C_drewN ?_ _) | (with_reducible refine Kd.C_drew ?_))); (case side2 => exact HC0_1.out); rintro e w55 ⟨rfl, hb⟩; refine ⟨_, rfl, ?_⟩; have n0_ := Aside0.mk (blk_below (g := gb426) (o := .cells #[.int .i64 a0_0, .slice A0_1 l0_1.length c0_1] 41 (0, 0)) (by (with_reducible repeat (first | refine blk_drewN ?_ _ | refine blk_drew ?_ | refine blk_alloc ?_ _)); exact BK426.out) hb); have n1_ := Aside0.mk (below_step (by repeat (first | (with_reducible first | exact HB.out | apply below_alloc | apply pw_below_drewN | apply below_drew1 | refine below_set ?_ GE426.out) | exact HB.out)) hb); clear BK426; clear HB; have BK426 := n0_; have HB := n1_; clear n0_ n1_; (try clear hb); (try clear hb2); (try clear hk); (try clear hi); have hcz56_0 : w55.cell? ⟨gb426, 0, none⟩ = some (.int .i64 a0_0) := (blk_cell BK426.out 0).trans rfl; have hcz56_1 : w55.cell? ⟨gb426, 1, none⟩ = some (.slice A0_1 l0_1.length c0_1) := (blk_cell BK426.out 1).trans rfl; have hfz56_0 := blk_frozen BK426.out 0; have hfz56_1 := blk_frozen BK426.out 1) | ((with_reducible refine gate_callee (f := 33) rfl ?_); refine goesL_ (some 17) rfl rfl Try.func33 (by kernel_rfl) rfl #[.agg #[.int .i64 a0_0, .slice A0_1 l0_1.length c0_1]] rfl (by (try simp only [List.map_toArray, List.map_cons, List.map_nil]); first | done | rfl | (simp only [List.length_drop, List.length_take]; rfl)) ?_; (with_reducible refine (laws_toNet.calls k a0_0 _ _ l0_1 t428 t429 _ ?side1 ?side2 A9.out).mono ?_); (case side1 => repeat (first | exact (Kd.C_below HR0_1.out HB.out) | (with_reducible refine Kd.C_alloc ?_ _) | (with_reducible refine Kd.C_drewN ?_ _) | (with_reducible refine Kd.C_drew ?_))); (case side2 => exact HC0_1.out); rintro e w57 ⟨v430, rfl, ho0, hb⟩; refine ⟨_, rfl, ?_⟩; have n0_ := Aside0.mk (Kd.R_lower ho0 (below_size (by repeat (first | (with_reducible first | exact HB.out | apply below_alloc | apply pw_below_drewN | apply below_drew1 | refine below_set ?_ GE426.out) | exact HB.out)))); have n1_ := Aside0.mk (blk_below (g := gb426) (o := .cells #[.int .i64 a0_0, .slice A0_1 l0_1.length c0_1] 41 (0, 0)) (by (with_reducible repeat (first | refine blk_drewN ?_ _ | refine blk_drew ?_ | refine blk_alloc ?_ _)); exact BK426.out) hb); have n2_ := Aside0.mk (below_step (by repeat (first | (with_reducible first | exact HB.out | apply below_alloc | apply pw_below_drewN | apply below_drew1 | refine below_set ?_ GE426.out) | exact HB.out)) hb); clear BK426; clear HB; have HO431 := n0_; have BK426 := n1_; have HB := n2_; clear n0_ n1_ n2_; (try clear hb); (try clear hb2); (try clear hk); (try clear hi); (try clear ho0); obtain ⟨Ao58, co58, eo58⟩ := Kd.R_slice HO431.out; subst eo58) | ((with_reducible refine gate_callee (f := 40) rfl ?_); refine goesL_ (some 20) rfl rfl Try.func40 (by kernel_rfl) rfl #[.agg #[.int .i64 t428, .slice Ao58 t429.length co58], .int .i64 a1, .int .i64 a2] rfl (by (try simp only [List.map_toArray, List.map_cons, List.map_nil]); first | done | rfl | (simp only [List.length_drop, List.length_take]; rfl)) ?_; (with_reducible refine (spec_OtherEnd.calls k t428 _ _ t429 a1 a2 t432 _ ?side1 ?side2 A10.out).mono ?_); (case side1 => repeat (first | exact (Kd.R_reads' HO431.out).2.2 | (with_reducible refine Kd.C_alloc ?_ _) | (with_reducible refine Kd.C_drewN ?_ _) | (with_reducible refine Kd.C_drew ?_))); (case side2 => exact (Kd.R_reads' HO431.out).2.1); rintro e w59 ⟨rfl, hb⟩; refine ⟨_, rfl, ?_⟩; have n0_ := Aside0.mk (Kd.R_below (by (with_reducible repeat (first | apply Kd.R_alloc | apply Kd.R_drewN | apply Kd.R_drew)); exact HO431.out) hb); have n1_ := Aside0.mk (blk_below (g := gb426) (o := .cells #[.int .i64 a0_0, .slice A0_1 l0_1.length c0_1] 41 (0, 0)) (by (with_reducible repeat (first | refine blk_drewN ?_ _ | refine blk_drew ?_ | refine blk_alloc ?_ _)); exact BK426.out) hb); have n2_ := Aside0.mk (below_step (by repeat (first | (with_reducible first | exact HB.out | apply below_alloc | apply pw_below_drewN | apply below_drew1 | refine below_set ?_ GE426.out) | exact HB.out)) hb); clear HO431; clear BK426; clear HB; have HO431 := n0_; have BK426 := n1_; have HB := n2_; clear n0_ n1_ n2_; (try clear hb); (try clear hb2); (try clear hk); (try clear hi); have hcz60_0 : w59.cell? ⟨gb426, 0, none⟩ = some (.int .i64 a0_0) := (blk_cell BK426.out 0).trans rfl; have hcz60_1 : w59.cell? ⟨gb426, 1, none⟩ = some (.slice A0_1 l0_1.length c0_1) := (blk_cell BK426.out 1).trans rfl; have hfz60_0 := blk_frozen BK426.out 0; have hfz60_1 := blk_frozen BK426.out 1) | ((with_reducible refine gate_callee (f := 33) rfl ?_); refine goesL_ (some 22) rfl rfl Try.func33 (by kernel_rfl) rfl #[.agg #[.int .i64 a0_0, .slice A0_1 l0_1.length c0_1]] rfl (by (try simp only [List.map_toArray, List.map_cons, List.map_nil]); first | done | rfl | (simp only [List.length_drop, List.length_take]; rfl)) ?_; (with_reducible refine (laws_toNet.calls k a0_0 _ _ l0_1 t433 t434 _ ?side1 ?side2 A11.out).mono ?_); (case side1 => repeat (first | exact (Kd.C_below HR0_1.out HB.out) | (with_reducible refine Kd.C_alloc ?_ _) | (with_reducible refine Kd.C_drewN ?_ _) | (with_reducible refine Kd.C_drew ?_))); (case side2 => exact HC0_1.out); rintro e w61 ⟨v435, rfl, ho0, hb⟩; refine ⟨_, rfl, ?_⟩; have n0_ := Aside0.mk (Kd.R_elder' (by (with_reducible repeat (first | apply Kd.R_alloc | apply Kd.R_drewN | apply Kd.R_drew)); exact HO431.out) (Kd.R_base ho0) hb); have n1_ := Aside0.mk (Kd.R_lower (Kd.R_new' ho0 (Kd.R_lt (by (with_reducible repeat (first | apply Kd.R_alloc | apply Kd.R_drewN | apply Kd.R_drew)); exact HO431.out))) (below_size (by repeat (first | (with_reducible first | exact HB.out | apply below_alloc | apply pw_below_drewN | apply below_drew1 | refine below_set ?_ GE426.out) | exact HB.out)))); have n2_ := Aside0.mk (blk_below (g := gb426) (o := .cells #[.int .i64 a0_0, .slice A0_1 l0_1.length c0_1] 41 (0, 0)) (by (with_reducible repeat (first | refine blk_drewN ?_ _ | refine blk_drew ?_ | refine blk_alloc ?_ _)); exact BK426.out) hb); have n3_ := Aside0.mk (below_step (by repeat (first | (with_reducible first | exact HB.out | apply below_alloc | apply pw_below_drewN | apply below_drew1 | refine below_set ?_ GE426.out) | exact HB.out)) hb); clear HO431; clear BK426; clear HB; have HO431 := n0_; have HO436 := n1_; have BK426 := n2_; have HB := n3_; clear n0_ n1_ n2_ n3_; (try clear hb); (try clear hb2); (try clear hk); (try clear hi); (try clear ho0)) | ((with_reducible refine gate_dst (N := 9) rfl ?_); refine box_event ?hg (N := 9) ?hd (cs := #[.int .i64 0, .slice none 0 0]) (t := 46) ?hr ?_; (case hd => rfl); (case hg => rfl); (case hr => first | (go_simp; done) | (go_simp; rfl)); intro gb437 hg w62 hbox hb; have n0_ := Aside0.mk (Kd.R_below (by (with_reducible repeat (first | apply Kd.R_alloc | apply Kd.R_drewN | apply Kd.R_drew)); exact HO431.out) hb); have n1_ := Aside0.mk (Kd.R_below (by (with_reducible repeat (first | apply Kd.R_alloc | apply Kd.R_drewN | apply Kd.R_drew)); exact HO436.out) hb); have n2_ := Aside0.mk (blk_below (g := gb426) (o := .cells #[.int .i64 a0_0, .slice A0_1 l0_1.length c0_1] 41 (0, 0)) (by (with_reducible repeat (first | refine blk_drewN ?_ _ | refine blk_drew ?_ | refine blk_alloc ?_ _)); exact BK426.out) hb); have n3_ := Aside0.mk (below_step (by repeat (first | (with_reducible first | exact HB.out | apply below_alloc | apply pw_below_drewN | apply below_drew1 | refine below_set ?_ GE426.out) | exact HB.out)) hb); have n4_ := Aside0.mk (hbox); have n5_ := Aside0.mk ((by rw [hg]; exact (below_size (by repeat (first | (with_reducible first | exact HB.out | apply below_alloc | apply pw_below_drewN | apply below_drew1 | refine below_set ?_ GE426.out) | exact HB.out))) : w.heap.size ≤ gb437)); have n6_ := Aside0.mk ((by rw [hg]; exact (below_size (by repeat (first | (with_reducible first | exact HB.out | apply below_alloc | apply pw_below_drewN | apply below_drew1 | refine below_set ?_ GE426.out) | exact HB.out))) : w.heap.size ≤ gb437)); have n7_ := Aside0.mk ((by rw [hg]; exact Nat.ne_of_lt (blk_lt (g := gb426) (o := .cells #[.int .i64 a0_0, .slice A0_1 l0_1.length c0_1] 41 (0, 0)) (by (with_reducible repeat (first | refine blk_drewN ?_ _ | refine blk_drew ?_ | refine blk_alloc ?_ _)); exact BK426.out)) : gb426 ≠ gb437)); have n8_ := Aside0.mk ((by rw [hg]; exact Nat.ne_of_gt (blk_lt (g := gb426) (o := .cells #[.int .i64 a0_0, .slice A0_1 l0_1.length c0_1] 41 (0, 0)) (by (with_reducible repeat (first | refine blk_drewN ?_ _ | refine blk_drew ?_ | refine blk_alloc ?_ _)); exact BK426.out)) : gb437 ≠ gb426)); clear HO431; clear HO436; clear BK426; clear HB; have HO431 := n0_; have HO436 := n1_; have BK426 := n2_; have HB := n3_; have BK437 := n4_; have GW437 := n5_; have GE437 := n6_; have NB426_437 := n7_; have NB437_426 := n8_; clear n0_ n1_ n2_ n3_ n4_ n5_ n6_ n7_ n8_; clear hb hbox hg; have hnb63 := NB437_426.out; have hnc63 := NB426_437.out; have hcz64_0 : w62.cell? ⟨gb437, 0, none⟩ = some (.int .i64 0) := (blk_cell BK437.out 0).trans rfl; have hcz64_1 : w62.cell? ⟨gb437, 1, none⟩ = some (.slice none 0 0) := (blk_cell BK437.out 1).trans rfl; have hfz64_0 := blk_frozen BK437.out 0; have hfz64_1 := blk_frozen BK437.out 1; obtain ⟨Ao65, co65, eo65⟩ := Kd.R_slice HO436.out; subst eo65) | ((with_reducible refine gate_callee (f := 41) rfl ?_); refine goesL_ (some 26) rfl rfl Try.func41 (by kernel_rfl) rfl #[.agg #[.int .i64 t433, .slice Ao65 t434.length co65], .int .i64 a1, .int .i64 a2] rfl (by (try simp only [List.map_toArray, List.map_cons, List.map_nil]); first | done | rfl | (simp only [List.length_drop, List.length_take]; rfl)) ?_; (with_reducible refine (impl_OtherEnd.calls k t433 _ _ t434 a1 a2 t438 _ ?side1 ?side2 A12.out).mono ?_); (case side1 => refine (Kd.R_reads' (e := 70) (base := w.heap.size) (ok := fun k_ => (True ∧ some k_ ≠ (.slice Ao58 t429.length co58 : Value).ownBlock)) (n := t434.length) (c := co65) ?_).2.2; exact (by (with_reducible repeat (first | apply Kd.R_alloc | apply Kd.R_drewN | apply Kd.R_drew)); exact (Kd.R_mono (Kd.R_far (p := ⟨gb437, 1, none⟩) (Kd.R_far (p := ⟨gb437, 0, none⟩) (Kd.R_types HO436.out BK437.out (by decide)) (fun _ hk => hk.2) (.int .i64 t433)) (fun _ hk => hk.2) (.slice Ao65 t434.length co65)) (fun _ h_ => h_.1)))); (case side2 => exact (Kd.R_reads' HO436.out).2.1); rintro e w66 ⟨rfl, hb⟩; refine ⟨_, rfl, ?_⟩; have n0_ := Aside0.mk (Kd.R_below (by (with_reducible repeat (first | apply Kd.R_alloc | apply Kd.R_drewN | apply Kd.R_drew)); exact (Kd.R_mono (Kd.R_far (p := ⟨gb437, 1, none⟩) (Kd.R_far (p := ⟨gb437, 0, none⟩) (Kd.R_types HO431.out BK437.out (by decide)) (fun _ hk => hk.2) (.int .i64 t433)) (fun _ hk => hk.2) (.slice Ao65 t434.length co65)) (fun _ h_ => h_.1))) hb); have n1_ := Aside0.mk (Kd.R_below (by (with_reducible repeat (first | apply Kd.R_alloc | apply Kd.R_drewN | apply Kd.R_drew)); exact (Kd.R_mono (Kd.R_far (p := ⟨gb437, 1, none⟩) (Kd.R_far (p := ⟨gb437, 0, none⟩) (Kd.R_types HO436.out BK437.out (by decide)) (fun _ hk => hk.2) (.int .i64 t433)) (fun _ hk => hk.2) (.slice Ao65 t434.length co65)) (fun _ h_ => h_.1))) hb); have n2_ := Aside0.mk (blk_below (g := gb426) (o := .cells #[.int .i64 a0_0, .slice A0_1 l0_1.length c0_1] 41 (0, 0)) (by (with_reducible repeat (first | refine blk_drewN ?_ _ | refine blk_drew ?_ | refine blk_alloc ?_ _)); refine blk_far ?_ NB426_437.out _; (with_reducible repeat (first | refine blk_drewN ?_ _ | refine blk_drew ?_ | refine blk_alloc ?_ _)); refine blk_far ?_ NB426_437.out _; (with_reducible repeat (first | refine blk_drewN ?_ _ | refine blk_drew ?_ | refine blk_alloc ?_ _)); exact BK426.out) hb); have n3_ := Aside0.mk (blk_below (g := gb437) (o := .cells #[.int .i64 t433, .slice Ao65 t434.length co65] 46 (0, 0)) (by (with_reducible repeat (first | refine blk_drewN ?_ _ | refine blk_drew ?_ | refine blk_alloc ?_ _)); refine blk_put (cs := #[.int .i64 t433, .slice none 0 0]) ?_ 1 _ rfl; (with_reducible repeat (first | refine blk_drewN ?_ _ | refine blk_drew ?_ | refine blk_alloc ?_ _)); refine blk_put (cs := #[.int .i64 0, .slice none 0 0]) ?_ 0 _ rfl; (with_reducible repeat (first | refine blk_drewN ?_ _ | refine blk_drew ?_ | refine blk_alloc ?_ _)); exact BK437.out) hb); have n4_ := Aside0.mk (below_step (by repeat (first | (with_reducible first | exact HB.out | apply below_alloc | apply pw_below_drewN | apply below_drew1 | refine below_set ?_ GE426.out | refine below_set ?_ GE437.out) | exact HB.out)) hb); clear HO431; clear HO436; clear BK426; clear BK437; clear HB; have HO431 := n0_; have HO436 := n1_; have BK426 := n2_; have BK437 := n3_; have HB := n4_; clear n0_ n1_ n2_ n3_ n4_; (try clear hb); (try clear hb2); (try clear hk); (try clear hi)))
      go_ret
      exact ⟨by first | rfl | (simp [errW_none, errW_some] <;> rfl) | (simp [*, errW_none, errW_some] <;> rfl), by repeat (first | (with_reducible first | exact HB.out | apply below_alloc | apply pw_below_drewN | apply below_drew1 | refine below_set ?_ GE426.out | refine below_set ?_ GE437.out) | exact HB.out)⟩

end Go.Proofs.Ytcchhgpdallpmaa.P

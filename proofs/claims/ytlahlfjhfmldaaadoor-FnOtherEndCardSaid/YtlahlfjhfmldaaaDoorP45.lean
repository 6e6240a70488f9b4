/- Contracts of Go functions of this seat's translation, written by this repo's wip/mk.py: it calls the kit's print.py with contracts typed by hand in place of functions that it does not take. Not trusted: Lean checks it. -/
import Derived.Test.YtlahlfjhfmldaaaDoorP0
import Derived.Test.YtlahlfjhfmldaaaDoorP13
import Derived.Test.YtlahlfjhfmldaaaDoorP14
import Derived.Test.YtlahlfjhfmldaaaDoorP41
import Derived.Test.YtlahlfjhfmldaaaDoorP43
import Derived.Test.YtlahlfjhfmldaaaDoorP44
namespace Go.Proofs.YtlahlfjhfmldaaaDoor.P
open Go.RowKit Go.Proofs.YtlahlfjhfmldaaaDoorW.PrintWords Go.Proofs.YtlahlfjhfmldaaaDoorW.PrintLast Go.Proofs.YtlahlfjhfmldaaaDoorW.PrintMore
attribute [local go_sem] max2_int min2_int max_two min_two max_three min_three max_four min_four   -- for this text's walks alone
set_option linter.unusedVariables false
set_option linter.unusedSimpArgs false

/-! ### laws_FnOtherEnd: function 8 -/
def laws_FnOtherEnd.f (k : Nat) (l0 : List Int) : Option (Bool) := if (l0.length : Int) > 1048576 then (some true) else ((spec_DrawOtherEnd.f k l0).bind fun bt447 => ((impl_OtherEnd.f k bt447.1 bt447.2.1 bt447.2.2.1 bt447.2.2.2).bind fun t454 => ((spec_OtherEnd.f k bt447.1 bt447.2.1 bt447.2.2.1 bt447.2.2.2).bind fun t455 => (if t454 = t455 then (if t454 < 0 then (if t454 = (-1) then ((impl_LinesAt.f k bt447.1 bt447.2.1 bt447.2.2.2).bind fun t456 => ((laws_hasInt.f k t456 bt447.2.2.1).bind fun t459 => (if t459 = true then (none) else ((laws_alive.f k).bind fun t460 => (some t460))))) else (none)) else (if t454 = bt447.2.2.2 then (none) else ((impl_OtherEnd.f k bt447.1 bt447.2.1 bt447.2.2.1 t454).bind fun t461 => (if t461 = bt447.2.2.2 then ((impl_LinesAt.f k bt447.1 bt447.2.1 t454).bind fun t462 => ((laws_hasInt.f k t462 bt447.2.2.1).bind fun t465 => (if t465 = true then ((impl_LinesAt.f k bt447.1 bt447.2.1 bt447.2.2.2).bind fun t466 => ((laws_hasInt.f k t466 bt447.2.2.1).bind fun t469 => (some t469))) else (none)))) else (none))))) else (none)))))
theorem laws_FnOtherEnd.mono : ∀ a0 k, LeO (laws_FnOtherEnd.f k a0) (laws_FnOtherEnd.f (k + 1) a0) := by
  intro a0 k
  unfold laws_FnOtherEnd.f
  repeat' first
      | (with_reducible exact impl_LinesAt.mono _ _ _ _)
      | (with_reducible exact impl_OtherEnd.mono _ _ _ _ _)
      | (with_reducible exact laws_alive.mono _)
      | (with_reducible exact laws_hasInt.mono _ _ _)
      | (with_reducible exact spec_DrawOtherEnd.mono _ _)
      | (with_reducible exact spec_OtherEnd.mono _ _ _ _ _)
      | (with_reducible exact LeO.refl _)
      | (with_reducible exact LeO.none _)
      | (with_reducible refine LeO.ite ?_ ?_)
      | (with_reducible refine LeO.bind ?_ (fun _ => ?_))
      | exact impl_LinesAt.mono _ _ _ _
      | exact impl_OtherEnd.mono _ _ _ _ _
      | exact laws_alive.mono _
      | exact laws_hasInt.mono _ _ _
      | exact spec_DrawOtherEnd.mono _ _
      | exact spec_OtherEnd.mono _ _ _ _ _
      | exact LeO.none _
      | refine LeO.ite ?_ ?_
      | refine LeO.bind ?_ (fun _ => ?_)
set_option maxHeartbeats 8000000 in
set_option maxRecDepth 100000 in
theorem laws_FnOtherEnd.calls (k : Nat) (A0 : Option Addr) (c0 : Nat) (l0 : List Int) (r : Bool) (w : World) (hr0 : Kd.C (Kd.int .u8) w A0 l0.length l0) (hc0 : l0.length ≤ c0) (h : laws_FnOtherEnd.f k l0 = some r) :
    Calls Tryd.prog 8 #[.slice A0 l0.length c0] w fun e w' => e = .returned (.bool r) ∧ Below w.heap.size w w' := by
  have hu25 := Tryd.underlying25
  have HR0 := Aside0.mk hr0
  have HC0 := Aside0.mk hc0
  clear hr0 hc0
  have HB := Aside0.mk (Below.refl w.heap.size w)
  have H : (if (l0.length : Int) > 1048576 then (some true) else ((spec_DrawOtherEnd.f k l0).bind fun bt447 => ((impl_OtherEnd.f k bt447.1 bt447.2.1 bt447.2.2.1 bt447.2.2.2).bind fun t454 => ((spec_OtherEnd.f k bt447.1 bt447.2.1 bt447.2.2.1 bt447.2.2.2).bind fun t455 => (if t454 = t455 then (if t454 < 0 then (if t454 = (-1) then ((impl_LinesAt.f k bt447.1 bt447.2.1 bt447.2.2.2).bind fun t456 => ((laws_hasInt.f k t456 bt447.2.2.1).bind fun t459 => (if t459 = true then (none) else ((laws_alive.f k).bind fun t460 => (some t460))))) else (none)) else (if t454 = bt447.2.2.2 then (none) else ((impl_OtherEnd.f k bt447.1 bt447.2.1 bt447.2.2.1 t454).bind fun t461 => (if t461 = bt447.2.2.2 then ((impl_LinesAt.f k bt447.1 bt447.2.1 t454).bind fun t462 => ((laws_hasInt.f k t462 bt447.2.2.1).bind fun t465 => (if t465 = true then ((impl_LinesAt.f k bt447.1 bt447.2.1 bt447.2.2.2).bind fun t466 => ((laws_hasInt.f k t466 bt447.2.2.1).bind fun t469 => (some t469))) else (none)))) else (none))))) else (none)))))) = some r := h
  clear h
  by_cases c2 : (l0.length : Int) > 1048576
  · rw [if_pos c2] at H
    have c2b0 : decide (1048576 < (l0.length : Int)) = true := decide_eq_true c2
    have c2b1 : decide (1048576 < l0.length) = true := decide_eq_true (by omega)
    clear c2
    obtain rfl := Option.some.inj H
    go_enter Tryd.func8, Tryd.ntmps8
    go_wp2
    go_ret
    exact ⟨by first | rfl | (simp [errW_none, errW_some] <;> rfl) | (simp [*, errW_none, errW_some] <;> rfl), by repeat (first | (with_reducible first | exact HB.out | apply below_alloc | apply pw_below_drewN | apply below_drew1) | exact HB.out)⟩
  · rw [if_neg c2] at H
    have c2b0 : decide (1048576 < (l0.length : Int)) = false := decide_eq_false c2
    have c2b1 : decide (1048576 < l0.length) = false := decide_eq_false (by omega)
    clear c2
    replace H := Option.bind_eq_some_iff.mp H
    obtain ⟨⟨t447, t448, t451, t452⟩, A30, H⟩ := H
    replace H : ((impl_OtherEnd.f k t447 t448 t451 t452).bind fun t454 => ((spec_OtherEnd.f k t447 t448 t451 t452).bind fun t455 => (if t454 = t455 then (if t454 < 0 then (if t454 = (-1) then ((impl_LinesAt.f k t447 t448 t452).bind fun t456 => ((laws_hasInt.f k t456 t451).bind fun t459 => (if t459 = true then (none) else ((laws_alive.f k).bind fun t460 => (some t460))))) else (none)) else (if t454 = t452 then (none) else ((impl_OtherEnd.f k t447 t448 t451 t454).bind fun t461 => (if t461 = t452 then ((impl_LinesAt.f k t447 t448 t454).bind fun t462 => ((laws_hasInt.f k t462 t451).bind fun t465 => (if t465 = true then ((impl_LinesAt.f k t447 t448 t452).bind fun t466 => ((laws_hasInt.f k t466 t451).bind fun t469 => (some t469))) else (none)))) else (none))))) else (none)))) = some r := H
    have A3 := Aside0.mk A30
    clear A30
    replace H := Option.bind_eq_some_iff.mp H
    obtain ⟨t454, A40, H⟩ := H
    replace H : ((spec_OtherEnd.f k t447 t448 t451 t452).bind fun t455 => (if t454 = t455 then (if t454 < 0 then (if t454 = (-1) then ((impl_LinesAt.f k t447 t448 t452).bind fun t456 => ((laws_hasInt.f k t456 t451).bind fun t459 => (if t459 = true then (none) else ((laws_alive.f k).bind fun t460 => (some t460))))) else (none)) else (if t454 = t452 then (none) else ((impl_OtherEnd.f k t447 t448 t451 t454).bind fun t461 => (if t461 = t452 then ((impl_LinesAt.f k t447 t448 t454).bind fun t462 => ((laws_hasInt.f k t462 t451).bind fun t465 => (if t465 = true then ((impl_LinesAt.f k t447 t448 t452).bind fun t466 => ((laws_hasInt.f k t466 t451).bind fun t469 => (some t469))) else (none)))) else (none))))) else (none))) = some r := H
    have A4 := Aside0.mk A40
    clear A40
    replace H := Option.bind_eq_some_iff.mp H
    obtain ⟨t455, A50, H⟩ := H
    replace H : (if t454 = t455 then (if t454 < 0 then (if t454 = (-1) then ((impl_LinesAt.f k t447 t448 t452).bind fun t456 => ((laws_hasInt.f k t456 t451).bind fun t459 => (if t459 = true then (none) else ((laws_alive.f k).bind fun t460 => (some t460))))) else (none)) else (if t454 = t452 then (none) else ((impl_OtherEnd.f k t447 t448 t451 t454).bind fun t461 => (if t461 = t452 then ((impl_LinesAt.f k t447 t448 t454).bind fun t462 => ((laws_hasInt.f k t462 t451).bind fun t465 => (if t465 = true then ((impl_LinesAt.f k t447 t448 t452).bind fun t466 => ((laws_hasInt.f k t466 t451).bind fun t469 => (some t469))) else (none)))) else (none))))) else (none)) = some r := H
    have A5 := Aside0.mk A50
    clear A50
    by_cases c6 : t454 = t455
    · rw [if_pos c6] at H
      have c6b0 : (t454 == t455) = true := beq_iff_eq.mpr c6
      have c6b1 : (t454 != t455) = false := bne_eq_false_iff_eq.mpr c6
      clear c6
      by_cases c7 : t454 < 0
      · rw [if_pos c7] at H
        have c7b0 : decide (t454 < 0) = true := decide_eq_true c7
        clear c7
        by_cases c8 : t454 = (-1)
        · rw [if_pos c8] at H
          have c8b0 : (t454 == (-1)) = true := beq_iff_eq.mpr c8
          have c8b1 : (t454 != (-1)) = false := bne_eq_false_iff_eq.mpr c8
          clear c8
          replace H := Option.bind_eq_some_iff.mp H
          obtain ⟨t456, A90, H⟩ := H
          replace H : ((laws_hasInt.f k t456 t451).bind fun t459 => (if t459 = true then (none) else ((laws_alive.f k).bind fun t460 => (some t460)))) = some r := H
          have A9 := Aside0.mk A90
          clear A90
          replace H := Option.bind_eq_some_iff.mp H
          obtain ⟨t459, A100, H⟩ := H
          replace H : (if t459 = true then (none) else ((laws_alive.f k).bind fun t460 => (some t460))) = some r := H
          have A10 := Aside0.mk A100
          clear A100
          by_cases c11 : t459 = true
          · subst c11
            have H1 : (none) = some r := by rw [if_pos rfl] at H; exact H
            clear H
            have H := H1
            clear H1
            exact absurd H (by simp)
          · replace c11 := Bool.eq_false_iff.mpr c11
            subst c11
            have H1 : ((laws_alive.f k).bind fun t460 => (some t460)) = some r := by rw [if_neg (show ¬ (false = true) by decide)] at H; exact H
            clear H
            have H := H1
            clear H1
            replace H := Option.bind_eq_some_iff.mp H
            obtain ⟨t460, A120, H⟩ := H
            replace H : (some t460) = some r := H
            have A12 := Aside0.mk A120
            clear A120
            obtain rfl := Option.some.inj H
            go_enter Tryd.func8, Tryd.ntmps8
            go_wp2_with (first | ((with_reducible refine gate_callee (f := 33) rfl ?_); refine goesL_ (some 12) rfl rfl Tryd.func33 (by kernel_rfl) rfl #[.slice A0 l0.length c0] rfl (by (try simp only [List.map_toArray, List.map_cons, List.map_nil]); first | done | rfl | (simp only [List.length_drop, List.length_take]; rfl)) ?_; (with_reducible refine (spec_DrawOtherEnd.calls k _ _ l0 t447 t448 t451 t452 _ ?side1 ?side2 A3.out).mono ?_); (case side1 => repeat (first | exact HR0.out | (with_reducible refine Kd.C_alloc ?_ _) | (with_reducible refine Kd.C_drewN ?_ _) | (with_reducible refine Kd.C_drew ?_))); (case side2 => exact HC0.out); rintro e w13 ⟨v449, rfl, ho0, hb⟩; refine ⟨_, rfl, ?_⟩; have n0_ := Aside0.mk (Kd.R_lower ho0 (below_size (by repeat (first | (with_reducible first | exact HB.out | apply below_alloc | apply pw_below_drewN | apply below_drew1) | exact HB.out)))); have n1_ := Aside0.mk (below_step (by repeat (first | (with_reducible first | exact HB.out | apply below_alloc | apply pw_below_drewN | apply below_drew1) | exact HB.out)) hb); clear HB; have HO450 := n0_; have HB := n1_; clear n0_ n1_; (try clear hb); (try clear hb2); (try clear hk); (try clear hi); (try clear ho0)) | ((with_reducible refine gate_dst (N := 3) rfl ?_); refine box_event ?hg (N := 3) ?hd (cs := #[.int .i64 0, .slice none 0 0]) (t := 25) ?hr ?_; (case hd => rfl); (case hg => rfl); (case hr => first | (go_simp; done) | (go_simp; rfl)); intro gb453 hg w14 hbox hb; have n0_ := Aside0.mk (Kd.R_below (by (with_reducible repeat (first | apply Kd.R_alloc | apply Kd.R_drewN | apply Kd.R_drew)); exact HO450.out) hb); have n1_ := Aside0.mk (below_step (by repeat (first | (with_reducible first | exact HB.out | apply below_alloc | apply pw_below_drewN | apply below_drew1) | exact HB.out)) hb); have n2_ := Aside0.mk (hbox); have n3_ := Aside0.mk ((by rw [hg]; exact (below_size (by repeat (first | (with_reducible first | exact HB.out | apply below_alloc | apply pw_below_drewN | apply below_drew1) | exact HB.out))) : w.heap.size ≤ gb453)); have n4_ := Aside0.mk ((by rw [hg]; exact (below_size (by repeat (first | (with_reducible first | exact HB.out | apply below_alloc | apply pw_below_drewN | apply below_drew1) | exact HB.out))) : w.heap.size ≤ gb453)); clear HO450; clear HB; have HO450 := n0_; have HB := n1_; have BK453 := n2_; have GW453 := n3_; have GE453 := n4_; clear n0_ n1_ n2_ n3_ n4_; clear hb hbox hg; have hcz15_0 : w14.cell? ⟨gb453, 0, none⟩ = some (.int .i64 0) := (blk_cell BK453.out 0).trans rfl; have hcz15_1 : w14.cell? ⟨gb453, 1, none⟩ = some (.slice none 0 0) := (blk_cell BK453.out 1).trans rfl; have hfz15_0 := blk_frozen BK453.out 0; have hfz15_1 := blk_frozen BK453.out 1; obtain ⟨Ao16, co16, eo16⟩ := Kd.R_slice HO450.out; subst eo16) | ((with_reducible refine gate_callee (f := 32) rfl ?_); refine goesL_ (some 19) rfl rfl Tryd.func32 (by kernel_rfl) rfl #[.agg #[.int .i64 t447, .slice Ao16 t448.length co16], .int .i64 t451, .int .i64 t452] rfl (by (try simp only [List.map_toArray, List.map_cons, List.map_nil]); first | done | rfl | (simp only [List.length_drop, List.length_take]; rfl)) ?_; (with_reducible refine (impl_OtherEnd.calls k t447 _ _ t448 t451 t452 t454 _ ?side1 ?side2 A4.out).mono ?_); (case side1 => refine (Kd.R_reads' (e := 30) (base := w.heap.size) (ok := fun k_ => True) (n := t448.length) (c := co16) ?_).2.2; exact (by (with_reducible repeat (first | apply Kd.R_alloc | apply Kd.R_drewN | apply Kd.R_drew)); exact (Kd.R_mono (Kd.R_far (p := ⟨gb453, 1, none⟩) (Kd.R_far (p := ⟨gb453, 0, none⟩) (Kd.R_types HO450.out BK453.out (by decide)) (fun _ hk => hk.2) (.int .i64 t447)) (fun _ hk => hk.2) (.slice Ao16 t448.length co16)) (fun _ h_ => h_.1)))); (case side2 => exact (Kd.R_reads' HO450.out).2.1); rintro e w17 ⟨rfl, hb⟩; refine ⟨_, rfl, ?_⟩; have n0_ := Aside0.mk (Kd.R_below (by (with_reducible repeat (first | apply Kd.R_alloc | apply Kd.R_drewN | apply Kd.R_drew)); exact (Kd.R_mono (Kd.R_far (p := ⟨gb453, 1, none⟩) (Kd.R_far (p := ⟨gb453, 0, none⟩) (Kd.R_types HO450.out BK453.out (by decide)) (fun _ hk => hk.2) (.int .i64 t447)) (fun _ hk => hk.2) (.slice Ao16 t448.length co16)) (fun _ h_ => h_.1))) hb); have n1_ := Aside0.mk (blk_below (g := gb453) (o := .cells #[.int .i64 t447, .slice Ao16 t448.length co16] 25 (0, 0)) (by (with_reducible repeat (first | refine blk_drewN ?_ _ | refine blk_drew ?_ | refine blk_alloc ?_ _)); refine blk_put (cs := #[.int .i64 t447, .slice none 0 0]) ?_ 1 _ rfl; (with_reducible repeat (first | refine blk_drewN ?_ _ | refine blk_drew ?_ | refine blk_alloc ?_ _)); refine blk_put (cs := #[.int .i64 0, .slice none 0 0]) ?_ 0 _ rfl; (with_reducible repeat (first | refine blk_drewN ?_ _ | refine blk_drew ?_ | refine blk_alloc ?_ _)); exact BK453.out) hb); have n2_ := Aside0.mk (below_step (by repeat (first | (with_reducible first | exact HB.out | apply below_alloc | apply pw_below_drewN | apply below_drew1 | refine below_set ?_ GE453.out) | exact HB.out)) hb); clear HO450; clear BK453; clear HB; have HO450 := n0_; have BK453 := n1_; have HB := n2_; clear n0_ n1_ n2_; (try clear hb); (try clear hb2); (try clear hk); (try clear hi); have hcz18_0 : w17.cell? ⟨gb453, 0, none⟩ = some (.int .i64 t447) := (blk_cell BK453.out 0).trans rfl; have hcz18_1 : w17.cell? ⟨gb453, 1, none⟩ = some (.slice Ao16 t448.length co16) := (blk_cell BK453.out 1).trans rfl; have hfz18_0 := blk_frozen BK453.out 0; have hfz18_1 := blk_frozen BK453.out 1) | ((with_reducible refine gate_callee (f := 34) rfl ?_); refine goesL_ (some 24) rfl rfl Tryd.func34 (by kernel_rfl) rfl #[.agg #[.int .i64 t447, .slice Ao16 t448.length co16], .int .i64 t451, .int .i64 t452] rfl (by (try simp only [List.map_toArray, List.map_cons, List.map_nil]); first | done | rfl | (simp only [List.length_drop, List.length_take]; rfl)) ?_; (with_reducible refine (spec_OtherEnd.calls k t447 _ _ t448 t451 t452 t455 _ ?side1 ?side2 A5.out).mono ?_); (case side1 => repeat (first | exact (Kd.R_reads' HO450.out).2.2 | (with_reducible refine Kd.C_alloc ?_ _) | (with_reducible refine Kd.C_drewN ?_ _) | (with_reducible refine Kd.C_drew ?_))); (case side2 => exact (Kd.R_reads' HO450.out).2.1); rintro e w19 ⟨rfl, hb⟩; refine ⟨_, rfl, ?_⟩; have n0_ := Aside0.mk (Kd.R_below (by (with_reducible repeat (first | apply Kd.R_alloc | apply Kd.R_drewN | apply Kd.R_drew)); exact HO450.out) hb); have n1_ := Aside0.mk (blk_below (g := gb453) (o := .cells #[.int .i64 t447, .slice Ao16 t448.length co16] 25 (0, 0)) (by (with_reducible repeat (first | refine blk_drewN ?_ _ | refine blk_drew ?_ | refine blk_alloc ?_ _)); exact BK453.out) hb); have n2_ := Aside0.mk (below_step (by repeat (first | (with_reducible first | exact HB.out | apply below_alloc | apply pw_below_drewN | apply below_drew1 | refine below_set ?_ GE453.out) | exact HB.out)) hb); clear HO450; clear BK453; clear HB; have HO450 := n0_; have BK453 := n1_; have HB := n2_; clear n0_ n1_ n2_; (try clear hb); (try clear hb2); (try clear hk); (try clear hi); have hcz20_0 : w19.cell? ⟨gb453, 0, none⟩ = some (.int .i64 t447) := (blk_cell BK453.out 0).trans rfl; have hcz20_1 : w19.cell? ⟨gb453, 1, none⟩ = some (.slice Ao16 t448.length co16) := (blk_cell BK453.out 1).trans rfl; have hfz20_0 := blk_frozen BK453.out 0; have hfz20_1 := blk_frozen BK453.out 1) | (go_at_call 36; (with_reducible refine (impl_LinesAt.calls k t447 _ _ t448 t452 t456 _ ?side1 ?side2 A9.out).mono ?_); (case side1 => repeat (first | exact (Kd.R_reads' HO450.out).2.2 | (with_reducible refine Kd.C_alloc ?_ _) | (with_reducible refine Kd.C_drewN ?_ _) | (with_reducible refine Kd.C_drew ?_))); (case side2 => exact (Kd.R_reads' HO450.out).2.1); rintro e w21 ⟨v457, rfl, ho0, hb⟩; have n0_ := Aside0.mk (Kd.R_below (by (with_reducible repeat (first | apply Kd.R_alloc | apply Kd.R_drewN | apply Kd.R_drew)); exact HO450.out) hb); have n1_ := Aside0.mk (Kd.R_lower ho0 (below_size (by repeat (first | (with_reducible first | exact HB.out | apply below_alloc | apply pw_below_drewN | apply below_drew1 | refine below_set ?_ GE453.out) | exact HB.out)))); have n2_ := Aside0.mk (blk_below (g := gb453) (o := .cells #[.int .i64 t447, .slice Ao16 t448.length co16] 25 (0, 0)) (by (with_reducible repeat (first | refine blk_drewN ?_ _ | refine blk_drew ?_ | refine blk_alloc ?_ _)); exact BK453.out) hb); have n3_ := Aside0.mk (below_step (by repeat (first | (with_reducible first | exact HB.out | apply below_alloc | apply pw_below_drewN | apply below_drew1 | refine below_set ?_ GE453.out) | exact HB.out)) hb); clear HO450; clear BK453; clear HB; have HO450 := n0_; have HO458 := n1_; have BK453 := n2_; have HB := n3_; clear n0_ n1_ n2_ n3_; (try clear hb); (try clear hb2); (try clear hk); (try clear hi); (try clear ho0); obtain ⟨Ao22, co22, eo22⟩ := Kd.R_slice HO458.out; subst eo22) | (go_at_call 35; (with_reducible refine (laws_hasInt.calls k _ _ t456 t451 false _ ?side1 ?side2 A10.out).mono ?_); (case side1 => repeat (first | exact (Kd.R_reads' HO458.out).2.2 | (with_reducible refine Kd.C_alloc ?_ _) | (with_reducible refine Kd.C_drewN ?_ _) | (with_reducible refine Kd.C_drew ?_))); (case side2 => exact (Kd.R_reads' HO458.out).2.1); rintro e w' ⟨rfl, ⟨nd, rfl⟩⟩) | (go_at_call 15; (with_reducible refine (laws_alive.calls k  t460 _ A12.out).mono ?_); rintro e w23 ⟨rfl, hb⟩; have n0_ := Aside0.mk (Kd.R_below (by (with_reducible repeat (first | apply Kd.R_alloc | apply Kd.R_drewN | apply Kd.R_drew)); exact HO450.out) hb); have n1_ := Aside0.mk (Kd.R_below (by (with_reducible repeat (first | apply Kd.R_alloc | apply Kd.R_drewN | apply Kd.R_drew)); exact HO458.out) hb); have n2_ := Aside0.mk (blk_below (g := gb453) (o := .cells #[.int .i64 t447, .slice Ao16 t448.length co16] 25 (0, 0)) (by (with_reducible repeat (first | refine blk_drewN ?_ _ | refine blk_drew ?_ | refine blk_alloc ?_ _)); exact BK453.out) hb); have n3_ := Aside0.mk (below_step (by repeat (first | (with_reducible first | exact HB.out | apply below_alloc | apply pw_below_drewN | apply below_drew1 | refine below_set ?_ GE453.out) | exact HB.out)) hb); clear HO450; clear HO458; clear BK453; clear HB; have HO450 := n0_; have HO458 := n1_; have BK453 := n2_; have HB := n3_; clear n0_ n1_ n2_ n3_; (try clear hb); (try clear hb2); (try clear hk); (try clear hi)))
            go_ret
            exact ⟨by first | rfl | (simp [errW_none, errW_some] <;> rfl) | (simp [*, errW_none, errW_some] <;> rfl), by repeat (first | (with_reducible first | exact HB.out | apply below_alloc | apply pw_below_drewN | apply below_drew1 | refine below_set ?_ GE453.out) | exact HB.out)⟩
        · rw [if_neg c8] at H
          exact absurd H (by simp)
      · rw [if_neg c7] at H
        have c7b0 : decide (t454 < 0) = false := decide_eq_false c7
        clear c7
        by_cases c24 : t454 = t452
        · rw [if_pos c24] at H
          exact absurd H (by simp)
        · rw [if_neg c24] at H
          have c24b0 : (t454 == t452) = false := beq_eq_false_iff_ne.mpr c24
          have c24b1 : (t454 != t452) = true := bne_iff_ne.mpr c24
          replace H := Option.bind_eq_some_iff.mp H
          obtain ⟨t461, A250, H⟩ := H
          replace H : (if t461 = t452 then ((impl_LinesAt.f k t447 t448 t454).bind fun t462 => ((laws_hasInt.f k t462 t451).bind fun t465 => (if t465 = true then ((impl_LinesAt.f k t447 t448 t452).bind fun t466 => ((laws_hasInt.f k t466 t451).bind fun t469 => (some t469))) else (none)))) else (none)) = some r := H
          have A25 := Aside0.mk A250
          clear A250
          by_cases c26 : t461 = t452
          · rw [if_pos c26] at H
            have c26b0 : (t461 == t452) = true := beq_iff_eq.mpr c26
            have c26b1 : (t461 != t452) = false := bne_eq_false_iff_eq.mpr c26
            clear c26
            replace H := Option.bind_eq_some_iff.mp H
            obtain ⟨t462, A270, H⟩ := H
            replace H : ((laws_hasInt.f k t462 t451).bind fun t465 => (if t465 = true then ((impl_LinesAt.f k t447 t448 t452).bind fun t466 => ((laws_hasInt.f k t466 t451).bind fun t469 => (some t469))) else (none))) = some r := H
            have A27 := Aside0.mk A270
            clear A270
            replace H := Option.bind_eq_some_iff.mp H
            obtain ⟨t465, A280, H⟩ := H
            replace H : (if t465 = true then ((impl_LinesAt.f k t447 t448 t452).bind fun t466 => ((laws_hasInt.f k t466 t451).bind fun t469 => (some t469))) else (none)) = some r := H
            have A28 := Aside0.mk A280
            clear A280
            by_cases c29 : t465 = true
            · subst c29
              have H1 : ((impl_LinesAt.f k t447 t448 t452).bind fun t466 => ((laws_hasInt.f k t466 t451).bind fun t469 => (some t469))) = some r := by rw [if_pos rfl] at H; exact H
              clear H
              have H := H1
              clear H1
              replace H := Option.bind_eq_some_iff.mp H
              obtain ⟨t466, A300, H⟩ := H
              replace H : ((laws_hasInt.f k t466 t451).bind fun t469 => (some t469)) = some r := H
              have A30 := Aside0.mk A300
              clear A300
              replace H := Option.bind_eq_some_iff.mp H
              obtain ⟨t469, A310, H⟩ := H
              replace H : (some t469) = some r := H
              have A31 := Aside0.mk A310
              clear A310
              obtain rfl := Option.some.inj H
              go_enter Tryd.func8, Tryd.ntmps8
              go_wp2_with (first | ((with_reducible refine gate_callee (f := 33) rfl ?_); refine goesL_ (some 12) rfl rfl Tryd.func33 (by kernel_rfl) rfl #[.slice A0 l0.length c0] rfl (by (try simp only [List.map_toArray, List.map_cons, List.map_nil]); first | done | rfl | (simp only [List.length_drop, List.length_take]; rfl)) ?_; (with_reducible refine (spec_DrawOtherEnd.calls k _ _ l0 t447 t448 t451 t452 _ ?side1 ?side2 A3.out).mono ?_); (case side1 => repeat (first | exact HR0.out | (with_reducible refine Kd.C_alloc ?_ _) | (with_reducible refine Kd.C_drewN ?_ _) | (with_reducible refine Kd.C_drew ?_))); (case side2 => exact HC0.out); rintro e w32 ⟨v449, rfl, ho0, hb⟩; refine ⟨_, rfl, ?_⟩; have n0_ := Aside0.mk (Kd.R_lower ho0 (below_size (by repeat (first | (with_reducible first | exact HB.out | apply below_alloc | apply pw_below_drewN | apply below_drew1) | exact HB.out)))); have n1_ := Aside0.mk (below_step (by repeat (first | (with_reducible first | exact HB.out | apply below_alloc | apply pw_below_drewN | apply below_drew1) | exact HB.out)) hb); clear HB; have HO450 := n0_; have HB := n1_; clear n0_ n1_; (try clear hb); (try clear hb2); (try clear hk); (try clear hi); (try clear ho0)) | ((with_reducible refine gate_dst (N := 3) rfl ?_); refine box_event ?hg (N := 3) ?hd (cs := #[.int .i64 0, .slice none 0 0]) (t := 25) ?hr ?_; (case hd => rfl); (case hg => rfl); (case hr => first | (go_simp; done) | (go_simp; rfl)); intro gb453 hg w33 hbox hb; have n0_ := Aside0.mk (Kd.R_below (by (with_reducible repeat (first | apply Kd.R_alloc | apply Kd.R_drewN | apply Kd.R_drew)); exact HO450.out) hb); have n1_ := Aside0.mk (below_step (by repeat (first | (with_reducible first | exact HB.out | apply below_alloc | apply pw_below_drewN | apply below_drew1) | exact HB.out)) hb); have n2_ := Aside0.mk (hbox); have n3_ := Aside0.mk ((by rw [hg]; exact (below_size (by repeat (first | (with_reducible first | exact HB.out | apply below_alloc | apply pw_below_drewN | apply below_drew1) | exact HB.out))) : w.heap.size ≤ gb453)); have n4_ := Aside0.mk ((by rw [hg]; exact (below_size (by repeat (first | (with_reducible first | exact HB.out | apply below_alloc | apply pw_below_drewN | apply below_drew1) | exact HB.out))) : w.heap.size ≤ gb453)); clear HO450; clear HB; have HO450 := n0_; have HB := n1_; have BK453 := n2_; have GW453 := n3_; have GE453 := n4_; clear n0_ n1_ n2_ n3_ n4_; clear hb hbox hg; have hcz34_0 : w33.cell? ⟨gb453, 0, none⟩ = some (.int .i64 0) := (blk_cell BK453.out 0).trans rfl; have hcz34_1 : w33.cell? ⟨gb453, 1, none⟩ = some (.slice none 0 0) := (blk_cell BK453.out 1).trans rfl; have hfz34_0 := blk_frozen BK453.out 0; have hfz34_1 := blk_frozen BK453.out 1; obtain ⟨Ao35, co35, eo35⟩ := Kd.R_slice HO450.out; subst eo35) | ((with_reducible refine gate_callee (f := 32) rfl ?_); refine goesL_ (some 19) rfl rfl Tryd.func32 (by kernel_rfl) rfl #[.agg #[.int .i64 t447, .slice Ao35 t448.length co35], .int .i64 t451, .int .i64 t452] rfl (by (try simp only [List.map_toArray, List.map_cons, List.map_nil]); first | done | rfl | (simp only [List.length_drop, List.length_take]; rfl)) ?_; (with_reducible refine (impl_OtherEnd.calls k t447 _ _ t448 t451 t452 t454 _ ?side1 ?side2 A4.out).mono ?_); (case side1 => refine (Kd.R_reads' (e := 30) (base := w.heap.size) (ok := fun k_ => True) (n := t448.length) (c := co35) ?_).2.2; exact (by (with_reducible repeat (first | apply Kd.R_alloc | apply Kd.R_drewN | apply Kd.R_drew)); exact (Kd.R_mono (Kd.R_far (p := ⟨gb453, 1, none⟩) (Kd.R_far (p := ⟨gb453, 0, none⟩) (Kd.R_types HO450.out BK453.out (by decide)) (fun _ hk => hk.2) (.int .i64 t447)) (fun _ hk => hk.2) (.slice Ao35 t448.length co35)) (fun _ h_ => h_.1)))); (case side2 => exact (Kd.R_reads' HO450.out).2.1); rintro e w36 ⟨rfl, hb⟩; refine ⟨_, rfl, ?_⟩; have n0_ := Aside0.mk (Kd.R_below (by (with_reducible repeat (first | apply Kd.R_alloc | apply Kd.R_drewN | apply Kd.R_drew)); exact (Kd.R_mono (Kd.R_far (p := ⟨gb453, 1, none⟩) (Kd.R_far (p := ⟨gb453, 0, none⟩) (Kd.R_types HO450.out BK453.out (by decide)) (fun _ hk => hk.2) (.int .i64 t447)) (fun _ hk => hk.2) (.slice Ao35 t448.length co35)) (fun _ h_ => h_.1))) hb); have n1_ := Aside0.mk (blk_below (g := gb453) (o := .cells #[.int .i64 t447, .slice Ao35 t448.length co35] 25 (0, 0)) (by (with_reducible repeat (first | refine blk_drewN ?_ _ | refine blk_drew ?_ | refine blk_alloc ?_ _)); refine blk_put (cs := #[.int .i64 t447, .slice none 0 0]) ?_ 1 _ rfl; (with_reducible repeat (first | refine blk_drewN ?_ _ | refine blk_drew ?_ | refine blk_alloc ?_ _)); refine blk_put (cs := #[.int .i64 0, .slice none 0 0]) ?_ 0 _ rfl; (with_reducible repeat (first | refine blk_drewN ?_ _ | refine blk_drew ?_ | refine blk_alloc ?_ _)); exact BK453.out) hb); have n2_ := Aside0.mk (below_step (by repeat (first | (with_reducible first | exact HB.out | apply below_alloc | apply pw_below_drewN | apply below_drew1 | refine below_set ?_ GE453.out) | exact HB.out)) hb); clear HO450; clear BK453; clear HB; have HO450 := n0_; have BK453 := n1_; have HB := n2_; clear n0_ n1_ n2_; (try clear hb); (try clear hb2); (try clear hk); (try clear hi); have hcz37_0 : w36.cell? ⟨gb453, 0, none⟩ = some (.int .i64 t447) := (blk_cell BK453.out 0).trans rfl; have hcz37_1 : w36.cell? ⟨gb453, 1, none⟩ = some (.slice Ao35 t448.length co35) := (blk_cell BK453.out 1).trans rfl; have hfz37_0 := blk_frozen BK453.out 0; have hfz37_1 := blk_frozen BK453.out 1) | ((with_reducible refine gate_callee (f := 34) rfl ?_); refine goesL_ (some 24) rfl rfl Tryd.func34 (by kernel_rfl) rfl #[.agg #[.int .i64 t447, .slice Ao35 t448.length co35], .int .i64 t451, .int .i64 t452] rfl (by (try simp only [List.map_toArray, List.map_cons, List.map_nil]); first | done | rfl | (simp only [List.length_drop, List.length_take]; rfl)) ?_; (with_reducible refine (spec_OtherEnd.calls k t447 _ _ t448 t451 t452 t455 _ ?side1 ?side2 A5.out).mono ?_); (case side1 => repeat (first | exact (Kd.R_reads' HO450.out).2.2 | (with_reducible refine Kd.C_alloc ?_ _) | (with_reducible refine Kd.C_drewN ?_ _) | (with_reducible refine Kd.C_drew ?_))); (case side2 => exact (Kd.R_reads' HO450.out).2.1); rintro e w38 ⟨rfl, hb⟩; refine ⟨_, rfl, ?_⟩; have n0_ := Aside0.mk (Kd.R_below (by (with_reducible repeat (first | apply Kd.R_alloc | apply Kd.R_drewN | apply Kd.R_drew)); exact HO450.out) hb); have n1_ := Aside0.mk (blk_below (g := gb453) (o := .cells #[.int .i64 t447, .slice Ao35 t448.length co35] 25 (0, 0)) (by (with_reducible repeat (first | refine blk_drewN ?_ _ | refine blk_drew ?_ | refine blk_alloc ?_ _)); exact BK453.out) hb); have n2_ := Aside0.mk (below_step (by repeat (first | (with_reducible first | exact HB.out | apply below_alloc | apply pw_below_drewN | apply below_drew1 | refine below_set ?_ GE453.out) | exact HB.out)) hb); clear HO450; clear BK453; clear HB; have HO450 := n0_; have BK453 := n1_; have HB := n2_; clear n0_ n1_ n2_; (try clear hb); (try clear hb2); (try clear hk); (try clear hi); have hcz39_0 : w38.cell? ⟨gb453, 0, none⟩ = some (.int .i64 t447) := (blk_cell BK453.out 0).trans rfl; have hcz39_1 : w38.cell? ⟨gb453, 1, none⟩ = some (.slice Ao35 t448.length co35) := (blk_cell BK453.out 1).trans rfl; have hfz39_0 := blk_frozen BK453.out 0; have hfz39_1 := blk_frozen BK453.out 1) | (go_at_call 32; (with_reducible refine (impl_OtherEnd.calls k t447 _ _ t448 t451 t454 t461 _ ?side1 ?side2 A25.out).mono ?_); (case side1 => repeat (first | exact (Kd.R_reads' HO450.out).2.2 | (with_reducible refine Kd.C_alloc ?_ _) | (with_reducible refine Kd.C_drewN ?_ _) | (with_reducible refine Kd.C_drew ?_))); (case side2 => exact (Kd.R_reads' HO450.out).2.1); rintro e w40 ⟨rfl, hb⟩; have n0_ := Aside0.mk (Kd.R_below (by (with_reducible repeat (first | apply Kd.R_alloc | apply Kd.R_drewN | apply Kd.R_drew)); exact HO450.out) hb); have n1_ := Aside0.mk (blk_below (g := gb453) (o := .cells #[.int .i64 t447, .slice Ao35 t448.length co35] 25 (0, 0)) (by (with_reducible repeat (first | refine blk_drewN ?_ _ | refine blk_drew ?_ | refine blk_alloc ?_ _)); exact BK453.out) hb); have n2_ := Aside0.mk (below_step (by repeat (first | (with_reducible first | exact HB.out | apply below_alloc | apply pw_below_drewN | apply below_drew1 | refine below_set ?_ GE453.out) | exact HB.out)) hb); clear HO450; clear BK453; clear HB; have HO450 := n0_; have BK453 := n1_; have HB := n2_; clear n0_ n1_ n2_; (try clear hb); (try clear hb2); (try clear hk); (try clear hi); have hcz41_0 : w40.cell? ⟨gb453, 0, none⟩ = some (.int .i64 t447) := (blk_cell BK453.out 0).trans rfl; have hcz41_1 : w40.cell? ⟨gb453, 1, none⟩ = some (.slice Ao35 t448.length co35) := (blk_cell BK453.out 1).trans rfl; have hfz41_0 := blk_frozen BK453.out 0; have hfz41_1 := blk_frozen BK453.out 1) | (go_at_call 36; (with_reducible refine (impl_LinesAt.calls k t447 _ _ t448 t454 t462 _ ?side1 ?side2 A27.out).mono ?_); (case side1 => repeat (first | exact (Kd.R_reads' HO450.out).2.2 | (with_reducible refine Kd.C_alloc ?_ _) | (with_reducible refine Kd.C_drewN ?_ _) | (with_reducible refine Kd.C_drew ?_))); (case side2 => exact (Kd.R_reads' HO450.out).2.1); rintro e w42 ⟨v463, rfl, ho0, hb⟩; have n0_ := Aside0.mk (Kd.R_below (by (with_reducible repeat (first | apply Kd.R_alloc | apply Kd.R_drewN | apply Kd.R_drew)); exact HO450.out) hb); have n1_ := Aside0.mk (Kd.R_lower ho0 (below_size (by repeat (first | (with_reducible first | exact HB.out | apply below_alloc | apply pw_below_drewN | apply below_drew1 | refine below_set ?_ GE453.out) | exact HB.out)))); have n2_ := Aside0.mk (blk_below (g := gb453) (o := .cells #[.int .i64 t447, .slice Ao35 t448.length co35] 25 (0, 0)) (by (with_reducible repeat (first | refine blk_drewN ?_ _ | refine blk_drew ?_ | refine blk_alloc ?_ _)); exact BK453.out) hb); have n3_ := Aside0.mk (below_step (by repeat (first | (with_reducible first | exact HB.out | apply below_alloc | apply pw_below_drewN | apply below_drew1 | refine below_set ?_ GE453.out) | exact HB.out)) hb); clear HO450; clear BK453; clear HB; have HO450 := n0_; have HO464 := n1_; have BK453 := n2_; have HB := n3_; clear n0_ n1_ n2_ n3_; (try clear hb); (try clear hb2); (try clear hk); (try clear hi); (try clear ho0); obtain ⟨Ao43, co43, eo43⟩ := Kd.R_slice HO464.out; subst eo43) | (go_at_call 35; (with_reducible refine (laws_hasInt.calls k _ _ t462 t451 true _ ?side1 ?side2 A28.out).mono ?_); (case side1 => repeat (first | exact (Kd.R_reads' HO464.out).2.2 | (with_reducible refine Kd.C_alloc ?_ _) | (with_reducible refine Kd.C_drewN ?_ _) | (with_reducible refine Kd.C_drew ?_))); (case side2 => exact (Kd.R_reads' HO464.out).2.1); rintro e w' ⟨rfl, ⟨nd, rfl⟩⟩; have hcz44_0 : w42.cell? ⟨gb453, 0, none⟩ = some (.int .i64 t447) := (blk_cell BK453.out 0).trans rfl; have hcz44_1 : w42.cell? ⟨gb453, 1, none⟩ = some (.slice Ao35 t448.length co35) := (blk_cell BK453.out 1).trans rfl; have hfz44_0 := blk_frozen BK453.out 0; have hfz44_1 := blk_frozen BK453.out 1) | (go_at_call 36; (with_reducible refine (impl_LinesAt.calls k t447 _ _ t448 t452 t466 _ ?side1 ?side2 A30.out).mono ?_); (case side1 => repeat (first | exact (Kd.R_reads' HO450.out).2.2 | (with_reducible refine Kd.C_alloc ?_ _) | (with_reducible refine Kd.C_drewN ?_ _) | (with_reducible refine Kd.C_drew ?_))); (case side2 => exact (Kd.R_reads' HO450.out).2.1); rintro e w45 ⟨v467, rfl, ho0, hb⟩; have n0_ := Aside0.mk (Kd.R_below (by (with_reducible repeat (first | apply Kd.R_alloc | apply Kd.R_drewN | apply Kd.R_drew)); exact HO450.out) hb); have n1_ := Aside0.mk (Kd.R_elder' (by (with_reducible repeat (first | apply Kd.R_alloc | apply Kd.R_drewN | apply Kd.R_drew)); exact HO464.out) (Kd.R_base ho0) hb); have n2_ := Aside0.mk (Kd.R_lower (Kd.R_new' ho0 (Kd.R_lt (by (with_reducible repeat (first | apply Kd.R_alloc | apply Kd.R_drewN | apply Kd.R_drew)); exact HO464.out))) (below_size (by repeat (first | (with_reducible first | exact HB.out | apply below_alloc | apply pw_below_drewN | apply below_drew1 | refine below_set ?_ GE453.out) | exact HB.out)))); have n3_ := Aside0.mk (blk_below (g := gb453) (o := .cells #[.int .i64 t447, .slice Ao35 t448.length co35] 25 (0, 0)) (by (with_reducible repeat (first | refine blk_drewN ?_ _ | refine blk_drew ?_ | refine blk_alloc ?_ _)); exact BK453.out) hb); have n4_ := Aside0.mk (below_step (by repeat (first | (with_reducible first | exact HB.out | apply below_alloc | apply pw_below_drewN | apply below_drew1 | refine below_set ?_ GE453.out) | exact HB.out)) hb); clear HO450; clear HO464; clear BK453; clear HB; have HO450 := n0_; have HO464 := n1_; have HO468 := n2_; have BK453 := n3_; have HB := n4_; clear n0_ n1_ n2_ n3_ n4_; (try clear hb); (try clear hb2); (try clear hk); (try clear hi); (try clear ho0); obtain ⟨Ao46, co46, eo46⟩ := Kd.R_slice HO468.out; subst eo46) | (go_at_call 35; (with_reducible refine (laws_hasInt.calls k _ _ t466 t451 t469 _ ?side1 ?side2 A31.out).mono ?_); (case side1 => repeat (first | exact (Kd.R_reads' HO468.out).2.2 | (with_reducible refine Kd.C_alloc ?_ _) | (with_reducible refine Kd.C_drewN ?_ _) | (with_reducible refine Kd.C_drew ?_))); (case side2 => exact (Kd.R_reads' HO468.out).2.1); rintro e w' ⟨rfl, ⟨nd, rfl⟩⟩))
              go_ret
              exact ⟨by first | rfl | (simp [errW_none, errW_some] <;> rfl) | (simp [*, errW_none, errW_some] <;> rfl), by repeat (first | (with_reducible first | exact HB.out | apply below_alloc | apply pw_below_drewN | apply below_drew1 | refine below_set ?_ GE453.out) | exact HB.out)⟩
            · replace c29 := Bool.eq_false_iff.mpr c29
              subst c29
              have H1 : (none) = some r := by rw [if_neg (show ¬ (false = true) by decide)] at H; exact H
              clear H
              have H := H1
              clear H1
              exact absurd H (by simp)
          · rw [if_neg c26] at H
            exact absurd H (by simp)
    · rw [if_neg c6] at H
      exact absurd H (by simp)

end Go.Proofs.YtlahlfjhfmldaaaDoor.P

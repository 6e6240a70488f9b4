/- Contracts of Go functions of this seat's translation, written by this repo's wip/mk.py: it calls the kit's print.py with contracts typed by hand in place of functions that it does not take. Not trusted: Lean checks it. -/
import Derived.Test.YtlahlfjhfmldaaaDoorP0
import Derived.Test.YtlahlfjhfmldaaaDoorP9
import Derived.Test.YtlahlfjhfmldaaaDoorP14
import Derived.Test.YtlahlfjhfmldaaaDoorP44
import Derived.Test.YtlahlfjhfmldaaaDoorP47
import Derived.Test.YtlahlfjhfmldaaaDoorP49
namespace Go.Proofs.YtlahlfjhfmldaaaDoor.P
open Go.RowKit Go.Proofs.YtlahlfjhfmldaaaDoorW.PrintWords Go.Proofs.YtlahlfjhfmldaaaDoorW.PrintLast Go.Proofs.YtlahlfjhfmldaaaDoorW.PrintMore
attribute [local go_sem] max2_int min2_int max_two min_two max_three min_three max_four min_four   -- for this text's walks alone
set_option linter.unusedVariables false
set_option linter.unusedSimpArgs false

/-! ### laws_FnLinesAt: function 9 -/
def laws_FnLinesAt.l0 : Nat → List Int → Int → Int → Int → List (S30) → Option (Bool)
  | 0, _, _, _, _, _ => none
  | k + 1, x5, x6, x7, x505000, x505001 => if x7 < x505000 then ((impl_LinesAt.f k x505000 x505001 x7).bind fun t514 => (laws_FnLinesAt.l0 k x5 (wrap64 (x6 + (t514.length : Int))) (wrap64 (x7 + 1)) x505000 x505001)) else (if x6 = (wrap64 (2 * (x505001.length : Int))) then ((laws_ascend.f k x5).bind fun t517 => (some t517)) else (none))
def laws_FnLinesAt.f (k : Nat) (l0 : List Int) : Option (Bool) := if (l0.length : Int) > 1048576 then (some true) else ((spec_DrawLinesAt.f k l0).bind fun bt499 => ((impl_LinesAt.f k bt499.1 bt499.2.1 bt499.2.2).bind fun t505 => ((spec_LinesAt.f k bt499.1 bt499.2.1 bt499.2.2).bind fun t508 => ((laws_sameInts.f k t505 t508).bind fun t511 => (if t511 = true then ((spec_NetValid.f k bt499.1 bt499.2.1).bind fun t512 => (if t512 = true then (laws_FnLinesAt.l0 k t505 0 0 bt499.1 bt499.2.1) else (if (t505.length : Int) = 0 then ((laws_alive.f k).bind fun t513 => (some t513)) else (none)))) else (none))))))
theorem laws_FnLinesAt.mono_l : ∀ k, (∀ y0 y1 y2 y3 y4, LeO (laws_FnLinesAt.l0 k y0 y1 y2 y3 y4) (laws_FnLinesAt.l0 (k + 1) y0 y1 y2 y3 y4))
  | 0 => fun _ _ _ _ _ r h => by simp [laws_FnLinesAt.l0] at h
  | k + 1 => by
    have ih0 := laws_FnLinesAt.mono_l k
    · intro y0 y1 y2 y3 y4
      unfold laws_FnLinesAt.l0
      repeat' first
      | (with_reducible exact ih0 _ _ _ _ _)
      | (with_reducible exact impl_LinesAt.mono _ _ _ _)
      | (with_reducible exact laws_alive.mono _)
      | (with_reducible exact laws_ascend.mono _ _)
      | (with_reducible exact laws_sameInts.mono _ _ _)
      | (with_reducible exact spec_DrawLinesAt.mono _ _)
      | (with_reducible exact spec_LinesAt.mono _ _ _ _)
      | (with_reducible exact spec_NetValid.mono _ _ _)
      | (with_reducible exact LeO.refl _)
      | (with_reducible exact LeO.none _)
      | (with_reducible refine LeO.ite ?_ ?_)
      | (with_reducible refine LeO.bind ?_ (fun _ => ?_))
      | exact ih0 _ _ _ _ _
      | exact impl_LinesAt.mono _ _ _ _
      | exact laws_alive.mono _
      | exact laws_ascend.mono _ _
      | exact laws_sameInts.mono _ _ _
      | exact spec_DrawLinesAt.mono _ _
      | exact spec_LinesAt.mono _ _ _ _
      | exact spec_NetValid.mono _ _ _
      | exact LeO.none _
      | refine LeO.ite ?_ ?_
      | refine LeO.bind ?_ (fun _ => ?_)
theorem laws_FnLinesAt.mono : ∀ a0 k, LeO (laws_FnLinesAt.f k a0) (laws_FnLinesAt.f (k + 1) a0) := by
  intro a0 k
  have ih0 := laws_FnLinesAt.mono_l k
  unfold laws_FnLinesAt.f
  repeat' first
      | (with_reducible exact ih0 _ _ _ _ _)
      | (with_reducible exact impl_LinesAt.mono _ _ _ _)
      | (with_reducible exact laws_alive.mono _)
      | (with_reducible exact laws_ascend.mono _ _)
      | (with_reducible exact laws_sameInts.mono _ _ _)
      | (with_reducible exact spec_DrawLinesAt.mono _ _)
      | (with_reducible exact spec_LinesAt.mono _ _ _ _)
      | (with_reducible exact spec_NetValid.mono _ _ _)
      | (with_reducible exact LeO.refl _)
      | (with_reducible exact LeO.none _)
      | (with_reducible refine LeO.ite ?_ ?_)
      | (with_reducible refine LeO.bind ?_ (fun _ => ?_))
      | exact ih0 _ _ _ _ _
      | exact impl_LinesAt.mono _ _ _ _
      | exact laws_alive.mono _
      | exact laws_ascend.mono _ _
      | exact laws_sameInts.mono _ _ _
      | exact spec_DrawLinesAt.mono _ _
      | exact spec_LinesAt.mono _ _ _ _
      | exact spec_NetValid.mono _ _ _
      | exact LeO.none _
      | refine LeO.ite ?_ ?_
      | refine LeO.bind ?_ (fun _ => ?_)
set_option maxHeartbeats 8000000 in
set_option maxRecDepth 100000 in
theorem laws_FnLinesAt.calls (k : Nat) (A0 : Option Addr) (c0 : Nat) (l0 : List Int) (r : Bool) (w : World) (hr0 : Kd.C (Kd.int .u8) w A0 l0.length l0) (hc0 : l0.length ≤ c0) (h : laws_FnLinesAt.f k l0 = some r) :
    Calls Tryd.prog 9 #[.slice A0 l0.length c0] w fun e w' => e = .returned (.bool r) ∧ Below w.heap.size w w' := by
  have hu25 := Tryd.underlying25
  have HR0 := Aside0.mk hr0
  have HC0 := Aside0.mk hc0
  clear hr0 hc0
  have HB := Aside0.mk (Below.refl w.heap.size w)
  have H : (if (l0.length : Int) > 1048576 then (some true) else ((spec_DrawLinesAt.f k l0).bind fun bt499 => ((impl_LinesAt.f k bt499.1 bt499.2.1 bt499.2.2).bind fun t505 => ((spec_LinesAt.f k bt499.1 bt499.2.1 bt499.2.2).bind fun t508 => ((laws_sameInts.f k t505 t508).bind fun t511 => (if t511 = true then ((spec_NetValid.f k bt499.1 bt499.2.1).bind fun t512 => (if t512 = true then (laws_FnLinesAt.l0 k t505 0 0 bt499.1 bt499.2.1) else (if (t505.length : Int) = 0 then ((laws_alive.f k).bind fun t513 => (some t513)) else (none)))) else (none))))))) = some r := h
  clear h
  by_cases c2 : (l0.length : Int) > 1048576
  · rw [if_pos c2] at H
    have c2b0 : decide (1048576 < (l0.length : Int)) = true := decide_eq_true c2
    have c2b1 : decide (1048576 < l0.length) = true := decide_eq_true (by omega)
    clear c2
    obtain rfl := Option.some.inj H
    go_enter Tryd.func9, Tryd.ntmps9
    go_wp2
    go_ret
    exact ⟨by first | rfl | (simp [errW_none, errW_some] <;> rfl) | (simp [*, errW_none, errW_some] <;> rfl), by repeat (first | (with_reducible first | exact HB.out | apply below_alloc | apply pw_below_drewN | apply below_drew1) | exact HB.out)⟩
  · rw [if_neg c2] at H
    have c2b0 : decide (1048576 < (l0.length : Int)) = false := decide_eq_false c2
    have c2b1 : decide (1048576 < l0.length) = false := decide_eq_false (by omega)
    clear c2
    replace H := Option.bind_eq_some_iff.mp H
    obtain ⟨⟨t499, t500, t503⟩, A30, H⟩ := H
    replace H : ((impl_LinesAt.f k t499 t500 t503).bind fun t505 => ((spec_LinesAt.f k t499 t500 t503).bind fun t508 => ((laws_sameInts.f k t505 t508).bind fun t511 => (if t511 = true then ((spec_NetValid.f k t499 t500).bind fun t512 => (if t512 = true then (laws_FnLinesAt.l0 k t505 0 0 t499 t500) else (if (t505.length : Int) = 0 then ((laws_alive.f k).bind fun t513 => (some t513)) else (none)))) else (none))))) = some r := H
    have A3 := Aside0.mk A30
    clear A30
    replace H := Option.bind_eq_some_iff.mp H
    obtain ⟨t505, A40, H⟩ := H
    replace H : ((spec_LinesAt.f k t499 t500 t503).bind fun t508 => ((laws_sameInts.f k t505 t508).bind fun t511 => (if t511 = true then ((spec_NetValid.f k t499 t500).bind fun t512 => (if t512 = true then (laws_FnLinesAt.l0 k t505 0 0 t499 t500) else (if (t505.length : Int) = 0 then ((laws_alive.f k).bind fun t513 => (some t513)) else (none)))) else (none)))) = some r := H
    have A4 := Aside0.mk A40
    clear A40
    replace H := Option.bind_eq_some_iff.mp H
    obtain ⟨t508, A50, H⟩ := H
    replace H : ((laws_sameInts.f k t505 t508).bind fun t511 => (if t511 = true then ((spec_NetValid.f k t499 t500).bind fun t512 => (if t512 = true then (laws_FnLinesAt.l0 k t505 0 0 t499 t500) else (if (t505.length : Int) = 0 then ((laws_alive.f k).bind fun t513 => (some t513)) else (none)))) else (none))) = some r := H
    have A5 := Aside0.mk A50
    clear A50
    replace H := Option.bind_eq_some_iff.mp H
    obtain ⟨t511, A60, H⟩ := H
    replace H : (if t511 = true then ((spec_NetValid.f k t499 t500).bind fun t512 => (if t512 = true then (laws_FnLinesAt.l0 k t505 0 0 t499 t500) else (if (t505.length : Int) = 0 then ((laws_alive.f k).bind fun t513 => (some t513)) else (none)))) else (none)) = some r := H
    have A6 := Aside0.mk A60
    clear A60
    by_cases c7 : t511 = true
    · subst c7
      have H1 : ((spec_NetValid.f k t499 t500).bind fun t512 => (if t512 = true then (laws_FnLinesAt.l0 k t505 0 0 t499 t500) else (if (t505.length : Int) = 0 then ((laws_alive.f k).bind fun t513 => (some t513)) else (none)))) = some r := by rw [if_pos rfl] at H; exact H
      clear H
      have H := H1
      clear H1
      replace H := Option.bind_eq_some_iff.mp H
      obtain ⟨t512, A80, H⟩ := H
      replace H : (if t512 = true then (laws_FnLinesAt.l0 k t505 0 0 t499 t500) else (if (t505.length : Int) = 0 then ((laws_alive.f k).bind fun t513 => (some t513)) else (none))) = some r := H
      have A8 := Aside0.mk A80
      clear A80
      by_cases c9 : t512 = true
      · subst c9
        have H1 : (laws_FnLinesAt.l0 k t505 0 0 t499 t500) = some r := by rw [if_pos rfl] at H; exact H
        clear H
        have H := H1
        clear H1
        have H' := Aside0.mk H
        clear H
        go_enter Tryd.func9, Tryd.ntmps9
        go_wp2_with (first | ((with_reducible refine gate_callee (f := 37) rfl ?_); refine goesL_ (some 13) rfl rfl Tryd.func37 (by kernel_rfl) rfl #[.slice A0 l0.length c0] rfl (by (try simp only [List.map_toArray, List.map_cons, List.map_nil]); first | done | rfl | (simp only [List.length_drop, List.length_take]; rfl)) ?_; (with_reducible refine (spec_DrawLinesAt.calls k _ _ l0 t499 t500 t503 _ ?side1 ?side2 A3.out).mono ?_); (case side1 => repeat (first | exact HR0.out | (with_reducible refine Kd.C_alloc ?_ _) | (with_reducible refine Kd.C_drewN ?_ _) | (with_reducible refine Kd.C_drew ?_))); (case side2 => exact HC0.out); rintro e w10 ⟨v501, rfl, ho0, hb⟩; refine ⟨_, rfl, ?_⟩; have n0_ := Aside0.mk (Kd.R_lower ho0 (below_size (by repeat (first | (with_reducible first | exact HB.out | apply below_alloc | apply pw_below_drewN | apply below_drew1) | exact HB.out)))); have n1_ := Aside0.mk (below_step (by repeat (first | (with_reducible first | exact HB.out | apply below_alloc | apply pw_below_drewN | apply below_drew1) | exact HB.out)) hb); clear HB; have HO502 := n0_; have HB := n1_; clear n0_ n1_; (try clear hb); (try clear hb2); (try clear hk); (try clear hi); (try clear ho0)) | ((with_reducible refine gate_dst (N := 3) rfl ?_); refine box_event ?hg (N := 3) ?hd (cs := #[.int .i64 0, .slice none 0 0]) (t := 25) ?hr ?_; (case hd => rfl); (case hg => rfl); (case hr => first | (go_simp; done) | (go_simp; rfl)); intro gb504 hg w11 hbox hb; have n0_ := Aside0.mk (Kd.R_below (by (with_reducible repeat (first | apply Kd.R_alloc | apply Kd.R_drewN | apply Kd.R_drew)); exact HO502.out) hb); have n1_ := Aside0.mk (below_step (by repeat (first | (with_reducible first | exact HB.out | apply below_alloc | apply pw_below_drewN | apply below_drew1) | exact HB.out)) hb); have n2_ := Aside0.mk (hbox); have n3_ := Aside0.mk ((by rw [hg]; exact (below_size (by repeat (first | (with_reducible first | exact HB.out | apply below_alloc | apply pw_below_drewN | apply below_drew1) | exact HB.out))) : w.heap.size ≤ gb504)); have n4_ := Aside0.mk ((by rw [hg]; exact (below_size (by repeat (first | (with_reducible first | exact HB.out | apply below_alloc | apply pw_below_drewN | apply below_drew1) | exact HB.out))) : w.heap.size ≤ gb504)); clear HO502; clear HB; have HO502 := n0_; have HB := n1_; have BK504 := n2_; have GW504 := n3_; have GE504 := n4_; clear n0_ n1_ n2_ n3_ n4_; clear hb hbox hg; have hcz12_0 : w11.cell? ⟨gb504, 0, none⟩ = some (.int .i64 0) := (blk_cell BK504.out 0).trans rfl; have hcz12_1 : w11.cell? ⟨gb504, 1, none⟩ = some (.slice none 0 0) := (blk_cell BK504.out 1).trans rfl; have hfz12_0 := blk_frozen BK504.out 0; have hfz12_1 := blk_frozen BK504.out 1; obtain ⟨Ao13, co13, eo13⟩ := Kd.R_slice HO502.out; subst eo13) | ((with_reducible refine gate_callee (f := 36) rfl ?_); refine goesL_ (some 18) rfl rfl Tryd.func36 (by kernel_rfl) rfl #[.agg #[.int .i64 t499, .slice Ao13 t500.length co13], .int .i64 t503] rfl (by (try simp only [List.map_toArray, List.map_cons, List.map_nil]); first | done | rfl | (simp only [List.length_drop, List.length_take]; rfl)) ?_; (with_reducible refine (impl_LinesAt.calls k t499 _ _ t500 t503 t505 _ ?side1 ?side2 A4.out).mono ?_); (case side1 => refine (Kd.R_reads' (e := 30) (base := w.heap.size) (ok := fun k_ => True) (n := t500.length) (c := co13) ?_).2.2; exact (by (with_reducible repeat (first | apply Kd.R_alloc | apply Kd.R_drewN | apply Kd.R_drew)); exact (Kd.R_mono (Kd.R_far (p := ⟨gb504, 1, none⟩) (Kd.R_far (p := ⟨gb504, 0, none⟩) (Kd.R_types HO502.out BK504.out (by decide)) (fun _ hk => hk.2) (.int .i64 t499)) (fun _ hk => hk.2) (.slice Ao13 t500.length co13)) (fun _ h_ => h_.1)))); (case side2 => exact (Kd.R_reads' HO502.out).2.1); rintro e w14 ⟨v506, rfl, ho0, hb⟩; refine ⟨_, rfl, ?_⟩; have n0_ := Aside0.mk (Kd.R_below (by (with_reducible repeat (first | apply Kd.R_alloc | apply Kd.R_drewN | apply Kd.R_drew)); exact (Kd.R_mono (Kd.R_far (p := ⟨gb504, 1, none⟩) (Kd.R_far (p := ⟨gb504, 0, none⟩) (Kd.R_types HO502.out BK504.out (by decide)) (fun _ hk => hk.2) (.int .i64 t499)) (fun _ hk => hk.2) (.slice Ao13 t500.length co13)) (fun _ h_ => h_.1))) hb); have n1_ := Aside0.mk (Kd.R_lower ho0 (below_size (by repeat (first | (with_reducible first | exact HB.out | apply below_alloc | apply pw_below_drewN | apply below_drew1 | refine below_set ?_ GE504.out) | exact HB.out)))); have n2_ := Aside0.mk (blk_below (g := gb504) (o := .cells #[.int .i64 t499, .slice Ao13 t500.length co13] 25 (0, 0)) (by (with_reducible repeat (first | refine blk_drewN ?_ _ | refine blk_drew ?_ | refine blk_alloc ?_ _)); refine blk_put (cs := #[.int .i64 t499, .slice none 0 0]) ?_ 1 _ rfl; (with_reducible repeat (first | refine blk_drewN ?_ _ | refine blk_drew ?_ | refine blk_alloc ?_ _)); refine blk_put (cs := #[.int .i64 0, .slice none 0 0]) ?_ 0 _ rfl; (with_reducible repeat (first | refine blk_drewN ?_ _ | refine blk_drew ?_ | refine blk_alloc ?_ _)); exact BK504.out) hb); have n3_ := Aside0.mk (below_step (by repeat (first | (with_reducible first | exact HB.out | apply below_alloc | apply pw_below_drewN | apply below_drew1 | refine below_set ?_ GE504.out) | exact HB.out)) hb); clear HO502; clear BK504; clear HB; have HO502 := n0_; have HO507 := n1_; have BK504 := n2_; have HB := n3_; clear n0_ n1_ n2_ n3_; (try clear hb); (try clear hb2); (try clear hk); (try clear hi); (try clear ho0); have hcz15_0 : w14.cell? ⟨gb504, 0, none⟩ = some (.int .i64 t499) := (blk_cell BK504.out 0).trans rfl; have hcz15_1 : w14.cell? ⟨gb504, 1, none⟩ = some (.slice Ao13 t500.length co13) := (blk_cell BK504.out 1).trans rfl; have hfz15_0 := blk_frozen BK504.out 0; have hfz15_1 := blk_frozen BK504.out 1) | ((with_reducible refine gate_callee (f := 39) rfl ?_); refine goesL_ (some 22) rfl rfl Tryd.func39 (by kernel_rfl) rfl #[.agg #[.int .i64 t499, .slice Ao13 t500.length co13], .int .i64 t503] rfl (by (try simp only [List.map_toArray, List.map_cons, List.map_nil]); first | done | rfl | (simp only [List.length_drop, List.length_take]; rfl)) ?_; (with_reducible refine (spec_LinesAt.calls k t499 _ _ t500 t503 t508 _ ?side1 ?side2 A5.out).mono ?_); (case side1 => repeat (first | exact (Kd.R_reads' HO502.out).2.2 | (with_reducible refine Kd.C_alloc ?_ _) | (with_reducible refine Kd.C_drewN ?_ _) | (with_reducible refine Kd.C_drew ?_))); (case side2 => exact (Kd.R_reads' HO502.out).2.1); rintro e w16 ⟨v509, rfl, ho0, hb⟩; refine ⟨_, rfl, ?_⟩; have n0_ := Aside0.mk (Kd.R_below (by (with_reducible repeat (first | apply Kd.R_alloc | apply Kd.R_drewN | apply Kd.R_drew)); exact HO502.out) hb); have n1_ := Aside0.mk (Kd.R_elder' (by (with_reducible repeat (first | apply Kd.R_alloc | apply Kd.R_drewN | apply Kd.R_drew)); exact HO507.out) (Kd.R_base ho0) hb); have n2_ := Aside0.mk (Kd.R_lower (Kd.R_new' ho0 (Kd.R_lt (by (with_reducible repeat (first | apply Kd.R_alloc | apply Kd.R_drewN | apply Kd.R_drew)); exact HO507.out))) (below_size (by repeat (first | (with_reducible first | exact HB.out | apply below_alloc | apply pw_below_drewN | apply below_drew1 | refine below_set ?_ GE504.out) | exact HB.out)))); have n3_ := Aside0.mk (blk_below (g := gb504) (o := .cells #[.int .i64 t499, .slice Ao13 t500.length co13] 25 (0, 0)) (by (with_reducible repeat (first | refine blk_drewN ?_ _ | refine blk_drew ?_ | refine blk_alloc ?_ _)); exact BK504.out) hb); have n4_ := Aside0.mk (below_step (by repeat (first | (with_reducible first | exact HB.out | apply below_alloc | apply pw_below_drewN | apply below_drew1 | refine below_set ?_ GE504.out) | exact HB.out)) hb); clear HO502; clear HO507; clear BK504; clear HB; have HO502 := n0_; have HO507 := n1_; have HO510 := n2_; have BK504 := n3_; have HB := n4_; clear n0_ n1_ n2_ n3_ n4_; (try clear hb); (try clear hb2); (try clear hk); (try clear hi); (try clear ho0); obtain ⟨Ao17, co17, eo17⟩ := Kd.R_slice HO507.out; subst eo17; obtain ⟨Ao18, co18, eo18⟩ := Kd.R_slice HO510.out; subst eo18) | ((with_reducible refine gate_callee (f := 38) rfl ?_); refine goesL_ (some 23) rfl rfl Tryd.func38 (by kernel_rfl) rfl #[.slice Ao17 t505.length co17, .slice Ao18 t508.length co18] rfl (by (try simp only [List.map_toArray, List.map_cons, List.map_nil]); first | done | rfl | (simp only [List.length_drop, List.length_take]; rfl)) ?_; (with_reducible refine (laws_sameInts.calls k _ _ t505 _ _ t508 true _ ?side1 ?side2 ?side3 ?side4 A6.out).mono ?_); (case side1 => repeat (first | exact (Kd.R_reads' HO507.out).2.2 | (with_reducible refine Kd.C_alloc ?_ _) | (with_reducible refine Kd.C_drewN ?_ _) | (with_reducible refine Kd.C_drew ?_))); (case side2 => exact (Kd.R_reads' HO507.out).2.1); (case side3 => repeat (first | exact (Kd.R_reads' HO510.out).2.2 | (with_reducible refine Kd.C_alloc ?_ _) | (with_reducible refine Kd.C_drewN ?_ _) | (with_reducible refine Kd.C_drew ?_))); (case side4 => exact (Kd.R_reads' HO510.out).2.1); rintro e w' ⟨rfl, ⟨nd, rfl⟩⟩; refine ⟨_, rfl, ?_⟩; have hcz19_0 : w16.cell? ⟨gb504, 0, none⟩ = some (.int .i64 t499) := (blk_cell BK504.out 0).trans rfl; have hcz19_1 : w16.cell? ⟨gb504, 1, none⟩ = some (.slice Ao13 t500.length co13) := (blk_cell BK504.out 1).trans rfl; have hfz19_0 := blk_frozen BK504.out 0; have hfz19_1 := blk_frozen BK504.out 1) | ((with_reducible refine gate_callee (f := 14) rfl ?_); refine goesL_ (some 26) rfl rfl Tryd.func14 (by kernel_rfl) rfl #[.agg #[.int .i64 t499, .slice Ao13 t500.length co13]] rfl (by (try simp only [List.map_toArray, List.map_cons, List.map_nil]); first | done | rfl | (simp only [List.length_drop, List.length_take]; rfl)) ?_; (with_reducible refine (spec_NetValid.calls k t499 _ _ t500 true _ ?side1 ?side2 A8.out).mono ?_); (case side1 => repeat (first | exact (Kd.R_reads' HO502.out).2.2 | (with_reducible refine Kd.C_alloc ?_ _) | (with_reducible refine Kd.C_drewN ?_ _) | (with_reducible refine Kd.C_drew ?_))); (case side2 => exact (Kd.R_reads' HO502.out).2.1); rintro e w20 ⟨rfl, hb⟩; refine ⟨_, rfl, ?_⟩; have n0_ := Aside0.mk (Kd.R_below (by (with_reducible repeat (first | apply Kd.R_alloc | apply Kd.R_drewN | apply Kd.R_drew)); exact HO502.out) hb); have n1_ := Aside0.mk (Kd.R_below (by (with_reducible repeat (first | apply Kd.R_alloc | apply Kd.R_drewN | apply Kd.R_drew)); exact HO507.out) hb); have n2_ := Aside0.mk (Kd.R_below (by (with_reducible repeat (first | apply Kd.R_alloc | apply Kd.R_drewN | apply Kd.R_drew)); exact HO510.out) hb); have n3_ := Aside0.mk (blk_below (g := gb504) (o := .cells #[.int .i64 t499, .slice Ao13 t500.length co13] 25 (0, 0)) (by (with_reducible repeat (first | refine blk_drewN ?_ _ | refine blk_drew ?_ | refine blk_alloc ?_ _)); exact BK504.out) hb); have n4_ := Aside0.mk (below_step (by repeat (first | (with_reducible first | exact HB.out | apply below_alloc | apply pw_below_drewN | apply below_drew1 | refine below_set ?_ GE504.out) | exact HB.out)) hb); clear HO502; clear HO507; clear HO510; clear BK504; clear HB; have HO502 := n0_; have HO507 := n1_; have HO510 := n2_; have BK504 := n3_; have HB := n4_; clear n0_ n1_ n2_ n3_ n4_; (try clear hb); (try clear hb2); (try clear hk); (try clear hi)))
        go_loopg [6, 7] k (fun kq v6 v7 w' => ∃ (x6_1 : Int) (x7_1 : Int), v6 = .int .i64 x6_1 ∧ v7 = .int .i64 x7_1 ∧ Aside0 (laws_FnLinesAt.l0 kq t505 x6_1 x7_1 t499 t500 = some r) ∧ Aside0 (kq ≤ k) ∧ Aside0 (Kd.R (Kd.int .i64) 3 w' w.heap.size (fun _ => True) (.slice Ao17 t505.length co17) t505) ∧ Aside0 (Kd.R k30 30 w' w.heap.size (fun _ => True) (.slice Ao13 t500.length co13) t500) ∧ Aside0 (w'.heap[gb504]? = some (.cells #[.int .i64 t499, (.slice Ao13 t500.length co13)] 25 (0, 0))) ∧ Aside0 (Below w.heap.size w w'))
        case atStart => exact ⟨(0), (0), (by first | rfl | (simp; done) | (simp [*]; done)), (by first | rfl | (simp; done) | (simp [*]; done)), H', ⟨Nat.le_refl _⟩, ⟨by (with_reducible repeat (first | apply Kd.R_alloc | apply Kd.R_drewN | apply Kd.R_drew)); exact Kd.R_mono HO507.out (fun _ hk => trivial)⟩, ⟨by (with_reducible repeat (first | apply Kd.R_alloc | apply Kd.R_drewN | apply Kd.R_drew)); exact HO502.out⟩, ⟨by (with_reducible repeat (first | refine blk_drewN ?_ _ | refine blk_drew ?_ | refine blk_alloc ?_ _)); exact BK504.out⟩, ⟨by repeat (first | (with_reducible first | exact HB.out | apply below_alloc | apply pw_below_drewN | apply below_drew1 | refine below_set ?_ GE504.out) | exact HB.out)⟩⟩
        case round =>
          clear H'
          try clear c1
          try clear c2
          try clear c2b0
          try clear c2b1
          try clear p2
          try clear c3
          try clear c7
          try clear c9
          try clear c14
          try clear hcz12_0
          try clear hcz12_1
          try clear hcz15_0
          try clear hcz15_1
          try clear hcz19_0
          try clear hcz19_1
          try clear hfz12_0
          try clear hfz12_1
          try clear hfz15_0
          try clear hfz15_1
          try clear hfz19_0
          try clear hfz19_1
          obtain ⟨x6_1, x7_1, rfl, rfl, HA, HK1, HO_5, HO_505001, BK504, HB⟩ := hrel
          cases gk with
          | zero => exact absurd HA.out (by simp [laws_FnLinesAt.l0])
          | succ k1 =>
            have H := HA.out
            clear HA
            simp only [laws_FnLinesAt.l0] at H
            by_cases c21 : x7_1 < t499
            · rw [if_pos c21] at H
              have c21b0 : decide (x7_1 < t499) = true := decide_eq_true c21
              clear c21
              replace H := Option.bind_eq_some_iff.mp H
              obtain ⟨t514, A220, H⟩ := H
              replace H : (laws_FnLinesAt.l0 k1 t505 (wrap64 (x6_1 + (t514.length : Int))) (wrap64 (x7_1 + 1)) t499 t500) = some r := H
              have A22 := Aside0.mk A220
              clear A220
              have H' := Aside0.mk H
              clear H
              have hcz23_0 : wr.cell? ⟨gb504, 0, none⟩ = some (.int .i64 t499) := (blk_cell BK504.out 0).trans rfl
              have hcz23_1 : wr.cell? ⟨gb504, 1, none⟩ = some (.slice Ao13 t500.length co13) := (blk_cell BK504.out 1).trans rfl
              have hfz23_0 := blk_frozen BK504.out 0
              have hfz23_1 := blk_frozen BK504.out 1
              go_wp2_with (first | ((with_reducible refine gate_callee (f := 36) rfl ?_); refine goesL_ (some 43) rfl rfl Tryd.func36 (by kernel_rfl) rfl #[.agg #[.int .i64 t499, .slice Ao13 t500.length co13], .int .i64 x7_1] rfl (by (try simp only [List.map_toArray, List.map_cons, List.map_nil]); first | done | rfl | (simp only [List.length_drop, List.length_take]; rfl)) ?_; (with_reducible refine (impl_LinesAt.calls k1 t499 _ _ t500 x7_1 t514 _ ?side1 ?side2 A22.out).mono ?_); (case side1 => repeat (first | exact (Kd.R_reads' HO_505001.out).2.2 | (with_reducible refine Kd.C_alloc ?_ _) | (with_reducible refine Kd.C_drewN ?_ _) | (with_reducible refine Kd.C_drew ?_))); (case side2 => exact (Kd.R_reads' HO_505001.out).2.1); rintro e w24 ⟨v515, rfl, ho0, hb⟩; refine ⟨_, rfl, ?_⟩; have n0_ := Aside0.mk (Kd.R_elder' (by (with_reducible repeat (first | apply Kd.R_alloc | apply Kd.R_drewN | apply Kd.R_drew)); exact HO_5.out) (Kd.R_base ho0) hb); have n1_ := Aside0.mk (Kd.R_below (by (with_reducible repeat (first | apply Kd.R_alloc | apply Kd.R_drewN | apply Kd.R_drew)); exact HO_505001.out) hb); have n2_ := Aside0.mk (Kd.R_lower (Kd.R_new' ho0 (Kd.R_lt (by (with_reducible repeat (first | apply Kd.R_alloc | apply Kd.R_drewN | apply Kd.R_drew)); exact HO_5.out))) (below_size (by repeat (first | (with_reducible first | exact HB.out | apply below_alloc | apply pw_below_drewN | apply below_drew1 | refine below_set ?_ GE504.out) | exact HB.out)))); have n3_ := Aside0.mk (blk_below (g := gb504) (o := .cells #[.int .i64 t499, .slice Ao13 t500.length co13] 25 (0, 0)) (by (with_reducible repeat (first | refine blk_drewN ?_ _ | refine blk_drew ?_ | refine blk_alloc ?_ _)); exact BK504.out) hb); have n4_ := Aside0.mk (below_step (by repeat (first | (with_reducible first | exact HB.out | apply below_alloc | apply pw_below_drewN | apply below_drew1 | refine below_set ?_ GE504.out) | exact HB.out)) hb); clear HO_5; clear HO_505001; clear BK504; clear HB; have HO_5 := n0_; have HO_505001 := n1_; have HO516 := n2_; have BK504 := n3_; have HB := n4_; clear n0_ n1_ n2_ n3_ n4_; (try clear hb); (try clear hb2); (try clear hk); (try clear hi); (try clear ho0); obtain ⟨Ao25, co25, eo25⟩ := Kd.R_slice HO516.out; subst eo25))
              go_roundg k1
              case measure => have := HK1.out; omega
              case rel => exact ⟨(wrap64 (x6_1 + (t514.length : Int))), (wrap64 (x7_1 + 1)), (by first | rfl | (simp; done) | (simp [*]; done)), (by first | rfl | (simp; done) | (simp [*]; done)), H', ⟨by have := HK1.out; omega⟩, ⟨by (with_reducible repeat (first | apply Kd.R_alloc | apply Kd.R_drewN | apply Kd.R_drew)); exact Kd.R_mono HO_5.out (fun _ hk => trivial)⟩, ⟨by (with_reducible repeat (first | apply Kd.R_alloc | apply Kd.R_drewN | apply Kd.R_drew)); exact HO_505001.out⟩, ⟨by (with_reducible repeat (first | refine blk_drewN ?_ _ | refine blk_drew ?_ | refine blk_alloc ?_ _)); exact BK504.out⟩, ⟨by repeat (first | (with_reducible first | exact HB.out | apply below_alloc | apply pw_below_drewN | apply below_drew1 | refine below_set ?_ GE504.out) | exact HB.out)⟩⟩
            · rw [if_neg c21] at H
              have c21b0 : decide (x7_1 < t499) = false := decide_eq_false c21
              clear c21
              by_cases c26 : x6_1 = (wrap64 (2 * (t500.length : Int)))
              · rw [if_pos c26] at H
                have c26b0 : (x6_1 == (wrap64 (2 * (t500.length : Int)))) = true := beq_iff_eq.mpr c26
                have c26b1 : (x6_1 != (wrap64 (2 * (t500.length : Int)))) = false := bne_eq_false_iff_eq.mpr c26
                clear c26
                replace H := Option.bind_eq_some_iff.mp H
                obtain ⟨t517, A270, H⟩ := H
                replace H : (some t517) = some r := H
                have A27 := Aside0.mk A270
                clear A270
                obtain rfl := Option.some.inj H
                have hcz28_0 : wr.cell? ⟨gb504, 0, none⟩ = some (.int .i64 t499) := (blk_cell BK504.out 0).trans rfl
                have hcz28_1 : wr.cell? ⟨gb504, 1, none⟩ = some (.slice Ao13 t500.length co13) := (blk_cell BK504.out 1).trans rfl
                have hfz28_0 := blk_frozen BK504.out 0
                have hfz28_1 := blk_frozen BK504.out 1
                go_wp2_with (first | (go_at_call 40; (with_reducible refine (laws_ascend.calls k1 _ _ t505 t517 _ ?side1 ?side2 A27.out).mono ?_); (case side1 => repeat (first | exact (Kd.R_reads' HO_5.out).2.2 | (with_reducible refine Kd.C_alloc ?_ _) | (with_reducible refine Kd.C_drewN ?_ _) | (with_reducible refine Kd.C_drew ?_))); (case side2 => exact (Kd.R_reads' HO_5.out).2.1); rintro e w' ⟨rfl, ⟨nd, rfl⟩⟩))
                go_ret
                exact ⟨by first | rfl | (simp [errW_none, errW_some] <;> rfl) | (simp [*, errW_none, errW_some] <;> rfl), by repeat (first | (with_reducible first | exact HB.out | apply below_alloc | apply pw_below_drewN | apply below_drew1 | refine below_set ?_ GE504.out) | exact HB.out)⟩
              · rw [if_neg c26] at H
                exact absurd H (by simp)
      · replace c9 := Bool.eq_false_iff.mpr c9
        subst c9
        have H1 : (if (t505.length : Int) = 0 then ((laws_alive.f k).bind fun t513 => (some t513)) else (none)) = some r := by rw [if_neg (show ¬ (false = true) by decide)] at H; exact H
        clear H
        have H := H1
        clear H1
        by_cases c29 : (t505.length : Int) = 0
        · rw [if_pos c29] at H
          have c29b0 : ((t505.length : Int) == 0) = true := beq_iff_eq.mpr c29
          have c29b1 : ((t505.length : Int) != 0) = false := bne_eq_false_iff_eq.mpr c29
          clear c29
          replace H := Option.bind_eq_some_iff.mp H
          obtain ⟨t513, A300, H⟩ := H
          replace H : (some t513) = some r := H
          have A30 := Aside0.mk A300
          clear A300
          obtain rfl := Option.some.inj H
          go_enter Tryd.func9, Tryd.ntmps9
          go_wp2_with (first | ((with_reducible refine gate_callee (f := 37) rfl ?_); refine goesL_ (some 13) rfl rfl Tryd.func37 (by kernel_rfl) rfl #[.slice A0 l0.length c0] rfl (by (try simp only [List.map_toArray, List.map_cons, List.map_nil]); first | done | rfl | (simp only [List.length_drop, List.length_take]; rfl)) ?_; (with_reducible refine (spec_DrawLinesAt.calls k _ _ l0 t499 t500 t503 _ ?side1 ?side2 A3.out).mono ?_); (case side1 => repeat (first | exact HR0.out | (with_reducible refine Kd.C_alloc ?_ _) | (with_reducible refine Kd.C_drewN ?_ _) | (with_reducible refine Kd.C_drew ?_))); (case side2 => exact HC0.out); rintro e w31 ⟨v501, rfl, ho0, hb⟩; refine ⟨_, rfl, ?_⟩; have n0_ := Aside0.mk (Kd.R_lower ho0 (below_size (by repeat (first | (with_reducible first | exact HB.out | apply below_alloc | apply pw_below_drewN | apply below_drew1) | exact HB.out)))); have n1_ := Aside0.mk (below_step (by repeat (first | (with_reducible first | exact HB.out | apply below_alloc | apply pw_below_drewN | apply below_drew1) | exact HB.out)) hb); clear HB; have HO502 := n0_; have HB := n1_; clear n0_ n1_; (try clear hb); (try clear hb2); (try clear hk); (try clear hi); (try clear ho0)) | ((with_reducible refine gate_dst (N := 3) rfl ?_); refine box_event ?hg (N := 3) ?hd (cs := #[.int .i64 0, .slice none 0 0]) (t := 25) ?hr ?_; (case hd => rfl); (case hg => rfl); (case hr => first | (go_simp; done) | (go_simp; rfl)); intro gb504 hg w32 hbox hb; have n0_ := Aside0.mk (Kd.R_below (by (with_reducible repeat (first | apply Kd.R_alloc | apply Kd.R_drewN | apply Kd.R_drew)); exact HO502.out) hb); have n1_ := Aside0.mk (below_step (by repeat (first | (with_reducible first | exact HB.out | apply below_alloc | apply pw_below_drewN | apply below_drew1) | exact HB.out)) hb); have n2_ := Aside0.mk (hbox); have n3_ := Aside0.mk ((by rw [hg]; exact (below_size (by repeat (first | (with_reducible first | exact HB.out | apply below_alloc | apply pw_below_drewN | apply below_drew1) | exact HB.out))) : w.heap.size ≤ gb504)); have n4_ := Aside0.mk ((by rw [hg]; exact (below_size (by repeat (first | (with_reducible first | exact HB.out | apply below_alloc | apply pw_below_drewN | apply below_drew1) | exact HB.out))) : w.heap.size ≤ gb504)); clear HO502; clear HB; have HO502 := n0_; have HB := n1_; have BK504 := n2_; have GW504 := n3_; have GE504 := n4_; clear n0_ n1_ n2_ n3_ n4_; clear hb hbox hg; have hcz33_0 : w32.cell? ⟨gb504, 0, none⟩ = some (.int .i64 0) := (blk_cell BK504.out 0).trans rfl; have hcz33_1 : w32.cell? ⟨gb504, 1, none⟩ = some (.slice none 0 0) := (blk_cell BK504.out 1).trans rfl; have hfz33_0 := blk_frozen BK504.out 0; have hfz33_1 := blk_frozen BK504.out 1; obtain ⟨Ao34, co34, eo34⟩ := Kd.R_slice HO502.out; subst eo34) | ((with_reducible refine gate_callee (f := 36) rfl ?_); refine goesL_ (some 18) rfl rfl Tryd.func36 (by kernel_rfl) rfl #[.agg #[.int .i64 t499, .slice Ao34 t500.length co34], .int .i64 t503] rfl (by (try simp only [List.map_toArray, List.map_cons, List.map_nil]); first | done | rfl | (simp only [List.length_drop, List.length_take]; rfl)) ?_; (with_reducible refine (impl_LinesAt.calls k t499 _ _ t500 t503 t505 _ ?side1 ?side2 A4.out).mono ?_); (case side1 => refine (Kd.R_reads' (e := 30) (base := w.heap.size) (ok := fun k_ => True) (n := t500.length) (c := co34) ?_).2.2; exact (by (with_reducible repeat (first | apply Kd.R_alloc | apply Kd.R_drewN | apply Kd.R_drew)); exact (Kd.R_mono (Kd.R_far (p := ⟨gb504, 1, none⟩) (Kd.R_far (p := ⟨gb504, 0, none⟩) (Kd.R_types HO502.out BK504.out (by decide)) (fun _ hk => hk.2) (.int .i64 t499)) (fun _ hk => hk.2) (.slice Ao34 t500.length co34)) (fun _ h_ => h_.1)))); (case side2 => exact (Kd.R_reads' HO502.out).2.1); rintro e w35 ⟨v506, rfl, ho0, hb⟩; refine ⟨_, rfl, ?_⟩; have n0_ := Aside0.mk (Kd.R_below (by (with_reducible repeat (first | apply Kd.R_alloc | apply Kd.R_drewN | apply Kd.R_drew)); exact (Kd.R_mono (Kd.R_far (p := ⟨gb504, 1, none⟩) (Kd.R_far (p := ⟨gb504, 0, none⟩) (Kd.R_types HO502.out BK504.out (by decide)) (fun _ hk => hk.2) (.int .i64 t499)) (fun _ hk => hk.2) (.slice Ao34 t500.length co34)) (fun _ h_ => h_.1))) hb); have n1_ := Aside0.mk (Kd.R_lower ho0 (below_size (by repeat (first | (with_reducible first | exact HB.out | apply below_alloc | apply pw_below_drewN | apply below_drew1 | refine below_set ?_ GE504.out) | exact HB.out)))); have n2_ := Aside0.mk (blk_below (g := gb504) (o := .cells #[.int .i64 t499, .slice Ao34 t500.length co34] 25 (0, 0)) (by (with_reducible repeat (first | refine blk_drewN ?_ _ | refine blk_drew ?_ | refine blk_alloc ?_ _)); refine blk_put (cs := #[.int .i64 t499, .slice none 0 0]) ?_ 1 _ rfl; (with_reducible repeat (first | refine blk_drewN ?_ _ | refine blk_drew ?_ | refine blk_alloc ?_ _)); refine blk_put (cs := #[.int .i64 0, .slice none 0 0]) ?_ 0 _ rfl; (with_reducible repeat (first | refine blk_drewN ?_ _ | refine blk_drew ?_ | refine blk_alloc ?_ _)); exact BK504.out) hb); have n3_ := Aside0.mk (below_step (by repeat (first | (with_reducible first | exact HB.out | apply below_alloc | apply pw_below_drewN | apply below_drew1 | refine below_set ?_ GE504.out) | exact HB.out)) hb); clear HO502; clear BK504; clear HB; have HO502 := n0_; have HO507 := n1_; have BK504 := n2_; have HB := n3_; clear n0_ n1_ n2_ n3_; (try clear hb); (try clear hb2); (try clear hk); (try clear hi); (try clear ho0); have hcz36_0 : w35.cell? ⟨gb504, 0, none⟩ = some (.int .i64 t499) := (blk_cell BK504.out 0).trans rfl; have hcz36_1 : w35.cell? ⟨gb504, 1, none⟩ = some (.slice Ao34 t500.length co34) := (blk_cell BK504.out 1).trans rfl; have hfz36_0 := blk_frozen BK504.out 0; have hfz36_1 := blk_frozen BK504.out 1) | ((with_reducible refine gate_callee (f := 39) rfl ?_); refine goesL_ (some 22) rfl rfl Tryd.func39 (by kernel_rfl) rfl #[.agg #[.int .i64 t499, .slice Ao34 t500.length co34], .int .i64 t503] rfl (by (try simp only [List.map_toArray, List.map_cons, List.map_nil]); first | done | rfl | (simp only [List.length_drop, List.length_take]; rfl)) ?_; (with_reducible refine (spec_LinesAt.calls k t499 _ _ t500 t503 t508 _ ?side1 ?side2 A5.out).mono ?_); (case side1 => repeat (first | exact (Kd.R_reads' HO502.out).2.2 | (with_reducible refine Kd.C_alloc ?_ _) | (with_reducible refine Kd.C_drewN ?_ _) | (with_reducible refine Kd.C_drew ?_))); (case side2 => exact (Kd.R_reads' HO502.out).2.1); rintro e w37 ⟨v509, rfl, ho0, hb⟩; refine ⟨_, rfl, ?_⟩; have n0_ := Aside0.mk (Kd.R_below (by (with_reducible repeat (first | apply Kd.R_alloc | apply Kd.R_drewN | apply Kd.R_drew)); exact HO502.out) hb); have n1_ := Aside0.mk (Kd.R_elder' (by (with_reducible repeat (first | apply Kd.R_alloc | apply Kd.R_drewN | apply Kd.R_drew)); exact HO507.out) (Kd.R_base ho0) hb); have n2_ := Aside0.mk (Kd.R_lower (Kd.R_new' ho0 (Kd.R_lt (by (with_reducible repeat (first | apply Kd.R_alloc | apply Kd.R_drewN | apply Kd.R_drew)); exact HO507.out))) (below_size (by repeat (first | (with_reducible first | exact HB.out | apply below_alloc | apply pw_below_drewN | apply below_drew1 | refine below_set ?_ GE504.out) | exact HB.out)))); have n3_ := Aside0.mk (blk_below (g := gb504) (o := .cells #[.int .i64 t499, .slice Ao34 t500.length co34] 25 (0, 0)) (by (with_reducible repeat (first | refine blk_drewN ?_ _ | refine blk_drew ?_ | refine blk_alloc ?_ _)); exact BK504.out) hb); have n4_ := Aside0.mk (below_step (by repeat (first | (with_reducible first | exact HB.out | apply below_alloc | apply pw_below_drewN | apply below_drew1 | refine below_set ?_ GE504.out) | exact HB.out)) hb); clear HO502; clear HO507; clear BK504; clear HB; have HO502 := n0_; have HO507 := n1_; have HO510 := n2_; have BK504 := n3_; have HB := n4_; clear n0_ n1_ n2_ n3_ n4_; (try clear hb); (try clear hb2); (try clear hk); (try clear hi); (try clear ho0); obtain ⟨Ao38, co38, eo38⟩ := Kd.R_slice HO507.out; subst eo38; obtain ⟨Ao39, co39, eo39⟩ := Kd.R_slice HO510.out; subst eo39) | ((with_reducible refine gate_callee (f := 38) rfl ?_); refine goesL_ (some 23) rfl rfl Tryd.func38 (by kernel_rfl) rfl #[.slice Ao38 t505.length co38, .slice Ao39 t508.length co39] rfl (by (try simp only [List.map_toArray, List.map_cons, List.map_nil]); first | done | rfl | (simp only [List.length_drop, List.length_take]; rfl)) ?_; (with_reducible refine (laws_sameInts.calls k _ _ t505 _ _ t508 true _ ?side1 ?side2 ?side3 ?side4 A6.out).mono ?_); (case side1 => repeat (first | exact (Kd.R_reads' HO507.out).2.2 | (with_reducible refine Kd.C_alloc ?_ _) | (with_reducible refine Kd.C_drewN ?_ _) | (with_reducible refine Kd.C_drew ?_))); (case side2 => exact (Kd.R_reads' HO507.out).2.1); (case side3 => repeat (first | exact (Kd.R_reads' HO510.out).2.2 | (with_reducible refine Kd.C_alloc ?_ _) | (with_reducible refine Kd.C_drewN ?_ _) | (with_reducible refine Kd.C_drew ?_))); (case side4 => exact (Kd.R_reads' HO510.out).2.1); rintro e w' ⟨rfl, ⟨nd, rfl⟩⟩; refine ⟨_, rfl, ?_⟩; have hcz40_0 : w37.cell? ⟨gb504, 0, none⟩ = some (.int .i64 t499) := (blk_cell BK504.out 0).trans rfl; have hcz40_1 : w37.cell? ⟨gb504, 1, none⟩ = some (.slice Ao34 t500.length co34) := (blk_cell BK504.out 1).trans rfl; have hfz40_0 := blk_frozen BK504.out 0; have hfz40_1 := blk_frozen BK504.out 1) | ((with_reducible refine gate_callee (f := 14) rfl ?_); refine goesL_ (some 26) rfl rfl Tryd.func14 (by kernel_rfl) rfl #[.agg #[.int .i64 t499, .slice Ao34 t500.length co34]] rfl (by (try simp only [List.map_toArray, List.map_cons, List.map_nil]); first | done | rfl | (simp only [List.length_drop, List.length_take]; rfl)) ?_; (with_reducible refine (spec_NetValid.calls k t499 _ _ t500 false _ ?side1 ?side2 A8.out).mono ?_); (case side1 => repeat (first | exact (Kd.R_reads' HO502.out).2.2 | (with_reducible refine Kd.C_alloc ?_ _) | (with_reducible refine Kd.C_drewN ?_ _) | (with_reducible refine Kd.C_drew ?_))); (case side2 => exact (Kd.R_reads' HO502.out).2.1); rintro e w41 ⟨rfl, hb⟩; refine ⟨_, rfl, ?_⟩; have n0_ := Aside0.mk (Kd.R_below (by (with_reducible repeat (first | apply Kd.R_alloc | apply Kd.R_drewN | apply Kd.R_drew)); exact HO502.out) hb); have n1_ := Aside0.mk (Kd.R_below (by (with_reducible repeat (first | apply Kd.R_alloc | apply Kd.R_drewN | apply Kd.R_drew)); exact HO507.out) hb); have n2_ := Aside0.mk (Kd.R_below (by (with_reducible repeat (first | apply Kd.R_alloc | apply Kd.R_drewN | apply Kd.R_drew)); exact HO510.out) hb); have n3_ := Aside0.mk (blk_below (g := gb504) (o := .cells #[.int .i64 t499, .slice Ao34 t500.length co34] 25 (0, 0)) (by (with_reducible repeat (first | refine blk_drewN ?_ _ | refine blk_drew ?_ | refine blk_alloc ?_ _)); exact BK504.out) hb); have n4_ := Aside0.mk (below_step (by repeat (first | (with_reducible first | exact HB.out | apply below_alloc | apply pw_below_drewN | apply below_drew1 | refine below_set ?_ GE504.out) | exact HB.out)) hb); clear HO502; clear HO507; clear HO510; clear BK504; clear HB; have HO502 := n0_; have HO507 := n1_; have HO510 := n2_; have BK504 := n3_; have HB := n4_; clear n0_ n1_ n2_ n3_ n4_; (try clear hb); (try clear hb2); (try clear hk); (try clear hi)) | (go_at_call 15; (with_reducible refine (laws_alive.calls k  t513 _ A30.out).mono ?_); rintro e w42 ⟨rfl, hb⟩; have n0_ := Aside0.mk (Kd.R_below (by (with_reducible repeat (first | apply Kd.R_alloc | apply Kd.R_drewN | apply Kd.R_drew)); exact HO502.out) hb); have n1_ := Aside0.mk (Kd.R_below (by (with_reducible repeat (first | apply Kd.R_alloc | apply Kd.R_drewN | apply Kd.R_drew)); exact HO507.out) hb); have n2_ := Aside0.mk (Kd.R_below (by (with_reducible repeat (first | apply Kd.R_alloc | apply Kd.R_drewN | apply Kd.R_drew)); exact HO510.out) hb); have n3_ := Aside0.mk (blk_below (g := gb504) (o := .cells #[.int .i64 t499, .slice Ao34 t500.length co34] 25 (0, 0)) (by (with_reducible repeat (first | refine blk_drewN ?_ _ | refine blk_drew ?_ | refine blk_alloc ?_ _)); exact BK504.out) hb); have n4_ := Aside0.mk (below_step (by repeat (first | (with_reducible first | exact HB.out | apply below_alloc | apply pw_below_drewN | apply below_drew1 | refine below_set ?_ GE504.out) | exact HB.out)) hb); clear HO502; clear HO507; clear HO510; clear BK504; clear HB; have HO502 := n0_; have HO507 := n1_; have HO510 := n2_; have BK504 := n3_; have HB := n4_; clear n0_ n1_ n2_ n3_ n4_; (try clear hb); (try clear hb2); (try clear hk); (try clear hi)))
          go_ret
          exact ⟨by first | rfl | (simp [errW_none, errW_some] <;> rfl) | (simp [*, errW_none, errW_some] <;> rfl), by repeat (first | (with_reducible first | exact HB.out | apply below_alloc | apply pw_below_drewN | apply below_drew1 | refine below_set ?_ GE504.out) | exact HB.out)⟩
        · rw [if_neg c29] at H
          exact absurd H (by simp)
    · replace c7 := Bool.eq_false_iff.mpr c7
      subst c7
      have H1 : (none) = some r := by rw [if_neg (show ¬ (false = true) by decide)] at H; exact H
      clear H
      have H := H1
      clear H1
      exact absurd H (by simp)

end Go.Proofs.YtlahlfjhfmldaaaDoor.P

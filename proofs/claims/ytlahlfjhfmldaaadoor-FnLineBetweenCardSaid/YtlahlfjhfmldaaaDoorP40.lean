/- Contracts of Go functions of this seat's translation, written by this repo's wip/mk.py: it calls the kit's print.py with contracts typed by hand in place of functions that it does not take. Not trusted: Lean checks it. -/
import Derived.Test.YtlahlfjhfmldaaaDoorP0
import Derived.Test.YtlahlfjhfmldaaaDoorP13
import Derived.Test.YtlahlfjhfmldaaaDoorP14
import Derived.Test.YtlahlfjhfmldaaaDoorP37
import Derived.Test.YtlahlfjhfmldaaaDoorP38
import Derived.Test.YtlahlfjhfmldaaaDoorP39
namespace Go.Proofs.YtlahlfjhfmldaaaDoor.P
open Go.RowKit Go.Proofs.YtlahlfjhfmldaaaDoorW.PrintWords Go.Proofs.YtlahlfjhfmldaaaDoorW.PrintLast Go.Proofs.YtlahlfjhfmldaaaDoorW.PrintMore
attribute [local go_sem] max2_int min2_int max_two min_two max_three min_three max_four min_four   -- for this text's walks alone
set_option linter.unusedVariables false
set_option linter.unusedSimpArgs false

/-! ### laws_FnLineBetween: function 7 -/
def laws_FnLineBetween.l0 : Nat → Int → Int → Int → Int → Int → List (S30) → Option (Bool)
  | 0, _, _, _, _, _, _ => none
  | k + 1, x4, x5, x6, x7, x404000, x404001 => if x7 < x6 then ((impl_OtherEnd.f k x404000 x404001 x7 x4).bind fun t408 => (if t408 = x5 then (none) else (laws_FnLineBetween.l0 k x4 x5 x6 (wrap64 (x7 + 1)) x404000 x404001))) else ((impl_LineBetween.f k x404000 x404001 x5 x4).bind fun t409 => (if t409 = x6 then ((impl_OtherEnd.f k x404000 x404001 x6 x4).bind fun t410 => (some (t410 == x5))) else (none)))
def laws_FnLineBetween.f (k : Nat) (l0 : List Int) : Option (Bool) := if (l0.length : Int) > 1048576 then (some true) else ((spec_DrawLineBetween.f k l0).bind fun bt397 => ((impl_LineBetween.f k bt397.1 bt397.2.1 bt397.2.2.1 bt397.2.2.2).bind fun t404 => ((spec_LineBetween.f k bt397.1 bt397.2.1 bt397.2.2.1 bt397.2.2.2).bind fun t405 => (if t404 = t405 then (if t404 < 0 then (if t404 = (-1) then ((impl_LineBetween.f k bt397.1 bt397.2.1 bt397.2.2.2 bt397.2.2.1).bind fun t406 => (if t406 = (-1) then ((laws_alive.f k).bind fun t407 => (some t407)) else (none))) else (none)) else (laws_FnLineBetween.l0 k bt397.2.2.1 bt397.2.2.2 t404 0 bt397.1 bt397.2.1)) else (none)))))
theorem laws_FnLineBetween.mono_l : ∀ k, (∀ y0 y1 y2 y3 y4 y5, LeO (laws_FnLineBetween.l0 k y0 y1 y2 y3 y4 y5) (laws_FnLineBetween.l0 (k + 1) y0 y1 y2 y3 y4 y5))
  | 0 => fun _ _ _ _ _ _ r h => by simp [laws_FnLineBetween.l0] at h
  | k + 1 => by
    have ih0 := laws_FnLineBetween.mono_l k
    · intro y0 y1 y2 y3 y4 y5
      unfold laws_FnLineBetween.l0
      repeat' first
      | (with_reducible exact ih0 _ _ _ _ _ _)
      | (with_reducible exact impl_LineBetween.mono _ _ _ _ _)
      | (with_reducible exact impl_OtherEnd.mono _ _ _ _ _)
      | (with_reducible exact laws_alive.mono _)
      | (with_reducible exact spec_DrawLineBetween.mono _ _)
      | (with_reducible exact spec_LineBetween.mono _ _ _ _ _)
      | (with_reducible exact LeO.refl _)
      | (with_reducible exact LeO.none _)
      | (with_reducible refine LeO.ite ?_ ?_)
      | (with_reducible refine LeO.bind ?_ (fun _ => ?_))
      | exact ih0 _ _ _ _ _ _
      | exact impl_LineBetween.mono _ _ _ _ _
      | exact impl_OtherEnd.mono _ _ _ _ _
      | exact laws_alive.mono _
      | exact spec_DrawLineBetween.mono _ _
      | exact spec_LineBetween.mono _ _ _ _ _
      | exact LeO.none _
      | refine LeO.ite ?_ ?_
      | refine LeO.bind ?_ (fun _ => ?_)
theorem laws_FnLineBetween.mono : ∀ a0 k, LeO (laws_FnLineBetween.f k a0) (laws_FnLineBetween.f (k + 1) a0) := by
  intro a0 k
  have ih0 := laws_FnLineBetween.mono_l k
  unfold laws_FnLineBetween.f
  repeat' first
      | (with_reducible exact ih0 _ _ _ _ _ _)
      | (with_reducible exact impl_LineBetween.mono _ _ _ _ _)
      | (with_reducible exact impl_OtherEnd.mono _ _ _ _ _)
      | (with_reducible exact laws_alive.mono _)
      | (with_reducible exact spec_DrawLineBetween.mono _ _)
      | (with_reducible exact spec_LineBetween.mono _ _ _ _ _)
      | (with_reducible exact LeO.refl _)
      | (with_reducible exact LeO.none _)
      | (with_reducible refine LeO.ite ?_ ?_)
      | (with_reducible refine LeO.bind ?_ (fun _ => ?_))
      | exact ih0 _ _ _ _ _ _
      | exact impl_LineBetween.mono _ _ _ _ _
      | exact impl_OtherEnd.mono _ _ _ _ _
      | exact laws_alive.mono _
      | exact spec_DrawLineBetween.mono _ _
      | exact spec_LineBetween.mono _ _ _ _ _
      | exact LeO.none _
      | refine LeO.ite ?_ ?_
      | refine LeO.bind ?_ (fun _ => ?_)
set_option maxHeartbeats 8000000 in
set_option maxRecDepth 100000 in
theorem laws_FnLineBetween.calls (k : Nat) (A0 : Option Addr) (c0 : Nat) (l0 : List Int) (r : Bool) (w : World) (hr0 : Kd.C (Kd.int .u8) w A0 l0.length l0) (hc0 : l0.length ≤ c0) (h : laws_FnLineBetween.f k l0 = some r) :
    Calls Tryd.prog 7 #[.slice A0 l0.length c0] w fun e w' => e = .returned (.bool r) ∧ Below w.heap.size w w' := by
  have hu25 := Tryd.underlying25
  have HR0 := Aside0.mk hr0
  have HC0 := Aside0.mk hc0
  clear hr0 hc0
  have HB := Aside0.mk (Below.refl w.heap.size w)
  have H : (if (l0.length : Int) > 1048576 then (some true) else ((spec_DrawLineBetween.f k l0).bind fun bt397 => ((impl_LineBetween.f k bt397.1 bt397.2.1 bt397.2.2.1 bt397.2.2.2).bind fun t404 => ((spec_LineBetween.f k bt397.1 bt397.2.1 bt397.2.2.1 bt397.2.2.2).bind fun t405 => (if t404 = t405 then (if t404 < 0 then (if t404 = (-1) then ((impl_LineBetween.f k bt397.1 bt397.2.1 bt397.2.2.2 bt397.2.2.1).bind fun t406 => (if t406 = (-1) then ((laws_alive.f k).bind fun t407 => (some t407)) else (none))) else (none)) else (laws_FnLineBetween.l0 k bt397.2.2.1 bt397.2.2.2 t404 0 bt397.1 bt397.2.1)) else (none)))))) = some r := h
  clear h
  by_cases c2 : (l0.length : Int) > 1048576
  · rw [if_pos c2] at H
    have c2b0 : decide (1048576 < (l0.length : Int)) = true := decide_eq_true c2
    have c2b1 : decide (1048576 < l0.length) = true := decide_eq_true (by omega)
    clear c2
    obtain rfl := Option.some.inj H
    go_enter Tryd.func7, Tryd.ntmps7
    go_wp2
    go_ret
    exact ⟨by first | rfl | (simp [errW_none, errW_some] <;> rfl) | (simp [*, errW_none, errW_some] <;> rfl), by repeat (first | (with_reducible first | exact HB.out | apply below_alloc | apply pw_below_drewN | apply below_drew1) | exact HB.out)⟩
  · rw [if_neg c2] at H
    have c2b0 : decide (1048576 < (l0.length : Int)) = false := decide_eq_false c2
    have c2b1 : decide (1048576 < l0.length) = false := decide_eq_false (by omega)
    clear c2
    replace H := Option.bind_eq_some_iff.mp H
    obtain ⟨⟨t397, t398, t401, t402⟩, A30, H⟩ := H
    replace H : ((impl_LineBetween.f k t397 t398 t401 t402).bind fun t404 => ((spec_LineBetween.f k t397 t398 t401 t402).bind fun t405 => (if t404 = t405 then (if t404 < 0 then (if t404 = (-1) then ((impl_LineBetween.f k t397 t398 t402 t401).bind fun t406 => (if t406 = (-1) then ((laws_alive.f k).bind fun t407 => (some t407)) else (none))) else (none)) else (laws_FnLineBetween.l0 k t401 t402 t404 0 t397 t398)) else (none)))) = some r := H
    have A3 := Aside0.mk A30
    clear A30
    replace H := Option.bind_eq_some_iff.mp H
    obtain ⟨t404, A40, H⟩ := H
    replace H : ((spec_LineBetween.f k t397 t398 t401 t402).bind fun t405 => (if t404 = t405 then (if t404 < 0 then (if t404 = (-1) then ((impl_LineBetween.f k t397 t398 t402 t401).bind fun t406 => (if t406 = (-1) then ((laws_alive.f k).bind fun t407 => (some t407)) else (none))) else (none)) else (laws_FnLineBetween.l0 k t401 t402 t404 0 t397 t398)) else (none))) = some r := H
    have A4 := Aside0.mk A40
    clear A40
    replace H := Option.bind_eq_some_iff.mp H
    obtain ⟨t405, A50, H⟩ := H
    replace H : (if t404 = t405 then (if t404 < 0 then (if t404 = (-1) then ((impl_LineBetween.f k t397 t398 t402 t401).bind fun t406 => (if t406 = (-1) then ((laws_alive.f k).bind fun t407 => (some t407)) else (none))) else (none)) else (laws_FnLineBetween.l0 k t401 t402 t404 0 t397 t398)) else (none)) = some r := H
    have A5 := Aside0.mk A50
    clear A50
    by_cases c6 : t404 = t405
    · rw [if_pos c6] at H
      have c6b0 : (t404 == t405) = true := beq_iff_eq.mpr c6
      have c6b1 : (t404 != t405) = false := bne_eq_false_iff_eq.mpr c6
      clear c6
      by_cases c7 : t404 < 0
      · rw [if_pos c7] at H
        have c7b0 : decide (t404 < 0) = true := decide_eq_true c7
        clear c7
        by_cases c8 : t404 = (-1)
        · rw [if_pos c8] at H
          have c8b0 : (t404 == (-1)) = true := beq_iff_eq.mpr c8
          have c8b1 : (t404 != (-1)) = false := bne_eq_false_iff_eq.mpr c8
          clear c8
          replace H := Option.bind_eq_some_iff.mp H
          obtain ⟨t406, A90, H⟩ := H
          replace H : (if t406 = (-1) then ((laws_alive.f k).bind fun t407 => (some t407)) else (none)) = some r := H
          have A9 := Aside0.mk A90
          clear A90
          by_cases c10 : t406 = (-1)
          · rw [if_pos c10] at H
            have c10b0 : (t406 == (-1)) = true := beq_iff_eq.mpr c10
            have c10b1 : (t406 != (-1)) = false := bne_eq_false_iff_eq.mpr c10
            clear c10
            replace H := Option.bind_eq_some_iff.mp H
            obtain ⟨t407, A110, H⟩ := H
            replace H : (some t407) = some r := H
            have A11 := Aside0.mk A110
            clear A110
            obtain rfl := Option.some.inj H
            go_enter Tryd.func7, Tryd.ntmps7
            go_wp2_with (first | ((with_reducible refine gate_callee (f := 29) rfl ?_); refine goesL_ (some 13) rfl rfl Tryd.func29 (by kernel_rfl) rfl #[.slice A0 l0.length c0] rfl (by (try simp only [List.map_toArray, List.map_cons, List.map_nil]); first | done | rfl | (simp only [List.length_drop, List.length_take]; rfl)) ?_; (with_reducible refine (spec_DrawLineBetween.calls k _ _ l0 t397 t398 t401 t402 _ ?side1 ?side2 A3.out).mono ?_); (case side1 => repeat (first | exact HR0.out | (with_reducible refine Kd.C_alloc ?_ _) | (with_reducible refine Kd.C_drewN ?_ _) | (with_reducible refine Kd.C_drew ?_))); (case side2 => exact HC0.out); rintro e w12 ⟨v399, rfl, ho0, hb⟩; refine ⟨_, rfl, ?_⟩; have n0_ := Aside0.mk (Kd.R_lower ho0 (below_size (by repeat (first | (with_reducible first | exact HB.out | apply below_alloc | apply pw_below_drewN | apply below_drew1) | exact HB.out)))); have n1_ := Aside0.mk (below_step (by repeat (first | (with_reducible first | exact HB.out | apply below_alloc | apply pw_below_drewN | apply below_drew1) | exact HB.out)) hb); clear HB; have HO400 := n0_; have HB := n1_; clear n0_ n1_; (try clear hb); (try clear hb2); (try clear hk); (try clear hi); (try clear ho0)) | ((with_reducible refine gate_dst (N := 3) rfl ?_); refine box_event ?hg (N := 3) ?hd (cs := #[.int .i64 0, .slice none 0 0]) (t := 25) ?hr ?_; (case hd => rfl); (case hg => rfl); (case hr => first | (go_simp; done) | (go_simp; rfl)); intro gb403 hg w13 hbox hb; have n0_ := Aside0.mk (Kd.R_below (by (with_reducible repeat (first | apply Kd.R_alloc | apply Kd.R_drewN | apply Kd.R_drew)); exact HO400.out) hb); have n1_ := Aside0.mk (below_step (by repeat (first | (with_reducible first | exact HB.out | apply below_alloc | apply pw_below_drewN | apply below_drew1) | exact HB.out)) hb); have n2_ := Aside0.mk (hbox); have n3_ := Aside0.mk ((by rw [hg]; exact (below_size (by repeat (first | (with_reducible first | exact HB.out | apply below_alloc | apply pw_below_drewN | apply below_drew1) | exact HB.out))) : w.heap.size ≤ gb403)); have n4_ := Aside0.mk ((by rw [hg]; exact (below_size (by repeat (first | (with_reducible first | exact HB.out | apply below_alloc | apply pw_below_drewN | apply below_drew1) | exact HB.out))) : w.heap.size ≤ gb403)); clear HO400; clear HB; have HO400 := n0_; have HB := n1_; have BK403 := n2_; have GW403 := n3_; have GE403 := n4_; clear n0_ n1_ n2_ n3_ n4_; clear hb hbox hg; have hcz14_0 : w13.cell? ⟨gb403, 0, none⟩ = some (.int .i64 0) := (blk_cell BK403.out 0).trans rfl; have hcz14_1 : w13.cell? ⟨gb403, 1, none⟩ = some (.slice none 0 0) := (blk_cell BK403.out 1).trans rfl; have hfz14_0 := blk_frozen BK403.out 0; have hfz14_1 := blk_frozen BK403.out 1; obtain ⟨Ao15, co15, eo15⟩ := Kd.R_slice HO400.out; subst eo15) | ((with_reducible refine gate_callee (f := 30) rfl ?_); refine goesL_ (some 20) rfl rfl Tryd.func30 (by kernel_rfl) rfl #[.agg #[.int .i64 t397, .slice Ao15 t398.length co15], .int .i64 t401, .int .i64 t402] rfl (by (try simp only [List.map_toArray, List.map_cons, List.map_nil]); first | done | rfl | (simp only [List.length_drop, List.length_take]; rfl)) ?_; (with_reducible refine (impl_LineBetween.calls k t397 _ _ t398 t401 t402 t404 _ ?side1 ?side2 A4.out).mono ?_); (case side1 => refine (Kd.R_reads' (e := 30) (base := w.heap.size) (ok := fun k_ => True) (n := t398.length) (c := co15) ?_).2.2; exact (by (with_reducible repeat (first | apply Kd.R_alloc | apply Kd.R_drewN | apply Kd.R_drew)); exact (Kd.R_mono (Kd.R_far (p := ⟨gb403, 1, none⟩) (Kd.R_far (p := ⟨gb403, 0, none⟩) (Kd.R_types HO400.out BK403.out (by decide)) (fun _ hk => hk.2) (.int .i64 t397)) (fun _ hk => hk.2) (.slice Ao15 t398.length co15)) (fun _ h_ => h_.1)))); (case side2 => exact (Kd.R_reads' HO400.out).2.1); rintro e w16 ⟨rfl, hb⟩; refine ⟨_, rfl, ?_⟩; have n0_ := Aside0.mk (Kd.R_below (by (with_reducible repeat (first | apply Kd.R_alloc | apply Kd.R_drewN | apply Kd.R_drew)); exact (Kd.R_mono (Kd.R_far (p := ⟨gb403, 1, none⟩) (Kd.R_far (p := ⟨gb403, 0, none⟩) (Kd.R_types HO400.out BK403.out (by decide)) (fun _ hk => hk.2) (.int .i64 t397)) (fun _ hk => hk.2) (.slice Ao15 t398.length co15)) (fun _ h_ => h_.1))) hb); have n1_ := Aside0.mk (blk_below (g := gb403) (o := .cells #[.int .i64 t397, .slice Ao15 t398.length co15] 25 (0, 0)) (by (with_reducible repeat (first | refine blk_drewN ?_ _ | refine blk_drew ?_ | refine blk_alloc ?_ _)); refine blk_put (cs := #[.int .i64 t397, .slice none 0 0]) ?_ 1 _ rfl; (with_reducible repeat (first | refine blk_drewN ?_ _ | refine blk_drew ?_ | refine blk_alloc ?_ _)); refine blk_put (cs := #[.int .i64 0, .slice none 0 0]) ?_ 0 _ rfl; (with_reducible repeat (first | refine blk_drewN ?_ _ | refine blk_drew ?_ | refine blk_alloc ?_ _)); exact BK403.out) hb); have n2_ := Aside0.mk (below_step (by repeat (first | (with_reducible first | exact HB.out | apply below_alloc | apply pw_below_drewN | apply below_drew1 | refine below_set ?_ GE403.out) | exact HB.out)) hb); clear HO400; clear BK403; clear HB; have HO400 := n0_; have BK403 := n1_; have HB := n2_; clear n0_ n1_ n2_; (try clear hb); (try clear hb2); (try clear hk); (try clear hi); have hcz17_0 : w16.cell? ⟨gb403, 0, none⟩ = some (.int .i64 t397) := (blk_cell BK403.out 0).trans rfl; have hcz17_1 : w16.cell? ⟨gb403, 1, none⟩ = some (.slice Ao15 t398.length co15) := (blk_cell BK403.out 1).trans rfl; have hfz17_0 := blk_frozen BK403.out 0; have hfz17_1 := blk_frozen BK403.out 1) | ((with_reducible refine gate_callee (f := 31) rfl ?_); refine goesL_ (some 25) rfl rfl Tryd.func31 (by kernel_rfl) rfl #[.agg #[.int .i64 t397, .slice Ao15 t398.length co15], .int .i64 t401, .int .i64 t402] rfl (by (try simp only [List.map_toArray, List.map_cons, List.map_nil]); first | done | rfl | (simp only [List.length_drop, List.length_take]; rfl)) ?_; (with_reducible refine (spec_LineBetween.calls k t397 _ _ t398 t401 t402 t405 _ ?side1 ?side2 A5.out).mono ?_); (case side1 => repeat (first | exact (Kd.R_reads' HO400.out).2.2 | (with_reducible refine Kd.C_alloc ?_ _) | (with_reducible refine Kd.C_drewN ?_ _) | (with_reducible refine Kd.C_drew ?_))); (case side2 => exact (Kd.R_reads' HO400.out).2.1); rintro e w18 ⟨rfl, hb⟩; refine ⟨_, rfl, ?_⟩; have n0_ := Aside0.mk (Kd.R_below (by (with_reducible repeat (first | apply Kd.R_alloc | apply Kd.R_drewN | apply Kd.R_drew)); exact HO400.out) hb); have n1_ := Aside0.mk (blk_below (g := gb403) (o := .cells #[.int .i64 t397, .slice Ao15 t398.length co15] 25 (0, 0)) (by (with_reducible repeat (first | refine blk_drewN ?_ _ | refine blk_drew ?_ | refine blk_alloc ?_ _)); exact BK403.out) hb); have n2_ := Aside0.mk (below_step (by repeat (first | (with_reducible first | exact HB.out | apply below_alloc | apply pw_below_drewN | apply below_drew1 | refine below_set ?_ GE403.out) | exact HB.out)) hb); clear HO400; clear BK403; clear HB; have HO400 := n0_; have BK403 := n1_; have HB := n2_; clear n0_ n1_ n2_; (try clear hb); (try clear hb2); (try clear hk); (try clear hi); have hcz19_0 : w18.cell? ⟨gb403, 0, none⟩ = some (.int .i64 t397) := (blk_cell BK403.out 0).trans rfl; have hcz19_1 : w18.cell? ⟨gb403, 1, none⟩ = some (.slice Ao15 t398.length co15) := (blk_cell BK403.out 1).trans rfl; have hfz19_0 := blk_frozen BK403.out 0; have hfz19_1 := blk_frozen BK403.out 1) | (go_at_call 30; (with_reducible refine (impl_LineBetween.calls k t397 _ _ t398 t402 t401 t406 _ ?side1 ?side2 A9.out).mono ?_); (case side1 => repeat (first | exact (Kd.R_reads' HO400.out).2.2 | (with_reducible refine Kd.C_alloc ?_ _) | (with_reducible refine Kd.C_drewN ?_ _) | (with_reducible refine Kd.C_drew ?_))); (case side2 => exact (Kd.R_reads' HO400.out).2.1); rintro e w20 ⟨rfl, hb⟩; have n0_ := Aside0.mk (Kd.R_below (by (with_reducible repeat (first | apply Kd.R_alloc | apply Kd.R_drewN | apply Kd.R_drew)); exact HO400.out) hb); have n1_ := Aside0.mk (blk_below (g := gb403) (o := .cells #[.int .i64 t397, .slice Ao15 t398.length co15] 25 (0, 0)) (by (with_reducible repeat (first | refine blk_drewN ?_ _ | refine blk_drew ?_ | refine blk_alloc ?_ _)); exact BK403.out) hb); have n2_ := Aside0.mk (below_step (by repeat (first | (with_reducible first | exact HB.out | apply below_alloc | apply pw_below_drewN | apply below_drew1 | refine below_set ?_ GE403.out) | exact HB.out)) hb); clear HO400; clear BK403; clear HB; have HO400 := n0_; have BK403 := n1_; have HB := n2_; clear n0_ n1_ n2_; (try clear hb); (try clear hb2); (try clear hk); (try clear hi)) | (go_at_call 15; (with_reducible refine (laws_alive.calls k  t407 _ A11.out).mono ?_); rintro e w21 ⟨rfl, hb⟩; have n0_ := Aside0.mk (Kd.R_below (by (with_reducible repeat (first | apply Kd.R_alloc | apply Kd.R_drewN | apply Kd.R_drew)); exact HO400.out) hb); have n1_ := Aside0.mk (blk_below (g := gb403) (o := .cells #[.int .i64 t397, .slice Ao15 t398.length co15] 25 (0, 0)) (by (with_reducible repeat (first | refine blk_drewN ?_ _ | refine blk_drew ?_ | refine blk_alloc ?_ _)); exact BK403.out) hb); have n2_ := Aside0.mk (below_step (by repeat (first | (with_reducible first | exact HB.out | apply below_alloc | apply pw_below_drewN | apply below_drew1 | refine below_set ?_ GE403.out) | exact HB.out)) hb); clear HO400; clear BK403; clear HB; have HO400 := n0_; have BK403 := n1_; have HB := n2_; clear n0_ n1_ n2_; (try clear hb); (try clear hb2); (try clear hk); (try clear hi)))
            go_ret
            exact ⟨by first | rfl | (simp [errW_none, errW_some] <;> rfl) | (simp [*, errW_none, errW_some] <;> rfl), by repeat (first | (with_reducible first | exact HB.out | apply below_alloc | apply pw_below_drewN | apply below_drew1 | refine below_set ?_ GE403.out) | exact HB.out)⟩
          · rw [if_neg c10] at H
            exact absurd H (by simp)
        · rw [if_neg c8] at H
          exact absurd H (by simp)
      · rw [if_neg c7] at H
        have c7b0 : decide (t404 < 0) = false := decide_eq_false c7
        clear c7
        have H' := Aside0.mk H
        clear H
        go_enter Tryd.func7, Tryd.ntmps7
        go_wp2_with (first | ((with_reducible refine gate_callee (f := 29) rfl ?_); refine goesL_ (some 13) rfl rfl Tryd.func29 (by kernel_rfl) rfl #[.slice A0 l0.length c0] rfl (by (try simp only [List.map_toArray, List.map_cons, List.map_nil]); first | done | rfl | (simp only [List.length_drop, List.length_take]; rfl)) ?_; (with_reducible refine (spec_DrawLineBetween.calls k _ _ l0 t397 t398 t401 t402 _ ?side1 ?side2 A3.out).mono ?_); (case side1 => repeat (first | exact HR0.out | (with_reducible refine Kd.C_alloc ?_ _) | (with_reducible refine Kd.C_drewN ?_ _) | (with_reducible refine Kd.C_drew ?_))); (case side2 => exact HC0.out); rintro e w22 ⟨v399, rfl, ho0, hb⟩; refine ⟨_, rfl, ?_⟩; have n0_ := Aside0.mk (Kd.R_lower ho0 (below_size (by repeat (first | (with_reducible first | exact HB.out | apply below_alloc | apply pw_below_drewN | apply below_drew1) | exact HB.out)))); have n1_ := Aside0.mk (below_step (by repeat (first | (with_reducible first | exact HB.out | apply below_alloc | apply pw_below_drewN | apply below_drew1) | exact HB.out)) hb); clear HB; have HO400 := n0_; have HB := n1_; clear n0_ n1_; (try clear hb); (try clear hb2); (try clear hk); (try clear hi); (try clear ho0)) | ((with_reducible refine gate_dst (N := 3) rfl ?_); refine box_event ?hg (N := 3) ?hd (cs := #[.int .i64 0, .slice none 0 0]) (t := 25) ?hr ?_; (case hd => rfl); (case hg => rfl); (case hr => first | (go_simp; done) | (go_simp; rfl)); intro gb403 hg w23 hbox hb; have n0_ := Aside0.mk (Kd.R_below (by (with_reducible repeat (first | apply Kd.R_alloc | apply Kd.R_drewN | apply Kd.R_drew)); exact HO400.out) hb); have n1_ := Aside0.mk (below_step (by repeat (first | (with_reducible first | exact HB.out | apply below_alloc | apply pw_below_drewN | apply below_drew1) | exact HB.out)) hb); have n2_ := Aside0.mk (hbox); have n3_ := Aside0.mk ((by rw [hg]; exact (below_size (by repeat (first | (with_reducible first | exact HB.out | apply below_alloc | apply pw_below_drewN | apply below_drew1) | exact HB.out))) : w.heap.size ≤ gb403)); have n4_ := Aside0.mk ((by rw [hg]; exact (below_size (by repeat (first | (with_reducible first | exact HB.out | apply below_alloc | apply pw_below_drewN | apply below_drew1) | exact HB.out))) : w.heap.size ≤ gb403)); clear HO400; clear HB; have HO400 := n0_; have HB := n1_; have BK403 := n2_; have GW403 := n3_; have GE403 := n4_; clear n0_ n1_ n2_ n3_ n4_; clear hb hbox hg; have hcz24_0 : w23.cell? ⟨gb403, 0, none⟩ = some (.int .i64 0) := (blk_cell BK403.out 0).trans rfl; have hcz24_1 : w23.cell? ⟨gb403, 1, none⟩ = some (.slice none 0 0) := (blk_cell BK403.out 1).trans rfl; have hfz24_0 := blk_frozen BK403.out 0; have hfz24_1 := blk_frozen BK403.out 1; obtain ⟨Ao25, co25, eo25⟩ := Kd.R_slice HO400.out; subst eo25) | ((with_reducible refine gate_callee (f := 30) rfl ?_); refine goesL_ (some 20) rfl rfl Tryd.func30 (by kernel_rfl) rfl #[.agg #[.int .i64 t397, .slice Ao25 t398.length co25], .int .i64 t401, .int .i64 t402] rfl (by (try simp only [List.map_toArray, List.map_cons, List.map_nil]); first | done | rfl | (simp only [List.length_drop, List.length_take]; rfl)) ?_; (with_reducible refine (impl_LineBetween.calls k t397 _ _ t398 t401 t402 t404 _ ?side1 ?side2 A4.out).mono ?_); (case side1 => refine (Kd.R_reads' (e := 30) (base := w.heap.size) (ok := fun k_ => True) (n := t398.length) (c := co25) ?_).2.2; exact (by (with_reducible repeat (first | apply Kd.R_alloc | apply Kd.R_drewN | apply Kd.R_drew)); exact (Kd.R_mono (Kd.R_far (p := ⟨gb403, 1, none⟩) (Kd.R_far (p := ⟨gb403, 0, none⟩) (Kd.R_types HO400.out BK403.out (by decide)) (fun _ hk => hk.2) (.int .i64 t397)) (fun _ hk => hk.2) (.slice Ao25 t398.length co25)) (fun _ h_ => h_.1)))); (case side2 => exact (Kd.R_reads' HO400.out).2.1); rintro e w26 ⟨rfl, hb⟩; refine ⟨_, rfl, ?_⟩; have n0_ := Aside0.mk (Kd.R_below (by (with_reducible repeat (first | apply Kd.R_alloc | apply Kd.R_drewN | apply Kd.R_drew)); exact (Kd.R_mono (Kd.R_far (p := ⟨gb403, 1, none⟩) (Kd.R_far (p := ⟨gb403, 0, none⟩) (Kd.R_types HO400.out BK403.out (by decide)) (fun _ hk => hk.2) (.int .i64 t397)) (fun _ hk => hk.2) (.slice Ao25 t398.length co25)) (fun _ h_ => h_.1))) hb); have n1_ := Aside0.mk (blk_below (g := gb403) (o := .cells #[.int .i64 t397, .slice Ao25 t398.length co25] 25 (0, 0)) (by (with_reducible repeat (first | refine blk_drewN ?_ _ | refine blk_drew ?_ | refine blk_alloc ?_ _)); refine blk_put (cs := #[.int .i64 t397, .slice none 0 0]) ?_ 1 _ rfl; (with_reducible repeat (first | refine blk_drewN ?_ _ | refine blk_drew ?_ | refine blk_alloc ?_ _)); refine blk_put (cs := #[.int .i64 0, .slice none 0 0]) ?_ 0 _ rfl; (with_reducible repeat (first | refine blk_drewN ?_ _ | refine blk_drew ?_ | refine blk_alloc ?_ _)); exact BK403.out) hb); have n2_ := Aside0.mk (below_step (by repeat (first | (with_reducible first | exact HB.out | apply below_alloc | apply pw_below_drewN | apply below_drew1 | refine below_set ?_ GE403.out) | exact HB.out)) hb); clear HO400; clear BK403; clear HB; have HO400 := n0_; have BK403 := n1_; have HB := n2_; clear n0_ n1_ n2_; (try clear hb); (try clear hb2); (try clear hk); (try clear hi); have hcz27_0 : w26.cell? ⟨gb403, 0, none⟩ = some (.int .i64 t397) := (blk_cell BK403.out 0).trans rfl; have hcz27_1 : w26.cell? ⟨gb403, 1, none⟩ = some (.slice Ao25 t398.length co25) := (blk_cell BK403.out 1).trans rfl; have hfz27_0 := blk_frozen BK403.out 0; have hfz27_1 := blk_frozen BK403.out 1) | ((with_reducible refine gate_callee (f := 31) rfl ?_); refine goesL_ (some 25) rfl rfl Tryd.func31 (by kernel_rfl) rfl #[.agg #[.int .i64 t397, .slice Ao25 t398.length co25], .int .i64 t401, .int .i64 t402] rfl (by (try simp only [List.map_toArray, List.map_cons, List.map_nil]); first | done | rfl | (simp only [List.length_drop, List.length_take]; rfl)) ?_; (with_reducible refine (spec_LineBetween.calls k t397 _ _ t398 t401 t402 t405 _ ?side1 ?side2 A5.out).mono ?_); (case side1 => repeat (first | exact (Kd.R_reads' HO400.out).2.2 | (with_reducible refine Kd.C_alloc ?_ _) | (with_reducible refine Kd.C_drewN ?_ _) | (with_reducible refine Kd.C_drew ?_))); (case side2 => exact (Kd.R_reads' HO400.out).2.1); rintro e w28 ⟨rfl, hb⟩; refine ⟨_, rfl, ?_⟩; have n0_ := Aside0.mk (Kd.R_below (by (with_reducible repeat (first | apply Kd.R_alloc | apply Kd.R_drewN | apply Kd.R_drew)); exact HO400.out) hb); have n1_ := Aside0.mk (blk_below (g := gb403) (o := .cells #[.int .i64 t397, .slice Ao25 t398.length co25] 25 (0, 0)) (by (with_reducible repeat (first | refine blk_drewN ?_ _ | refine blk_drew ?_ | refine blk_alloc ?_ _)); exact BK403.out) hb); have n2_ := Aside0.mk (below_step (by repeat (first | (with_reducible first | exact HB.out | apply below_alloc | apply pw_below_drewN | apply below_drew1 | refine below_set ?_ GE403.out) | exact HB.out)) hb); clear HO400; clear BK403; clear HB; have HO400 := n0_; have BK403 := n1_; have HB := n2_; clear n0_ n1_ n2_; (try clear hb); (try clear hb2); (try clear hk); (try clear hi)))
        go_loopg [7] k (fun kq v7 w' => ∃ (x7_1 : Int), v7 = .int .i64 x7_1 ∧ Aside0 (laws_FnLineBetween.l0 kq t401 t402 t404 x7_1 t397 t398 = some r) ∧ Aside0 (kq ≤ k) ∧ Aside0 (Kd.R k30 30 w' w.heap.size (fun _ => True) (.slice Ao25 t398.length co25) t398) ∧ Aside0 (w'.heap[gb403]? = some (.cells #[.int .i64 t397, (.slice Ao25 t398.length co25)] 25 (0, 0))) ∧ Aside0 (Below w.heap.size w w'))
        case atStart => exact ⟨(0), (by first | rfl | (simp; done) | (simp [*]; done)), H', ⟨Nat.le_refl _⟩, ⟨by (with_reducible repeat (first | apply Kd.R_alloc | apply Kd.R_drewN | apply Kd.R_drew)); exact HO400.out⟩, ⟨by (with_reducible repeat (first | refine blk_drewN ?_ _ | refine blk_drew ?_ | refine blk_alloc ?_ _)); exact BK403.out⟩, ⟨by repeat (first | (with_reducible first | exact HB.out | apply below_alloc | apply pw_below_drewN | apply below_drew1 | refine below_set ?_ GE403.out) | exact HB.out)⟩⟩
        case round =>
          clear H'
          try clear c1
          try clear c2
          try clear c2b0
          try clear c2b1
          try clear p2
          try clear c3
          try clear c6
          try clear c6b0
          try clear c6b1
          try clear c7
          try clear c7b0
          try clear c8
          try clear c8b0
          try clear c8b1
          try clear c10
          try clear c10b0
          try clear c10b1
          try clear hcz14_0
          try clear hcz14_1
          try clear hcz17_0
          try clear hcz17_1
          try clear hcz19_0
          try clear hcz19_1
          try clear hcz24_0
          try clear hcz24_1
          try clear hcz27_0
          try clear hcz27_1
          try clear hfz14_0
          try clear hfz14_1
          try clear hfz17_0
          try clear hfz17_1
          try clear hfz19_0
          try clear hfz19_1
          try clear hfz24_0
          try clear hfz24_1
          try clear hfz27_0
          try clear hfz27_1
          obtain ⟨x7_1, rfl, HA, HK1, HO_404001, BK403, HB⟩ := hrel
          cases gk with
          | zero => exact absurd HA.out (by simp [laws_FnLineBetween.l0])
          | succ k1 =>
            have H := HA.out
            clear HA
            simp only [laws_FnLineBetween.l0] at H
            by_cases c29 : x7_1 < t404
            · rw [if_pos c29] at H
              have c29b0 : decide (x7_1 < t404) = true := decide_eq_true c29
              clear c29
              replace H := Option.bind_eq_some_iff.mp H
              obtain ⟨t408, A300, H⟩ := H
              replace H : (if t408 = t402 then (none) else (laws_FnLineBetween.l0 k1 t401 t402 t404 (wrap64 (x7_1 + 1)) t397 t398)) = some r := H
              have A30 := Aside0.mk A300
              clear A300
              by_cases c31 : t408 = t402
              · rw [if_pos c31] at H
                exact absurd H (by simp)
              · rw [if_neg c31] at H
                have c31b0 : (t408 == t402) = false := beq_eq_false_iff_ne.mpr c31
                have c31b1 : (t408 != t402) = true := bne_iff_ne.mpr c31
                have H' := Aside0.mk H
                clear H
                have hcz32_0 : wr.cell? ⟨gb403, 0, none⟩ = some (.int .i64 t397) := (blk_cell BK403.out 0).trans rfl
                have hcz32_1 : wr.cell? ⟨gb403, 1, none⟩ = some (.slice Ao25 t398.length co25) := (blk_cell BK403.out 1).trans rfl
                have hfz32_0 := blk_frozen BK403.out 0
                have hfz32_1 := blk_frozen BK403.out 1
                go_wp2_with (first | ((with_reducible refine gate_callee (f := 32) rfl ?_); refine goesL_ (some 49) rfl rfl Tryd.func32 (by kernel_rfl) rfl #[.agg #[.int .i64 t397, .slice Ao25 t398.length co25], .int .i64 x7_1, .int .i64 t401] rfl (by (try simp only [List.map_toArray, List.map_cons, List.map_nil]); first | done | rfl | (simp only [List.length_drop, List.length_take]; rfl)) ?_; (with_reducible refine (impl_OtherEnd.calls k1 t397 _ _ t398 x7_1 t401 t408 _ ?side1 ?side2 A30.out).mono ?_); (case side1 => repeat (first | exact (Kd.R_reads' HO_404001.out).2.2 | (with_reducible refine Kd.C_alloc ?_ _) | (with_reducible refine Kd.C_drewN ?_ _) | (with_reducible refine Kd.C_drew ?_))); (case side2 => exact (Kd.R_reads' HO_404001.out).2.1); rintro e w33 ⟨rfl, hb⟩; refine ⟨_, rfl, ?_⟩; have n0_ := Aside0.mk (Kd.R_below (by (with_reducible repeat (first | apply Kd.R_alloc | apply Kd.R_drewN | apply Kd.R_drew)); exact HO_404001.out) hb); have n1_ := Aside0.mk (blk_below (g := gb403) (o := .cells #[.int .i64 t397, .slice Ao25 t398.length co25] 25 (0, 0)) (by (with_reducible repeat (first | refine blk_drewN ?_ _ | refine blk_drew ?_ | refine blk_alloc ?_ _)); exact BK403.out) hb); have n2_ := Aside0.mk (below_step (by repeat (first | (with_reducible first | exact HB.out | apply below_alloc | apply pw_below_drewN | apply below_drew1 | refine below_set ?_ GE403.out) | exact HB.out)) hb); clear HO_404001; clear BK403; clear HB; have HO_404001 := n0_; have BK403 := n1_; have HB := n2_; clear n0_ n1_ n2_; (try clear hb); (try clear hb2); (try clear hk); (try clear hi)))
                go_roundg k1
                case measure => have := HK1.out; omega
                case rel => exact ⟨(wrap64 (x7_1 + 1)), (by first | rfl | (simp; done) | (simp [*]; done)), H', ⟨by have := HK1.out; omega⟩, ⟨by (with_reducible repeat (first | apply Kd.R_alloc | apply Kd.R_drewN | apply Kd.R_drew)); exact HO_404001.out⟩, ⟨by (with_reducible repeat (first | refine blk_drewN ?_ _ | refine blk_drew ?_ | refine blk_alloc ?_ _)); exact BK403.out⟩, ⟨by repeat (first | (with_reducible first | exact HB.out | apply below_alloc | apply pw_below_drewN | apply below_drew1 | refine below_set ?_ GE403.out) | exact HB.out)⟩⟩
            · rw [if_neg c29] at H
              have c29b0 : decide (x7_1 < t404) = false := decide_eq_false c29
              clear c29
              replace H := Option.bind_eq_some_iff.mp H
              obtain ⟨t409, A340, H⟩ := H
              replace H : (if t409 = t404 then ((impl_OtherEnd.f k1 t397 t398 t404 t401).bind fun t410 => (some (t410 == t402))) else (none)) = some r := H
              have A34 := Aside0.mk A340
              clear A340
              by_cases c35 : t409 = t404
              · rw [if_pos c35] at H
                have c35b0 : (t409 == t404) = true := beq_iff_eq.mpr c35
                have c35b1 : (t409 != t404) = false := bne_eq_false_iff_eq.mpr c35
                clear c35
                replace H := Option.bind_eq_some_iff.mp H
                obtain ⟨t410, A360, H⟩ := H
                replace H : (some (t410 == t402)) = some r := H
                have A36 := Aside0.mk A360
                clear A360
                obtain rfl := Option.some.inj H
                have hcz37_0 : wr.cell? ⟨gb403, 0, none⟩ = some (.int .i64 t397) := (blk_cell BK403.out 0).trans rfl
                have hcz37_1 : wr.cell? ⟨gb403, 1, none⟩ = some (.slice Ao25 t398.length co25) := (blk_cell BK403.out 1).trans rfl
                have hfz37_0 := blk_frozen BK403.out 0
                have hfz37_1 := blk_frozen BK403.out 1
                go_wp2_with (first | ((with_reducible refine gate_callee (f := 30) rfl ?_); refine goesL_ (some 55) rfl rfl Tryd.func30 (by kernel_rfl) rfl #[.agg #[.int .i64 t397, .slice Ao25 t398.length co25], .int .i64 t402, .int .i64 t401] rfl (by (try simp only [List.map_toArray, List.map_cons, List.map_nil]); first | done | rfl | (simp only [List.length_drop, List.length_take]; rfl)) ?_; (with_reducible refine (impl_LineBetween.calls k1 t397 _ _ t398 t402 t401 t409 _ ?side1 ?side2 A34.out).mono ?_); (case side1 => repeat (first | exact (Kd.R_reads' HO_404001.out).2.2 | (with_reducible refine Kd.C_alloc ?_ _) | (with_reducible refine Kd.C_drewN ?_ _) | (with_reducible refine Kd.C_drew ?_))); (case side2 => exact (Kd.R_reads' HO_404001.out).2.1); rintro e w38 ⟨rfl, hb⟩; refine ⟨_, rfl, ?_⟩; have n0_ := Aside0.mk (Kd.R_below (by (with_reducible repeat (first | apply Kd.R_alloc | apply Kd.R_drewN | apply Kd.R_drew)); exact HO_404001.out) hb); have n1_ := Aside0.mk (blk_below (g := gb403) (o := .cells #[.int .i64 t397, .slice Ao25 t398.length co25] 25 (0, 0)) (by (with_reducible repeat (first | refine blk_drewN ?_ _ | refine blk_drew ?_ | refine blk_alloc ?_ _)); exact BK403.out) hb); have n2_ := Aside0.mk (below_step (by repeat (first | (with_reducible first | exact HB.out | apply below_alloc | apply pw_below_drewN | apply below_drew1 | refine below_set ?_ GE403.out) | exact HB.out)) hb); clear HO_404001; clear BK403; clear HB; have HO_404001 := n0_; have BK403 := n1_; have HB := n2_; clear n0_ n1_ n2_; (try clear hb); (try clear hb2); (try clear hk); (try clear hi); have hcz39_0 : w38.cell? ⟨gb403, 0, none⟩ = some (.int .i64 t397) := (blk_cell BK403.out 0).trans rfl; have hcz39_1 : w38.cell? ⟨gb403, 1, none⟩ = some (.slice Ao25 t398.length co25) := (blk_cell BK403.out 1).trans rfl; have hfz39_0 := blk_frozen BK403.out 0; have hfz39_1 := blk_frozen BK403.out 1) | (go_at_call 32; (with_reducible refine (impl_OtherEnd.calls k1 t397 _ _ t398 t404 t401 t410 _ ?side1 ?side2 A36.out).mono ?_); (case side1 => repeat (first | exact (Kd.R_reads' HO_404001.out).2.2 | (with_reducible refine Kd.C_alloc ?_ _) | (with_reducible refine Kd.C_drewN ?_ _) | (with_reducible refine Kd.C_drew ?_))); (case side2 => exact (Kd.R_reads' HO_404001.out).2.1); rintro e w40 ⟨rfl, hb⟩; have n0_ := Aside0.mk (Kd.R_below (by (with_reducible repeat (first | apply Kd.R_alloc | apply Kd.R_drewN | apply Kd.R_drew)); exact HO_404001.out) hb); have n1_ := Aside0.mk (blk_below (g := gb403) (o := .cells #[.int .i64 t397, .slice Ao25 t398.length co25] 25 (0, 0)) (by (with_reducible repeat (first | refine blk_drewN ?_ _ | refine blk_drew ?_ | refine blk_alloc ?_ _)); exact BK403.out) hb); have n2_ := Aside0.mk (below_step (by repeat (first | (with_reducible first | exact HB.out | apply below_alloc | apply pw_below_drewN | apply below_drew1 | refine below_set ?_ GE403.out) | exact HB.out)) hb); clear HO_404001; clear BK403; clear HB; have HO_404001 := n0_; have BK403 := n1_; have HB := n2_; clear n0_ n1_ n2_; (try clear hb); (try clear hb2); (try clear hk); (try clear hi)))
                go_ret
                exact ⟨by first | rfl | (simp [errW_none, errW_some] <;> rfl) | (simp [*, errW_none, errW_some] <;> rfl), by repeat (first | (with_reducible first | exact HB.out | apply below_alloc | apply pw_below_drewN | apply below_drew1 | refine below_set ?_ GE403.out) | exact HB.out)⟩
              · rw [if_neg c35] at H
                exact absurd H (by simp)
    · rw [if_neg c6] at H
      exact absurd H (by simp)

end Go.Proofs.YtlahlfjhfmldaaaDoor.P

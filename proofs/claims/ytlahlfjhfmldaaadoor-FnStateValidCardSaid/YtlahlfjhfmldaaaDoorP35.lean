/- Contracts of Go functions of this seat's translation, written by this repo's wip/mk.py: it calls the kit's print.py with contracts typed by hand in place of functions that it does not take. Not trusted: Lean checks it. -/
import Derived.Test.YtlahlfjhfmldaaaDoorP0
import Derived.Test.YtlahlfjhfmldaaaDoorP2
import Derived.Test.YtlahlfjhfmldaaaDoorP3
import Derived.Test.YtlahlfjhfmldaaaDoorP6
import Derived.Test.YtlahlfjhfmldaaaDoorP32
import Derived.Test.YtlahlfjhfmldaaaDoorP7
import Derived.Test.YtlahlfjhfmldaaaDoorP9
namespace Go.Proofs.YtlahlfjhfmldaaaDoor.P
open Go.RowKit Go.Proofs.YtlahlfjhfmldaaaDoorW.PrintWords Go.Proofs.YtlahlfjhfmldaaaDoorW.PrintLast Go.Proofs.YtlahlfjhfmldaaaDoorW.PrintMore
attribute [local go_sem] max2_int min2_int max_two min_two max_three min_three max_four min_four   -- for this text's walks alone
set_option linter.unusedVariables false
set_option linter.unusedSimpArgs false

/-! ### spec_DrawStateValid: function 26 -/
def spec_DrawStateValid.f (k : Nat) (l0 : List Int) : Option (Int × (List (S30)) × List Bool) := (spec_l20Open.f l0).bind fun bt328 => ((spec_l20Net.f k bt328.1 bt328.2 6).bind fun bt331 => ((spec_l20State.f k bt328.1 bt331.2.2 bt331.1 bt331.2.1 3).bind fun bt337 => (some (bt331.1, bt331.2.1, bt337.1))))
theorem spec_DrawStateValid.mono : ∀ a0 k, LeO (spec_DrawStateValid.f k a0) (spec_DrawStateValid.f (k + 1) a0) := by
  intro a0 k
  unfold spec_DrawStateValid.f
  repeat' first
      | (with_reducible exact spec_l20Net.mono _ _ _ _)
      | (with_reducible exact spec_l20State.mono _ _ _ _ _ _)
      | (with_reducible exact LeO.refl _)
      | (with_reducible exact LeO.none _)
      | (with_reducible refine LeO.ite ?_ ?_)
      | (with_reducible refine LeO.bind ?_ (fun _ => ?_))
      | exact spec_l20Net.mono _ _ _ _
      | exact spec_l20State.mono _ _ _ _ _ _
      | exact LeO.none _
      | refine LeO.ite ?_ ?_
      | refine LeO.bind ?_ (fun _ => ?_)
set_option maxHeartbeats 8000000 in
set_option maxRecDepth 100000 in
theorem spec_DrawStateValid.calls (k : Nat) (A0 : Option Addr) (c0 : Nat) (l0 : List Int) (r1 : Int) (r2 : List (S30)) (r3 : List Bool) (w : World) (hr0 : Kd.C (Kd.int .u8) w A0 l0.length l0) (hc0 : l0.length ≤ c0) (h : spec_DrawStateValid.f k l0 = some (r1, r2, r3)) :
    Calls Tryd.prog 26 #[.slice A0 l0.length c0] w fun e w' => ∃ v1_ v2_ : Value, e = .returned (.tuple #[.agg #[.int .i64 r1, v1_], v2_]) ∧ Kd.R k30 30 w' w.heap.size (fun _ => True) v1_ r2 ∧ Kd.R Kd.bool 4 w' w.heap.size (fun _ => True) v2_ r3 ∧ Below w.heap.size w w' := by
  have hu25 := Tryd.underlying25
  have HR0 := Aside0.mk hr0
  have HC0 := Aside0.mk hc0
  clear hr0 hc0
  have HB := Aside0.mk (Below.refl w.heap.size w)
  have H : ((spec_l20Open.f l0).bind fun bt328 => ((spec_l20Net.f k bt328.1 bt328.2 6).bind fun bt331 => ((spec_l20State.f k bt328.1 bt331.2.2 bt331.1 bt331.2.1 3).bind fun bt337 => (some (bt331.1, bt331.2.1, bt337.1))))) = some (r1, r2, r3) := h
  clear h
  replace H := Option.bind_eq_some_iff.mp H
  obtain ⟨⟨t328, t329⟩, A20, H⟩ := H
  replace H : ((spec_l20Net.f k t328 t329 6).bind fun bt331 => ((spec_l20State.f k t328 bt331.2.2 bt331.1 bt331.2.1 3).bind fun bt337 => (some (bt331.1, bt331.2.1, bt337.1)))) = some (r1, r2, r3) := H
  have A2 := Aside0.mk A20
  clear A20
  replace H := Option.bind_eq_some_iff.mp H
  obtain ⟨⟨t331, t332, t335⟩, A30, H⟩ := H
  replace H : ((spec_l20State.f k t328 t335 t331 t332 3).bind fun bt337 => (some (t331, t332, bt337.1))) = some (r1, r2, r3) := H
  have A3 := Aside0.mk A30
  clear A30
  replace H := Option.bind_eq_some_iff.mp H
  obtain ⟨⟨t337, t340⟩, A40, H⟩ := H
  replace H : (some (t331, t332, t337)) = some (r1, r2, r3) := H
  have A4 := Aside0.mk A40
  clear A40
  simp only [Option.some.injEq, Prod.mk.injEq] at H
  obtain ⟨rfl, rfl, rfl⟩ := H
  go_enter Tryd.func26, Tryd.ntmps26
  try go_wp2_with (first | ((with_reducible refine gate_dst (N := 2) rfl ?_); refine box_event ?hg (N := 2) ?hd (cs := #[.int .i64 0, .slice none 0 0]) (t := 25) ?hr ?_; (case hd => rfl); (case hg => rfl); (case hr => first | (go_simp; done) | (go_simp; rfl)); intro gb327 hg w5 hbox hb; have n0_ := Aside0.mk (below_step (by repeat (first | (with_reducible first | exact HB.out | apply below_alloc | apply pw_below_drewN | apply below_drew1) | exact HB.out)) hb); have n1_ := Aside0.mk (hbox); have n2_ := Aside0.mk ((by rw [hg]; exact (below_size (by repeat (first | (with_reducible first | exact HB.out | apply below_alloc | apply pw_below_drewN | apply below_drew1) | exact HB.out))) : w.heap.size ≤ gb327)); have n3_ := Aside0.mk ((by rw [hg]; exact (below_size (by repeat (first | (with_reducible first | exact HB.out | apply below_alloc | apply pw_below_drewN | apply below_drew1) | exact HB.out))) : w.heap.size ≤ gb327)); clear HB; have HB := n0_; have BK327 := n1_; have GW327 := n2_; have GE327 := n3_; clear n0_ n1_ n2_ n3_; clear hb hbox hg) | ((with_reducible refine gate_callee (f := 47) rfl ?_); refine goesL_ (some 7) rfl rfl Tryd.func47 (by kernel_rfl) rfl #[.slice A0 l0.length c0] rfl (by (try simp only [List.map_toArray, List.map_cons, List.map_nil]); first | done | rfl | (simp only [List.length_drop, List.length_take]; rfl)) ?_; (with_reducible refine (spec_l20Open.calls _ _ l0 t328 t329 w _ ?side1 ?side2 ?side3 A2.out).mono ?_); (case side1 => repeat (first | (with_reducible first | exact HB.out | apply below_alloc | apply pw_below_drewN | apply below_drew1 | refine below_set ?_ GE327.out) | exact HB.out)); (case side2 => exact HR0.out); (case side3 => exact HC0.out); rintro e w6 ⟨g330, rfl, hi, hb, hb2⟩; refine ⟨_, rfl, ?_⟩; have n0_ := Aside0.mk (blk_below (g := gb327) (o := .cells #[.int .i64 0, .slice none 0 0] 25 (0, 0)) (by (with_reducible repeat (first | refine blk_drewN ?_ _ | refine blk_drew ?_ | refine blk_alloc ?_ _)); exact BK327.out) hb2); have n1_ := Aside0.mk (hb); have n2_ := Aside0.mk (hi); have n3_ := Aside0.mk (IsS89.ne_blk hi (blk_below (g := gb327) (o := .cells #[.int .i64 0, .slice none 0 0] 25 (0, 0)) (by (with_reducible repeat (first | refine blk_drewN ?_ _ | refine blk_drew ?_ | refine blk_alloc ?_ _)); exact BK327.out) hb2) (by decide)); have n4_ := Aside0.mk (Ne.symm (IsS89.ne_blk hi (blk_below (g := gb327) (o := .cells #[.int .i64 0, .slice none 0 0] 25 (0, 0)) (by (with_reducible repeat (first | refine blk_drewN ?_ _ | refine blk_drew ?_ | refine blk_alloc ?_ _)); exact BK327.out) hb2) (by decide))); clear BK327; clear HB; have BK327 := n0_; have HB := n1_; have HI330 := n2_; have NB330_327 := n3_; have NB327_330 := n4_; clear n0_ n1_ n2_ n3_ n4_; (try clear hb); (try clear hb2); (try clear hk); (try clear hi)) | ((with_reducible refine gate_callee (f := 46) rfl ?_); refine goesL_ (some 9) rfl rfl Tryd.func46 (by kernel_rfl) rfl #[.pointer (some ⟨g330, 0, none⟩), .int .i64 6] rfl (by (try simp only [List.map_toArray, List.map_cons, List.map_nil]); first | done | rfl | (simp only [List.length_drop, List.length_take]; rfl)) ?_; (with_reducible refine (spec_l20Net.calls k g330 t328 t329 6 t331 t332 t335 w _ ?side1 ?side2 A3.out).mono ?_); (case side1 => repeat (first | (with_reducible first | exact HI330.out | apply IsS89.alloc | apply IsS89.drewN | apply IsS89.drew | apply IsS89.set_1 | refine IsS89.far ?_ NB330_327.out _) | exact HI330.out)); (case side2 => repeat (first | (with_reducible first | exact HB.out | apply below_alloc | apply pw_below_drewN | apply below_drew1 | refine below_set ?_ (IsS89.ge HI330.out) | refine below_set ?_ GE327.out) | exact HB.out)); rintro e w7 ⟨v333, rfl, ho0, hi, hb, hk⟩; refine ⟨_, rfl, ?_⟩; have n0_ := Aside0.mk (KeepBut.blk hk (g' := gb327) (o := .cells #[.int .i64 0, .slice none 0 0] 25 (0, 0)) (by (with_reducible repeat (first | refine blk_drewN ?_ _ | refine blk_drew ?_ | refine blk_alloc ?_ _)); exact BK327.out) NB327_330.out (by simp)); have n1_ := Aside0.mk (Kd.R_lower ho0 (below_size (by repeat (first | (with_reducible first | exact HB.out | apply below_alloc | apply pw_below_drewN | apply below_drew1 | refine below_set ?_ (IsS89.ge HI330.out) | refine below_set ?_ GE327.out) | exact HB.out)))); have n2_ := Aside0.mk (hb); have n3_ := Aside0.mk (hi); clear BK327; clear HB; clear HI330; have BK327 := n0_; have HO334 := n1_; have HB := n2_; have HI330 := n3_; clear n0_ n1_ n2_ n3_; (try clear hb); (try clear hb2); (try clear hk); (try clear hi); (try clear ho0)) | ((with_reducible refine gate_dst (N := 5) rfl ?_); refine box_event ?hg (N := 5) ?hd (cs := #[.int .i64 0, .slice none 0 0]) (t := 25) ?hr ?_; (case hd => rfl); (case hg => rfl); (case hr => first | (go_simp; done) | (go_simp; rfl)); intro gb336 hg w8 hbox hb; have n0_ := Aside0.mk (Kd.R_below (by (with_reducible repeat (first | apply Kd.R_alloc | apply Kd.R_drewN | apply Kd.R_drew)); exact HO334.out) hb); have n1_ := Aside0.mk (blk_below (g := gb327) (o := .cells #[.int .i64 0, .slice none 0 0] 25 (0, 0)) (by (with_reducible repeat (first | refine blk_drewN ?_ _ | refine blk_drew ?_ | refine blk_alloc ?_ _)); exact BK327.out) hb); have n2_ := Aside0.mk (IsS89.below (by repeat (first | (with_reducible first | exact HI330.out | apply IsS89.alloc | apply IsS89.drewN | apply IsS89.drew | apply IsS89.set_1 | refine IsS89.far ?_ NB330_327.out _) | exact HI330.out)) hb); have n3_ := Aside0.mk (below_step (by repeat (first | (with_reducible first | exact HB.out | apply below_alloc | apply pw_below_drewN | apply below_drew1 | refine below_set ?_ (IsS89.ge HI330.out) | refine below_set ?_ GE327.out) | exact HB.out)) hb); have n4_ := Aside0.mk (hbox); have n5_ := Aside0.mk ((by rw [hg]; exact (below_size (by repeat (first | (with_reducible first | exact HB.out | apply below_alloc | apply pw_below_drewN | apply below_drew1 | refine below_set ?_ (IsS89.ge HI330.out) | refine below_set ?_ GE327.out) | exact HB.out))) : w.heap.size ≤ gb336)); have n6_ := Aside0.mk ((by rw [hg]; exact (below_size (by repeat (first | (with_reducible first | exact HB.out | apply below_alloc | apply pw_below_drewN | apply below_drew1 | refine below_set ?_ (IsS89.ge HI330.out) | refine below_set ?_ GE327.out) | exact HB.out))) : w.heap.size ≤ gb336)); have n7_ := Aside0.mk ((by rw [hg]; exact Nat.ne_of_lt (blk_lt (g := gb327) (o := .cells #[.int .i64 0, .slice none 0 0] 25 (0, 0)) (by (with_reducible repeat (first | refine blk_drewN ?_ _ | refine blk_drew ?_ | refine blk_alloc ?_ _)); exact BK327.out)) : gb327 ≠ gb336)); have n8_ := Aside0.mk ((by rw [hg]; exact Nat.ne_of_gt (blk_lt (g := gb327) (o := .cells #[.int .i64 0, .slice none 0 0] 25 (0, 0)) (by (with_reducible repeat (first | refine blk_drewN ?_ _ | refine blk_drew ?_ | refine blk_alloc ?_ _)); exact BK327.out)) : gb336 ≠ gb327)); have n9_ := Aside0.mk ((by rw [hg]; exact Nat.ne_of_lt (IsS89.lt (show IsS89 w _ g330 t328 t335 from by repeat (first | (with_reducible first | exact HI330.out | apply IsS89.alloc | apply IsS89.drewN | apply IsS89.drew | apply IsS89.set_1 | refine IsS89.far ?_ NB330_327.out _) | exact HI330.out))) : g330 ≠ gb336)); have n10_ := Aside0.mk ((by rw [hg]; exact Nat.ne_of_gt (IsS89.lt (show IsS89 w _ g330 t328 t335 from by repeat (first | (with_reducible first | exact HI330.out | apply IsS89.alloc | apply IsS89.drewN | apply IsS89.drew | apply IsS89.set_1 | refine IsS89.far ?_ NB330_327.out _) | exact HI330.out))) : gb336 ≠ g330)); clear HO334; clear BK327; clear HI330; clear HB; have HO334 := n0_; have BK327 := n1_; have HI330 := n2_; have HB := n3_; have BK336 := n4_; have GW336 := n5_; have GE336 := n6_; have NB327_336 := n7_; have NB336_327 := n8_; have NB330_336 := n9_; have NB336_330 := n10_; clear n0_ n1_ n2_ n3_ n4_ n5_ n6_ n7_ n8_ n9_ n10_; clear hb hbox hg; have hnb9 := NB336_327.out; have hnc9 := NB327_336.out; have hnb10 := NB336_330.out; have hnc10 := NB330_336.out; have hcz11_0 : w8.cell? ⟨gb336, 0, none⟩ = some (.int .i64 0) := (blk_cell BK336.out 0).trans rfl; have hcz11_1 : w8.cell? ⟨gb336, 1, none⟩ = some (.slice none 0 0) := (blk_cell BK336.out 1).trans rfl; have hfz11_0 := blk_frozen BK336.out 0; have hfz11_1 := blk_frozen BK336.out 1; obtain ⟨Ao12, co12, eo12⟩ := Kd.R_slice HO334.out; subst eo12))
  have n0_ : Aside0 (Kd.R k30 30 ((w8.setCell ⟨gb336, 0, none⟩ (.int .i64 t331)).setCell ⟨gb336, 1, none⟩ (.slice Ao12 t332.length co12)) w.heap.size (fun _ => True) (.slice Ao12 t332.length co12) t332) := ⟨by (with_reducible repeat (first | apply Kd.R_alloc | apply Kd.R_drewN | apply Kd.R_drew)); exact Kd.R_mono (Kd.R_far (p := ⟨gb336, 1, none⟩) (Kd.R_far (p := ⟨gb336, 0, none⟩) (Kd.R_types HO334.out BK336.out (by decide)) (fun _ hk => hk.2) (.int .i64 t331)) (fun _ hk => hk.2) (.slice Ao12 t332.length co12)) (fun _ hk => trivial)⟩
  have n1_ : Aside0 (((w8.setCell ⟨gb336, 0, none⟩ (.int .i64 t331)).setCell ⟨gb336, 1, none⟩ (.slice Ao12 t332.length co12)).heap[gb327]? = some (.cells #[.int .i64 0, .slice none 0 0] 25 (0, 0))) := ⟨by (with_reducible repeat (first | refine blk_drewN ?_ _ | refine blk_drew ?_ | refine blk_alloc ?_ _)); refine blk_far ?_ NB327_336.out _; (with_reducible repeat (first | refine blk_drewN ?_ _ | refine blk_drew ?_ | refine blk_alloc ?_ _)); refine blk_far ?_ NB327_336.out _; (with_reducible repeat (first | refine blk_drewN ?_ _ | refine blk_drew ?_ | refine blk_alloc ?_ _)); exact BK327.out⟩
  have n2_ : Aside0 (((w8.setCell ⟨gb336, 0, none⟩ (.int .i64 t331)).setCell ⟨gb336, 1, none⟩ (.slice Ao12 t332.length co12)).heap[gb336]? = some (.cells #[.int .i64 t331, .slice Ao12 t332.length co12] 25 (0, 0))) := ⟨by (with_reducible repeat (first | refine blk_drewN ?_ _ | refine blk_drew ?_ | refine blk_alloc ?_ _)); refine blk_put (cs := #[.int .i64 t331, .slice none 0 0]) ?_ 1 _ rfl; (with_reducible repeat (first | refine blk_drewN ?_ _ | refine blk_drew ?_ | refine blk_alloc ?_ _)); refine blk_put (cs := #[.int .i64 0, .slice none 0 0]) ?_ 0 _ rfl; (with_reducible repeat (first | refine blk_drewN ?_ _ | refine blk_drew ?_ | refine blk_alloc ?_ _)); exact BK336.out⟩
  have n3_ : Aside0 (IsS89 w ((w8.setCell ⟨gb336, 0, none⟩ (.int .i64 t331)).setCell ⟨gb336, 1, none⟩ (.slice Ao12 t332.length co12)) g330 t328 t335) := ⟨by repeat (first | (with_reducible first | exact HI330.out | apply IsS89.alloc | apply IsS89.drewN | apply IsS89.drew | apply IsS89.set_1 | refine IsS89.far ?_ NB330_327.out _ | refine IsS89.far ?_ NB330_336.out _) | exact HI330.out)⟩
  have n4_ : Aside0 (Below w.heap.size w ((w8.setCell ⟨gb336, 0, none⟩ (.int .i64 t331)).setCell ⟨gb336, 1, none⟩ (.slice Ao12 t332.length co12))) := ⟨by repeat (first | (with_reducible first | exact HB.out | apply below_alloc | apply pw_below_drewN | apply below_drew1 | refine below_set ?_ (IsS89.ge HI330.out) | refine below_set ?_ GE327.out | refine below_set ?_ GE336.out) | exact HB.out)⟩
  (try clear HO334)
  (try clear BK327)
  (try clear BK336)
  (try clear HI330)
  (try clear HB)
  generalize ((w8.setCell ⟨gb336, 0, none⟩ (.int .i64 t331)).setCell ⟨gb336, 1, none⟩ (.slice Ao12 t332.length co12)) = w13 at n0_ n1_ n2_ n3_ n4_ ⊢
  have HO334 := n0_
  have BK327 := n1_
  have BK336 := n2_
  have HI330 := n3_
  have HB := n4_
  clear n0_ n1_ n2_ n3_ n4_
  have n0_ := Aside0.mk (Kd.R_drew HO334.out)
  have n1_ := Aside0.mk (blk_drew BK327.out)
  have n2_ := Aside0.mk (blk_drew BK336.out)
  have n3_ := Aside0.mk (IsS89.drew HI330.out)
  have n4_ := Aside0.mk (below_drew1 HB.out)
  clear HO334
  clear BK327
  clear BK336
  clear HI330
  clear HB
  have HO334 := n0_
  have BK327 := n1_
  have BK336 := n2_
  have HI330 := n3_
  have HB := n4_
  clear n0_ n1_ n2_ n3_ n4_
  refine start_ (n := 6) (S := fun w' => w'.cell? ⟨gb336, 0, none⟩ = some (.int .i64 t331) ∧ w'.cell? ⟨gb336, 1, none⟩ = some (.slice Ao12 t332.length co12)) (ds := []) #[false, false, false, false, false, false] (by kernel_rfl) rfl rfl ⟨(blk_cell BK336.out 0).trans rfl, (blk_cell BK336.out 1).trans rfl⟩ (fun hHeld => ?_)
  generalize w13.drew = w14 at HO334 BK327 BK336 HI330 HB hHeld ⊢
  refine pure_ (i := 1) (N := some 11) (v := ?_) (a' := ?_) #[false, true, false, false, false, false] rfl rfl (by kernel_rfl) (fun _ _ _ h => h) (Or.inl ⟨by rfl, ?_⟩) ?_ ?_
  rotate_left
  · intro w'
    go_simp
    with_reducible rfl
  rotate_left
  · simp only [Act.put, List.setIfInBounds_toArray, List.set_cons_zero, List.set_cons_succ, i64_w, i32_w]
    rfl
  refine take_ (i := 0) (N := some 10) (v := ?_) (a' := ?_) #[true, true, false, false, false, false] rfl rfl (by kernel_rfl) (fun _ _ _ h => h) (Or.inl ⟨by rfl, ?_⟩) hHeld ?_ ?_
  rotate_left
  · rintro w' ⟨s0, s1⟩
    go_simp
    with_reducible rfl
  rotate_left
  · simp only [Act.put, List.setIfInBounds_toArray, List.set_cons_zero, List.set_cons_succ, i64_w, i32_w]
    rfl
  refine take_ (i := 2) (N := some 12) (v := ?_) (a' := ?_) #[true, true, true, false, false, false] rfl rfl (by kernel_rfl) (fun _ _ _ h => h) (Or.inl ⟨by rfl, ?_⟩) hHeld ?_ ?_
  rotate_left
  · rintro w' ⟨s0, s1⟩
    go_simp
    with_reducible rfl
  rotate_left
  · simp only [Act.put, List.setIfInBounds_toArray, List.set_cons_zero, List.set_cons_succ, i64_w, i32_w]
    rfl
  refine one_ (i := 3) (N := some 13) #[true, true, true, true, false, false] rfl rfl (by kernel_rfl) (by decide) (fun K hK => ?_)
  refine goes_ Tryd.func59 (by kernel_rfl) rfl #[.pointer (some ⟨g330, 0, none⟩), .agg #[.int .i64 t331, .slice Ao12 t332.length co12], .int .i64 3] (by rfl) rfl rfl (by (try simp only [List.map_toArray, List.map_cons, List.map_nil]); first | done | rfl | (simp only [List.length_drop, List.length_take]; rfl)) ?_
  with_reducible refine (spec_l20State.calls k g330 t328 t335 t331 _ _ t332 3 t337 t340 w _ ?side1 ?side2 ?side3 ?side4 A4.out).mono ?_
  (case side1 => repeat (first | (with_reducible first | exact HI330.out | apply IsS89.alloc | apply IsS89.drewN | apply IsS89.drew | apply IsS89.set_1 | refine IsS89.far ?_ NB330_327.out _ | refine IsS89.far ?_ NB330_336.out _) | exact HI330.out))
  (case side2 => repeat (first | (with_reducible first | exact HB.out | apply below_alloc | apply pw_below_drewN | apply below_drew1 | refine below_set ?_ (IsS89.ge HI330.out) | refine below_set ?_ GE327.out | refine below_set ?_ GE336.out) | exact HB.out))
  (case side3 => exact Kd.C_foot_own (IsS89.apart (show IsS89 w _ g330 t328 t335 from by repeat (first | (with_reducible first | exact HI330.out | apply IsS89.alloc | apply IsS89.drewN | apply IsS89.drew | apply IsS89.set_1 | refine IsS89.far ?_ NB330_327.out _ | refine IsS89.far ?_ NB330_336.out _) | exact HI330.out)) (by (with_reducible repeat (first | apply Kd.R_alloc | apply Kd.R_drewN | apply Kd.R_drew)); exact HO334.out) (by decide)) (fun _ h_ => h_.2))
  (case side4 => exact (Kd.R_reads' HO334.out).2.1)
  rintro e w15 ⟨v338, rfl, ho0, hi, hb, hk⟩
  refine ⟨_, rfl, ?_⟩
  have n0_ := Aside0.mk (KeepBut.blk hk (g' := gb327) (o := .cells #[.int .i64 0, .slice none 0 0] 25 (0, 0)) (by (with_reducible repeat (first | refine blk_drewN ?_ _ | refine blk_drew ?_ | refine blk_alloc ?_ _)); exact BK327.out) NB327_330.out (by simp))
  have n1_ := Aside0.mk (Kd.R_mono (Kd.R_keep (IsS89.apart (show IsS89 w _ g330 t328 t335 from by repeat (first | (with_reducible first | exact HI330.out | apply IsS89.alloc | apply IsS89.drewN | apply IsS89.drew | apply IsS89.set_1 | refine IsS89.far ?_ NB330_327.out _ | refine IsS89.far ?_ NB330_336.out _) | exact HI330.out)) (by (with_reducible repeat (first | apply Kd.R_alloc | apply Kd.R_drewN | apply Kd.R_drew)); exact HO334.out) (by decide)) hk (fun _ h => h.2)) (fun _ h => h.1))
  have n2_ := Aside0.mk (KeepBut.blk hk (g' := gb336) (o := .cells #[.int .i64 t331, .slice Ao12 t332.length co12] 25 (0, 0)) (by (with_reducible repeat (first | refine blk_drewN ?_ _ | refine blk_drew ?_ | refine blk_alloc ?_ _)); exact BK336.out) NB336_330.out (by simp))
  have n3_ := Aside0.mk (Kd.R_lower ho0 (below_size (by repeat (first | (with_reducible first | exact HB.out | apply below_alloc | apply pw_below_drewN | apply below_drew1 | refine below_set ?_ (IsS89.ge HI330.out) | refine below_set ?_ GE327.out | refine below_set ?_ GE336.out) | exact HB.out))))
  have n4_ := Aside0.mk (hb)
  have n5_ := Aside0.mk (hi)
  clear BK327
  clear HO334
  clear BK336
  clear HB
  clear HI330
  have BK327 := n0_
  have HO334 := n1_
  have BK336 := n2_
  have HO339 := n3_
  have HB := n4_
  have HI330 := n5_
  clear n0_ n1_ n2_ n3_ n4_ n5_
  (try clear hb)
  (try clear hb2)
  (try clear hk)
  (try clear hi)
  (try clear ho0)
  refine hK.out _ _ ⟨(blk_cell BK336.out 0).trans rfl, (blk_cell BK336.out 1).trans rfl⟩ (fun hHeld => ?_)
  clear hK K
  refine norm_ (a' := ?_) ?_ ?_
  rotate_left
  · show Act.put _ (some 13) _ = _
    simp only [Act.put, List.setIfInBounds_toArray, List.set_cons_zero, List.set_cons_succ, i64_w, i32_w]
    rfl
  refine one_ (i := 4) (N := none) #[true, true, true, true, true, false] rfl rfl (by kernel_rfl) (by decide) (fun K hK => ?_)
  have hs16 : w15.cell? ⟨gb327, 0, none⟩ = some (.int .i64 0) := (blk_cell BK327.out 0).trans rfl
  have hfs16 := blk_frozen BK327.out 0
  have hns16_1 := NB336_327.out
  have hms16_1 := NB327_336.out
  have hs17 : w15.cell? ⟨gb327, 1, none⟩ = some (.slice none 0 0) := (blk_cell BK327.out 1).trans rfl
  have hfs17 := blk_frozen BK327.out 1
  have hns17_1 := NB336_327.out
  have hms17_1 := NB327_336.out
  refine skip_ (w1 := ?_) (by rfl) rfl ?_ ?_
  rotate_left
  · go_simp
    rfl
  refine hK.out _ _ ⟨((cell_far (p := ⟨gb327, _, none⟩) NB336_327.out _).trans (((cell_far (p := ⟨gb327, _, none⟩) NB336_327.out _).trans (hHeld.1)))), ((cell_far (p := ⟨gb327, _, none⟩) NB336_327.out _).trans (((cell_far (p := ⟨gb327, _, none⟩) NB336_327.out _).trans (hHeld.2))))⟩ (fun hHeld => ?_)
  clear hK K
  refine pure_ (i := 5) (N := some 3) (v := ?_) (a' := ?_) #[true, true, true, true, true, true] rfl rfl (by kernel_rfl) (fun _ _ _ h => h) (Or.inl ⟨by rfl, ?_⟩) ?_ ?_
  rotate_left
  · intro w'
    go_simp
    with_reducible rfl
  rotate_left
  · simp only [Act.put, List.setIfInBounds_toArray, List.set_cons_zero, List.set_cons_succ, i64_w, i32_w]
    rfl
  refine done_ (by kernel_rfl) ?_
  try go_wp2
  refine bodyPost_ret (results_ct rfl _ _ gb327 25 #[.int .i64 t331, .slice Ao12 t332.length co12] (0, 0) _ rfl (by (with_reducible repeat (first | refine blk_drewN ?_ _ | refine blk_drew ?_ | refine blk_alloc ?_ _)); refine blk_put (cs := #[.int .i64 t331, .slice none 0 0]) ?_ 1 _ rfl; (with_reducible repeat (first | refine blk_drewN ?_ _ | refine blk_drew ?_ | refine blk_alloc ?_ _)); refine blk_put (cs := #[.int .i64 0, .slice none 0 0]) ?_ 0 _ rfl; (with_reducible repeat (first | refine blk_drewN ?_ _ | refine blk_drew ?_ | refine blk_alloc ?_ _)); exact BK327.out) Tryd.underlying25 rfl (by kernel_rfl)) rfl ?_
  exact ⟨_, _, by first | rfl | (simp [errW_none, errW_some] <;> rfl) | (simp [*, errW_none, errW_some] <;> rfl), by (with_reducible repeat (first | apply Kd.R_alloc | apply Kd.R_drewN | apply Kd.R_drew)); exact Kd.R_mono (Kd.R_far (p := ⟨gb327, 1, none⟩) (Kd.R_far (p := ⟨gb327, 0, none⟩) (Kd.R_types HO334.out BK327.out (by decide)) (fun _ hk => hk.2) (.int .i64 t331)) (fun _ hk => hk.2) (.slice Ao12 t332.length co12)) (fun _ hk => trivial), by (with_reducible repeat (first | apply Kd.R_alloc | apply Kd.R_drewN | apply Kd.R_drew)); exact Kd.R_mono (Kd.R_far (p := ⟨gb327, 1, none⟩) (Kd.R_far (p := ⟨gb327, 0, none⟩) (Kd.R_types HO339.out BK327.out (by decide)) (fun _ hk => hk.2) (.int .i64 t331)) (fun _ hk => hk.2) (.slice Ao12 t332.length co12)) (fun _ hk => trivial), by repeat (first | (with_reducible first | exact HB.out | apply below_alloc | apply pw_below_drewN | apply below_drew1 | refine below_set ?_ (IsS89.ge HI330.out) | refine below_set ?_ GE327.out | refine below_set ?_ GE336.out) | exact HB.out)⟩

end Go.Proofs.YtlahlfjhfmldaaaDoor.P
namespace Go.Proofs.YtlahlfjhfmldaaaDoor.P
open Go.RowKit Go.Proofs.YtlahlfjhfmldaaaDoorW.PrintWords Go.Proofs.YtlahlfjhfmldaaaDoorW.PrintLast Go.Proofs.YtlahlfjhfmldaaaDoorW.PrintMore
attribute [local go_sem] max2_int min2_int max_two min_two max_three min_three max_four min_four   -- for this text's walks alone
set_option linter.unusedVariables false
set_option linter.unusedSimpArgs false

/-! ### impl_StateValid: function 27 -/
def impl_StateValid.f (k : Nat) (a0_0 : Int) (l0_1 : List (S30)) (l1 : List Bool) : Option (Bool) := (impl_NetValid.f k a0_0 l0_1).bind fun t342 => (if t342 = true then (some ((l1.length : Int) == (l0_1.length : Int))) else (some false))
theorem impl_StateValid.mono : ∀ a0 a1 a2 k, LeO (impl_StateValid.f k a0 a1 a2) (impl_StateValid.f (k + 1) a0 a1 a2) := by
  intro a0 a1 a2 k
  unfold impl_StateValid.f
  repeat' first
      | (with_reducible exact impl_NetValid.mono _ _ _)
      | (with_reducible exact LeO.refl _)
      | (with_reducible exact LeO.none _)
      | (with_reducible refine LeO.ite ?_ ?_)
      | (with_reducible refine LeO.bind ?_ (fun _ => ?_))
      | exact impl_NetValid.mono _ _ _
      | exact LeO.none _
      | refine LeO.ite ?_ ?_
      | refine LeO.bind ?_ (fun _ => ?_)
set_option maxHeartbeats 8000000 in
set_option maxRecDepth 100000 in
theorem impl_StateValid.calls (k : Nat) (a0_0 : Int) (A0_1 : Option Addr) (c0_1 : Nat) (l0_1 : List (S30)) (A1 : Option Addr) (c1 : Nat) (l1 : List Bool) (r : Bool) (w : World) (hr0_1 : Kd.C k30 w A0_1 l0_1.length l0_1) (hc0_1 : l0_1.length ≤ c0_1) (hr1 : Kd.C Kd.bool w A1 l1.length l1) (hc1 : l1.length ≤ c1) (h : impl_StateValid.f k a0_0 l0_1 l1 = some r) :
    Calls Tryd.prog 27 #[.agg #[.int .i64 a0_0, .slice A0_1 l0_1.length c0_1], .slice A1 l1.length c1] w fun e w' => e = .returned (.bool r) ∧ Below w.heap.size w w' := by
  have hu25 := Tryd.underlying25
  have HR0_1 := Aside0.mk hr0_1
  have HC0_1 := Aside0.mk hc0_1
  clear hr0_1 hc0_1
  have HR1 := Aside0.mk hr1
  have HC1 := Aside0.mk hc1
  clear hr1 hc1
  have HB := Aside0.mk (Below.refl w.heap.size w)
  have H : ((impl_NetValid.f k a0_0 l0_1).bind fun t342 => (if t342 = true then (some ((l1.length : Int) == (l0_1.length : Int))) else (some false))) = some r := h
  clear h
  replace H := Option.bind_eq_some_iff.mp H
  obtain ⟨t342, A30, H⟩ := H
  replace H : (if t342 = true then (some ((l1.length : Int) == (l0_1.length : Int))) else (some false)) = some r := H
  have A3 := Aside0.mk A30
  clear A30
  by_cases c4 : t342 = true
  · subst c4
    have H1 : (some ((l1.length : Int) == (l0_1.length : Int))) = some r := by rw [if_pos rfl] at H; exact H
    clear H
    have H := H1
    clear H1
    obtain rfl := Option.some.inj H
    go_enter Tryd.func27, Tryd.ntmps27
    go_wp2_with (first | ((with_reducible refine gate_dst (N := 2) rfl ?_); refine box_event ?hg (N := 2) ?hd (cs := #[.int .i64 a0_0, .slice A0_1 l0_1.length c0_1]) (t := 25) ?hr ?_; (case hd => rfl); (case hg => rfl); (case hr => first | (go_simp; done) | (go_simp; rfl)); intro gb341 hg w5 hbox hb; have n0_ := Aside0.mk (below_step (by repeat (first | (with_reducible first | exact HB.out | apply below_alloc | apply pw_below_drewN | apply below_drew1) | exact HB.out)) hb); have n1_ := Aside0.mk (hbox); have n2_ := Aside0.mk ((by rw [hg]; exact (below_size (by repeat (first | (with_reducible first | exact HB.out | apply below_alloc | apply pw_below_drewN | apply below_drew1) | exact HB.out))) : w.heap.size ≤ gb341)); have n3_ := Aside0.mk ((by rw [hg]; exact (below_size (by repeat (first | (with_reducible first | exact HB.out | apply below_alloc | apply pw_below_drewN | apply below_drew1) | exact HB.out))) : w.heap.size ≤ gb341)); clear HB; have HB := n0_; have BK341 := n1_; have GW341 := n2_; have GE341 := n3_; clear n0_ n1_ n2_ n3_; clear hb hbox hg; have hcz6_0 : w5.cell? ⟨gb341, 0, none⟩ = some (.int .i64 a0_0) := (blk_cell BK341.out 0).trans rfl; have hcz6_1 : w5.cell? ⟨gb341, 1, none⟩ = some (.slice A0_1 l0_1.length c0_1) := (blk_cell BK341.out 1).trans rfl; have hfz6_0 := blk_frozen BK341.out 0; have hfz6_1 := blk_frozen BK341.out 1) | ((with_reducible refine gate_callee (f := 13) rfl ?_); refine goesL_ (some 6) rfl rfl Tryd.func13 (by kernel_rfl) rfl #[.agg #[.int .i64 a0_0, .slice A0_1 l0_1.length c0_1]] rfl (by (try simp only [List.map_toArray, List.map_cons, List.map_nil]); first | done | rfl | (simp only [List.length_drop, List.length_take]; rfl)) ?_; (with_reducible refine (impl_NetValid.calls k a0_0 _ _ l0_1 true _ ?side1 ?side2 A3.out).mono ?_); (case side1 => repeat (first | exact (Kd.C_below HR0_1.out HB.out) | (with_reducible refine Kd.C_alloc ?_ _) | (with_reducible refine Kd.C_drewN ?_ _) | (with_reducible refine Kd.C_drew ?_))); (case side2 => exact HC0_1.out); rintro e w7 ⟨rfl, hb⟩; refine ⟨_, rfl, ?_⟩; have n0_ := Aside0.mk (blk_below (g := gb341) (o := .cells #[.int .i64 a0_0, .slice A0_1 l0_1.length c0_1] 25 (0, 0)) (by (with_reducible repeat (first | refine blk_drewN ?_ _ | refine blk_drew ?_ | refine blk_alloc ?_ _)); exact BK341.out) hb); have n1_ := Aside0.mk (below_step (by repeat (first | (with_reducible first | exact HB.out | apply below_alloc | apply pw_below_drewN | apply below_drew1 | refine below_set ?_ GE341.out) | exact HB.out)) hb); clear BK341; clear HB; have BK341 := n0_; have HB := n1_; clear n0_ n1_; (try clear hb); (try clear hb2); (try clear hk); (try clear hi); have hcz8_0 : w7.cell? ⟨gb341, 0, none⟩ = some (.int .i64 a0_0) := (blk_cell BK341.out 0).trans rfl; have hcz8_1 : w7.cell? ⟨gb341, 1, none⟩ = some (.slice A0_1 l0_1.length c0_1) := (blk_cell BK341.out 1).trans rfl; have hfz8_0 := blk_frozen BK341.out 0; have hfz8_1 := blk_frozen BK341.out 1))
    go_ret
    exact ⟨by first | rfl | (simp [errW_none, errW_some] <;> rfl) | (simp [*, errW_none, errW_some] <;> rfl), by repeat (first | (with_reducible first | exact HB.out | apply below_alloc | apply pw_below_drewN | apply below_drew1 | refine below_set ?_ GE341.out) | exact HB.out)⟩
  · replace c4 := Bool.eq_false_iff.mpr c4
    subst c4
    have H1 : (some false) = some r := by rw [if_neg (show ¬ (false = true) by decide)] at H; exact H
    clear H
    have H := H1
    clear H1
    obtain rfl := Option.some.inj H
    go_enter Tryd.func27, Tryd.ntmps27
    go_wp2_with (first | ((with_reducible refine gate_dst (N := 2) rfl ?_); refine box_event ?hg (N := 2) ?hd (cs := #[.int .i64 a0_0, .slice A0_1 l0_1.length c0_1]) (t := 25) ?hr ?_; (case hd => rfl); (case hg => rfl); (case hr => first | (go_simp; done) | (go_simp; rfl)); intro gb341 hg w9 hbox hb; have n0_ := Aside0.mk (below_step (by repeat (first | (with_reducible first | exact HB.out | apply below_alloc | apply pw_below_drewN | apply below_drew1) | exact HB.out)) hb); have n1_ := Aside0.mk (hbox); have n2_ := Aside0.mk ((by rw [hg]; exact (below_size (by repeat (first | (with_reducible first | exact HB.out | apply below_alloc | apply pw_below_drewN | apply below_drew1) | exact HB.out))) : w.heap.size ≤ gb341)); have n3_ := Aside0.mk ((by rw [hg]; exact (below_size (by repeat (first | (with_reducible first | exact HB.out | apply below_alloc | apply pw_below_drewN | apply below_drew1) | exact HB.out))) : w.heap.size ≤ gb341)); clear HB; have HB := n0_; have BK341 := n1_; have GW341 := n2_; have GE341 := n3_; clear n0_ n1_ n2_ n3_; clear hb hbox hg; have hcz10_0 : w9.cell? ⟨gb341, 0, none⟩ = some (.int .i64 a0_0) := (blk_cell BK341.out 0).trans rfl; have hcz10_1 : w9.cell? ⟨gb341, 1, none⟩ = some (.slice A0_1 l0_1.length c0_1) := (blk_cell BK341.out 1).trans rfl; have hfz10_0 := blk_frozen BK341.out 0; have hfz10_1 := blk_frozen BK341.out 1) | ((with_reducible refine gate_callee (f := 13) rfl ?_); refine goesL_ (some 6) rfl rfl Tryd.func13 (by kernel_rfl) rfl #[.agg #[.int .i64 a0_0, .slice A0_1 l0_1.length c0_1]] rfl (by (try simp only [List.map_toArray, List.map_cons, List.map_nil]); first | done | rfl | (simp only [List.length_drop, List.length_take]; rfl)) ?_; (with_reducible refine (impl_NetValid.calls k a0_0 _ _ l0_1 false _ ?side1 ?side2 A3.out).mono ?_); (case side1 => repeat (first | exact (Kd.C_below HR0_1.out HB.out) | (with_reducible refine Kd.C_alloc ?_ _) | (with_reducible refine Kd.C_drewN ?_ _) | (with_reducible refine Kd.C_drew ?_))); (case side2 => exact HC0_1.out); rintro e w11 ⟨rfl, hb⟩; refine ⟨_, rfl, ?_⟩; have n0_ := Aside0.mk (blk_below (g := gb341) (o := .cells #[.int .i64 a0_0, .slice A0_1 l0_1.length c0_1] 25 (0, 0)) (by (with_reducible repeat (first | refine blk_drewN ?_ _ | refine blk_drew ?_ | refine blk_alloc ?_ _)); exact BK341.out) hb); have n1_ := Aside0.mk (below_step (by repeat (first | (with_reducible first | exact HB.out | apply below_alloc | apply pw_below_drewN | apply below_drew1 | refine below_set ?_ GE341.out) | exact HB.out)) hb); clear BK341; clear HB; have BK341 := n0_; have HB := n1_; clear n0_ n1_; (try clear hb); (try clear hb2); (try clear hk); (try clear hi)))
    go_ret
    exact ⟨by first | rfl | (simp [errW_none, errW_some] <;> rfl) | (simp [*, errW_none, errW_some] <;> rfl), by repeat (first | (with_reducible first | exact HB.out | apply below_alloc | apply pw_below_drewN | apply below_drew1 | refine below_set ?_ GE341.out) | exact HB.out)⟩

end Go.Proofs.YtlahlfjhfmldaaaDoor.P
namespace Go.Proofs.YtlahlfjhfmldaaaDoor.P
open Go.RowKit Go.Proofs.YtlahlfjhfmldaaaDoorW.PrintWords Go.Proofs.YtlahlfjhfmldaaaDoorW.PrintLast Go.Proofs.YtlahlfjhfmldaaaDoorW.PrintMore
attribute [local go_sem] max2_int min2_int max_two min_two max_three min_three max_four min_four   -- for this text's walks alone
set_option linter.unusedVariables false
set_option linter.unusedSimpArgs false

/-! ### spec_StateValid: function 28 -/
def spec_StateValid.f (k : Nat) (a0_0 : Int) (l0_1 : List (S30)) (l1 : List Bool) : Option (Bool) := (spec_NetValid.f k a0_0 l0_1).bind fun t344 => (if t344 = true then (some ((l1.length : Int) == (l0_1.length : Int))) else (some false))
theorem spec_StateValid.mono : ∀ a0 a1 a2 k, LeO (spec_StateValid.f k a0 a1 a2) (spec_StateValid.f (k + 1) a0 a1 a2) := by
  intro a0 a1 a2 k
  unfold spec_StateValid.f
  repeat' first
      | (with_reducible exact spec_NetValid.mono _ _ _)
      | (with_reducible exact LeO.refl _)
      | (with_reducible exact LeO.none _)
      | (with_reducible refine LeO.ite ?_ ?_)
      | (with_reducible refine LeO.bind ?_ (fun _ => ?_))
      | exact spec_NetValid.mono _ _ _
      | exact LeO.none _
      | refine LeO.ite ?_ ?_
      | refine LeO.bind ?_ (fun _ => ?_)
set_option maxHeartbeats 8000000 in
set_option maxRecDepth 100000 in
theorem spec_StateValid.calls (k : Nat) (a0_0 : Int) (A0_1 : Option Addr) (c0_1 : Nat) (l0_1 : List (S30)) (A1 : Option Addr) (c1 : Nat) (l1 : List Bool) (r : Bool) (w : World) (hr0_1 : Kd.C k30 w A0_1 l0_1.length l0_1) (hc0_1 : l0_1.length ≤ c0_1) (hr1 : Kd.C Kd.bool w A1 l1.length l1) (hc1 : l1.length ≤ c1) (h : spec_StateValid.f k a0_0 l0_1 l1 = some r) :
    Calls Tryd.prog 28 #[.agg #[.int .i64 a0_0, .slice A0_1 l0_1.length c0_1], .slice A1 l1.length c1] w fun e w' => e = .returned (.bool r) ∧ Below w.heap.size w w' := by
  have hu25 := Tryd.underlying25
  have HR0_1 := Aside0.mk hr0_1
  have HC0_1 := Aside0.mk hc0_1
  clear hr0_1 hc0_1
  have HR1 := Aside0.mk hr1
  have HC1 := Aside0.mk hc1
  clear hr1 hc1
  have HB := Aside0.mk (Below.refl w.heap.size w)
  have H : ((spec_NetValid.f k a0_0 l0_1).bind fun t344 => (if t344 = true then (some ((l1.length : Int) == (l0_1.length : Int))) else (some false))) = some r := h
  clear h
  replace H := Option.bind_eq_some_iff.mp H
  obtain ⟨t344, A30, H⟩ := H
  replace H : (if t344 = true then (some ((l1.length : Int) == (l0_1.length : Int))) else (some false)) = some r := H
  have A3 := Aside0.mk A30
  clear A30
  by_cases c4 : t344 = true
  · subst c4
    have H1 : (some ((l1.length : Int) == (l0_1.length : Int))) = some r := by rw [if_pos rfl] at H; exact H
    clear H
    have H := H1
    clear H1
    obtain rfl := Option.some.inj H
    go_enter Tryd.func28, Tryd.ntmps28
    go_wp2_with (first | ((with_reducible refine gate_dst (N := 2) rfl ?_); refine box_event ?hg (N := 2) ?hd (cs := #[.int .i64 a0_0, .slice A0_1 l0_1.length c0_1]) (t := 25) ?hr ?_; (case hd => rfl); (case hg => rfl); (case hr => first | (go_simp; done) | (go_simp; rfl)); intro gb343 hg w5 hbox hb; have n0_ := Aside0.mk (below_step (by repeat (first | (with_reducible first | exact HB.out | apply below_alloc | apply pw_below_drewN | apply below_drew1) | exact HB.out)) hb); have n1_ := Aside0.mk (hbox); have n2_ := Aside0.mk ((by rw [hg]; exact (below_size (by repeat (first | (with_reducible first | exact HB.out | apply below_alloc | apply pw_below_drewN | apply below_drew1) | exact HB.out))) : w.heap.size ≤ gb343)); have n3_ := Aside0.mk ((by rw [hg]; exact (below_size (by repeat (first | (with_reducible first | exact HB.out | apply below_alloc | apply pw_below_drewN | apply below_drew1) | exact HB.out))) : w.heap.size ≤ gb343)); clear HB; have HB := n0_; have BK343 := n1_; have GW343 := n2_; have GE343 := n3_; clear n0_ n1_ n2_ n3_; clear hb hbox hg; have hcz6_0 : w5.cell? ⟨gb343, 0, none⟩ = some (.int .i64 a0_0) := (blk_cell BK343.out 0).trans rfl; have hcz6_1 : w5.cell? ⟨gb343, 1, none⟩ = some (.slice A0_1 l0_1.length c0_1) := (blk_cell BK343.out 1).trans rfl; have hfz6_0 := blk_frozen BK343.out 0; have hfz6_1 := blk_frozen BK343.out 1) | ((with_reducible refine gate_callee (f := 14) rfl ?_); refine goesL_ (some 6) rfl rfl Tryd.func14 (by kernel_rfl) rfl #[.agg #[.int .i64 a0_0, .slice A0_1 l0_1.length c0_1]] rfl (by (try simp only [List.map_toArray, List.map_cons, List.map_nil]); first | done | rfl | (simp only [List.length_drop, List.length_take]; rfl)) ?_; (with_reducible refine (spec_NetValid.calls k a0_0 _ _ l0_1 true _ ?side1 ?side2 A3.out).mono ?_); (case side1 => repeat (first | exact (Kd.C_below HR0_1.out HB.out) | (with_reducible refine Kd.C_alloc ?_ _) | (with_reducible refine Kd.C_drewN ?_ _) | (with_reducible refine Kd.C_drew ?_))); (case side2 => exact HC0_1.out); rintro e w7 ⟨rfl, hb⟩; refine ⟨_, rfl, ?_⟩; have n0_ := Aside0.mk (blk_below (g := gb343) (o := .cells #[.int .i64 a0_0, .slice A0_1 l0_1.length c0_1] 25 (0, 0)) (by (with_reducible repeat (first | refine blk_drewN ?_ _ | refine blk_drew ?_ | refine blk_alloc ?_ _)); exact BK343.out) hb); have n1_ := Aside0.mk (below_step (by repeat (first | (with_reducible first | exact HB.out | apply below_alloc | apply pw_below_drewN | apply below_drew1 | refine below_set ?_ GE343.out) | exact HB.out)) hb); clear BK343; clear HB; have BK343 := n0_; have HB := n1_; clear n0_ n1_; (try clear hb); (try clear hb2); (try clear hk); (try clear hi); have hcz8_0 : w7.cell? ⟨gb343, 0, none⟩ = some (.int .i64 a0_0) := (blk_cell BK343.out 0).trans rfl; have hcz8_1 : w7.cell? ⟨gb343, 1, none⟩ = some (.slice A0_1 l0_1.length c0_1) := (blk_cell BK343.out 1).trans rfl; have hfz8_0 := blk_frozen BK343.out 0; have hfz8_1 := blk_frozen BK343.out 1))
    go_ret
    exact ⟨by first | rfl | (simp [errW_none, errW_some] <;> rfl) | (simp [*, errW_none, errW_some] <;> rfl), by repeat (first | (with_reducible first | exact HB.out | apply below_alloc | apply pw_below_drewN | apply below_drew1 | refine below_set ?_ GE343.out) | exact HB.out)⟩
  · replace c4 := Bool.eq_false_iff.mpr c4
    subst c4
    have H1 : (some false) = some r := by rw [if_neg (show ¬ (false = true) by decide)] at H; exact H
    clear H
    have H := H1
    clear H1
    obtain rfl := Option.some.inj H
    go_enter Tryd.func28, Tryd.ntmps28
    go_wp2_with (first | ((with_reducible refine gate_dst (N := 2) rfl ?_); refine box_event ?hg (N := 2) ?hd (cs := #[.int .i64 a0_0, .slice A0_1 l0_1.length c0_1]) (t := 25) ?hr ?_; (case hd => rfl); (case hg => rfl); (case hr => first | (go_simp; done) | (go_simp; rfl)); intro gb343 hg w9 hbox hb; have n0_ := Aside0.mk (below_step (by repeat (first | (with_reducible first | exact HB.out | apply below_alloc | apply pw_below_drewN | apply below_drew1) | exact HB.out)) hb); have n1_ := Aside0.mk (hbox); have n2_ := Aside0.mk ((by rw [hg]; exact (below_size (by repeat (first | (with_reducible first | exact HB.out | apply below_alloc | apply pw_below_drewN | apply below_drew1) | exact HB.out))) : w.heap.size ≤ gb343)); have n3_ := Aside0.mk ((by rw [hg]; exact (below_size (by repeat (first | (with_reducible first | exact HB.out | apply below_alloc | apply pw_below_drewN | apply below_drew1) | exact HB.out))) : w.heap.size ≤ gb343)); clear HB; have HB := n0_; have BK343 := n1_; have GW343 := n2_; have GE343 := n3_; clear n0_ n1_ n2_ n3_; clear hb hbox hg; have hcz10_0 : w9.cell? ⟨gb343, 0, none⟩ = some (.int .i64 a0_0) := (blk_cell BK343.out 0).trans rfl; have hcz10_1 : w9.cell? ⟨gb343, 1, none⟩ = some (.slice A0_1 l0_1.length c0_1) := (blk_cell BK343.out 1).trans rfl; have hfz10_0 := blk_frozen BK343.out 0; have hfz10_1 := blk_frozen BK343.out 1) | ((with_reducible refine gate_callee (f := 14) rfl ?_); refine goesL_ (some 6) rfl rfl Tryd.func14 (by kernel_rfl) rfl #[.agg #[.int .i64 a0_0, .slice A0_1 l0_1.length c0_1]] rfl (by (try simp only [List.map_toArray, List.map_cons, List.map_nil]); first | done | rfl | (simp only [List.length_drop, List.length_take]; rfl)) ?_; (with_reducible refine (spec_NetValid.calls k a0_0 _ _ l0_1 false _ ?side1 ?side2 A3.out).mono ?_); (case side1 => repeat (first | exact (Kd.C_below HR0_1.out HB.out) | (with_reducible refine Kd.C_alloc ?_ _) | (with_reducible refine Kd.C_drewN ?_ _) | (with_reducible refine Kd.C_drew ?_))); (case side2 => exact HC0_1.out); rintro e w11 ⟨rfl, hb⟩; refine ⟨_, rfl, ?_⟩; have n0_ := Aside0.mk (blk_below (g := gb343) (o := .cells #[.int .i64 a0_0, .slice A0_1 l0_1.length c0_1] 25 (0, 0)) (by (with_reducible repeat (first | refine blk_drewN ?_ _ | refine blk_drew ?_ | refine blk_alloc ?_ _)); exact BK343.out) hb); have n1_ := Aside0.mk (below_step (by repeat (first | (with_reducible first | exact HB.out | apply below_alloc | apply pw_below_drewN | apply below_drew1 | refine below_set ?_ GE343.out) | exact HB.out)) hb); clear BK343; clear HB; have BK343 := n0_; have HB := n1_; clear n0_ n1_; (try clear hb); (try clear hb2); (try clear hk); (try clear hi)))
    go_ret
    exact ⟨by first | rfl | (simp [errW_none, errW_some] <;> rfl) | (simp [*, errW_none, errW_some] <;> rfl), by repeat (first | (with_reducible first | exact HB.out | apply below_alloc | apply pw_below_drewN | apply below_drew1 | refine below_set ?_ GE343.out) | exact HB.out)⟩

end Go.Proofs.YtlahlfjhfmldaaaDoor.P

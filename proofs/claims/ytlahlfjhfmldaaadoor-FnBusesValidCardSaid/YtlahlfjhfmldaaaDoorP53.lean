/- Contracts of Go functions of this seat's translation, written by this repo's wip/mk.py: it calls the kit's print.py with contracts typed by hand in place of functions that it does not take. Not trusted: Lean checks it. -/
import Derived.Test.YtlahlfjhfmldaaaDoorP0
import Derived.Test.YtlahlfjhfmldaaaDoorP2
import Derived.Test.YtlahlfjhfmldaaaDoorP3
import Derived.Test.YtlahlfjhfmldaaaDoorP6
import Derived.Test.YtlahlfjhfmldaaaDoorP51
namespace Go.Proofs.YtlahlfjhfmldaaaDoor.P
open Go.RowKit Go.Proofs.YtlahlfjhfmldaaaDoorW.PrintWords Go.Proofs.YtlahlfjhfmldaaaDoorW.PrintLast Go.Proofs.YtlahlfjhfmldaaaDoorW.PrintMore
attribute [local go_sem] max2_int min2_int max_two min_two max_three min_three max_four min_four   -- for this text's walks alone
set_option linter.unusedVariables false
set_option linter.unusedSimpArgs false

/-! ### spec_DrawBusesValid: function 41 -/
def spec_DrawBusesValid.f (k : Nat) (l0 : List Int) : Option (Int × (List (S30)) × (List (S65))) := (spec_l20Open.f l0).bind fun bt553 => ((spec_l20Net.f k bt553.1 bt553.2 6).bind fun bt556 => ((spec_l20Buses.f k bt553.1 bt556.2.2 bt556.1 bt556.2.1 2).bind fun bt562 => (some (bt556.1, bt556.2.1, bt562.1))))
theorem spec_DrawBusesValid.mono : ∀ a0 k, LeO (spec_DrawBusesValid.f k a0) (spec_DrawBusesValid.f (k + 1) a0) := by
  intro a0 k
  unfold spec_DrawBusesValid.f
  repeat' first
      | (with_reducible exact spec_l20Buses.mono _ _ _ _ _ _)
      | (with_reducible exact spec_l20Net.mono _ _ _ _)
      | (with_reducible exact LeO.refl _)
      | (with_reducible exact LeO.none _)
      | (with_reducible refine LeO.ite ?_ ?_)
      | (with_reducible refine LeO.bind ?_ (fun _ => ?_))
      | exact spec_l20Buses.mono _ _ _ _ _ _
      | exact spec_l20Net.mono _ _ _ _
      | exact LeO.none _
      | refine LeO.ite ?_ ?_
      | refine LeO.bind ?_ (fun _ => ?_)
set_option maxHeartbeats 8000000 in
set_option maxRecDepth 100000 in
theorem spec_DrawBusesValid.calls (k : Nat) (A0 : Option Addr) (c0 : Nat) (l0 : List Int) (r1 : Int) (r2 : List (S30)) (r3 : List (S65)) (w : World) (hr0 : Kd.C (Kd.int .u8) w A0 l0.length l0) (hc0 : l0.length ≤ c0) (h : spec_DrawBusesValid.f k l0 = some (r1, r2, r3)) :
    Calls Tryd.prog 41 #[.slice A0 l0.length c0] w fun e w' => ∃ v1_ v2_ : Value, e = .returned (.tuple #[.agg #[.int .i64 r1, v1_], v2_]) ∧ Kd.R k30 30 w' w.heap.size (fun _ => True) v1_ r2 ∧ Kd.R k65 65 w' w.heap.size (fun _ => True) v2_ r3 ∧ Below w.heap.size w w' := by
  have hu25 := Tryd.underlying25
  have HR0 := Aside0.mk hr0
  have HC0 := Aside0.mk hc0
  clear hr0 hc0
  have HB := Aside0.mk (Below.refl w.heap.size w)
  have H : ((spec_l20Open.f l0).bind fun bt553 => ((spec_l20Net.f k bt553.1 bt553.2 6).bind fun bt556 => ((spec_l20Buses.f k bt553.1 bt556.2.2 bt556.1 bt556.2.1 2).bind fun bt562 => (some (bt556.1, bt556.2.1, bt562.1))))) = some (r1, r2, r3) := h
  clear h
  replace H := Option.bind_eq_some_iff.mp H
  obtain ⟨⟨t553, t554⟩, A20, H⟩ := H
  replace H : ((spec_l20Net.f k t553 t554 6).bind fun bt556 => ((spec_l20Buses.f k t553 bt556.2.2 bt556.1 bt556.2.1 2).bind fun bt562 => (some (bt556.1, bt556.2.1, bt562.1)))) = some (r1, r2, r3) := H
  have A2 := Aside0.mk A20
  clear A20
  replace H := Option.bind_eq_some_iff.mp H
  obtain ⟨⟨t556, t557, t560⟩, A30, H⟩ := H
  replace H : ((spec_l20Buses.f k t553 t560 t556 t557 2).bind fun bt562 => (some (t556, t557, bt562.1))) = some (r1, r2, r3) := H
  have A3 := Aside0.mk A30
  clear A30
  replace H := Option.bind_eq_some_iff.mp H
  obtain ⟨⟨t562, t565⟩, A40, H⟩ := H
  replace H : (some (t556, t557, t562)) = some (r1, r2, r3) := H
  have A4 := Aside0.mk A40
  clear A40
  simp only [Option.some.injEq, Prod.mk.injEq] at H
  obtain ⟨rfl, rfl, rfl⟩ := H
  go_enter Tryd.func41, Tryd.ntmps41
  try go_wp2_with (first | ((with_reducible refine gate_dst (N := 2) rfl ?_); refine box_event ?hg (N := 2) ?hd (cs := #[.int .i64 0, .slice none 0 0]) (t := 25) ?hr ?_; (case hd => rfl); (case hg => rfl); (case hr => first | (go_simp; done) | (go_simp; rfl)); intro gb552 hg w5 hbox hb; have n0_ := Aside0.mk (below_step (by repeat (first | (with_reducible first | exact HB.out | apply below_alloc | apply pw_below_drewN | apply below_drew1) | exact HB.out)) hb); have n1_ := Aside0.mk (hbox); have n2_ := Aside0.mk ((by rw [hg]; exact (below_size (by repeat (first | (with_reducible first | exact HB.out | apply below_alloc | apply pw_below_drewN | apply below_drew1) | exact HB.out))) : w.heap.size ≤ gb552)); have n3_ := Aside0.mk ((by rw [hg]; exact (below_size (by repeat (first | (with_reducible first | exact HB.out | apply below_alloc | apply pw_below_drewN | apply below_drew1) | exact HB.out))) : w.heap.size ≤ gb552)); clear HB; have HB := n0_; have BK552 := n1_; have GW552 := n2_; have GE552 := n3_; clear n0_ n1_ n2_ n3_; clear hb hbox hg) | ((with_reducible refine gate_callee (f := 47) rfl ?_); refine goesL_ (some 7) rfl rfl Tryd.func47 (by kernel_rfl) rfl #[.slice A0 l0.length c0] rfl (by (try simp only [List.map_toArray, List.map_cons, List.map_nil]); first | done | rfl | (simp only [List.length_drop, List.length_take]; rfl)) ?_; (with_reducible refine (spec_l20Open.calls _ _ l0 t553 t554 w _ ?side1 ?side2 ?side3 A2.out).mono ?_); (case side1 => repeat (first | (with_reducible first | exact HB.out | apply below_alloc | apply pw_below_drewN | apply below_drew1 | refine below_set ?_ GE552.out) | exact HB.out)); (case side2 => exact HR0.out); (case side3 => exact HC0.out); rintro e w6 ⟨g555, rfl, hi, hb, hb2⟩; refine ⟨_, rfl, ?_⟩; have n0_ := Aside0.mk (blk_below (g := gb552) (o := .cells #[.int .i64 0, .slice none 0 0] 25 (0, 0)) (by (with_reducible repeat (first | refine blk_drewN ?_ _ | refine blk_drew ?_ | refine blk_alloc ?_ _)); exact BK552.out) hb2); have n1_ := Aside0.mk (hb); have n2_ := Aside0.mk (hi); have n3_ := Aside0.mk (IsS89.ne_blk hi (blk_below (g := gb552) (o := .cells #[.int .i64 0, .slice none 0 0] 25 (0, 0)) (by (with_reducible repeat (first | refine blk_drewN ?_ _ | refine blk_drew ?_ | refine blk_alloc ?_ _)); exact BK552.out) hb2) (by decide)); have n4_ := Aside0.mk (Ne.symm (IsS89.ne_blk hi (blk_below (g := gb552) (o := .cells #[.int .i64 0, .slice none 0 0] 25 (0, 0)) (by (with_reducible repeat (first | refine blk_drewN ?_ _ | refine blk_drew ?_ | refine blk_alloc ?_ _)); exact BK552.out) hb2) (by decide))); clear BK552; clear HB; have BK552 := n0_; have HB := n1_; have HI555 := n2_; have NB555_552 := n3_; have NB552_555 := n4_; clear n0_ n1_ n2_ n3_ n4_; (try clear hb); (try clear hb2); (try clear hk); (try clear hi)) | ((with_reducible refine gate_callee (f := 46) rfl ?_); refine goesL_ (some 9) rfl rfl Tryd.func46 (by kernel_rfl) rfl #[.pointer (some ⟨g555, 0, none⟩), .int .i64 6] rfl (by (try simp only [List.map_toArray, List.map_cons, List.map_nil]); first | done | rfl | (simp only [List.length_drop, List.length_take]; rfl)) ?_; (with_reducible refine (spec_l20Net.calls k g555 t553 t554 6 t556 t557 t560 w _ ?side1 ?side2 A3.out).mono ?_); (case side1 => repeat (first | (with_reducible first | exact HI555.out | apply IsS89.alloc | apply IsS89.drewN | apply IsS89.drew | apply IsS89.set_1 | refine IsS89.far ?_ NB555_552.out _) | exact HI555.out)); (case side2 => repeat (first | (with_reducible first | exact HB.out | apply below_alloc | apply pw_below_drewN | apply below_drew1 | refine below_set ?_ (IsS89.ge HI555.out) | refine below_set ?_ GE552.out) | exact HB.out)); rintro e w7 ⟨v558, rfl, ho0, hi, hb, hk⟩; refine ⟨_, rfl, ?_⟩; have n0_ := Aside0.mk (KeepBut.blk hk (g' := gb552) (o := .cells #[.int .i64 0, .slice none 0 0] 25 (0, 0)) (by (with_reducible repeat (first | refine blk_drewN ?_ _ | refine blk_drew ?_ | refine blk_alloc ?_ _)); exact BK552.out) NB552_555.out (by simp)); have n1_ := Aside0.mk (Kd.R_lower ho0 (below_size (by repeat (first | (with_reducible first | exact HB.out | apply below_alloc | apply pw_below_drewN | apply below_drew1 | refine below_set ?_ (IsS89.ge HI555.out) | refine below_set ?_ GE552.out) | exact HB.out)))); have n2_ := Aside0.mk (hb); have n3_ := Aside0.mk (hi); clear BK552; clear HB; clear HI555; have BK552 := n0_; have HO559 := n1_; have HB := n2_; have HI555 := n3_; clear n0_ n1_ n2_ n3_; (try clear hb); (try clear hb2); (try clear hk); (try clear hi); (try clear ho0)) | ((with_reducible refine gate_dst (N := 5) rfl ?_); refine box_event ?hg (N := 5) ?hd (cs := #[.int .i64 0, .slice none 0 0]) (t := 25) ?hr ?_; (case hd => rfl); (case hg => rfl); (case hr => first | (go_simp; done) | (go_simp; rfl)); intro gb561 hg w8 hbox hb; have n0_ := Aside0.mk (Kd.R_below (by (with_reducible repeat (first | apply Kd.R_alloc | apply Kd.R_drewN | apply Kd.R_drew)); exact HO559.out) hb); have n1_ := Aside0.mk (blk_below (g := gb552) (o := .cells #[.int .i64 0, .slice none 0 0] 25 (0, 0)) (by (with_reducible repeat (first | refine blk_drewN ?_ _ | refine blk_drew ?_ | refine blk_alloc ?_ _)); exact BK552.out) hb); have n2_ := Aside0.mk (IsS89.below (by repeat (first | (with_reducible first | exact HI555.out | apply IsS89.alloc | apply IsS89.drewN | apply IsS89.drew | apply IsS89.set_1 | refine IsS89.far ?_ NB555_552.out _) | exact HI555.out)) hb); have n3_ := Aside0.mk (below_step (by repeat (first | (with_reducible first | exact HB.out | apply below_alloc | apply pw_below_drewN | apply below_drew1 | refine below_set ?_ (IsS89.ge HI555.out) | refine below_set ?_ GE552.out) | exact HB.out)) hb); have n4_ := Aside0.mk (hbox); have n5_ := Aside0.mk ((by rw [hg]; exact (below_size (by repeat (first | (with_reducible first | exact HB.out | apply below_alloc | apply pw_below_drewN | apply below_drew1 | refine below_set ?_ (IsS89.ge HI555.out) | refine below_set ?_ GE552.out) | exact HB.out))) : w.heap.size ≤ gb561)); have n6_ := Aside0.mk ((by rw [hg]; exact (below_size (by repeat (first | (with_reducible first | exact HB.out | apply below_alloc | apply pw_below_drewN | apply below_drew1 | refine below_set ?_ (IsS89.ge HI555.out) | refine below_set ?_ GE552.out) | exact HB.out))) : w.heap.size ≤ gb561)); have n7_ := Aside0.mk ((by rw [hg]; exact Nat.ne_of_lt (blk_lt (g := gb552) (o := .cells #[.int .i64 0, .slice none 0 0] 25 (0, 0)) (by (with_reducible repeat (first | refine blk_drewN ?_ _ | refine blk_drew ?_ | refine blk_alloc ?_ _)); exact BK552.out)) : gb552 ≠ gb561)); have n8_ := Aside0.mk ((by rw [hg]; exact Nat.ne_of_gt (blk_lt (g := gb552) (o := .cells #[.int .i64 0, .slice none 0 0] 25 (0, 0)) (by (with_reducible repeat (first | refine blk_drewN ?_ _ | refine blk_drew ?_ | refine blk_alloc ?_ _)); exact BK552.out)) : gb561 ≠ gb552)); have n9_ := Aside0.mk ((by rw [hg]; exact Nat.ne_of_lt (IsS89.lt (show IsS89 w _ g555 t553 t560 from by repeat (first | (with_reducible first | exact HI555.out | apply IsS89.alloc | apply IsS89.drewN | apply IsS89.drew | apply IsS89.set_1 | refine IsS89.far ?_ NB555_552.out _) | exact HI555.out))) : g555 ≠ gb561)); have n10_ := Aside0.mk ((by rw [hg]; exact Nat.ne_of_gt (IsS89.lt (show IsS89 w _ g555 t553 t560 from by repeat (first | (with_reducible first | exact HI555.out | apply IsS89.alloc | apply IsS89.drewN | apply IsS89.drew | apply IsS89.set_1 | refine IsS89.far ?_ NB555_552.out _) | exact HI555.out))) : gb561 ≠ g555)); clear HO559; clear BK552; clear HI555; clear HB; have HO559 := n0_; have BK552 := n1_; have HI555 := n2_; have HB := n3_; have BK561 := n4_; have GW561 := n5_; have GE561 := n6_; have NB552_561 := n7_; have NB561_552 := n8_; have NB555_561 := n9_; have NB561_555 := n10_; clear n0_ n1_ n2_ n3_ n4_ n5_ n6_ n7_ n8_ n9_ n10_; clear hb hbox hg; have hnb9 := NB561_552.out; have hnc9 := NB552_561.out; have hnb10 := NB561_555.out; have hnc10 := NB555_561.out; have hcz11_0 : w8.cell? ⟨gb561, 0, none⟩ = some (.int .i64 0) := (blk_cell BK561.out 0).trans rfl; have hcz11_1 : w8.cell? ⟨gb561, 1, none⟩ = some (.slice none 0 0) := (blk_cell BK561.out 1).trans rfl; have hfz11_0 := blk_frozen BK561.out 0; have hfz11_1 := blk_frozen BK561.out 1; obtain ⟨Ao12, co12, eo12⟩ := Kd.R_slice HO559.out; subst eo12))
  have n0_ : Aside0 (Kd.R k30 30 ((w8.setCell ⟨gb561, 0, none⟩ (.int .i64 t556)).setCell ⟨gb561, 1, none⟩ (.slice Ao12 t557.length co12)) w.heap.size (fun _ => True) (.slice Ao12 t557.length co12) t557) := ⟨by (with_reducible repeat (first | apply Kd.R_alloc | apply Kd.R_drewN | apply Kd.R_drew)); exact Kd.R_mono (Kd.R_far (p := ⟨gb561, 1, none⟩) (Kd.R_far (p := ⟨gb561, 0, none⟩) (Kd.R_types HO559.out BK561.out (by decide)) (fun _ hk => hk.2) (.int .i64 t556)) (fun _ hk => hk.2) (.slice Ao12 t557.length co12)) (fun _ hk => trivial)⟩
  have n1_ : Aside0 (((w8.setCell ⟨gb561, 0, none⟩ (.int .i64 t556)).setCell ⟨gb561, 1, none⟩ (.slice Ao12 t557.length co12)).heap[gb552]? = some (.cells #[.int .i64 0, .slice none 0 0] 25 (0, 0))) := ⟨by (with_reducible repeat (first | refine blk_drewN ?_ _ | refine blk_drew ?_ | refine blk_alloc ?_ _)); refine blk_far ?_ NB552_561.out _; (with_reducible repeat (first | refine blk_drewN ?_ _ | refine blk_drew ?_ | refine blk_alloc ?_ _)); refine blk_far ?_ NB552_561.out _; (with_reducible repeat (first | refine blk_drewN ?_ _ | refine blk_drew ?_ | refine blk_alloc ?_ _)); exact BK552.out⟩
  have n2_ : Aside0 (((w8.setCell ⟨gb561, 0, none⟩ (.int .i64 t556)).setCell ⟨gb561, 1, none⟩ (.slice Ao12 t557.length co12)).heap[gb561]? = some (.cells #[.int .i64 t556, .slice Ao12 t557.length co12] 25 (0, 0))) := ⟨by (with_reducible repeat (first | refine blk_drewN ?_ _ | refine blk_drew ?_ | refine blk_alloc ?_ _)); refine blk_put (cs := #[.int .i64 t556, .slice none 0 0]) ?_ 1 _ rfl; (with_reducible repeat (first | refine blk_drewN ?_ _ | refine blk_drew ?_ | refine blk_alloc ?_ _)); refine blk_put (cs := #[.int .i64 0, .slice none 0 0]) ?_ 0 _ rfl; (with_reducible repeat (first | refine blk_drewN ?_ _ | refine blk_drew ?_ | refine blk_alloc ?_ _)); exact BK561.out⟩
  have n3_ : Aside0 (IsS89 w ((w8.setCell ⟨gb561, 0, none⟩ (.int .i64 t556)).setCell ⟨gb561, 1, none⟩ (.slice Ao12 t557.length co12)) g555 t553 t560) := ⟨by repeat (first | (with_reducible first | exact HI555.out | apply IsS89.alloc | apply IsS89.drewN | apply IsS89.drew | apply IsS89.set_1 | refine IsS89.far ?_ NB555_552.out _ | refine IsS89.far ?_ NB555_561.out _) | exact HI555.out)⟩
  have n4_ : Aside0 (Below w.heap.size w ((w8.setCell ⟨gb561, 0, none⟩ (.int .i64 t556)).setCell ⟨gb561, 1, none⟩ (.slice Ao12 t557.length co12))) := ⟨by repeat (first | (with_reducible first | exact HB.out | apply below_alloc | apply pw_below_drewN | apply below_drew1 | refine below_set ?_ (IsS89.ge HI555.out) | refine below_set ?_ GE552.out | refine below_set ?_ GE561.out) | exact HB.out)⟩
  (try clear HO559)
  (try clear BK552)
  (try clear BK561)
  (try clear HI555)
  (try clear HB)
  generalize ((w8.setCell ⟨gb561, 0, none⟩ (.int .i64 t556)).setCell ⟨gb561, 1, none⟩ (.slice Ao12 t557.length co12)) = w13 at n0_ n1_ n2_ n3_ n4_ ⊢
  have HO559 := n0_
  have BK552 := n1_
  have BK561 := n2_
  have HI555 := n3_
  have HB := n4_
  clear n0_ n1_ n2_ n3_ n4_
  have n0_ := Aside0.mk (Kd.R_drew HO559.out)
  have n1_ := Aside0.mk (blk_drew BK552.out)
  have n2_ := Aside0.mk (blk_drew BK561.out)
  have n3_ := Aside0.mk (IsS89.drew HI555.out)
  have n4_ := Aside0.mk (below_drew1 HB.out)
  clear HO559
  clear BK552
  clear BK561
  clear HI555
  clear HB
  have HO559 := n0_
  have BK552 := n1_
  have BK561 := n2_
  have HI555 := n3_
  have HB := n4_
  clear n0_ n1_ n2_ n3_ n4_
  refine start_ (n := 6) (S := fun w' => w'.cell? ⟨gb561, 0, none⟩ = some (.int .i64 t556) ∧ w'.cell? ⟨gb561, 1, none⟩ = some (.slice Ao12 t557.length co12)) (ds := []) #[false, false, false, false, false, false] (by kernel_rfl) rfl rfl ⟨(blk_cell BK561.out 0).trans rfl, (blk_cell BK561.out 1).trans rfl⟩ (fun hHeld => ?_)
  generalize w13.drew = w14 at HO559 BK552 BK561 HI555 HB hHeld ⊢
  refine pure_ (i := 1) (N := some 11) (v := ?_) (a' := ?_) #[false, true, false, false, false, false] rfl rfl (by kernel_rfl) (fun _ _ _ h => h) (Or.inl ⟨by rfl, ?_⟩) ?_ ?_
  rotate_left
  · intro w'
    go_simp
    with_reducible rfl
  rotate_left
  · simp only [Act.put, List.setIfInBounds_toArray, List.set_cons_zero, List.set_cons_succ, i64_w, i32_w]
    rfl
  refine take_ (i := 0) (N := some 10) (v := ?_) (a' := ?_) #[true, true, false, false, false, false] rfl rfl (by kernel_rfl) (fun _ _ _ h => h) (Or.inl ⟨by rfl, ?_⟩) hHeld ?_ ?_
  rotate_left
  · rintro w' ⟨s0, s1⟩
    go_simp
    with_reducible rfl
  rotate_left
  · simp only [Act.put, List.setIfInBounds_toArray, List.set_cons_zero, List.set_cons_succ, i64_w, i32_w]
    rfl
  refine take_ (i := 2) (N := some 12) (v := ?_) (a' := ?_) #[true, true, true, false, false, false] rfl rfl (by kernel_rfl) (fun _ _ _ h => h) (Or.inl ⟨by rfl, ?_⟩) hHeld ?_ ?_
  rotate_left
  · rintro w' ⟨s0, s1⟩
    go_simp
    with_reducible rfl
  rotate_left
  · simp only [Act.put, List.setIfInBounds_toArray, List.set_cons_zero, List.set_cons_succ, i64_w, i32_w]
    rfl
  refine one_ (i := 3) (N := some 13) #[true, true, true, true, false, false] rfl rfl (by kernel_rfl) (by decide) (fun K hK => ?_)
  refine goes_ Tryd.func62 (by kernel_rfl) rfl #[.pointer (some ⟨g555, 0, none⟩), .agg #[.int .i64 t556, .slice Ao12 t557.length co12], .int .i64 2] (by rfl) rfl rfl (by (try simp only [List.map_toArray, List.map_cons, List.map_nil]); first | done | rfl | (simp only [List.length_drop, List.length_take]; rfl)) ?_
  with_reducible refine (spec_l20Buses.calls k g555 t553 t560 t556 _ _ t557 2 t562 t565 w _ ?side1 ?side2 ?side3 ?side4 A4.out).mono ?_
  (case side1 => repeat (first | (with_reducible first | exact HI555.out | apply IsS89.alloc | apply IsS89.drewN | apply IsS89.drew | apply IsS89.set_1 | refine IsS89.far ?_ NB555_552.out _ | refine IsS89.far ?_ NB555_561.out _) | exact HI555.out))
  (case side2 => repeat (first | (with_reducible first | exact HB.out | apply below_alloc | apply pw_below_drewN | apply below_drew1 | refine below_set ?_ (IsS89.ge HI555.out) | refine below_set ?_ GE552.out | refine below_set ?_ GE561.out) | exact HB.out))
  (case side3 => exact Kd.C_foot_own (IsS89.apart (show IsS89 w _ g555 t553 t560 from by repeat (first | (with_reducible first | exact HI555.out | apply IsS89.alloc | apply IsS89.drewN | apply IsS89.drew | apply IsS89.set_1 | refine IsS89.far ?_ NB555_552.out _ | refine IsS89.far ?_ NB555_561.out _) | exact HI555.out)) (by (with_reducible repeat (first | apply Kd.R_alloc | apply Kd.R_drewN | apply Kd.R_drew)); exact HO559.out) (by decide)) (fun _ h_ => h_.2))
  (case side4 => exact (Kd.R_reads' HO559.out).2.1)
  rintro e w15 ⟨v563, rfl, ho0, hi, hb, hk⟩
  refine ⟨_, rfl, ?_⟩
  have n0_ := Aside0.mk (KeepBut.blk hk (g' := gb552) (o := .cells #[.int .i64 0, .slice none 0 0] 25 (0, 0)) (by (with_reducible repeat (first | refine blk_drewN ?_ _ | refine blk_drew ?_ | refine blk_alloc ?_ _)); exact BK552.out) NB552_555.out (by simp))
  have n1_ := Aside0.mk (Kd.R_mono (Kd.R_keep (IsS89.apart (show IsS89 w _ g555 t553 t560 from by repeat (first | (with_reducible first | exact HI555.out | apply IsS89.alloc | apply IsS89.drewN | apply IsS89.drew | apply IsS89.set_1 | refine IsS89.far ?_ NB555_552.out _ | refine IsS89.far ?_ NB555_561.out _) | exact HI555.out)) (by (with_reducible repeat (first | apply Kd.R_alloc | apply Kd.R_drewN | apply Kd.R_drew)); exact HO559.out) (by decide)) hk (fun _ h => h.2)) (fun _ h => h.1))
  have n2_ := Aside0.mk (KeepBut.blk hk (g' := gb561) (o := .cells #[.int .i64 t556, .slice Ao12 t557.length co12] 25 (0, 0)) (by (with_reducible repeat (first | refine blk_drewN ?_ _ | refine blk_drew ?_ | refine blk_alloc ?_ _)); exact BK561.out) NB561_555.out (by simp))
  have n3_ := Aside0.mk (Kd.R_lower ho0 (below_size (by repeat (first | (with_reducible first | exact HB.out | apply below_alloc | apply pw_below_drewN | apply below_drew1 | refine below_set ?_ (IsS89.ge HI555.out) | refine below_set ?_ GE552.out | refine below_set ?_ GE561.out) | exact HB.out))))
  have n4_ := Aside0.mk (hb)
  have n5_ := Aside0.mk (hi)
  clear BK552
  clear HO559
  clear BK561
  clear HB
  clear HI555
  have BK552 := n0_
  have HO559 := n1_
  have BK561 := n2_
  have HO564 := n3_
  have HB := n4_
  have HI555 := n5_
  clear n0_ n1_ n2_ n3_ n4_ n5_
  (try clear hb)
  (try clear hb2)
  (try clear hk)
  (try clear hi)
  (try clear ho0)
  refine hK.out _ _ ⟨(blk_cell BK561.out 0).trans rfl, (blk_cell BK561.out 1).trans rfl⟩ (fun hHeld => ?_)
  clear hK K
  refine norm_ (a' := ?_) ?_ ?_
  rotate_left
  · show Act.put _ (some 13) _ = _
    simp only [Act.put, List.setIfInBounds_toArray, List.set_cons_zero, List.set_cons_succ, i64_w, i32_w]
    rfl
  refine one_ (i := 4) (N := none) #[true, true, true, true, true, false] rfl rfl (by kernel_rfl) (by decide) (fun K hK => ?_)
  have hs16 : w15.cell? ⟨gb552, 0, none⟩ = some (.int .i64 0) := (blk_cell BK552.out 0).trans rfl
  have hfs16 := blk_frozen BK552.out 0
  have hns16_1 := NB561_552.out
  have hms16_1 := NB552_561.out
  have hs17 : w15.cell? ⟨gb552, 1, none⟩ = some (.slice none 0 0) := (blk_cell BK552.out 1).trans rfl
  have hfs17 := blk_frozen BK552.out 1
  have hns17_1 := NB561_552.out
  have hms17_1 := NB552_561.out
  refine skip_ (w1 := ?_) (by rfl) rfl ?_ ?_
  rotate_left
  · go_simp
    rfl
  refine hK.out _ _ ⟨((cell_far (p := ⟨gb552, _, none⟩) NB561_552.out _).trans (((cell_far (p := ⟨gb552, _, none⟩) NB561_552.out _).trans (hHeld.1)))), ((cell_far (p := ⟨gb552, _, none⟩) NB561_552.out _).trans (((cell_far (p := ⟨gb552, _, none⟩) NB561_552.out _).trans (hHeld.2))))⟩ (fun hHeld => ?_)
  clear hK K
  refine pure_ (i := 5) (N := some 3) (v := ?_) (a' := ?_) #[true, true, true, true, true, true] rfl rfl (by kernel_rfl) (fun _ _ _ h => h) (Or.inl ⟨by rfl, ?_⟩) ?_ ?_
  rotate_left
  · intro w'
    go_simp
    with_reducible rfl
  rotate_left
  · simp only [Act.put, List.setIfInBounds_toArray, List.set_cons_zero, List.set_cons_succ, i64_w, i32_w]
    rfl
  refine done_ (by kernel_rfl) ?_
  try go_wp2
  refine bodyPost_ret (results_ct rfl _ _ gb552 25 #[.int .i64 t556, .slice Ao12 t557.length co12] (0, 0) _ rfl (by (with_reducible repeat (first | refine blk_drewN ?_ _ | refine blk_drew ?_ | refine blk_alloc ?_ _)); refine blk_put (cs := #[.int .i64 t556, .slice none 0 0]) ?_ 1 _ rfl; (with_reducible repeat (first | refine blk_drewN ?_ _ | refine blk_drew ?_ | refine blk_alloc ?_ _)); refine blk_put (cs := #[.int .i64 0, .slice none 0 0]) ?_ 0 _ rfl; (with_reducible repeat (first | refine blk_drewN ?_ _ | refine blk_drew ?_ | refine blk_alloc ?_ _)); exact BK552.out) Tryd.underlying25 rfl (by kernel_rfl)) rfl ?_
  exact ⟨_, _, by first | rfl | (simp [errW_none, errW_some] <;> rfl) | (simp [*, errW_none, errW_some] <;> rfl), by (with_reducible repeat (first | apply Kd.R_alloc | apply Kd.R_drewN | apply Kd.R_drew)); exact Kd.R_mono (Kd.R_far (p := ⟨gb552, 1, none⟩) (Kd.R_far (p := ⟨gb552, 0, none⟩) (Kd.R_types HO559.out BK552.out (by decide)) (fun _ hk => hk.2) (.int .i64 t556)) (fun _ hk => hk.2) (.slice Ao12 t557.length co12)) (fun _ hk => trivial), by (with_reducible repeat (first | apply Kd.R_alloc | apply Kd.R_drewN | apply Kd.R_drew)); exact Kd.R_mono (Kd.R_far (p := ⟨gb552, 1, none⟩) (Kd.R_far (p := ⟨gb552, 0, none⟩) (Kd.R_types HO564.out BK552.out (by decide)) (fun _ hk => hk.2) (.int .i64 t556)) (fun _ hk => hk.2) (.slice Ao12 t557.length co12)) (fun _ hk => trivial), by repeat (first | (with_reducible first | exact HB.out | apply below_alloc | apply pw_below_drewN | apply below_drew1 | refine below_set ?_ (IsS89.ge HI555.out) | refine below_set ?_ GE552.out | refine below_set ?_ GE561.out) | exact HB.out)⟩

end Go.Proofs.YtlahlfjhfmldaaaDoor.P
namespace Go.Proofs.YtlahlfjhfmldaaaDoor.P
open Go.RowKit Go.Proofs.YtlahlfjhfmldaaaDoorW.PrintWords Go.Proofs.YtlahlfjhfmldaaaDoorW.PrintLast Go.Proofs.YtlahlfjhfmldaaaDoorW.PrintMore
attribute [local go_sem] max2_int min2_int max_two min_two max_three min_three max_four min_four   -- for this text's walks alone
set_option linter.unusedVariables false
set_option linter.unusedSimpArgs false

/-! ### impl_powerValid: function 63 -/
def impl_powerValid.f (a0 : Int) : Option (Bool) := if a0 ≥ 0 then (some (decide (a0 ≤ 999))) else (some false)
set_option maxHeartbeats 8000000 in
set_option maxRecDepth 100000 in
theorem impl_powerValid.calls (a0 : Int) (r : Bool) (w : World) (h : impl_powerValid.f a0 = some r) :
    Calls Tryd.prog 63 #[.int .i64 a0] w fun e w' => e = .returned (.bool r) ∧ Drawn0 w w' := by
  have H : (if a0 ≥ 0 then (some (decide (a0 ≤ 999))) else (some false)) = some r := h
  clear h
  by_cases c2 : a0 ≥ 0
  · rw [if_pos c2] at H
    have c2b0 : decide (0 ≤ a0) = true := decide_eq_true c2
    clear c2
    obtain rfl := Option.some.inj H
    go_enter Tryd.func63, Tryd.ntmps63
    go_wp2
    go_ret
    exact ⟨by first | rfl | (simp; done) | (simp [*]; done), by repeat (first | exact Drawn0.refl _ | apply Drawn0.step)⟩
  · rw [if_neg c2] at H
    have c2b0 : decide (0 ≤ a0) = false := decide_eq_false c2
    clear c2
    obtain rfl := Option.some.inj H
    go_enter Tryd.func63, Tryd.ntmps63
    go_wp2
    go_ret
    exact ⟨by first | rfl | (simp; done) | (simp [*]; done), by repeat (first | exact Drawn0.refl _ | apply Drawn0.step)⟩

end Go.Proofs.YtlahlfjhfmldaaaDoor.P

/- Contracts of Go functions of this seat's translation, written by this repo's wip/mk.py: it calls the kit's print.py with contracts typed by hand in place of functions that it does not take. Not trusted: Lean checks it. -/
import Derived.Test.YtlahlfjhfmldaaaDoorP0
import Derived.Test.YtlahlfjhfmldaaaDoorP2
import Derived.Test.YtlahlfjhfmldaaaDoorP3
import Derived.Test.YtlahlfjhfmldaaaDoorP6
import Derived.Test.YtlahlfjhfmldaaaDoorP32
namespace Go.Proofs.YtlahlfjhfmldaaaDoor.P
open Go.RowKit Go.Proofs.YtlahlfjhfmldaaaDoorW.PrintWords Go.Proofs.YtlahlfjhfmldaaaDoorW.PrintLast Go.Proofs.YtlahlfjhfmldaaaDoorW.PrintMore
attribute [local go_sem] max2_int min2_int max_two min_two max_three min_three max_four min_four   -- for this text's walks alone
set_option linter.unusedVariables false
set_option linter.unusedSimpArgs false

/-! ### spec_DrawStateNumber: function 44 -/
def spec_DrawStateNumber.f (k : Nat) (l0 : List Int) : Option (List Bool) := (spec_l20Open.f l0).bind fun bt606 => ((spec_l20Net.f k bt606.1 bt606.2 0).bind fun bt609 => ((spec_l20State.f k bt606.1 bt609.2.2 bt609.1 bt609.2.1 0).bind fun bt614 => ((spec_l20Rd_odd.f k bt606.1 bt614.2 9).bind fun bt618 => (if bt618.1 = true then (if 11 ≤ 281474976710656 then (some (List.replicate 11 false)) else (none)) else (some bt614.1)))))
theorem spec_DrawStateNumber.mono : ∀ a0 k, LeO (spec_DrawStateNumber.f k a0) (spec_DrawStateNumber.f (k + 1) a0) := by
  intro a0 k
  unfold spec_DrawStateNumber.f
  repeat' first
      | (with_reducible exact spec_l20Net.mono _ _ _ _)
      | (with_reducible exact spec_l20Rd_odd.mono _ _ _ _)
      | (with_reducible exact spec_l20State.mono _ _ _ _ _ _)
      | (with_reducible exact LeO.refl _)
      | (with_reducible exact LeO.none _)
      | (with_reducible refine LeO.ite ?_ ?_)
      | (with_reducible refine LeO.bind ?_ (fun _ => ?_))
      | exact spec_l20Net.mono _ _ _ _
      | exact spec_l20Rd_odd.mono _ _ _ _
      | exact spec_l20State.mono _ _ _ _ _ _
      | exact LeO.none _
      | refine LeO.ite ?_ ?_
      | refine LeO.bind ?_ (fun _ => ?_)
set_option maxHeartbeats 8000000 in
set_option maxRecDepth 100000 in
theorem spec_DrawStateNumber.calls (k : Nat) (A0 : Option Addr) (c0 : Nat) (l0 : List Int) (r : List Bool) (w : World) (hr0 : Kd.C (Kd.int .u8) w A0 l0.length l0) (hc0 : l0.length ≤ c0) (h : spec_DrawStateNumber.f k l0 = some r) :
    Calls Tryd.prog 44 #[.slice A0 l0.length c0] w fun e w' => ∃ v0_ : Value, e = .returned (v0_) ∧ Kd.R Kd.bool 4 w' w.heap.size (fun _ => True) v0_ r ∧ Below w.heap.size w w' := by
  have HR0 := Aside0.mk hr0
  have HC0 := Aside0.mk hc0
  clear hr0 hc0
  have HB := Aside0.mk (Below.refl w.heap.size w)
  have H : ((spec_l20Open.f l0).bind fun bt606 => ((spec_l20Net.f k bt606.1 bt606.2 0).bind fun bt609 => ((spec_l20State.f k bt606.1 bt609.2.2 bt609.1 bt609.2.1 0).bind fun bt614 => ((spec_l20Rd_odd.f k bt606.1 bt614.2 9).bind fun bt618 => (if bt618.1 = true then (if 11 ≤ 281474976710656 then (some (List.replicate 11 false)) else (none)) else (some bt614.1)))))) = some r := h
  clear h
  replace H := Option.bind_eq_some_iff.mp H
  obtain ⟨⟨t606, t607⟩, A20, H⟩ := H
  replace H : ((spec_l20Net.f k t606 t607 0).bind fun bt609 => ((spec_l20State.f k t606 bt609.2.2 bt609.1 bt609.2.1 0).bind fun bt614 => ((spec_l20Rd_odd.f k t606 bt614.2 9).bind fun bt618 => (if bt618.1 = true then (if 11 ≤ 281474976710656 then (some (List.replicate 11 false)) else (none)) else (some bt614.1))))) = some r := H
  have A2 := Aside0.mk A20
  clear A20
  replace H := Option.bind_eq_some_iff.mp H
  obtain ⟨⟨t609, t610, t613⟩, A30, H⟩ := H
  replace H : ((spec_l20State.f k t606 t613 t609 t610 0).bind fun bt614 => ((spec_l20Rd_odd.f k t606 bt614.2 9).bind fun bt618 => (if bt618.1 = true then (if 11 ≤ 281474976710656 then (some (List.replicate 11 false)) else (none)) else (some bt614.1)))) = some r := H
  have A3 := Aside0.mk A30
  clear A30
  replace H := Option.bind_eq_some_iff.mp H
  obtain ⟨⟨t614, t617⟩, A40, H⟩ := H
  replace H : ((spec_l20Rd_odd.f k t606 t617 9).bind fun bt618 => (if bt618.1 = true then (if 11 ≤ 281474976710656 then (some (List.replicate 11 false)) else (none)) else (some t614))) = some r := H
  have A4 := Aside0.mk A40
  clear A40
  replace H := Option.bind_eq_some_iff.mp H
  obtain ⟨⟨t618, t619⟩, A50, H⟩ := H
  replace H : (if t618 = true then (if 11 ≤ 281474976710656 then (some (List.replicate 11 false)) else (none)) else (some t614)) = some r := H
  have A5 := Aside0.mk A50
  clear A50
  by_cases c6 : t618 = true
  · subst c6
    have H1 : (if 11 ≤ 281474976710656 then (some (List.replicate 11 false)) else (none)) = some r := by rw [if_pos rfl] at H; exact H
    clear H
    have H := H1
    clear H1
    by_cases c7 : 11 ≤ 281474976710656
    · rw [if_pos c7] at H
      have c7b0 := eq_true c7
      have c7b1 : decide (11 ≤ 281474976710656) = true := decide_eq_true c7
      clear c7
      obtain ⟨y620, hy620⟩ : ∃ y_ : List Bool, y_ = (List.replicate 11 false) := ⟨_, rfl⟩
      replace H : (some y620) = some r := by first | (rw [hy620]; with_reducible exact H) | (have H2_ := (Option.bind_some _ _).symm.trans H; rw [hy620]; with_reducible exact H2_) | (have H2_ := (Option.bind_some _ _).symm.trans H; with_reducible exact H2_) | with_reducible exact H | (rw [hy620]; exact H) | exact H
      have Ny620 := Aside0.mk hy620
      clear hy620
      obtain rfl := Option.some.inj H
      go_enter Tryd.func44, Tryd.ntmps44
      go_wp2_with (first | ((with_reducible refine gate_callee (f := 47) rfl ?_); refine goesL_ (some 6) rfl rfl Tryd.func47 (by kernel_rfl) rfl #[.slice A0 l0.length c0] rfl (by (try simp only [List.map_toArray, List.map_cons, List.map_nil]); first | done | rfl | (simp only [List.length_drop, List.length_take]; rfl)) ?_; (with_reducible refine (spec_l20Open.calls _ _ l0 t606 t607 w _ ?side1 ?side2 ?side3 A2.out).mono ?_); (case side1 => repeat (first | (with_reducible first | exact HB.out | apply below_alloc | apply pw_below_drewN | apply below_drew1) | exact HB.out)); (case side2 => exact HR0.out); (case side3 => exact HC0.out); rintro e w8 ⟨g608, rfl, hi, hb, hb2⟩; refine ⟨_, rfl, ?_⟩; have n0_ := Aside0.mk (hb); have n1_ := Aside0.mk (hi); clear HB; have HB := n0_; have HI608 := n1_; clear n0_ n1_; (try clear hb); (try clear hb2); (try clear hk); (try clear hi)) | ((with_reducible refine gate_callee (f := 46) rfl ?_); refine goesL_ (some 9) rfl rfl Tryd.func46 (by kernel_rfl) rfl #[.pointer (some ⟨g608, 0, none⟩), .int .i64 0] rfl (by (try simp only [List.map_toArray, List.map_cons, List.map_nil]); first | done | rfl | (simp only [List.length_drop, List.length_take]; rfl)) ?_; (with_reducible refine (spec_l20Net.calls k g608 t606 t607 0 t609 t610 t613 w _ ?side1 ?side2 A3.out).mono ?_); (case side1 => repeat (first | (with_reducible first | exact HI608.out | apply IsS89.alloc | apply IsS89.drewN | apply IsS89.drew | apply IsS89.set_1) | exact HI608.out)); (case side2 => repeat (first | (with_reducible first | exact HB.out | apply below_alloc | apply pw_below_drewN | apply below_drew1 | refine below_set ?_ (IsS89.ge HI608.out)) | exact HB.out)); rintro e w9 ⟨v611, rfl, ho0, hi, hb, hk⟩; refine ⟨_, rfl, ?_⟩; have n0_ := Aside0.mk (Kd.R_lower ho0 (below_size (by repeat (first | (with_reducible first | exact HB.out | apply below_alloc | apply pw_below_drewN | apply below_drew1 | refine below_set ?_ (IsS89.ge HI608.out)) | exact HB.out)))); have n1_ := Aside0.mk (hb); have n2_ := Aside0.mk (hi); clear HB; clear HI608; have HO612 := n0_; have HB := n1_; have HI608 := n2_; clear n0_ n1_ n2_; (try clear hb); (try clear hb2); (try clear hk); (try clear hi); (try clear ho0); obtain ⟨Ao10, co10, eo10⟩ := Kd.R_slice HO612.out; subst eo10) | ((with_reducible refine gate_callee (f := 59) rfl ?_); refine goesL_ (some 10) rfl rfl Tryd.func59 (by kernel_rfl) rfl #[.pointer (some ⟨g608, 0, none⟩), .agg #[.int .i64 t609, .slice Ao10 t610.length co10], .int .i64 0] rfl (by (try simp only [List.map_toArray, List.map_cons, List.map_nil]); first | done | rfl | (simp only [List.length_drop, List.length_take]; rfl)) ?_; (with_reducible refine (spec_l20State.calls k g608 t606 t613 t609 _ _ t610 0 t614 t617 w _ ?side1 ?side2 ?side3 ?side4 A4.out).mono ?_); (case side1 => repeat (first | (with_reducible first | exact HI608.out | apply IsS89.alloc | apply IsS89.drewN | apply IsS89.drew | apply IsS89.set_1) | exact HI608.out)); (case side2 => repeat (first | (with_reducible first | exact HB.out | apply below_alloc | apply pw_below_drewN | apply below_drew1 | refine below_set ?_ (IsS89.ge HI608.out)) | exact HB.out)); (case side3 => exact Kd.C_foot_own (IsS89.apart (show IsS89 w _ g608 t606 t613 from by repeat (first | (with_reducible first | exact HI608.out | apply IsS89.alloc | apply IsS89.drewN | apply IsS89.drew | apply IsS89.set_1) | exact HI608.out)) (by (with_reducible repeat (first | apply Kd.R_alloc | apply Kd.R_drewN | apply Kd.R_drew)); exact HO612.out) (by decide)) (fun _ h_ => h_.2)); (case side4 => exact (Kd.R_reads' HO612.out).2.1); rintro e w11 ⟨v615, rfl, ho0, hi, hb, hk⟩; refine ⟨_, rfl, ?_⟩; have n0_ := Aside0.mk (Kd.R_mono (Kd.R_keep (IsS89.apart (show IsS89 w _ g608 t606 t613 from by repeat (first | (with_reducible first | exact HI608.out | apply IsS89.alloc | apply IsS89.drewN | apply IsS89.drew | apply IsS89.set_1) | exact HI608.out)) (by (with_reducible repeat (first | apply Kd.R_alloc | apply Kd.R_drewN | apply Kd.R_drew)); exact HO612.out) (by decide)) hk (fun _ h => h.2)) (fun _ h => h.1)); have n1_ := Aside0.mk (Kd.R_lower ho0 (below_size (by repeat (first | (with_reducible first | exact HB.out | apply below_alloc | apply pw_below_drewN | apply below_drew1 | refine below_set ?_ (IsS89.ge HI608.out)) | exact HB.out)))); have n2_ := Aside0.mk (hb); have n3_ := Aside0.mk (hi); clear HO612; clear HB; clear HI608; have HO612 := n0_; have HO616 := n1_; have HB := n2_; have HI608 := n3_; clear n0_ n1_ n2_ n3_; (try clear hb); (try clear hb2); (try clear hk); (try clear hi); (try clear ho0)) | ((with_reducible refine gate_callee (f := 64) rfl ?_); refine goesL_ (some 12) rfl rfl Tryd.func64 (by kernel_rfl) rfl #[.pointer (some ⟨g608, 0, none⟩), .int .i64 9] rfl (by (try simp only [List.map_toArray, List.map_cons, List.map_nil]); first | done | rfl | (simp only [List.length_drop, List.length_take]; rfl)) ?_; (with_reducible refine (spec_l20Rd_odd.calls k g608 t606 t617 9 true t619 w _ ?side1 ?side2 A5.out).mono ?_); (case side1 => repeat (first | (with_reducible first | exact HI608.out | apply IsS89.alloc | apply IsS89.drewN | apply IsS89.drew | apply IsS89.set_1) | exact HI608.out)); (case side2 => repeat (first | (with_reducible first | exact HB.out | apply below_alloc | apply pw_below_drewN | apply below_drew1 | refine below_set ?_ (IsS89.ge HI608.out)) | exact HB.out)); rintro e w12 ⟨rfl, hi, hb, hk⟩; refine ⟨_, rfl, ?_⟩; have n0_ := Aside0.mk (Kd.R_mono (Kd.R_keep (IsS89.apart (show IsS89 w _ g608 t606 t617 from by repeat (first | (with_reducible first | exact HI608.out | apply IsS89.alloc | apply IsS89.drewN | apply IsS89.drew | apply IsS89.set_1) | exact HI608.out)) (by (with_reducible repeat (first | apply Kd.R_alloc | apply Kd.R_drewN | apply Kd.R_drew)); exact HO612.out) (by decide)) hk (fun _ h => h.2)) (fun _ h => h.1)); have n1_ := Aside0.mk (Kd.R_mono (Kd.R_keep (IsS89.apart (show IsS89 w _ g608 t606 t617 from by repeat (first | (with_reducible first | exact HI608.out | apply IsS89.alloc | apply IsS89.drewN | apply IsS89.drew | apply IsS89.set_1) | exact HI608.out)) (by (with_reducible repeat (first | apply Kd.R_alloc | apply Kd.R_drewN | apply Kd.R_drew)); exact HO616.out) (by decide)) hk (fun _ h => h.2)) (fun _ h => h.1)); have n2_ := Aside0.mk (hb); have n3_ := Aside0.mk (hi); clear HO612; clear HO616; clear HB; clear HI608; have HO612 := n0_; have HO616 := n1_; have HB := n2_; have HI608 := n3_; clear n0_ n1_ n2_ n3_; (try clear hb); (try clear hb2); (try clear hk); (try clear hi)) | ((with_reducible refine gate_dst (N := 13) rfl ?_); refine Kd.R_make Kd.bool _ 4 rfl (N := 13) rfl 34 _ _ rfl 11 rfl rfl Tryd.underlying34 (.bool false) 1 info4 rfl (by decide) (by omega) false (ok := fun _ => True) (okp := fun _ => True) rfl (fun _ hk => hk) trivial (by omega) (by omega) (Below.refl _ _) (Nat.le_refl _) ?_; intro v621 w13 ho14 hb hg_ hnew_; clear hg_ hnew_; (first | rw [← Ny620.out] at ho14 | (simp only [Int.reduceToNat] at ho14; rw [← Ny620.out] at ho14)); have n0_ := Aside0.mk (Kd.R_below (by (with_reducible repeat (first | apply Kd.R_alloc | apply Kd.R_drewN | apply Kd.R_drew)); exact HO612.out) hb); have n1_ := Aside0.mk (Kd.R_elder' (by (with_reducible repeat (first | apply Kd.R_alloc | apply Kd.R_drewN | apply Kd.R_drew)); exact HO616.out) (Kd.R_base ho14) hb); have n2_ := Aside0.mk (Kd.R_lower (Kd.R_new' ho14 (Kd.R_lt (by (with_reducible repeat (first | apply Kd.R_alloc | apply Kd.R_drewN | apply Kd.R_drew)); exact HO616.out))) (below_size (by repeat (first | (with_reducible first | exact HB.out | apply below_alloc | apply pw_below_drewN | apply below_drew1 | refine below_set ?_ (IsS89.ge HI608.out)) | exact HB.out)))); have n3_ := Aside0.mk (IsS89.below (by repeat (first | (with_reducible first | exact HI608.out | apply IsS89.alloc | apply IsS89.drewN | apply IsS89.drew | apply IsS89.set_1) | exact HI608.out)) hb); have n4_ := Aside0.mk (below_step (by repeat (first | (with_reducible first | exact HB.out | apply below_alloc | apply pw_below_drewN | apply below_drew1 | refine below_set ?_ (IsS89.ge HI608.out)) | exact HB.out)) hb); clear HO612; clear HO616; clear HI608; clear HB; have HO612 := n0_; have HO616 := n1_; have HO622 := n2_; have HI608 := n3_; have HB := n4_; clear n0_ n1_ n2_ n3_ n4_; clear hb ho14))
      go_ret
      exact ⟨_, by first | rfl | (simp [errW_none, errW_some] <;> rfl) | (simp [*, errW_none, errW_some] <;> rfl), by (with_reducible repeat (first | apply Kd.R_alloc | apply Kd.R_drewN | apply Kd.R_drew)); exact Kd.R_mono HO622.out (fun _ hk => trivial), by repeat (first | (with_reducible first | exact HB.out | apply below_alloc | apply pw_below_drewN | apply below_drew1 | refine below_set ?_ (IsS89.ge HI608.out)) | exact HB.out)⟩
    · rw [if_neg c7] at H
      exact absurd H (by simp)
  · replace c6 := Bool.eq_false_iff.mpr c6
    subst c6
    have H1 : (some t614) = some r := by rw [if_neg (show ¬ (false = true) by decide)] at H; exact H
    clear H
    have H := H1
    clear H1
    obtain rfl := Option.some.inj H
    go_enter Tryd.func44, Tryd.ntmps44
    go_wp2_with (first | ((with_reducible refine gate_callee (f := 47) rfl ?_); refine goesL_ (some 6) rfl rfl Tryd.func47 (by kernel_rfl) rfl #[.slice A0 l0.length c0] rfl (by (try simp only [List.map_toArray, List.map_cons, List.map_nil]); first | done | rfl | (simp only [List.length_drop, List.length_take]; rfl)) ?_; (with_reducible refine (spec_l20Open.calls _ _ l0 t606 t607 w _ ?side1 ?side2 ?side3 A2.out).mono ?_); (case side1 => repeat (first | (with_reducible first | exact HB.out | apply below_alloc | apply pw_below_drewN | apply below_drew1) | exact HB.out)); (case side2 => exact HR0.out); (case side3 => exact HC0.out); rintro e w15 ⟨g608, rfl, hi, hb, hb2⟩; refine ⟨_, rfl, ?_⟩; have n0_ := Aside0.mk (hb); have n1_ := Aside0.mk (hi); clear HB; have HB := n0_; have HI608 := n1_; clear n0_ n1_; (try clear hb); (try clear hb2); (try clear hk); (try clear hi)) | ((with_reducible refine gate_callee (f := 46) rfl ?_); refine goesL_ (some 9) rfl rfl Tryd.func46 (by kernel_rfl) rfl #[.pointer (some ⟨g608, 0, none⟩), .int .i64 0] rfl (by (try simp only [List.map_toArray, List.map_cons, List.map_nil]); first | done | rfl | (simp only [List.length_drop, List.length_take]; rfl)) ?_; (with_reducible refine (spec_l20Net.calls k g608 t606 t607 0 t609 t610 t613 w _ ?side1 ?side2 A3.out).mono ?_); (case side1 => repeat (first | (with_reducible first | exact HI608.out | apply IsS89.alloc | apply IsS89.drewN | apply IsS89.drew | apply IsS89.set_1) | exact HI608.out)); (case side2 => repeat (first | (with_reducible first | exact HB.out | apply below_alloc | apply pw_below_drewN | apply below_drew1 | refine below_set ?_ (IsS89.ge HI608.out)) | exact HB.out)); rintro e w16 ⟨v611, rfl, ho0, hi, hb, hk⟩; refine ⟨_, rfl, ?_⟩; have n0_ := Aside0.mk (Kd.R_lower ho0 (below_size (by repeat (first | (with_reducible first | exact HB.out | apply below_alloc | apply pw_below_drewN | apply below_drew1 | refine below_set ?_ (IsS89.ge HI608.out)) | exact HB.out)))); have n1_ := Aside0.mk (hb); have n2_ := Aside0.mk (hi); clear HB; clear HI608; have HO612 := n0_; have HB := n1_; have HI608 := n2_; clear n0_ n1_ n2_; (try clear hb); (try clear hb2); (try clear hk); (try clear hi); (try clear ho0); obtain ⟨Ao17, co17, eo17⟩ := Kd.R_slice HO612.out; subst eo17) | ((with_reducible refine gate_callee (f := 59) rfl ?_); refine goesL_ (some 10) rfl rfl Tryd.func59 (by kernel_rfl) rfl #[.pointer (some ⟨g608, 0, none⟩), .agg #[.int .i64 t609, .slice Ao17 t610.length co17], .int .i64 0] rfl (by (try simp only [List.map_toArray, List.map_cons, List.map_nil]); first | done | rfl | (simp only [List.length_drop, List.length_take]; rfl)) ?_; (with_reducible refine (spec_l20State.calls k g608 t606 t613 t609 _ _ t610 0 t614 t617 w _ ?side1 ?side2 ?side3 ?side4 A4.out).mono ?_); (case side1 => repeat (first | (with_reducible first | exact HI608.out | apply IsS89.alloc | apply IsS89.drewN | apply IsS89.drew | apply IsS89.set_1) | exact HI608.out)); (case side2 => repeat (first | (with_reducible first | exact HB.out | apply below_alloc | apply pw_below_drewN | apply below_drew1 | refine below_set ?_ (IsS89.ge HI608.out)) | exact HB.out)); (case side3 => exact Kd.C_foot_own (IsS89.apart (show IsS89 w _ g608 t606 t613 from by repeat (first | (with_reducible first | exact HI608.out | apply IsS89.alloc | apply IsS89.drewN | apply IsS89.drew | apply IsS89.set_1) | exact HI608.out)) (by (with_reducible repeat (first | apply Kd.R_alloc | apply Kd.R_drewN | apply Kd.R_drew)); exact HO612.out) (by decide)) (fun _ h_ => h_.2)); (case side4 => exact (Kd.R_reads' HO612.out).2.1); rintro e w18 ⟨v615, rfl, ho0, hi, hb, hk⟩; refine ⟨_, rfl, ?_⟩; have n0_ := Aside0.mk (Kd.R_mono (Kd.R_keep (IsS89.apart (show IsS89 w _ g608 t606 t613 from by repeat (first | (with_reducible first | exact HI608.out | apply IsS89.alloc | apply IsS89.drewN | apply IsS89.drew | apply IsS89.set_1) | exact HI608.out)) (by (with_reducible repeat (first | apply Kd.R_alloc | apply Kd.R_drewN | apply Kd.R_drew)); exact HO612.out) (by decide)) hk (fun _ h => h.2)) (fun _ h => h.1)); have n1_ := Aside0.mk (Kd.R_lower ho0 (below_size (by repeat (first | (with_reducible first | exact HB.out | apply below_alloc | apply pw_below_drewN | apply below_drew1 | refine below_set ?_ (IsS89.ge HI608.out)) | exact HB.out)))); have n2_ := Aside0.mk (hb); have n3_ := Aside0.mk (hi); clear HO612; clear HB; clear HI608; have HO612 := n0_; have HO616 := n1_; have HB := n2_; have HI608 := n3_; clear n0_ n1_ n2_ n3_; (try clear hb); (try clear hb2); (try clear hk); (try clear hi); (try clear ho0)) | ((with_reducible refine gate_callee (f := 64) rfl ?_); refine goesL_ (some 12) rfl rfl Tryd.func64 (by kernel_rfl) rfl #[.pointer (some ⟨g608, 0, none⟩), .int .i64 9] rfl (by (try simp only [List.map_toArray, List.map_cons, List.map_nil]); first | done | rfl | (simp only [List.length_drop, List.length_take]; rfl)) ?_; (with_reducible refine (spec_l20Rd_odd.calls k g608 t606 t617 9 false t619 w _ ?side1 ?side2 A5.out).mono ?_); (case side1 => repeat (first | (with_reducible first | exact HI608.out | apply IsS89.alloc | apply IsS89.drewN | apply IsS89.drew | apply IsS89.set_1) | exact HI608.out)); (case side2 => repeat (first | (with_reducible first | exact HB.out | apply below_alloc | apply pw_below_drewN | apply below_drew1 | refine below_set ?_ (IsS89.ge HI608.out)) | exact HB.out)); rintro e w19 ⟨rfl, hi, hb, hk⟩; refine ⟨_, rfl, ?_⟩; have n0_ := Aside0.mk (Kd.R_mono (Kd.R_keep (IsS89.apart (show IsS89 w _ g608 t606 t617 from by repeat (first | (with_reducible first | exact HI608.out | apply IsS89.alloc | apply IsS89.drewN | apply IsS89.drew | apply IsS89.set_1) | exact HI608.out)) (by (with_reducible repeat (first | apply Kd.R_alloc | apply Kd.R_drewN | apply Kd.R_drew)); exact HO612.out) (by decide)) hk (fun _ h => h.2)) (fun _ h => h.1)); have n1_ := Aside0.mk (Kd.R_mono (Kd.R_keep (IsS89.apart (show IsS89 w _ g608 t606 t617 from by repeat (first | (with_reducible first | exact HI608.out | apply IsS89.alloc | apply IsS89.drewN | apply IsS89.drew | apply IsS89.set_1) | exact HI608.out)) (by (with_reducible repeat (first | apply Kd.R_alloc | apply Kd.R_drewN | apply Kd.R_drew)); exact HO616.out) (by decide)) hk (fun _ h => h.2)) (fun _ h => h.1)); have n2_ := Aside0.mk (hb); have n3_ := Aside0.mk (hi); clear HO612; clear HO616; clear HB; clear HI608; have HO612 := n0_; have HO616 := n1_; have HB := n2_; have HI608 := n3_; clear n0_ n1_ n2_ n3_; (try clear hb); (try clear hb2); (try clear hk); (try clear hi)))
    go_ret
    exact ⟨_, by first | rfl | (simp [errW_none, errW_some] <;> rfl) | (simp [*, errW_none, errW_some] <;> rfl), by (with_reducible repeat (first | apply Kd.R_alloc | apply Kd.R_drewN | apply Kd.R_drew)); exact HO616.out, by repeat (first | (with_reducible first | exact HB.out | apply below_alloc | apply pw_below_drewN | apply below_drew1 | refine below_set ?_ (IsS89.ge HI608.out)) | exact HB.out)⟩

end Go.Proofs.YtlahlfjhfmldaaaDoor.P
namespace Go.Proofs.YtlahlfjhfmldaaaDoor.P
open Go.RowKit Go.Proofs.YtlahlfjhfmldaaaDoorW.PrintWords Go.Proofs.YtlahlfjhfmldaaaDoorW.PrintLast Go.Proofs.YtlahlfjhfmldaaaDoorW.PrintMore
attribute [local go_sem] max2_int min2_int max_two min_two max_three min_three max_four min_four   -- for this text's walks alone
set_option linter.unusedVariables false
set_option linter.unusedSimpArgs false

/-! ### spec_StateNumber: function 45 -/
def spec_StateNumber.l0 : Nat → List Bool → Int → Int → Option (Int)
  | 0, _, _, _ => none
  | k + 1, x0, x3, x4 => if x4 ≥ 0 then (if 0 ≤ x4 then (if x4 < (x0.length : Int) then (if rdOf false x0 x4 = true then (spec_StateNumber.l0 k x0 (wrap64 ((wrap64 (2 * x3)) + 1)) (wrap64 (x4 - 1))) else (spec_StateNumber.l0 k x0 (wrap64 (2 * x3)) (wrap64 (x4 - 1)))) else (none)) else (none)) else (some x3)
def spec_StateNumber.f (k : Nat) (l0 : List Bool) : Option (Int) := if (l0.length : Int) > 10 then (some (-1)) else (spec_StateNumber.l0 k l0 0 (wrap64 ((l0.length : Int) - 1)))
theorem spec_StateNumber.mono_l : ∀ k, (∀ y0 y1 y2, LeO (spec_StateNumber.l0 k y0 y1 y2) (spec_StateNumber.l0 (k + 1) y0 y1 y2))
  | 0 => fun _ _ _ r h => by simp [spec_StateNumber.l0] at h
  | k + 1 => by
    have ih0 := spec_StateNumber.mono_l k
    · intro y0 y1 y2
      unfold spec_StateNumber.l0
      repeat' first
      | (with_reducible exact ih0 _ _ _)
      | (with_reducible exact LeO.refl _)
      | (with_reducible exact LeO.none _)
      | (with_reducible refine LeO.ite ?_ ?_)
      | (with_reducible refine LeO.bind ?_ (fun _ => ?_))
      | exact ih0 _ _ _
      | exact LeO.none _
      | refine LeO.ite ?_ ?_
      | refine LeO.bind ?_ (fun _ => ?_)
theorem spec_StateNumber.mono : ∀ a0 k, LeO (spec_StateNumber.f k a0) (spec_StateNumber.f (k + 1) a0) := by
  intro a0 k
  have ih0 := spec_StateNumber.mono_l k
  unfold spec_StateNumber.f
  repeat' first
      | (with_reducible exact ih0 _ _ _)
      | (with_reducible exact LeO.refl _)
      | (with_reducible exact LeO.none _)
      | (with_reducible refine LeO.ite ?_ ?_)
      | (with_reducible refine LeO.bind ?_ (fun _ => ?_))
      | exact ih0 _ _ _
      | exact LeO.none _
      | refine LeO.ite ?_ ?_
      | refine LeO.bind ?_ (fun _ => ?_)
set_option maxHeartbeats 8000000 in
set_option maxRecDepth 100000 in
theorem spec_StateNumber.calls (k : Nat) (A0 : Option Addr) (c0 : Nat) (l0 : List Bool) (r : Int) (w : World) (hr0 : Kd.C Kd.bool w A0 l0.length l0) (hc0 : l0.length ≤ c0) (h : spec_StateNumber.f k l0 = some r) :
    Calls Tryd.prog 45 #[.slice A0 l0.length c0] w fun e w' => e = .returned (.int .i64 r) ∧ Drawn0 w w' := by
  have HR0 := Aside0.mk hr0
  have HC0 := Aside0.mk hc0
  clear hr0 hc0
  have H : (if (l0.length : Int) > 10 then (some (-1)) else (spec_StateNumber.l0 k l0 0 (wrap64 ((l0.length : Int) - 1)))) = some r := h
  clear h
  by_cases c2 : (l0.length : Int) > 10
  · rw [if_pos c2] at H
    have c2b0 : decide (10 < (l0.length : Int)) = true := decide_eq_true c2
    have c2b1 : decide (10 < l0.length) = true := decide_eq_true (by omega)
    clear c2
    obtain rfl := Option.some.inj H
    go_enter Tryd.func45, Tryd.ntmps45
    go_wp2
    go_ret
    exact ⟨by first | rfl | (simp; done) | (simp [*]; done), by repeat (first | exact Drawn0.refl _ | apply Drawn0.step)⟩
  · rw [if_neg c2] at H
    have c2b0 : decide (10 < (l0.length : Int)) = false := decide_eq_false c2
    have c2b1 : decide (10 < l0.length) = false := decide_eq_false (by omega)
    clear c2
    have H' := Aside0.mk H
    clear H
    go_enter Tryd.func45, Tryd.ntmps45
    go_wp2
    go_loopg [3, 4] k (fun kq v3 v4 w' => ∃ (x3_1 : Int) (x4_1 : Int), v3 = .int .i64 x3_1 ∧ v4 = .int .i64 x4_1 ∧ Aside0 (spec_StateNumber.l0 kq l0 x3_1 x4_1 = some r) ∧ Aside0 (kq ≤ k) ∧ Drawn0 w w')
    case atStart => exact ⟨(0), (wrap64 ((l0.length : Int) - 1)), (by first | rfl | (simp; done) | (simp [*]; done)), (by first | rfl | (simp; done) | (simp [*]; done)), H', ⟨Nat.le_refl _⟩, by repeat (first | exact Drawn0.refl _ | apply Drawn0.step)⟩
    case round =>
      clear H'
      try clear c2
      try clear c2b0
      try clear c2b1
      try clear p2
      obtain ⟨x3_1, x4_1, rfl, rfl, HA, HK1, ⟨m1, rfl⟩⟩ := hrel
      cases gk with
      | zero => exact absurd HA.out (by simp [spec_StateNumber.l0])
      | succ k1 =>
        have H := HA.out
        clear HA
        simp only [spec_StateNumber.l0] at H
        by_cases c3 : x4_1 ≥ 0
        · rw [if_pos c3] at H
          have c3b0 : decide (0 ≤ x4_1) = true := decide_eq_true c3
          clear c3
          by_cases c4 : 0 ≤ x4_1
          · rw [if_pos c4] at H
            have c4b0 : decide (0 ≤ x4_1) = true := decide_eq_true c4
            clear c4
            by_cases c5 : x4_1 < (l0.length : Int)
            · rw [if_pos c5] at H
              have c5b0 : decide (x4_1 < (l0.length : Int)) = true := decide_eq_true c5
              clear c5
              obtain ⟨bq6, hbq6⟩ : ∃ b_ : Bool, b_ = (rdOf false l0 x4_1) := ⟨_, rfl⟩
              replace H : (if bq6 = true then (spec_StateNumber.l0 k1 l0 (wrap64 ((wrap64 (2 * x3_1)) + 1)) (wrap64 (x4_1 - 1))) else (spec_StateNumber.l0 k1 l0 (wrap64 (2 * x3_1)) (wrap64 (x4_1 - 1)))) = some r := by rw [← hbq6] at H; exact H
              have Nbq6 := Aside0.mk hbq6
              clear hbq6
              by_cases c7 : bq6 = true
              · subst c7
                have H1 : (spec_StateNumber.l0 k1 l0 (wrap64 ((wrap64 (2 * x3_1)) + 1)) (wrap64 (x4_1 - 1))) = some r := by rw [if_pos rfl] at H; exact H
                clear H
                have H := H1
                clear H1
                have H' := Aside0.mk H
                clear H
                have p623 : 0 ≤ (x4_1 : Int) := of_decide_eq_true (by first | (with_reducible assumption) | assumption)
                have q623 : x4_1 < (l0.length : Int) := of_decide_eq_true (by first | (with_reducible assumption) | assumption)
                obtain ⟨ad623, e623, hx623_0⟩ := Kd.at_bool HR0.out x4_1 p623 q623
                (try rw [← Nbq6.out] at hx623_0)
                cases e623
                replace p623 := eq_true p623
                replace q623 := eq_true q623
                go_wp2
                go_roundg k1
                case measure => have := HK1.out; omega
                case rel => exact ⟨(wrap64 ((wrap64 (2 * x3_1)) + 1)), (wrap64 (x4_1 - 1)), (by first | rfl | (simp; done) | (simp [*]; done)), (by first | rfl | (simp; done) | (simp [*]; done)), H', ⟨by have := HK1.out; omega⟩, by repeat (first | exact Drawn0.refl _ | apply Drawn0.step)⟩
              · replace c7 := Bool.eq_false_iff.mpr c7
                subst c7
                have H1 : (spec_StateNumber.l0 k1 l0 (wrap64 (2 * x3_1)) (wrap64 (x4_1 - 1))) = some r := by rw [if_neg (show ¬ (false = true) by decide)] at H; exact H
                clear H
                have H := H1
                clear H1
                have H' := Aside0.mk H
                clear H
                have p623 : 0 ≤ (x4_1 : Int) := of_decide_eq_true (by first | (with_reducible assumption) | assumption)
                have q623 : x4_1 < (l0.length : Int) := of_decide_eq_true (by first | (with_reducible assumption) | assumption)
                obtain ⟨ad623, e623, hx623_0⟩ := Kd.at_bool HR0.out x4_1 p623 q623
                (try rw [← Nbq6.out] at hx623_0)
                cases e623
                replace p623 := eq_true p623
                replace q623 := eq_true q623
                go_wp2
                go_roundg k1
                case measure => have := HK1.out; omega
                case rel => exact ⟨(wrap64 (2 * x3_1)), (wrap64 (x4_1 - 1)), (by first | rfl | (simp; done) | (simp [*]; done)), (by first | rfl | (simp; done) | (simp [*]; done)), H', ⟨by have := HK1.out; omega⟩, by repeat (first | exact Drawn0.refl _ | apply Drawn0.step)⟩
            · rw [if_neg c5] at H
              exact absurd H (by simp)
          · rw [if_neg c4] at H
            exact absurd H (by simp)
        · rw [if_neg c3] at H
          have c3b0 : decide (0 ≤ x4_1) = false := decide_eq_false c3
          clear c3
          obtain rfl := Option.some.inj H
          go_wp2
          go_ret
          exact ⟨by first | rfl | (simp; done) | (simp [*]; done), by repeat (first | exact Drawn0.refl _ | apply Drawn0.step)⟩

end Go.Proofs.YtlahlfjhfmldaaaDoor.P

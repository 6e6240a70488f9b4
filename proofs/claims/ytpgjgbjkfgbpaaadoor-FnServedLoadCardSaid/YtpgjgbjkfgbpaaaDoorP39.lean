/- Contracts of Go functions of this seat's translation, written by this repo's wip/mk.py: it calls the kit's print.py with contracts typed by hand in place of functions that it does not take. Not trusted: Lean checks it. -/
import Derived.Test.YtpgjgbjkfgbpaaaDoorP0
import Derived.Test.YtpgjgbjkfgbpaaaDoorP5
import Derived.Test.YtpgjgbjkfgbpaaaDoorP16
import Derived.Test.YtpgjgbjkfgbpaaaDoorP21
import Derived.Test.YtpgjgbjkfgbpaaaDoorP22
namespace Go.Proofs.YtpgjgbjkfgbpaaaDoor.P
open Go.RowKit Go.Proofs.YtpgjgbjkfgbpaaaDoorW.PrintWords Go.Proofs.YtpgjgbjkfgbpaaaDoorW.PrintLast Go.Proofs.YtpgjgbjkfgbpaaaDoorW.PrintMore
attribute [local go_sem] max2_int min2_int max_two min_two max_three min_three max_four min_four   -- for this text's walks alone
set_option linter.unusedVariables false
set_option linter.unusedSimpArgs false

/-! ### impl_SameIsland: function 18 -/
def impl_SameIsland.f (k : Nat) (a0_0 : Int) (l0_1 : List (S79)) (l1 : List Bool) (a2 : Int) (a3 : Int) : Option (Bool) := (impl_StateValid.f k a0_0 l0_1 l1).bind fun t374 => (if t374 = true then ((impl_Net_hasBus.f a0_0 l0_1 a2).bind fun t375 => (if t375 = true then ((impl_Net_hasBus.f a0_0 l0_1 a3).bind fun t376 => (if t376 = true then ((impl_unionOf.f k a0_0 l0_1 l1).bind fun t377 => ((impl_union_same.f k t377 a2 a3).bind fun bt380 => (some bt380.1))) else (some false))) else (some false))) else (some false))
theorem impl_SameIsland.mono : ∀ a0 a1 a2 a3 a4 k, LeO (impl_SameIsland.f k a0 a1 a2 a3 a4) (impl_SameIsland.f (k + 1) a0 a1 a2 a3 a4) := by
 intro a0 a1 a2 a3 a4 k
 unfold impl_SameIsland.f
 repeat' first
   | (with_reducible exact impl_StateValid.mono _ _ _ _)
   | (with_reducible exact impl_unionOf.mono _ _ _ _)
   | (with_reducible exact impl_union_same.mono _ _ _ _)
   | (with_reducible exact LeO.refl _)
   | (with_reducible exact LeO.none _)
   | (with_reducible refine LeO.ite ?_ ?_)
   | (with_reducible refine LeO.bind ?_ (fun _ => ?_))
   | exact impl_StateValid.mono _ _ _ _
   | exact impl_unionOf.mono _ _ _ _
   | exact impl_union_same.mono _ _ _ _
   | exact LeO.none _
   | refine LeO.ite ?_ ?_
   | refine LeO.bind ?_ (fun _ => ?_)
set_option maxHeartbeats 8000000 in
set_option maxRecDepth 100000 in
theorem impl_SameIsland.calls (k : Nat) (a0_0 : Int) (A0_1 : Option Addr) (c0_1 : Nat) (l0_1 : List (S79)) (A1 : Option Addr) (c1 : Nat) (l1 : List Bool) (a2 : Int) (a3 : Int) (r : Bool) (w : World) (hr0_1 : Kd.C k79 w A0_1 l0_1.length l0_1) (hc0_1 : l0_1.length ≤ c0_1) (hr1 : Kd.C Kd.bool w A1 l1.length l1) (hc1 : l1.length ≤ c1) (h : impl_SameIsland.f k a0_0 l0_1 l1 a2 a3 = some r) :
  Calls Tryd.prog 18 #[.agg #[.int .i64 a0_0, .slice A0_1 l0_1.length c0_1], .slice A1 l1.length c1, .int .i64 a2, .int .i64 a3] w fun e w' => e = .returned (.bool r) ∧ Below w.heap.size w w' := by
 have hu25 := Tryd.underlying25
 have HR0_1 := Aside0.mk hr0_1
 have HC0_1 := Aside0.mk hc0_1
 clear hr0_1 hc0_1
 have HR1 := Aside0.mk hr1
 have HC1 := Aside0.mk hc1
 clear hr1 hc1
 have HB := aM (Below.refl w.heap.size w)
 have H : ((impl_StateValid.f k a0_0 l0_1 l1).bind fun t374 => (if t374 = true then ((impl_Net_hasBus.f a0_0 l0_1 a2).bind fun t375 => (if t375 = true then ((impl_Net_hasBus.f a0_0 l0_1 a3).bind fun t376 => (if t376 = true then ((impl_unionOf.f k a0_0 l0_1 l1).bind fun t377 => ((impl_union_same.f k t377 a2 a3).bind fun bt380 => (some bt380.1))) else (some false))) else (some false))) else (some false))) = some r := h
 clear h
 replace H := Option.bind_eq_some_iff.mp H
 obtain ⟨t374, A50, H⟩ := H
 replace H : (if t374 = true then ((impl_Net_hasBus.f a0_0 l0_1 a2).bind fun t375 => (if t375 = true then ((impl_Net_hasBus.f a0_0 l0_1 a3).bind fun t376 => (if t376 = true then ((impl_unionOf.f k a0_0 l0_1 l1).bind fun t377 => ((impl_union_same.f k t377 a2 a3).bind fun bt380 => (some bt380.1))) else (some false))) else (some false))) else (some false)) = some r := H
 have A5 := Aside0.mk A50
 clear A50
 by_cases c6 : t374 = true
 rotate_left
 ·
  replace c6 := Bool.eq_false_iff.mpr c6
  subst c6
  have H1 : (some false) = some r := by rw [if_neg (show ¬ (false = true) by decide)] at H; exact H
  clear H
  have H := H1
  clear H1
  obtain rfl := Option.some.inj H
  go_enter Tryd.func18, Tryd.ntmps18
  go_wp2_with (first | ((with_reducible refine gate_dst (N := 4) rfl ?_); refine box_event ?hg (N := 4) ?hd (cs := #[.int .i64 a0_0, .slice A0_1 l0_1.length c0_1]) (t := 25) ?hr ?_; (case hd => rfl); (case hg => rfl); (case hr => exact hR); intro gb373 hg w36 hbox hb; have n0_ := aM (below_step (bl0 HB) hb); have n1_ := aM (hbox); have n2_ := aM ((by rw [hg]; exact (below_size (bl0 HB)) : w.heap.size ≤ gb373)); have n3_ := aM ((by rw [hg]; exact (below_size (bl0 HB)) : w.heap.size ≤ gb373)); clear HB; have HB := n0_; have BK373 := n1_; have GW373 := n2_; have GE373 := n3_; clear n0_ n1_ n2_ n3_; clear hb hbox hg; have hcz37_0 : w36.cell? ⟨gb373, 0, none⟩ = some (.int .i64 a0_0) := (blk_cell BK373.out 0).trans rfl; have hcz37_1 : w36.cell? ⟨gb373, 1, none⟩ = some (.slice A0_1 l0_1.length c0_1) := (blk_cell BK373.out 1).trans rfl; have hfz37_0 := blk_frozen BK373.out 0; have hfz37_1 := blk_frozen BK373.out 1) | ((with_reducible refine gate_callee (f := 77) rfl ?_); refine goesL_ (some 11) rfl rfl Tryd.func77 (by kernel_rfl) rfl #[.agg #[.int .i64 a0_0, .slice A0_1 l0_1.length c0_1], .slice A1 l1.length c1] rfl mP ?_; (with_reducible refine (impl_StateValid.calls k a0_0 _ _ l0_1 _ _ l1 false _ ?side1 ?side2 ?side3 ?side4 A5.out).mono ?_); (case side1 => exact gC ((Kd.C_below HR0_1.out HB.out))); (case side2 => exact HC0_1.out); (case side3 => exact gC ((Kd.C_below HR1.out HB.out))); (case side4 => exact HC1.out); rintro e w38 ⟨rfl, hb⟩; refine ⟨_, rfl, ?_⟩; have n0_ := aM (blk_below (g := gb373) (o := .cells #[.int .i64 a0_0, .slice A0_1 l0_1.length c0_1] 25 (0, 0)) (gB (BK373.out)) hb); have n1_ := aM (below_step (bl1 HB GE373) hb); clear BK373; clear HB; have BK373 := n0_; have HB := n1_; clear n0_ n1_; (try clear hb); (try clear hb2); (try clear hk); (try clear hi)))
  go_ret
  exact ⟨fR, bl1 HB GE373⟩
 subst c6
 have H1 : ((impl_Net_hasBus.f a0_0 l0_1 a2).bind fun t375 => (if t375 = true then ((impl_Net_hasBus.f a0_0 l0_1 a3).bind fun t376 => (if t376 = true then ((impl_unionOf.f k a0_0 l0_1 l1).bind fun t377 => ((impl_union_same.f k t377 a2 a3).bind fun bt380 => (some bt380.1))) else (some false))) else (some false))) = some r := by rw [if_pos rfl] at H; exact H
 clear H
 have H := H1
 clear H1
 replace H := Option.bind_eq_some_iff.mp H
 obtain ⟨t375, A70, H⟩ := H
 replace H : (if t375 = true then ((impl_Net_hasBus.f a0_0 l0_1 a3).bind fun t376 => (if t376 = true then ((impl_unionOf.f k a0_0 l0_1 l1).bind fun t377 => ((impl_union_same.f k t377 a2 a3).bind fun bt380 => (some bt380.1))) else (some false))) else (some false)) = some r := H
 have A7 := Aside0.mk A70
 clear A70
 by_cases c8 : t375 = true
 rotate_left
 ·
  replace c8 := Bool.eq_false_iff.mpr c8
  subst c8
  have H1 : (some false) = some r := by rw [if_neg (show ¬ (false = true) by decide)] at H; exact H
  clear H
  have H := H1
  clear H1
  obtain rfl := Option.some.inj H
  go_enter Tryd.func18, Tryd.ntmps18
  go_wp2_with (first | ((with_reducible refine gate_dst (N := 4) rfl ?_); refine box_event ?hg (N := 4) ?hd (cs := #[.int .i64 a0_0, .slice A0_1 l0_1.length c0_1]) (t := 25) ?hr ?_; (case hd => rfl); (case hg => rfl); (case hr => exact hR); intro gb373 hg w31 hbox hb; have n0_ := aM (below_step (bl0 HB) hb); have n1_ := aM (hbox); have n2_ := aM ((by rw [hg]; exact (below_size (bl0 HB)) : w.heap.size ≤ gb373)); have n3_ := aM ((by rw [hg]; exact (below_size (bl0 HB)) : w.heap.size ≤ gb373)); clear HB; have HB := n0_; have BK373 := n1_; have GW373 := n2_; have GE373 := n3_; clear n0_ n1_ n2_ n3_; clear hb hbox hg; have hcz32_0 : w31.cell? ⟨gb373, 0, none⟩ = some (.int .i64 a0_0) := (blk_cell BK373.out 0).trans rfl; have hcz32_1 : w31.cell? ⟨gb373, 1, none⟩ = some (.slice A0_1 l0_1.length c0_1) := (blk_cell BK373.out 1).trans rfl; have hfz32_0 := blk_frozen BK373.out 0; have hfz32_1 := blk_frozen BK373.out 1) | ((with_reducible refine gate_callee (f := 77) rfl ?_); refine goesL_ (some 11) rfl rfl Tryd.func77 (by kernel_rfl) rfl #[.agg #[.int .i64 a0_0, .slice A0_1 l0_1.length c0_1], .slice A1 l1.length c1] rfl mP ?_; (with_reducible refine (impl_StateValid.calls k a0_0 _ _ l0_1 _ _ l1 true _ ?side1 ?side2 ?side3 ?side4 A5.out).mono ?_); (case side1 => exact gC ((Kd.C_below HR0_1.out HB.out))); (case side2 => exact HC0_1.out); (case side3 => exact gC ((Kd.C_below HR1.out HB.out))); (case side4 => exact HC1.out); rintro e w33 ⟨rfl, hb⟩; refine ⟨_, rfl, ?_⟩; have n0_ := aM (blk_below (g := gb373) (o := .cells #[.int .i64 a0_0, .slice A0_1 l0_1.length c0_1] 25 (0, 0)) (gB (BK373.out)) hb); have n1_ := aM (below_step (bl1 HB GE373) hb); clear BK373; clear HB; have BK373 := n0_; have HB := n1_; clear n0_ n1_; (try clear hb); (try clear hb2); (try clear hk); (try clear hi); have hcz34_0 : w33.cell? ⟨gb373, 0, none⟩ = some (.int .i64 a0_0) := (blk_cell BK373.out 0).trans rfl; have hcz34_1 : w33.cell? ⟨gb373, 1, none⟩ = some (.slice A0_1 l0_1.length c0_1) := (blk_cell BK373.out 1).trans rfl; have hfz34_0 := blk_frozen BK373.out 0; have hfz34_1 := blk_frozen BK373.out 1) | (go_at_call 70; (with_reducible refine (impl_Net_hasBus.calls a0_0 _ _ l0_1 a2 false _ ?side1 ?side2 A7.out).mono ?_); (case side1 => exact gC ((Kd.C_below HR0_1.out HB.out))); (case side2 => exact HC0_1.out); rintro e w35 ⟨rfl, hb⟩; have n0_ := aM (blk_below (g := gb373) (o := .cells #[.int .i64 a0_0, .slice A0_1 l0_1.length c0_1] 25 (0, 0)) (gB (BK373.out)) hb); have n1_ := aM (below_step (bl1 HB GE373) hb); clear BK373; clear HB; have BK373 := n0_; have HB := n1_; clear n0_ n1_; (try clear hb); (try clear hb2); (try clear hk); (try clear hi)))
  go_ret
  exact ⟨fR, bl1 HB GE373⟩
 subst c8
 have H1 : ((impl_Net_hasBus.f a0_0 l0_1 a3).bind fun t376 => (if t376 = true then ((impl_unionOf.f k a0_0 l0_1 l1).bind fun t377 => ((impl_union_same.f k t377 a2 a3).bind fun bt380 => (some bt380.1))) else (some false))) = some r := by rw [if_pos rfl] at H; exact H
 clear H
 have H := H1
 clear H1
 replace H := Option.bind_eq_some_iff.mp H
 obtain ⟨t376, A90, H⟩ := H
 replace H : (if t376 = true then ((impl_unionOf.f k a0_0 l0_1 l1).bind fun t377 => ((impl_union_same.f k t377 a2 a3).bind fun bt380 => (some bt380.1))) else (some false)) = some r := H
 have A9 := Aside0.mk A90
 clear A90
 by_cases c10 : t376 = true
 rotate_left
 ·
  replace c10 := Bool.eq_false_iff.mpr c10
  subst c10
  have H1 : (some false) = some r := by rw [if_neg (show ¬ (false = true) by decide)] at H; exact H
  clear H
  have H := H1
  clear H1
  obtain rfl := Option.some.inj H
  go_enter Tryd.func18, Tryd.ntmps18
  go_wp2_with (first | ((with_reducible refine gate_dst (N := 4) rfl ?_); refine box_event ?hg (N := 4) ?hd (cs := #[.int .i64 a0_0, .slice A0_1 l0_1.length c0_1]) (t := 25) ?hr ?_; (case hd => rfl); (case hg => rfl); (case hr => exact hR); intro gb373 hg w24 hbox hb; have n0_ := aM (below_step (bl0 HB) hb); have n1_ := aM (hbox); have n2_ := aM ((by rw [hg]; exact (below_size (bl0 HB)) : w.heap.size ≤ gb373)); have n3_ := aM ((by rw [hg]; exact (below_size (bl0 HB)) : w.heap.size ≤ gb373)); clear HB; have HB := n0_; have BK373 := n1_; have GW373 := n2_; have GE373 := n3_; clear n0_ n1_ n2_ n3_; clear hb hbox hg; have hcz25_0 : w24.cell? ⟨gb373, 0, none⟩ = some (.int .i64 a0_0) := (blk_cell BK373.out 0).trans rfl; have hcz25_1 : w24.cell? ⟨gb373, 1, none⟩ = some (.slice A0_1 l0_1.length c0_1) := (blk_cell BK373.out 1).trans rfl; have hfz25_0 := blk_frozen BK373.out 0; have hfz25_1 := blk_frozen BK373.out 1) | ((with_reducible refine gate_callee (f := 77) rfl ?_); refine goesL_ (some 11) rfl rfl Tryd.func77 (by kernel_rfl) rfl #[.agg #[.int .i64 a0_0, .slice A0_1 l0_1.length c0_1], .slice A1 l1.length c1] rfl mP ?_; (with_reducible refine (impl_StateValid.calls k a0_0 _ _ l0_1 _ _ l1 true _ ?side1 ?side2 ?side3 ?side4 A5.out).mono ?_); (case side1 => exact gC ((Kd.C_below HR0_1.out HB.out))); (case side2 => exact HC0_1.out); (case side3 => exact gC ((Kd.C_below HR1.out HB.out))); (case side4 => exact HC1.out); rintro e w26 ⟨rfl, hb⟩; refine ⟨_, rfl, ?_⟩; have n0_ := aM (blk_below (g := gb373) (o := .cells #[.int .i64 a0_0, .slice A0_1 l0_1.length c0_1] 25 (0, 0)) (gB (BK373.out)) hb); have n1_ := aM (below_step (bl1 HB GE373) hb); clear BK373; clear HB; have BK373 := n0_; have HB := n1_; clear n0_ n1_; (try clear hb); (try clear hb2); (try clear hk); (try clear hi); have hcz27_0 : w26.cell? ⟨gb373, 0, none⟩ = some (.int .i64 a0_0) := (blk_cell BK373.out 0).trans rfl; have hcz27_1 : w26.cell? ⟨gb373, 1, none⟩ = some (.slice A0_1 l0_1.length c0_1) := (blk_cell BK373.out 1).trans rfl; have hfz27_0 := blk_frozen BK373.out 0; have hfz27_1 := blk_frozen BK373.out 1) | (go_at_call 70; (with_reducible refine (impl_Net_hasBus.calls a0_0 _ _ l0_1 a2 true _ ?side1 ?side2 A7.out).mono ?_); (case side1 => exact gC ((Kd.C_below HR0_1.out HB.out))); (case side2 => exact HC0_1.out); rintro e w28 ⟨rfl, hb⟩; have n0_ := aM (blk_below (g := gb373) (o := .cells #[.int .i64 a0_0, .slice A0_1 l0_1.length c0_1] 25 (0, 0)) (gB (BK373.out)) hb); have n1_ := aM (below_step (bl1 HB GE373) hb); clear BK373; clear HB; have BK373 := n0_; have HB := n1_; clear n0_ n1_; (try clear hb); (try clear hb2); (try clear hk); (try clear hi); have hcz29_0 : w28.cell? ⟨gb373, 0, none⟩ = some (.int .i64 a0_0) := (blk_cell BK373.out 0).trans rfl; have hcz29_1 : w28.cell? ⟨gb373, 1, none⟩ = some (.slice A0_1 l0_1.length c0_1) := (blk_cell BK373.out 1).trans rfl; have hfz29_0 := blk_frozen BK373.out 0; have hfz29_1 := blk_frozen BK373.out 1) | (go_at_call 70; (with_reducible refine (impl_Net_hasBus.calls a0_0 _ _ l0_1 a3 false _ ?side1 ?side2 A9.out).mono ?_); (case side1 => exact gC ((Kd.C_below HR0_1.out HB.out))); (case side2 => exact HC0_1.out); rintro e w30 ⟨rfl, hb⟩; have n0_ := aM (blk_below (g := gb373) (o := .cells #[.int .i64 a0_0, .slice A0_1 l0_1.length c0_1] 25 (0, 0)) (gB (BK373.out)) hb); have n1_ := aM (below_step (bl1 HB GE373) hb); clear BK373; clear HB; have BK373 := n0_; have HB := n1_; clear n0_ n1_; (try clear hb); (try clear hb2); (try clear hk); (try clear hi)))
  go_ret
  exact ⟨fR, bl1 HB GE373⟩
 subst c10
 have H1 : ((impl_unionOf.f k a0_0 l0_1 l1).bind fun t377 => ((impl_union_same.f k t377 a2 a3).bind fun bt380 => (some bt380.1))) = some r := by rw [if_pos rfl] at H; exact H
 clear H
 have H := H1
 clear H1
 replace H := Option.bind_eq_some_iff.mp H
 obtain ⟨t377, A110, H⟩ := H
 replace H : ((impl_union_same.f k t377 a2 a3).bind fun bt380 => (some bt380.1)) = some r := H
 have A11 := Aside0.mk A110
 clear A110
 replace H := Option.bind_eq_some_iff.mp H
 obtain ⟨⟨t380, t381⟩, A120, H⟩ := H
 replace H : (some t380) = some r := H
 have A12 := Aside0.mk A120
 clear A120
 obtain rfl := Option.some.inj H
 go_enter Tryd.func18, Tryd.ntmps18
 go_wp2_with (first | ((with_reducible refine gate_dst (N := 4) rfl ?_); refine box_event ?hg (N := 4) ?hd (cs := #[.int .i64 a0_0, .slice A0_1 l0_1.length c0_1]) (t := 25) ?hr ?_; (case hd => rfl); (case hg => rfl); (case hr => exact hR); intro gb373 hg w13 hbox hb; have n0_ := aM (below_step (bl0 HB) hb); have n1_ := aM (hbox); have n2_ := aM ((by rw [hg]; exact (below_size (bl0 HB)) : w.heap.size ≤ gb373)); have n3_ := aM ((by rw [hg]; exact (below_size (bl0 HB)) : w.heap.size ≤ gb373)); clear HB; have HB := n0_; have BK373 := n1_; have GW373 := n2_; have GE373 := n3_; clear n0_ n1_ n2_ n3_; clear hb hbox hg; have hcz14_0 : w13.cell? ⟨gb373, 0, none⟩ = some (.int .i64 a0_0) := (blk_cell BK373.out 0).trans rfl; have hcz14_1 : w13.cell? ⟨gb373, 1, none⟩ = some (.slice A0_1 l0_1.length c0_1) := (blk_cell BK373.out 1).trans rfl; have hfz14_0 := blk_frozen BK373.out 0; have hfz14_1 := blk_frozen BK373.out 1) | ((with_reducible refine gate_callee (f := 77) rfl ?_); refine goesL_ (some 11) rfl rfl Tryd.func77 (by kernel_rfl) rfl #[.agg #[.int .i64 a0_0, .slice A0_1 l0_1.length c0_1], .slice A1 l1.length c1] rfl mP ?_; (with_reducible refine (impl_StateValid.calls k a0_0 _ _ l0_1 _ _ l1 true _ ?side1 ?side2 ?side3 ?side4 A5.out).mono ?_); (case side1 => exact gC ((Kd.C_below HR0_1.out HB.out))); (case side2 => exact HC0_1.out); (case side3 => exact gC ((Kd.C_below HR1.out HB.out))); (case side4 => exact HC1.out); rintro e w15 ⟨rfl, hb⟩; refine ⟨_, rfl, ?_⟩; have n0_ := aM (blk_below (g := gb373) (o := .cells #[.int .i64 a0_0, .slice A0_1 l0_1.length c0_1] 25 (0, 0)) (gB (BK373.out)) hb); have n1_ := aM (below_step (bl1 HB GE373) hb); clear BK373; clear HB; have BK373 := n0_; have HB := n1_; clear n0_ n1_; (try clear hb); (try clear hb2); (try clear hk); (try clear hi); have hcz16_0 : w15.cell? ⟨gb373, 0, none⟩ = some (.int .i64 a0_0) := (blk_cell BK373.out 0).trans rfl; have hcz16_1 : w15.cell? ⟨gb373, 1, none⟩ = some (.slice A0_1 l0_1.length c0_1) := (blk_cell BK373.out 1).trans rfl; have hfz16_0 := blk_frozen BK373.out 0; have hfz16_1 := blk_frozen BK373.out 1) | (go_at_call 70; (with_reducible refine (impl_Net_hasBus.calls a0_0 _ _ l0_1 a2 true _ ?side1 ?side2 A7.out).mono ?_); (case side1 => exact gC ((Kd.C_below HR0_1.out HB.out))); (case side2 => exact HC0_1.out); rintro e w17 ⟨rfl, hb⟩; have n0_ := aM (blk_below (g := gb373) (o := .cells #[.int .i64 a0_0, .slice A0_1 l0_1.length c0_1] 25 (0, 0)) (gB (BK373.out)) hb); have n1_ := aM (below_step (bl1 HB GE373) hb); clear BK373; clear HB; have BK373 := n0_; have HB := n1_; clear n0_ n1_; (try clear hb); (try clear hb2); (try clear hk); (try clear hi); have hcz18_0 : w17.cell? ⟨gb373, 0, none⟩ = some (.int .i64 a0_0) := (blk_cell BK373.out 0).trans rfl; have hcz18_1 : w17.cell? ⟨gb373, 1, none⟩ = some (.slice A0_1 l0_1.length c0_1) := (blk_cell BK373.out 1).trans rfl; have hfz18_0 := blk_frozen BK373.out 0; have hfz18_1 := blk_frozen BK373.out 1) | (go_at_call 70; (with_reducible refine (impl_Net_hasBus.calls a0_0 _ _ l0_1 a3 true _ ?side1 ?side2 A9.out).mono ?_); (case side1 => exact gC ((Kd.C_below HR0_1.out HB.out))); (case side2 => exact HC0_1.out); rintro e w19 ⟨rfl, hb⟩; have n0_ := aM (blk_below (g := gb373) (o := .cells #[.int .i64 a0_0, .slice A0_1 l0_1.length c0_1] 25 (0, 0)) (gB (BK373.out)) hb); have n1_ := aM (below_step (bl1 HB GE373) hb); clear BK373; clear HB; have BK373 := n0_; have HB := n1_; clear n0_ n1_; (try clear hb); (try clear hb2); (try clear hk); (try clear hi); have hcz20_0 : w19.cell? ⟨gb373, 0, none⟩ = some (.int .i64 a0_0) := (blk_cell BK373.out 0).trans rfl; have hcz20_1 : w19.cell? ⟨gb373, 1, none⟩ = some (.slice A0_1 l0_1.length c0_1) := (blk_cell BK373.out 1).trans rfl; have hfz20_0 := blk_frozen BK373.out 0; have hfz20_1 := blk_frozen BK373.out 1) | (go_at_call 72; (with_reducible refine (impl_unionOf.calls k a0_0 _ _ l0_1 _ _ l1 t377 _ ?side1 ?side2 ?side3 ?side4 A11.out).mono ?_); (case side1 => exact gC ((Kd.C_below HR0_1.out HB.out))); (case side2 => exact HC0_1.out); (case side3 => exact gC ((Kd.C_below HR1.out HB.out))); (case side4 => exact HC1.out); rintro e w21 ⟨v378, rfl, ho0, hb⟩; have n0_ := aM (Kd.R_lower ho0 (below_size (bl1 HB GE373))); have n1_ := aM (blk_below (g := gb373) (o := .cells #[.int .i64 a0_0, .slice A0_1 l0_1.length c0_1] 25 (0, 0)) (gB (BK373.out)) hb); have n2_ := aM (below_step (bl1 HB GE373) hb); clear BK373; clear HB; have HO379 := n0_; have BK373 := n1_; have HB := n2_; clear n0_ n1_ n2_; (try clear hb); (try clear hb2); (try clear hk); (try clear hi); (try clear ho0); obtain ⟨Ao22, co22, eo22⟩ := Kd.R_slice HO379.out; subst eo22) | (go_at_call 78; (with_reducible refine (impl_union_same.calls k (fun k_ => some k_ = (.slice Ao22 t377.length co22 : Value).ownBlock) (.slice Ao22 t377.length co22) t377 a2 a3 t380 t381 w _ ?side1 ?side2 A12.out).mono ?_); (case side1 => repeat (first | (with_reducible first | exact HB.out | apply below_alloc | apply pw_below_drewN | apply below_drew1 | refine below_set ?_ GE373.out) | exact HB.out)); (case side2 => exact Kd.R_tight rfl HO379.out); rintro e w23 ⟨rfl, hy0, hb, hkp⟩; have n0_ := aM (blk_kept (gB (BK373.out)) hkp (fun hs_ => (fun e_ => (Kd.R_ne HO379.out BK373.out (by decide)) e_) hs_)); have n1_ := aM (Kd.R_reok rfl hy0 (fun k_ e_ => HO379.out.1 k_ e_)); have n2_ := aM (hb); clear BK373; clear HO379; clear HB; have BK373 := n0_; have HO379 := n1_; have HB := n2_; clear n0_ n1_ n2_; (try clear hb); (try clear hkp); (try clear hy0)))
 go_ret
 exact ⟨fR, bl1 HB GE373⟩

end Go.Proofs.YtpgjgbjkfgbpaaaDoor.P
namespace Go.Proofs.YtpgjgbjkfgbpaaaDoor.P
open Go.RowKit Go.Proofs.YtpgjgbjkfgbpaaaDoorW.PrintWords Go.Proofs.YtpgjgbjkfgbpaaaDoorW.PrintLast Go.Proofs.YtpgjgbjkfgbpaaaDoorW.PrintMore
attribute [local go_sem] max2_int min2_int max_two min_two max_three min_three max_four min_four   -- for this text's walks alone
set_option linter.unusedVariables false
set_option linter.unusedSimpArgs false

/-! ### impl_union_members: function 79 -/
def impl_union_members.l0 : Nat → List Int → Int → List Int → Int → Int → Option (List Int × List Int)
 | 0, _, _, _, _, _ => none
 | k + 1, x0, x1, x5, x8, x9 => if x9 < x8 then ((impl_union_same.f k x0 x9 x1).bind fun bt382 => (if bt382.1 = true then (if x5.length < 17592186044416 then (impl_union_members.l0 k bt382.2 x1 (x5 ++ [x9]) x8 (wrap64 (x9 + 1))) else (none)) else (impl_union_members.l0 k bt382.2 x1 x5 x8 (wrap64 (x9 + 1))))) else (some (x5, x0))
def impl_union_members.f (k : Nat) (l0 : List Int) (a1 : Int) : Option (List Int × List Int) := impl_union_members.l0 k l0 a1 ([] : List Int) (l0.length : Int) 0
theorem impl_union_members.mono_l : ∀ k, (∀ y0 y1 y2 y3 y4, LeO (impl_union_members.l0 k y0 y1 y2 y3 y4) (impl_union_members.l0 (k + 1) y0 y1 y2 y3 y4))
 | 0 => fun _ _ _ _ _ r h => by simp [impl_union_members.l0] at h
 | k + 1 => by
  have ih0 := impl_union_members.mono_l k
  ·
   intro y0 y1 y2 y3 y4
   unfold impl_union_members.l0
   repeat' first
   | (with_reducible exact ih0 _ _ _ _ _)
   | (with_reducible exact impl_union_same.mono _ _ _ _)
   | (with_reducible exact LeO.refl _)
   | (with_reducible exact LeO.none _)
   | (with_reducible refine LeO.ite ?_ ?_)
   | (with_reducible refine LeO.bind ?_ (fun _ => ?_))
   | exact ih0 _ _ _ _ _
   | exact impl_union_same.mono _ _ _ _
   | exact LeO.none _
   | refine LeO.ite ?_ ?_
   | refine LeO.bind ?_ (fun _ => ?_)
theorem impl_union_members.mono : ∀ a0 a1 k, LeO (impl_union_members.f k a0 a1) (impl_union_members.f (k + 1) a0 a1) := by
 intro a0 a1 k
 have ih0 := impl_union_members.mono_l k
 unfold impl_union_members.f
 repeat' first
   | (with_reducible exact ih0 _ _ _ _ _)
   | (with_reducible exact impl_union_same.mono _ _ _ _)
   | (with_reducible exact LeO.refl _)
   | (with_reducible exact LeO.none _)
   | (with_reducible refine LeO.ite ?_ ?_)
   | (with_reducible refine LeO.bind ?_ (fun _ => ?_))
   | exact ih0 _ _ _ _ _
   | exact impl_union_same.mono _ _ _ _
   | exact LeO.none _
   | refine LeO.ite ?_ ?_
   | refine LeO.bind ?_ (fun _ => ?_)
set_option maxHeartbeats 8000000 in
set_option maxRecDepth 100000 in
theorem impl_union_members.calls (k : Nat) (P0_ : Nat → Prop) (u9000_ : Value) (l0 : List Int) (a1 : Int) (r1 : List Int) (r2 : List Int) (w0 w : World) (hB : Below w0.heap.size w0 w) (ho0 : Kd.R (Kd.int .i64) 3 w w0.heap.size P0_ u9000_ l0) (h : impl_union_members.f k l0 a1 = some (r1, r2)) :
  Calls Tryd.prog 79 #[u9000_, .int .i64 a1] w fun e w' => ∃ v0_ : Value, e = .returned (v0_) ∧ Kd.R (Kd.int .i64) 3 w' w0.heap.size (fun k_ => (P0_ k_ ∨ w.heap.size ≤ k_) ∧ some k_ ≠ (u9000_ : Value).ownBlock) v0_ r1 ∧ Kd.R (Kd.int .i64) 3 w' w0.heap.size (fun k_ => (P0_ k_ ∨ w.heap.size ≤ k_)) u9000_ r2 ∧ Below w0.heap.size w0 w' ∧ Kept w w' (fun k_ => P0_ k_) := by
 have HO0 := aM (show Kd.R (Kd.int .i64) 3 w w0.heap.size (fun k_ => (P0_ k_ ∨ w.heap.size ≤ k_)) u9000_ l0 from Kd.R_mono ho0 (fun k_ hk => (.inl hk)))
 have HK := aM (Kept.refl w (fun k_ => P0_ k_))
 have HW0 := Aside0.mk hB.size
 have HB := Aside0.mk hB
 clear hB
 have H : (impl_union_members.l0 k l0 a1 ([] : List Int) (l0.length : Int) 0) = some (r1, r2) := h
 clear h
 have H' := Aside0.mk H
 clear H
 obtain ⟨Ao3, co3, eo3⟩ := Kd.R_slice HO0.out
 subst eo3
 go_enter Tryd.func79, Tryd.ntmps79
 go_wp2
 go_loopg [5, 9] k (fun kq v5 v9 w' => ∃ (x0_1 : List Int) (x5_1 : List Int) (x9_1 : Int), v9 = .int .i64 x9_1 ∧ Aside0 (impl_union_members.l0 kq x0_1 a1 x5_1 (l0.length : Int) x9_1 = some (r1, r2)) ∧ Aside0 (kq ≤ k) ∧ Aside0 (Kd.R (Kd.int .i64) 3 w' w0.heap.size (fun k_ => (P0_ k_ ∨ w.heap.size ≤ k_) ∧ some k_ ≠ (v5 : Value).ownBlock) (.slice Ao3 l0.length co3) x0_1) ∧ Aside0 (Kd.R (Kd.int .i64) 3 w' w0.heap.size (fun k_ => (P0_ k_ ∨ w.heap.size ≤ k_) ∧ some k_ ≠ ((.slice Ao3 l0.length co3) : Value).ownBlock) v5 x5_1) ∧ Aside0 (Kept w w' (fun k_ => P0_ k_)) ∧ Aside0 (Below w0.heap.size w0 w'))
 case atStart => exact ⟨(l0), (([] : List Int)), (0), fS, H', ⟨Nat.le_refl _⟩, ⟨by (with_reducible repeat (first | apply Kd.R_alloc | apply Kd.R_drewN | apply Kd.R_drew)); exact Kd.R_mono HO0.out (fun _ hk => ⟨hk, (by simp [Value.ownBlock])⟩)⟩, ⟨by first | exact Kd.R_nil _ _ _ _ _ | exact Kd.N_nil _ _ _ _ _ | exact Kd.V_nil _ _ _ _ _ | exact Kd.Q_nil _ _ _ _ _ | exact Kd.S_nil _ _ _ _ _⟩, ⟨by repeat (first | (with_reducible first | exact HK.out | apply Kept.alloc | apply Kept.drewN | apply Kept.drew) | exact HK.out)⟩, ⟨bl0 HB⟩⟩
 case round =>
  clear H'
  try clear p2
  obtain ⟨x0_1, x5_1, x9_1, rfl, HA, HK1, HO_0, HO_5, HK, HB⟩ := hrel
  have hl0_1 := (Kd.R_reads' HO_0.out).1
  rw [hl0_1] at HO_0
  (try simp only [hl0_1])
  (try simp only [hl0_1] at HO_5)
  cases gk with
  | zero => exact absurd HA.out (by simp [impl_union_members.l0])
  | succ k1 =>
   have H := HA.out
   clear HA
   simp only [impl_union_members.l0] at H
   by_cases c4 : x9_1 < (l0.length : Int)
   rotate_left
   ·
    rw [if_neg c4] at H
    have c4b0 : decide (x9_1 < (l0.length : Int)) = false := decide_eq_false c4
    have c4b0t0 : decide (x9_1 < (x0_1.length : Int)) = false := by have z_ := c4b0; rw [hl0_1] at z_; exact z_
    clear c4
    simp only [Option.some.injEq, Prod.mk.injEq] at H
    obtain ⟨rfl, rfl⟩ := H
    go_wp2
    go_ret
    exact ⟨_, fR, (by first | exact (gR (HO_5.out)) | (simp only [hl0_1]; exact (gR (HO_5.out)))), (by first | exact (by (with_reducible repeat (first | apply Kd.R_alloc | apply Kd.R_drewN | apply Kd.R_drew)); exact Kd.R_mono HO_0.out (fun _ hk => hk.1)) | (simp only [hl0_1]; exact (by (with_reducible repeat (first | apply Kd.R_alloc | apply Kd.R_drewN | apply Kd.R_drew)); exact Kd.R_mono HO_0.out (fun _ hk => hk.1)))), bl0 HB, by repeat (first | (with_reducible first | exact HK.out | apply Kept.alloc | apply Kept.drewN | apply Kept.drew) | exact HK.out)⟩
   rw [if_pos c4] at H
   have c4b0 : decide (x9_1 < (l0.length : Int)) = true := decide_eq_true c4
   have c4b0t0 : decide (x9_1 < (x0_1.length : Int)) = true := by have z_ := c4b0; rw [hl0_1] at z_; exact z_
   clear c4
   replace H := Option.bind_eq_some_iff.mp H
   obtain ⟨⟨t382, t383⟩, A50, H⟩ := H
   replace H : (if t382 = true then (if x5_1.length < 17592186044416 then (impl_union_members.l0 k1 t383 a1 (x5_1 ++ [x9_1]) (l0.length : Int) (wrap64 (x9_1 + 1))) else (none)) else (impl_union_members.l0 k1 t383 a1 x5_1 (l0.length : Int) (wrap64 (x9_1 + 1)))) = some (r1, r2) := H
   have A5 := Aside0.mk A50
   clear A50
   by_cases c6 : t382 = true
   rotate_left
   ·
    replace c6 := Bool.eq_false_iff.mpr c6
    subst c6
    have H1 : (impl_union_members.l0 k1 t383 a1 x5_1 (l0.length : Int) (wrap64 (x9_1 + 1))) = some (r1, r2) := by rw [if_neg (show ¬ (false = true) by decide)] at H; exact H
    clear H
    have H := H1
    clear H1
    have H' := Aside0.mk H
    clear H
    go_wp2_with (first | ((with_reducible refine gate_callee (f := 78) rfl ?_); refine goesL_ (some 15) rfl rfl Tryd.func78 (by kernel_rfl) rfl #[.slice Ao3 x0_1.length co3, .int .i64 x9_1, .int .i64 a1] rfl mP ?_; (with_reducible refine (impl_union_same.calls k1 (fun k_ => some k_ = (.slice Ao3 x0_1.length co3 : Value).ownBlock) (.slice Ao3 x0_1.length co3) x0_1 x9_1 a1 false t383 w0 _ ?side1 ?side2 A5.out).mono ?_); (case side1 => repeat (first | (with_reducible first | exact HB.out | apply below_alloc | apply pw_below_drewN | apply below_drew1) | exact HB.out)); (case side2 => exact Kd.R_tight rfl HO_0.out); rintro e w10 ⟨rfl, hy0, hb, hkp⟩; refine ⟨_, rfl, ?_⟩; have n0_ := aM (Kd.R_reok rfl hy0 (fun k_ e_ => HO_0.out.1 k_ e_)); have n1_ := aM (Kd.R_mono (ok' := fun k_ => (P0_ k_ ∨ w.heap.size ≤ k_) ∧ some k_ ≠ (.slice Ao3 x0_1.length co3 : Value).ownBlock) (Kd.R_keptB (HO_5.out) hkp (fun k_ hk_ hs_ => (hk_.2) hs_)) (fun k_ hk_ => ⟨hk_.1.1, hk_.1.2⟩)); have n2_ := aM (Kept.then_ (S := (fun k_ => P0_ k_)) (by repeat (first | (with_reducible first | exact HK.out | apply Kept.alloc | apply Kept.drewN | apply Kept.drew) | exact HK.out)) hkp (fun k_ hs_ => (fun e_ => (HO_0.out.1 k_ e_.symm).1) hs_)); have n3_ := aM (hb); clear HO_0; clear HO_5; clear HK; clear HB; have HO_0 := n0_; have HO_5 := n1_; have HK := n2_; have HB := n3_; clear n0_ n1_ n2_ n3_; (try clear hb); (try clear hkp); (try clear hy0)))
    (try simp only [← hl0_1])
    go_roundg k1
    case measure => have := HK1.out; omega
    case rel => exact ⟨(t383), (x5_1), (wrap64 (x9_1 + 1)), fS, H', ⟨by have := HK1.out; omega⟩, ⟨by (try simp only [hl0_1]); (with_reducible repeat (first | apply Kd.R_alloc | apply Kd.R_drewN | apply Kd.R_drew)); exact HO_0.out⟩, ⟨by (try simp only [hl0_1]); (with_reducible repeat (first | apply Kd.R_alloc | apply Kd.R_drewN | apply Kd.R_drew)); exact HO_5.out⟩, ⟨by repeat (first | (with_reducible first | exact HK.out | apply Kept.alloc | apply Kept.drewN | apply Kept.drew) | exact HK.out)⟩, ⟨bl0 HB⟩⟩
   subst c6
   have H1 : (if x5_1.length < 17592186044416 then (impl_union_members.l0 k1 t383 a1 (x5_1 ++ [x9_1]) (l0.length : Int) (wrap64 (x9_1 + 1))) else (none)) = some (r1, r2) := by rw [if_pos rfl] at H; exact H
   clear H
   have H := H1
   clear H1
   by_cases c7 : x5_1.length < 17592186044416
   rotate_left
   ·
    rw [if_neg c7] at H
    exact absurd H (by simp)
   rw [if_pos c7] at H
   have LMc7 := Aside0.mk c7
   clear c7
   obtain ⟨y384, hy384⟩ : ∃ y_ : List Int, y_ = (x5_1 ++ [x9_1]) := ⟨_, rfl⟩
   replace H : (impl_union_members.l0 k1 t383 a1 y384 (l0.length : Int) (wrap64 (x9_1 + 1))) = some (r1, r2) := by first | (rw [hy384]; with_reducible exact H) | (have H2_ := (Option.bind_some _ _).symm.trans H; rw [hy384]; with_reducible exact H2_) | (have H2_ := (Option.bind_some _ _).symm.trans H; with_reducible exact H2_) | with_reducible exact H | (rw [hy384]; exact H) | exact H
   have Ny384 := Aside0.mk hy384
   clear hy384
   have H' := Aside0.mk H
   clear H
   go_wp2_with (first | ((with_reducible refine gate_callee (f := 78) rfl ?_); refine goesL_ (some 15) rfl rfl Tryd.func78 (by kernel_rfl) rfl #[.slice Ao3 x0_1.length co3, .int .i64 x9_1, .int .i64 a1] rfl mP ?_; (with_reducible refine (impl_union_same.calls k1 (fun k_ => some k_ = (.slice Ao3 x0_1.length co3 : Value).ownBlock) (.slice Ao3 x0_1.length co3) x0_1 x9_1 a1 true t383 w0 _ ?side1 ?side2 A5.out).mono ?_); (case side1 => repeat (first | (with_reducible first | exact HB.out | apply below_alloc | apply pw_below_drewN | apply below_drew1) | exact HB.out)); (case side2 => exact Kd.R_tight rfl HO_0.out); rintro e w8 ⟨rfl, hy0, hb, hkp⟩; refine ⟨_, rfl, ?_⟩; have n0_ := aM (Kd.R_reok rfl hy0 (fun k_ e_ => HO_0.out.1 k_ e_)); have n1_ := aM (Kd.R_mono (ok' := fun k_ => (P0_ k_ ∨ w.heap.size ≤ k_) ∧ some k_ ≠ (.slice Ao3 x0_1.length co3 : Value).ownBlock) (Kd.R_keptB (HO_5.out) hkp (fun k_ hk_ hs_ => (hk_.2) hs_)) (fun k_ hk_ => ⟨hk_.1.1, hk_.1.2⟩)); have n2_ := aM (Kept.then_ (S := (fun k_ => P0_ k_)) (by repeat (first | (with_reducible first | exact HK.out | apply Kept.alloc | apply Kept.drewN | apply Kept.drew) | exact HK.out)) hkp (fun k_ hs_ => (fun e_ => (HO_0.out.1 k_ e_.symm).1) hs_)); have n3_ := aM (hb); clear HO_0; clear HO_5; clear HK; clear HB; have HO_0 := n0_; have HO_5 := n1_; have HK := n2_; have HB := n3_; clear n0_ n1_ n2_ n3_; (try clear hb); (try clear hkp); (try clear hy0)) | ((with_reducible refine gate_builtin (b := .append) (xs := #[.tmp 16, .tmp 18]) rfl ?_); at_builtin; refine Kd.R_append (Kd.int .i64) (w0 := w0) w0.heap.size rfl (.tmp 16) (.tmp 18) 37 3 (.int .i64 0) 8 rfl Tryd.underlying37 info3 rfl (by decide) (by omega) u5 x5_1 x9_1 [.int .i64 x9_1] (fun k_ => (P0_ k_ ∨ w.heap.size ≤ k_) ∧ some k_ ≠ (.slice Ao3 x0_1.length co3 : Value).ownBlock) (fun _ => False) rfl rfl ?aP (fun _ hk => hk.elim) ?aF ?aO ?aB ?aS ?aL ?_; (case aP => exact rfl); (case aB => exact (bl0 HB)); (case aF => exact (fun k_ hk => ⟨(.inr (Nat.le_trans (by first | exact HK.out.1 | exact (show Kept w _ (fun k_ => P0_ k_) from by repeat (first | (with_reducible first | exact HK.out | apply Kept.alloc | apply Kept.drewN | apply Kept.drew) | exact HK.out)).1) hk)), Kd.fresh' (Kd.R_lt (gR (HO_0.out))) k_ hk⟩)); (case aO => exact (gR (HO_5.out))); (case aS => exact (below_size (bl0 HB))); (case aL => have := LMc7.out; omega); intro v385 w9 ho hb hg hat; rw [← Ny384.out] at ho; have n0_ := aM (Kd.R_after (ok := (fun k_ => (P0_ k_ ∨ w.heap.size ≤ k_))) (gR (HO_0.out)) hg hat); have n1_ := aM (hb); have n2_ := aM (Kept.of_grown (S := (fun k_ => P0_ k_)) hg (by repeat (first | (with_reducible first | exact HK.out | apply Kept.alloc | apply Kept.drewN | apply Kept.drew) | exact HK.out)) (fun k_ e_ => (HO_5.out.1 k_ e_).1)); have n3_ := aM (ho); clear HO_0; clear HB; clear HK; clear HO_5; have HO_0 := n0_; have HB := n1_; have HK := n2_; have HO386 := n3_; clear n0_ n1_ n2_ n3_; clear ho hb hg hat))
   (try simp only [← hl0_1])
   go_roundg k1
   case measure => have := HK1.out; omega
   case rel => exact ⟨(t383), (y384), (wrap64 (x9_1 + 1)), fS, H', ⟨by have := HK1.out; omega⟩, ⟨by (try simp only [hl0_1]); (with_reducible repeat (first | apply Kd.R_alloc | apply Kd.R_drewN | apply Kd.R_drew)); exact HO_0.out⟩, ⟨by (try simp only [hl0_1]); (with_reducible repeat (first | apply Kd.R_alloc | apply Kd.R_drewN | apply Kd.R_drew)); exact HO386.out⟩, ⟨by repeat (first | (with_reducible first | exact HK.out | apply Kept.alloc | apply Kept.drewN | apply Kept.drew) | exact HK.out)⟩, ⟨bl0 HB⟩⟩

end Go.Proofs.YtpgjgbjkfgbpaaaDoor.P

/- Contracts of Go functions of this seat's translation, written by this repo's wip/mk.py: it calls the kit's print.py with contracts typed by hand in place of functions that it does not take. Not trusted: Lean checks it. -/
import Derived.Test.YthkdkjmnnpcdhaaDoorP0
import Derived.Test.YthkdkjmnnpcdhaaDoorP14
import Derived.Test.YthkdkjmnnpcdhaaDoorP28
import Derived.Test.YthkdkjmnnpcdhaaDoorP40
namespace Go.Proofs.YthkdkjmnnpcdhaaDoor.P
open Go.RowKit Go.Proofs.YthkdkjmnnpcdhaaDoorW.PrintWords Go.Proofs.YthkdkjmnnpcdhaaDoorW.PrintLast Go.Proofs.YthkdkjmnnpcdhaaDoorW.PrintMore
attribute [local go_sem] max2_int min2_int max_two min_two max_three min_three max_four min_four   -- for this text's walks alone
set_option linter.unusedVariables false
set_option linter.unusedSimpArgs false

/-! ### impl_SameIsland: function 25 -/
def impl_SameIsland.f (k : Nat) (a0_0 : Int) (l0_1 : List (S52)) (l1 : List Bool) (a2 : Int) (a3 : Int) : Option (Bool) := (impl_StateValid.f k a0_0 l0_1 l1).bind fun t465 => (if t465 = true then ((impl_Net_hasBus.f a0_0 l0_1 a2).bind fun t466 => (if t466 = true then ((impl_Net_hasBus.f a0_0 l0_1 a3).bind fun t467 => (if t467 = true then ((impl_unionOf.f k a0_0 l0_1 l1).bind fun t468 => ((impl_union_same.f k t468 a2 a3).bind fun bt471 => (some bt471.1))) else (some false))) else (some false))) else (some false))
theorem impl_SameIsland.mono : ∀ a0 a1 a2 a3 a4 k, LeO (impl_SameIsland.f k a0 a1 a2 a3 a4) (impl_SameIsland.f (k + 1) a0 a1 a2 a3 a4) := by
 intro a0 a1 a2 a3 a4 k
 unfold impl_SameIsland.f
 repeat' first
   | (with_reducible exact impl_StateValid.mono _ _ _ _)
   | (with_reducible exact impl_unionOf.mono _ _ _ _)
   | (with_reducible exact impl_union_same.mono _ _ _ _)
   | (with_reducible exact LeO.refl _)
   | (with_reducible exact LeO.none _)
   | (with_reducible refine LeO.ite ?_ ?_)
   | (with_reducible refine LeO.bind ?_ (fun _ => ?_))
   | exact impl_StateValid.mono _ _ _ _
   | exact impl_unionOf.mono _ _ _ _
   | exact impl_union_same.mono _ _ _ _
   | exact LeO.none _
   | refine LeO.ite ?_ ?_
   | refine LeO.bind ?_ (fun _ => ?_)
set_option maxHeartbeats 8000000 in
set_option maxRecDepth 100000 in
theorem impl_SameIsland.calls (k : Nat) (a0_0 : Int) (A0_1 : Option Addr) (c0_1 : Nat) (l0_1 : List (S52)) (A1 : Option Addr) (c1 : Nat) (l1 : List Bool) (a2 : Int) (a3 : Int) (r : Bool) (w : World) (hr0_1 : Kd.C k52 w A0_1 l0_1.length l0_1) (hc0_1 : l0_1.length ≤ c0_1) (hr1 : Kd.C Kd.bool w A1 l1.length l1) (hc1 : l1.length ≤ c1) (h : impl_SameIsland.f k a0_0 l0_1 l1 a2 a3 = some r) :
  Calls Tryd.prog 25 #[.agg #[.int .i64 a0_0, .slice A0_1 l0_1.length c0_1], .slice A1 l1.length c1, .int .i64 a2, .int .i64 a3] w fun e w' => e = .returned (.bool r) ∧ Below w.heap.size w w' := by
 have hu39 := Tryd.underlying39
 have HR0_1 := Aside0.mk hr0_1
 have HC0_1 := Aside0.mk hc0_1
 clear hr0_1 hc0_1
 have HR1 := Aside0.mk hr1
 have HC1 := Aside0.mk hc1
 clear hr1 hc1
 have HB := Aside0.mk (Below.refl w.heap.size w)
 have H : ((impl_StateValid.f k a0_0 l0_1 l1).bind fun t465 => (if t465 = true then ((impl_Net_hasBus.f a0_0 l0_1 a2).bind fun t466 => (if t466 = true then ((impl_Net_hasBus.f a0_0 l0_1 a3).bind fun t467 => (if t467 = true then ((impl_unionOf.f k a0_0 l0_1 l1).bind fun t468 => ((impl_union_same.f k t468 a2 a3).bind fun bt471 => (some bt471.1))) else (some false))) else (some false))) else (some false))) = some r := h
 clear h
 replace H := Option.bind_eq_some_iff.mp H
 obtain ⟨t465, A50, H⟩ := H
 replace H : (if t465 = true then ((impl_Net_hasBus.f a0_0 l0_1 a2).bind fun t466 => (if t466 = true then ((impl_Net_hasBus.f a0_0 l0_1 a3).bind fun t467 => (if t467 = true then ((impl_unionOf.f k a0_0 l0_1 l1).bind fun t468 => ((impl_union_same.f k t468 a2 a3).bind fun bt471 => (some bt471.1))) else (some false))) else (some false))) else (some false)) = some r := H
 have A5 := Aside0.mk A50
 clear A50
 by_cases c6 : t465 = true
 rotate_left
 ·
  replace c6 := Bool.eq_false_iff.mpr c6
  subst c6
  have H1 : (some false) = some r := by rw [if_neg (show ¬ (false = true) by decide)] at H; exact H
  clear H
  have H := H1
  clear H1
  obtain rfl := Option.some.inj H
  go_enter Tryd.func25, Tryd.ntmps25
  go_wp2_with (first | ((with_reducible refine gate_dst (N := 4) rfl ?_); refine box_event ?hg (N := 4) ?hd (cs := #[.int .i64 a0_0, .slice A0_1 l0_1.length c0_1]) (t := 39) ?hr ?_; (case hd => rfl); (case hg => rfl); (case hr => exact hR); intro gb464 hg w36 hbox hb; have n0_ := Aside0.mk (below_step (bl0 HB) hb); have n1_ := Aside0.mk (hbox); have n2_ := Aside0.mk ((by rw [hg]; exact (below_size (bl0 HB)) : w.heap.size ≤ gb464)); have n3_ := Aside0.mk ((by rw [hg]; exact (below_size (bl0 HB)) : w.heap.size ≤ gb464)); clear HB; have HB := n0_; have BK464 := n1_; have GW464 := n2_; have GE464 := n3_; clear n0_ n1_ n2_ n3_; clear hb hbox hg; have hcz37_0 : w36.cell? ⟨gb464, 0, none⟩ = some (.int .i64 a0_0) := (blk_cell BK464.out 0).trans rfl; have hcz37_1 : w36.cell? ⟨gb464, 1, none⟩ = some (.slice A0_1 l0_1.length c0_1) := (blk_cell BK464.out 1).trans rfl; have hfz37_0 := blk_frozen BK464.out 0; have hfz37_1 := blk_frozen BK464.out 1) | ((with_reducible refine gate_callee (f := 54) rfl ?_); refine goesL_ (some 11) rfl rfl Tryd.func54 (by kernel_rfl) rfl #[.agg #[.int .i64 a0_0, .slice A0_1 l0_1.length c0_1], .slice A1 l1.length c1] rfl mP ?_; (with_reducible refine (impl_StateValid.calls k a0_0 _ _ l0_1 _ _ l1 false _ ?side1 ?side2 ?side3 ?side4 A5.out).mono ?_); (case side1 => exact gC ((Kd.C_below HR0_1.out HB.out))); (case side2 => exact HC0_1.out); (case side3 => exact gC ((Kd.C_below HR1.out HB.out))); (case side4 => exact HC1.out); rintro e w38 ⟨rfl, hb⟩; refine ⟨_, rfl, ?_⟩; have n0_ := Aside0.mk (blk_below (g := gb464) (o := .cells #[.int .i64 a0_0, .slice A0_1 l0_1.length c0_1] 39 (0, 0)) (gB (BK464.out)) hb); have n1_ := Aside0.mk (below_step (bl1 HB GE464) hb); clear BK464; clear HB; have BK464 := n0_; have HB := n1_; clear n0_ n1_; (try clear hb); (try clear hb2); (try clear hk); (try clear hi)))
  go_ret
  exact ⟨fR, bl1 HB GE464⟩
 subst c6
 have H1 : ((impl_Net_hasBus.f a0_0 l0_1 a2).bind fun t466 => (if t466 = true then ((impl_Net_hasBus.f a0_0 l0_1 a3).bind fun t467 => (if t467 = true then ((impl_unionOf.f k a0_0 l0_1 l1).bind fun t468 => ((impl_union_same.f k t468 a2 a3).bind fun bt471 => (some bt471.1))) else (some false))) else (some false))) = some r := by rw [if_pos rfl] at H; exact H
 clear H
 have H := H1
 clear H1
 replace H := Option.bind_eq_some_iff.mp H
 obtain ⟨t466, A70, H⟩ := H
 replace H : (if t466 = true then ((impl_Net_hasBus.f a0_0 l0_1 a3).bind fun t467 => (if t467 = true then ((impl_unionOf.f k a0_0 l0_1 l1).bind fun t468 => ((impl_union_same.f k t468 a2 a3).bind fun bt471 => (some bt471.1))) else (some false))) else (some false)) = some r := H
 have A7 := Aside0.mk A70
 clear A70
 by_cases c8 : t466 = true
 rotate_left
 ·
  replace c8 := Bool.eq_false_iff.mpr c8
  subst c8
  have H1 : (some false) = some r := by rw [if_neg (show ¬ (false = true) by decide)] at H; exact H
  clear H
  have H := H1
  clear H1
  obtain rfl := Option.some.inj H
  go_enter Tryd.func25, Tryd.ntmps25
  go_wp2_with (first | ((with_reducible refine gate_dst (N := 4) rfl ?_); refine box_event ?hg (N := 4) ?hd (cs := #[.int .i64 a0_0, .slice A0_1 l0_1.length c0_1]) (t := 39) ?hr ?_; (case hd => rfl); (case hg => rfl); (case hr => exact hR); intro gb464 hg w31 hbox hb; have n0_ := Aside0.mk (below_step (bl0 HB) hb); have n1_ := Aside0.mk (hbox); have n2_ := Aside0.mk ((by rw [hg]; exact (below_size (bl0 HB)) : w.heap.size ≤ gb464)); have n3_ := Aside0.mk ((by rw [hg]; exact (below_size (bl0 HB)) : w.heap.size ≤ gb464)); clear HB; have HB := n0_; have BK464 := n1_; have GW464 := n2_; have GE464 := n3_; clear n0_ n1_ n2_ n3_; clear hb hbox hg; have hcz32_0 : w31.cell? ⟨gb464, 0, none⟩ = some (.int .i64 a0_0) := (blk_cell BK464.out 0).trans rfl; have hcz32_1 : w31.cell? ⟨gb464, 1, none⟩ = some (.slice A0_1 l0_1.length c0_1) := (blk_cell BK464.out 1).trans rfl; have hfz32_0 := blk_frozen BK464.out 0; have hfz32_1 := blk_frozen BK464.out 1) | ((with_reducible refine gate_callee (f := 54) rfl ?_); refine goesL_ (some 11) rfl rfl Tryd.func54 (by kernel_rfl) rfl #[.agg #[.int .i64 a0_0, .slice A0_1 l0_1.length c0_1], .slice A1 l1.length c1] rfl mP ?_; (with_reducible refine (impl_StateValid.calls k a0_0 _ _ l0_1 _ _ l1 true _ ?side1 ?side2 ?side3 ?side4 A5.out).mono ?_); (case side1 => exact gC ((Kd.C_below HR0_1.out HB.out))); (case side2 => exact HC0_1.out); (case side3 => exact gC ((Kd.C_below HR1.out HB.out))); (case side4 => exact HC1.out); rintro e w33 ⟨rfl, hb⟩; refine ⟨_, rfl, ?_⟩; have n0_ := Aside0.mk (blk_below (g := gb464) (o := .cells #[.int .i64 a0_0, .slice A0_1 l0_1.length c0_1] 39 (0, 0)) (gB (BK464.out)) hb); have n1_ := Aside0.mk (below_step (bl1 HB GE464) hb); clear BK464; clear HB; have BK464 := n0_; have HB := n1_; clear n0_ n1_; (try clear hb); (try clear hb2); (try clear hk); (try clear hi); have hcz34_0 : w33.cell? ⟨gb464, 0, none⟩ = some (.int .i64 a0_0) := (blk_cell BK464.out 0).trans rfl; have hcz34_1 : w33.cell? ⟨gb464, 1, none⟩ = some (.slice A0_1 l0_1.length c0_1) := (blk_cell BK464.out 1).trans rfl; have hfz34_0 := blk_frozen BK464.out 0; have hfz34_1 := blk_frozen BK464.out 1) | (go_at_call 57; (with_reducible refine (impl_Net_hasBus.calls a0_0 _ _ l0_1 a2 false _ ?side1 ?side2 A7.out).mono ?_); (case side1 => exact gC ((Kd.C_below HR0_1.out HB.out))); (case side2 => exact HC0_1.out); rintro e w35 ⟨rfl, hb⟩; have n0_ := Aside0.mk (blk_below (g := gb464) (o := .cells #[.int .i64 a0_0, .slice A0_1 l0_1.length c0_1] 39 (0, 0)) (gB (BK464.out)) hb); have n1_ := Aside0.mk (below_step (bl1 HB GE464) hb); clear BK464; clear HB; have BK464 := n0_; have HB := n1_; clear n0_ n1_; (try clear hb); (try clear hb2); (try clear hk); (try clear hi)))
  go_ret
  exact ⟨fR, bl1 HB GE464⟩
 subst c8
 have H1 : ((impl_Net_hasBus.f a0_0 l0_1 a3).bind fun t467 => (if t467 = true then ((impl_unionOf.f k a0_0 l0_1 l1).bind fun t468 => ((impl_union_same.f k t468 a2 a3).bind fun bt471 => (some bt471.1))) else (some false))) = some r := by rw [if_pos rfl] at H; exact H
 clear H
 have H := H1
 clear H1
 replace H := Option.bind_eq_some_iff.mp H
 obtain ⟨t467, A90, H⟩ := H
 replace H : (if t467 = true then ((impl_unionOf.f k a0_0 l0_1 l1).bind fun t468 => ((impl_union_same.f k t468 a2 a3).bind fun bt471 => (some bt471.1))) else (some false)) = some r := H
 have A9 := Aside0.mk A90
 clear A90
 by_cases c10 : t467 = true
 rotate_left
 ·
  replace c10 := Bool.eq_false_iff.mpr c10
  subst c10
  have H1 : (some false) = some r := by rw [if_neg (show ¬ (false = true) by decide)] at H; exact H
  clear H
  have H := H1
  clear H1
  obtain rfl := Option.some.inj H
  go_enter Tryd.func25, Tryd.ntmps25
  go_wp2_with (first | ((with_reducible refine gate_dst (N := 4) rfl ?_); refine box_event ?hg (N := 4) ?hd (cs := #[.int .i64 a0_0, .slice A0_1 l0_1.length c0_1]) (t := 39) ?hr ?_; (case hd => rfl); (case hg => rfl); (case hr => exact hR); intro gb464 hg w24 hbox hb; have n0_ := Aside0.mk (below_step (bl0 HB) hb); have n1_ := Aside0.mk (hbox); have n2_ := Aside0.mk ((by rw [hg]; exact (below_size (bl0 HB)) : w.heap.size ≤ gb464)); have n3_ := Aside0.mk ((by rw [hg]; exact (below_size (bl0 HB)) : w.heap.size ≤ gb464)); clear HB; have HB := n0_; have BK464 := n1_; have GW464 := n2_; have GE464 := n3_; clear n0_ n1_ n2_ n3_; clear hb hbox hg; have hcz25_0 : w24.cell? ⟨gb464, 0, none⟩ = some (.int .i64 a0_0) := (blk_cell BK464.out 0).trans rfl; have hcz25_1 : w24.cell? ⟨gb464, 1, none⟩ = some (.slice A0_1 l0_1.length c0_1) := (blk_cell BK464.out 1).trans rfl; have hfz25_0 := blk_frozen BK464.out 0; have hfz25_1 := blk_frozen BK464.out 1) | ((with_reducible refine gate_callee (f := 54) rfl ?_); refine goesL_ (some 11) rfl rfl Tryd.func54 (by kernel_rfl) rfl #[.agg #[.int .i64 a0_0, .slice A0_1 l0_1.length c0_1], .slice A1 l1.length c1] rfl mP ?_; (with_reducible refine (impl_StateValid.calls k a0_0 _ _ l0_1 _ _ l1 true _ ?side1 ?side2 ?side3 ?side4 A5.out).mono ?_); (case side1 => exact gC ((Kd.C_below HR0_1.out HB.out))); (case side2 => exact HC0_1.out); (case side3 => exact gC ((Kd.C_below HR1.out HB.out))); (case side4 => exact HC1.out); rintro e w26 ⟨rfl, hb⟩; refine ⟨_, rfl, ?_⟩; have n0_ := Aside0.mk (blk_below (g := gb464) (o := .cells #[.int .i64 a0_0, .slice A0_1 l0_1.length c0_1] 39 (0, 0)) (gB (BK464.out)) hb); have n1_ := Aside0.mk (below_step (bl1 HB GE464) hb); clear BK464; clear HB; have BK464 := n0_; have HB := n1_; clear n0_ n1_; (try clear hb); (try clear hb2); (try clear hk); (try clear hi); have hcz27_0 : w26.cell? ⟨gb464, 0, none⟩ = some (.int .i64 a0_0) := (blk_cell BK464.out 0).trans rfl; have hcz27_1 : w26.cell? ⟨gb464, 1, none⟩ = some (.slice A0_1 l0_1.length c0_1) := (blk_cell BK464.out 1).trans rfl; have hfz27_0 := blk_frozen BK464.out 0; have hfz27_1 := blk_frozen BK464.out 1) | (go_at_call 57; (with_reducible refine (impl_Net_hasBus.calls a0_0 _ _ l0_1 a2 true _ ?side1 ?side2 A7.out).mono ?_); (case side1 => exact gC ((Kd.C_below HR0_1.out HB.out))); (case side2 => exact HC0_1.out); rintro e w28 ⟨rfl, hb⟩; have n0_ := Aside0.mk (blk_below (g := gb464) (o := .cells #[.int .i64 a0_0, .slice A0_1 l0_1.length c0_1] 39 (0, 0)) (gB (BK464.out)) hb); have n1_ := Aside0.mk (below_step (bl1 HB GE464) hb); clear BK464; clear HB; have BK464 := n0_; have HB := n1_; clear n0_ n1_; (try clear hb); (try clear hb2); (try clear hk); (try clear hi); have hcz29_0 : w28.cell? ⟨gb464, 0, none⟩ = some (.int .i64 a0_0) := (blk_cell BK464.out 0).trans rfl; have hcz29_1 : w28.cell? ⟨gb464, 1, none⟩ = some (.slice A0_1 l0_1.length c0_1) := (blk_cell BK464.out 1).trans rfl; have hfz29_0 := blk_frozen BK464.out 0; have hfz29_1 := blk_frozen BK464.out 1) | (go_at_call 57; (with_reducible refine (impl_Net_hasBus.calls a0_0 _ _ l0_1 a3 false _ ?side1 ?side2 A9.out).mono ?_); (case side1 => exact gC ((Kd.C_below HR0_1.out HB.out))); (case side2 => exact HC0_1.out); rintro e w30 ⟨rfl, hb⟩; have n0_ := Aside0.mk (blk_below (g := gb464) (o := .cells #[.int .i64 a0_0, .slice A0_1 l0_1.length c0_1] 39 (0, 0)) (gB (BK464.out)) hb); have n1_ := Aside0.mk (below_step (bl1 HB GE464) hb); clear BK464; clear HB; have BK464 := n0_; have HB := n1_; clear n0_ n1_; (try clear hb); (try clear hb2); (try clear hk); (try clear hi)))
  go_ret
  exact ⟨fR, bl1 HB GE464⟩
 subst c10
 have H1 : ((impl_unionOf.f k a0_0 l0_1 l1).bind fun t468 => ((impl_union_same.f k t468 a2 a3).bind fun bt471 => (some bt471.1))) = some r := by rw [if_pos rfl] at H; exact H
 clear H
 have H := H1
 clear H1
 replace H := Option.bind_eq_some_iff.mp H
 obtain ⟨t468, A110, H⟩ := H
 replace H : ((impl_union_same.f k t468 a2 a3).bind fun bt471 => (some bt471.1)) = some r := H
 have A11 := Aside0.mk A110
 clear A110
 replace H := Option.bind_eq_some_iff.mp H
 obtain ⟨⟨t471, t472⟩, A120, H⟩ := H
 replace H : (some t471) = some r := H
 have A12 := Aside0.mk A120
 clear A120
 obtain rfl := Option.some.inj H
 go_enter Tryd.func25, Tryd.ntmps25
 go_wp2_with (first | ((with_reducible refine gate_dst (N := 4) rfl ?_); refine box_event ?hg (N := 4) ?hd (cs := #[.int .i64 a0_0, .slice A0_1 l0_1.length c0_1]) (t := 39) ?hr ?_; (case hd => rfl); (case hg => rfl); (case hr => exact hR); intro gb464 hg w13 hbox hb; have n0_ := Aside0.mk (below_step (bl0 HB) hb); have n1_ := Aside0.mk (hbox); have n2_ := Aside0.mk ((by rw [hg]; exact (below_size (bl0 HB)) : w.heap.size ≤ gb464)); have n3_ := Aside0.mk ((by rw [hg]; exact (below_size (bl0 HB)) : w.heap.size ≤ gb464)); clear HB; have HB := n0_; have BK464 := n1_; have GW464 := n2_; have GE464 := n3_; clear n0_ n1_ n2_ n3_; clear hb hbox hg; have hcz14_0 : w13.cell? ⟨gb464, 0, none⟩ = some (.int .i64 a0_0) := (blk_cell BK464.out 0).trans rfl; have hcz14_1 : w13.cell? ⟨gb464, 1, none⟩ = some (.slice A0_1 l0_1.length c0_1) := (blk_cell BK464.out 1).trans rfl; have hfz14_0 := blk_frozen BK464.out 0; have hfz14_1 := blk_frozen BK464.out 1) | ((with_reducible refine gate_callee (f := 54) rfl ?_); refine goesL_ (some 11) rfl rfl Tryd.func54 (by kernel_rfl) rfl #[.agg #[.int .i64 a0_0, .slice A0_1 l0_1.length c0_1], .slice A1 l1.length c1] rfl mP ?_; (with_reducible refine (impl_StateValid.calls k a0_0 _ _ l0_1 _ _ l1 true _ ?side1 ?side2 ?side3 ?side4 A5.out).mono ?_); (case side1 => exact gC ((Kd.C_below HR0_1.out HB.out))); (case side2 => exact HC0_1.out); (case side3 => exact gC ((Kd.C_below HR1.out HB.out))); (case side4 => exact HC1.out); rintro e w15 ⟨rfl, hb⟩; refine ⟨_, rfl, ?_⟩; have n0_ := Aside0.mk (blk_below (g := gb464) (o := .cells #[.int .i64 a0_0, .slice A0_1 l0_1.length c0_1] 39 (0, 0)) (gB (BK464.out)) hb); have n1_ := Aside0.mk (below_step (bl1 HB GE464) hb); clear BK464; clear HB; have BK464 := n0_; have HB := n1_; clear n0_ n1_; (try clear hb); (try clear hb2); (try clear hk); (try clear hi); have hcz16_0 : w15.cell? ⟨gb464, 0, none⟩ = some (.int .i64 a0_0) := (blk_cell BK464.out 0).trans rfl; have hcz16_1 : w15.cell? ⟨gb464, 1, none⟩ = some (.slice A0_1 l0_1.length c0_1) := (blk_cell BK464.out 1).trans rfl; have hfz16_0 := blk_frozen BK464.out 0; have hfz16_1 := blk_frozen BK464.out 1) | (go_at_call 57; (with_reducible refine (impl_Net_hasBus.calls a0_0 _ _ l0_1 a2 true _ ?side1 ?side2 A7.out).mono ?_); (case side1 => exact gC ((Kd.C_below HR0_1.out HB.out))); (case side2 => exact HC0_1.out); rintro e w17 ⟨rfl, hb⟩; have n0_ := Aside0.mk (blk_below (g := gb464) (o := .cells #[.int .i64 a0_0, .slice A0_1 l0_1.length c0_1] 39 (0, 0)) (gB (BK464.out)) hb); have n1_ := Aside0.mk (below_step (bl1 HB GE464) hb); clear BK464; clear HB; have BK464 := n0_; have HB := n1_; clear n0_ n1_; (try clear hb); (try clear hb2); (try clear hk); (try clear hi); have hcz18_0 : w17.cell? ⟨gb464, 0, none⟩ = some (.int .i64 a0_0) := (blk_cell BK464.out 0).trans rfl; have hcz18_1 : w17.cell? ⟨gb464, 1, none⟩ = some (.slice A0_1 l0_1.length c0_1) := (blk_cell BK464.out 1).trans rfl; have hfz18_0 := blk_frozen BK464.out 0; have hfz18_1 := blk_frozen BK464.out 1) | (go_at_call 57; (with_reducible refine (impl_Net_hasBus.calls a0_0 _ _ l0_1 a3 true _ ?side1 ?side2 A9.out).mono ?_); (case side1 => exact gC ((Kd.C_below HR0_1.out HB.out))); (case side2 => exact HC0_1.out); rintro e w19 ⟨rfl, hb⟩; have n0_ := Aside0.mk (blk_below (g := gb464) (o := .cells #[.int .i64 a0_0, .slice A0_1 l0_1.length c0_1] 39 (0, 0)) (gB (BK464.out)) hb); have n1_ := Aside0.mk (below_step (bl1 HB GE464) hb); clear BK464; clear HB; have BK464 := n0_; have HB := n1_; clear n0_ n1_; (try clear hb); (try clear hb2); (try clear hk); (try clear hi); have hcz20_0 : w19.cell? ⟨gb464, 0, none⟩ = some (.int .i64 a0_0) := (blk_cell BK464.out 0).trans rfl; have hcz20_1 : w19.cell? ⟨gb464, 1, none⟩ = some (.slice A0_1 l0_1.length c0_1) := (blk_cell BK464.out 1).trans rfl; have hfz20_0 := blk_frozen BK464.out 0; have hfz20_1 := blk_frozen BK464.out 1) | (go_at_call 58; (with_reducible refine (impl_unionOf.calls k a0_0 _ _ l0_1 _ _ l1 t468 _ ?side1 ?side2 ?side3 ?side4 A11.out).mono ?_); (case side1 => exact gC ((Kd.C_below HR0_1.out HB.out))); (case side2 => exact HC0_1.out); (case side3 => exact gC ((Kd.C_below HR1.out HB.out))); (case side4 => exact HC1.out); rintro e w21 ⟨v469, rfl, ho0, hb⟩; have n0_ := Aside0.mk (Kd.R_lower ho0 (below_size (bl1 HB GE464))); have n1_ := Aside0.mk (blk_below (g := gb464) (o := .cells #[.int .i64 a0_0, .slice A0_1 l0_1.length c0_1] 39 (0, 0)) (gB (BK464.out)) hb); have n2_ := Aside0.mk (below_step (bl1 HB GE464) hb); clear BK464; clear HB; have HO470 := n0_; have BK464 := n1_; have HB := n2_; clear n0_ n1_ n2_; (try clear hb); (try clear hb2); (try clear hk); (try clear hi); (try clear ho0); obtain ⟨Ao22, co22, eo22⟩ := Kd.R_slice HO470.out; subst eo22) | (go_at_call 59; (with_reducible refine (impl_union_same.calls k (fun k_ => some k_ = (.slice Ao22 t468.length co22 : Value).ownBlock) (.slice Ao22 t468.length co22) t468 a2 a3 t471 t472 w _ ?side1 ?side2 A12.out).mono ?_); (case side1 => repeat (first | (with_reducible first | exact HB.out | apply below_alloc | apply pw_below_drewN | apply below_drew1 | refine below_set ?_ GE464.out) | exact HB.out)); (case side2 => exact Kd.R_tight rfl HO470.out); rintro e w23 ⟨rfl, hy0, hb, hkp⟩; have n0_ := Aside0.mk (blk_kept (gB (BK464.out)) hkp (fun hs_ => (fun e_ => (Kd.R_ne HO470.out BK464.out (by decide)) e_) hs_)); have n1_ := Aside0.mk (Kd.R_reok rfl hy0 (fun k_ e_ => HO470.out.1 k_ e_)); have n2_ := Aside0.mk (hb); clear BK464; clear HO470; clear HB; have BK464 := n0_; have HO470 := n1_; have HB := n2_; clear n0_ n1_ n2_; (try clear hb); (try clear hkp); (try clear hy0)))
 go_ret
 exact ⟨fR, bl1 HB GE464⟩

end Go.Proofs.YthkdkjmnnpcdhaaDoor.P

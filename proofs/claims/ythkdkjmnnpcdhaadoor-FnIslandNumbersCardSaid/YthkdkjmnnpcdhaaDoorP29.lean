/- Contracts of Go functions of this seat's translation, written by this repo's wip/mk.py: it calls the kit's print.py with contracts typed by hand in place of functions that it does not take. Not trusted: Lean checks it. -/
import Derived.Test.YthkdkjmnnpcdhaaDoorP0
import Derived.Test.YthkdkjmnnpcdhaaDoorP7
import Derived.Test.YthkdkjmnnpcdhaaDoorP14
import Derived.Test.YthkdkjmnnpcdhaaDoorP28
namespace Go.Proofs.YthkdkjmnnpcdhaaDoor.P
open Go.RowKit Go.Proofs.YthkdkjmnnpcdhaaDoorW.PrintWords Go.Proofs.YthkdkjmnnpcdhaaDoorW.PrintLast Go.Proofs.YthkdkjmnnpcdhaaDoorW.PrintMore
attribute [local go_sem] max2_int min2_int max_two min_two max_three min_three max_four min_four   -- for this text's walks alone
set_option linter.unusedVariables false
set_option linter.unusedSimpArgs false

/-! ### impl_SwitchLine: function 22 -/
def impl_SwitchLine.f (k : Nat) (a0_0 : Int) (l0_1 : List (S52)) (l1 : List Bool) (a2 : Int) (a3 : Bool) : Option (List Bool × Bool) := (impl_StateValid.f k a0_0 l0_1 l1).bind fun t351 => (if t351 = true then ((slices_Clone_bool_bool.f l1).bind fun t352 => ((impl_Net_hasLine.f a0_0 l0_1 a2).bind fun t355 => (if t355 = true then (if 0 ≤ a2 then (if a2 < (t352.length : Int) then (some ((t352.set (a2 : Int).toNat a3), true)) else (none)) else (none)) else (some (t352, false))))) else (some (([] : List Bool), false)))
theorem impl_SwitchLine.mono : ∀ a0 a1 a2 a3 a4 k, LeO (impl_SwitchLine.f k a0 a1 a2 a3 a4) (impl_SwitchLine.f (k + 1) a0 a1 a2 a3 a4) := by
 intro a0 a1 a2 a3 a4 k
 unfold impl_SwitchLine.f
 repeat' first
   | (with_reducible exact impl_StateValid.mono _ _ _ _)
   | (with_reducible exact LeO.refl _)
   | (with_reducible exact LeO.none _)
   | (with_reducible refine LeO.ite ?_ ?_)
   | (with_reducible refine LeO.bind ?_ (fun _ => ?_))
   | exact impl_StateValid.mono _ _ _ _
   | exact LeO.none _
   | refine LeO.ite ?_ ?_
   | refine LeO.bind ?_ (fun _ => ?_)
set_option maxHeartbeats 8000000 in
set_option maxRecDepth 100000 in
theorem impl_SwitchLine.calls (k : Nat) (a0_0 : Int) (A0_1 : Option Addr) (c0_1 : Nat) (l0_1 : List (S52)) (A1 : Option Addr) (c1 : Nat) (l1 : List Bool) (a2 : Int) (a3 : Bool) (r1 : List Bool) (r2 : Bool) (w : World) (hr0_1 : Kd.C k52 w A0_1 l0_1.length l0_1) (hc0_1 : l0_1.length ≤ c0_1) (hr1 : Kd.C Kd.bool w A1 l1.length l1) (hc1 : l1.length ≤ c1) (h : impl_SwitchLine.f k a0_0 l0_1 l1 a2 a3 = some (r1, r2)) :
  Calls Tryd.prog 22 #[.agg #[.int .i64 a0_0, .slice A0_1 l0_1.length c0_1], .slice A1 l1.length c1, .int .i64 a2, .bool a3] w fun e w' => ∃ v0_ : Value, e = .returned (.tuple #[v0_, .bool r2]) ∧ Kd.R Kd.bool 4 w' w.heap.size (fun _ => True) v0_ r1 ∧ Below w.heap.size w w' := by
 have hu39 := Tryd.underlying39
 have HR0_1 := Aside0.mk hr0_1
 have HC0_1 := Aside0.mk hc0_1
 clear hr0_1 hc0_1
 have HR1 := Aside0.mk hr1
 have HC1 := Aside0.mk hc1
 clear hr1 hc1
 have HB := Aside0.mk (Below.refl w.heap.size w)
 have H : ((impl_StateValid.f k a0_0 l0_1 l1).bind fun t351 => (if t351 = true then ((slices_Clone_bool_bool.f l1).bind fun t352 => ((impl_Net_hasLine.f a0_0 l0_1 a2).bind fun t355 => (if t355 = true then (if 0 ≤ a2 then (if a2 < (t352.length : Int) then (some ((t352.set (a2 : Int).toNat a3), true)) else (none)) else (none)) else (some (t352, false))))) else (some (([] : List Bool), false)))) = some (r1, r2) := h
 clear h
 replace H := Option.bind_eq_some_iff.mp H
 obtain ⟨t351, A50, H⟩ := H
 replace H : (if t351 = true then ((slices_Clone_bool_bool.f l1).bind fun t352 => ((impl_Net_hasLine.f a0_0 l0_1 a2).bind fun t355 => (if t355 = true then (if 0 ≤ a2 then (if a2 < (t352.length : Int) then (some ((t352.set (a2 : Int).toNat a3), true)) else (none)) else (none)) else (some (t352, false))))) else (some (([] : List Bool), false))) = some (r1, r2) := H
 have A5 := Aside0.mk A50
 clear A50
 by_cases c6 : t351 = true
 rotate_left
 ·
  replace c6 := Bool.eq_false_iff.mpr c6
  subst c6
  have H1 : (some (([] : List Bool), false)) = some (r1, r2) := by rw [if_neg (show ¬ (false = true) by decide)] at H; exact H
  clear H
  have H := H1
  clear H1
  simp only [Option.some.injEq, Prod.mk.injEq] at H
  obtain ⟨rfl, rfl⟩ := H
  go_enter Tryd.func22, Tryd.ntmps22
  go_wp2_with (first | ((with_reducible refine gate_dst (N := 4) rfl ?_); refine box_event ?hg (N := 4) ?hd (cs := #[.int .i64 a0_0, .slice A0_1 l0_1.length c0_1]) (t := 39) ?hr ?_; (case hd => rfl); (case hg => rfl); (case hr => exact hR); intro gb350 hg w27 hbox hb; have n0_ := Aside0.mk (below_step (bl0 HB) hb); have n1_ := Aside0.mk (hbox); have n2_ := Aside0.mk ((by rw [hg]; exact (below_size (bl0 HB)) : w.heap.size ≤ gb350)); have n3_ := Aside0.mk ((by rw [hg]; exact (below_size (bl0 HB)) : w.heap.size ≤ gb350)); clear HB; have HB := n0_; have BK350 := n1_; have GW350 := n2_; have GE350 := n3_; clear n0_ n1_ n2_ n3_; clear hb hbox hg; have hcz28_0 : w27.cell? ⟨gb350, 0, none⟩ = some (.int .i64 a0_0) := (blk_cell BK350.out 0).trans rfl; have hcz28_1 : w27.cell? ⟨gb350, 1, none⟩ = some (.slice A0_1 l0_1.length c0_1) := (blk_cell BK350.out 1).trans rfl; have hfz28_0 := blk_frozen BK350.out 0; have hfz28_1 := blk_frozen BK350.out 1) | ((with_reducible refine gate_callee (f := 54) rfl ?_); refine goesL_ (some 13) rfl rfl Tryd.func54 (by kernel_rfl) rfl #[.agg #[.int .i64 a0_0, .slice A0_1 l0_1.length c0_1], .slice A1 l1.length c1] rfl mP ?_; (with_reducible refine (impl_StateValid.calls k a0_0 _ _ l0_1 _ _ l1 false _ ?side1 ?side2 ?side3 ?side4 A5.out).mono ?_); (case side1 => exact gC ((Kd.C_below HR0_1.out HB.out))); (case side2 => exact HC0_1.out); (case side3 => exact gC ((Kd.C_below HR1.out HB.out))); (case side4 => exact HC1.out); rintro e w29 ⟨rfl, hb⟩; refine ⟨_, rfl, ?_⟩; have n0_ := Aside0.mk (blk_below (g := gb350) (o := .cells #[.int .i64 a0_0, .slice A0_1 l0_1.length c0_1] 39 (0, 0)) (gB (BK350.out)) hb); have n1_ := Aside0.mk (below_step (bl1 HB GE350) hb); clear BK350; clear HB; have BK350 := n0_; have HB := n1_; clear n0_ n1_; (try clear hb); (try clear hb2); (try clear hk); (try clear hi)))
  go_ret2
  exact ⟨_, fR, by first | exact Kd.R_nil _ _ _ _ _ | exact Kd.N_nil _ _ _ _ _ | exact Kd.V_nil _ _ _ _ _ | exact Kd.Q_nil _ _ _ _ _ | exact Kd.S_nil _ _ _ _ _, bl1 HB GE350⟩
 subst c6
 have H1 : ((slices_Clone_bool_bool.f l1).bind fun t352 => ((impl_Net_hasLine.f a0_0 l0_1 a2).bind fun t355 => (if t355 = true then (if 0 ≤ a2 then (if a2 < (t352.length : Int) then (some ((t352.set (a2 : Int).toNat a3), true)) else (none)) else (none)) else (some (t352, false))))) = some (r1, r2) := by rw [if_pos rfl] at H; exact H
 clear H
 have H := H1
 clear H1
 replace H := Option.bind_eq_some_iff.mp H
 obtain ⟨t352, A70, H⟩ := H
 replace H : ((impl_Net_hasLine.f a0_0 l0_1 a2).bind fun t355 => (if t355 = true then (if 0 ≤ a2 then (if a2 < (t352.length : Int) then (some ((t352.set (a2 : Int).toNat a3), true)) else (none)) else (none)) else (some (t352, false)))) = some (r1, r2) := H
 have A7 := Aside0.mk A70
 clear A70
 replace H := Option.bind_eq_some_iff.mp H
 obtain ⟨t355, A80, H⟩ := H
 replace H : (if t355 = true then (if 0 ≤ a2 then (if a2 < (t352.length : Int) then (some ((t352.set (a2 : Int).toNat a3), true)) else (none)) else (none)) else (some (t352, false))) = some (r1, r2) := H
 have A8 := Aside0.mk A80
 clear A80
 by_cases c9 : t355 = true
 rotate_left
 ·
  replace c9 := Bool.eq_false_iff.mpr c9
  subst c9
  have H1 : (some (t352, false)) = some (r1, r2) := by rw [if_neg (show ¬ (false = true) by decide)] at H; exact H
  clear H
  have H := H1
  clear H1
  simp only [Option.some.injEq, Prod.mk.injEq] at H
  obtain ⟨rfl, rfl⟩ := H
  go_enter Tryd.func22, Tryd.ntmps22
  go_wp2_with (first | ((with_reducible refine gate_dst (N := 4) rfl ?_); refine box_event ?hg (N := 4) ?hd (cs := #[.int .i64 a0_0, .slice A0_1 l0_1.length c0_1]) (t := 39) ?hr ?_; (case hd => rfl); (case hg => rfl); (case hr => exact hR); intro gb350 hg w21 hbox hb; have n0_ := Aside0.mk (below_step (bl0 HB) hb); have n1_ := Aside0.mk (hbox); have n2_ := Aside0.mk ((by rw [hg]; exact (below_size (bl0 HB)) : w.heap.size ≤ gb350)); have n3_ := Aside0.mk ((by rw [hg]; exact (below_size (bl0 HB)) : w.heap.size ≤ gb350)); clear HB; have HB := n0_; have BK350 := n1_; have GW350 := n2_; have GE350 := n3_; clear n0_ n1_ n2_ n3_; clear hb hbox hg; have hcz22_0 : w21.cell? ⟨gb350, 0, none⟩ = some (.int .i64 a0_0) := (blk_cell BK350.out 0).trans rfl; have hcz22_1 : w21.cell? ⟨gb350, 1, none⟩ = some (.slice A0_1 l0_1.length c0_1) := (blk_cell BK350.out 1).trans rfl; have hfz22_0 := blk_frozen BK350.out 0; have hfz22_1 := blk_frozen BK350.out 1) | ((with_reducible refine gate_callee (f := 54) rfl ?_); refine goesL_ (some 13) rfl rfl Tryd.func54 (by kernel_rfl) rfl #[.agg #[.int .i64 a0_0, .slice A0_1 l0_1.length c0_1], .slice A1 l1.length c1] rfl mP ?_; (with_reducible refine (impl_StateValid.calls k a0_0 _ _ l0_1 _ _ l1 true _ ?side1 ?side2 ?side3 ?side4 A5.out).mono ?_); (case side1 => exact gC ((Kd.C_below HR0_1.out HB.out))); (case side2 => exact HC0_1.out); (case side3 => exact gC ((Kd.C_below HR1.out HB.out))); (case side4 => exact HC1.out); rintro e w23 ⟨rfl, hb⟩; refine ⟨_, rfl, ?_⟩; have n0_ := Aside0.mk (blk_below (g := gb350) (o := .cells #[.int .i64 a0_0, .slice A0_1 l0_1.length c0_1] 39 (0, 0)) (gB (BK350.out)) hb); have n1_ := Aside0.mk (below_step (bl1 HB GE350) hb); clear BK350; clear HB; have BK350 := n0_; have HB := n1_; clear n0_ n1_; (try clear hb); (try clear hb2); (try clear hk); (try clear hi)) | ((with_reducible refine gate_callee (f := 49) rfl ?_); refine goesL_ (some 16) rfl rfl Tryd.func49 (by kernel_rfl) rfl #[.slice A1 l1.length c1] rfl mP ?_; (with_reducible refine (slices_Clone_bool_bool.calls _ _ l1 t352 _ ?side1 ?side2 A7.out).mono ?_); (case side1 => exact gC ((Kd.C_below HR1.out HB.out))); (case side2 => exact HC1.out); rintro e w24 ⟨v353, rfl, ho0, hb⟩; refine ⟨_, rfl, ?_⟩; have n0_ := Aside0.mk (Kd.R_lower ho0 (below_size (bl1 HB GE350))); have n1_ := Aside0.mk (blk_below (g := gb350) (o := .cells #[.int .i64 a0_0, .slice A0_1 l0_1.length c0_1] 39 (0, 0)) (gB (BK350.out)) hb); have n2_ := Aside0.mk (below_step (bl1 HB GE350) hb); clear BK350; clear HB; have HO354 := n0_; have BK350 := n1_; have HB := n2_; clear n0_ n1_ n2_; (try clear hb); (try clear hb2); (try clear hk); (try clear hi); (try clear ho0); have hcz25_0 : w24.cell? ⟨gb350, 0, none⟩ = some (.int .i64 a0_0) := (blk_cell BK350.out 0).trans rfl; have hcz25_1 : w24.cell? ⟨gb350, 1, none⟩ = some (.slice A0_1 l0_1.length c0_1) := (blk_cell BK350.out 1).trans rfl; have hfz25_0 := blk_frozen BK350.out 0; have hfz25_1 := blk_frozen BK350.out 1) | ((with_reducible refine gate_callee (f := 55) rfl ?_); refine goesL_ (some 19) rfl rfl Tryd.func55 (by kernel_rfl) rfl #[.agg #[.int .i64 a0_0, .slice A0_1 l0_1.length c0_1], .int .i64 a2] rfl mP ?_; (with_reducible refine (impl_Net_hasLine.calls a0_0 _ _ l0_1 a2 false _ ?side1 ?side2 A8.out).mono ?_); (case side1 => exact gC ((Kd.C_below HR0_1.out HB.out))); (case side2 => exact HC0_1.out); rintro e w26 ⟨rfl, hb⟩; refine ⟨_, rfl, ?_⟩; have n0_ := Aside0.mk (Kd.R_below (gR (HO354.out)) hb); have n1_ := Aside0.mk (blk_below (g := gb350) (o := .cells #[.int .i64 a0_0, .slice A0_1 l0_1.length c0_1] 39 (0, 0)) (gB (BK350.out)) hb); have n2_ := Aside0.mk (below_step (bl1 HB GE350) hb); clear HO354; clear BK350; clear HB; have HO354 := n0_; have BK350 := n1_; have HB := n2_; clear n0_ n1_ n2_; (try clear hb); (try clear hb2); (try clear hk); (try clear hi)))
  go_ret2
  exact ⟨_, fR, gR (HO354.out), bl1 HB GE350⟩
 subst c9
 have H1 : (if 0 ≤ a2 then (if a2 < (t352.length : Int) then (some ((t352.set (a2 : Int).toNat a3), true)) else (none)) else (none)) = some (r1, r2) := by rw [if_pos rfl] at H; exact H
 clear H
 have H := H1
 clear H1
 by_cases c10 : 0 ≤ a2
 rotate_left
 ·
  rw [if_neg c10] at H
  exact absurd H (by simp)
 rw [if_pos c10] at H
 have c10b0 : decide (0 ≤ a2) = true := decide_eq_true c10
 clear c10
 by_cases c11 : a2 < (t352.length : Int)
 rotate_left
 ·
  rw [if_neg c11] at H
  exact absurd H (by simp)
 rw [if_pos c11] at H
 have c11b0 : decide (a2 < (t352.length : Int)) = true := decide_eq_true c11
 clear c11
 obtain ⟨y356, hy356⟩ : ∃ y_ : List Bool, y_ = (t352.set (a2 : Int).toNat a3) := ⟨_, rfl⟩
 replace H : (some (y356, true)) = some (r1, r2) := by first | (rw [hy356]; with_reducible exact H) | (have H2_ := (Option.bind_some _ _).symm.trans H; rw [hy356]; with_reducible exact H2_) | (have H2_ := (Option.bind_some _ _).symm.trans H; with_reducible exact H2_) | with_reducible exact H | (rw [hy356]; exact H) | exact H
 have Ny356 := Aside0.mk hy356
 clear hy356
 simp only [Option.some.injEq, Prod.mk.injEq] at H
 obtain ⟨rfl, rfl⟩ := H
 go_enter Tryd.func22, Tryd.ntmps22
 go_wp2_with (first | ((with_reducible refine gate_dst (N := 4) rfl ?_); refine box_event ?hg (N := 4) ?hd (cs := #[.int .i64 a0_0, .slice A0_1 l0_1.length c0_1]) (t := 39) ?hr ?_; (case hd => rfl); (case hg => rfl); (case hr => exact hR); intro gb350 hg w13 hbox hb; have n0_ := Aside0.mk (below_step (bl0 HB) hb); have n1_ := Aside0.mk (hbox); have n2_ := Aside0.mk ((by rw [hg]; exact (below_size (bl0 HB)) : w.heap.size ≤ gb350)); have n3_ := Aside0.mk ((by rw [hg]; exact (below_size (bl0 HB)) : w.heap.size ≤ gb350)); clear HB; have HB := n0_; have BK350 := n1_; have GW350 := n2_; have GE350 := n3_; clear n0_ n1_ n2_ n3_; clear hb hbox hg; have hcz14_0 : w13.cell? ⟨gb350, 0, none⟩ = some (.int .i64 a0_0) := (blk_cell BK350.out 0).trans rfl; have hcz14_1 : w13.cell? ⟨gb350, 1, none⟩ = some (.slice A0_1 l0_1.length c0_1) := (blk_cell BK350.out 1).trans rfl; have hfz14_0 := blk_frozen BK350.out 0; have hfz14_1 := blk_frozen BK350.out 1) | ((with_reducible refine gate_callee (f := 54) rfl ?_); refine goesL_ (some 13) rfl rfl Tryd.func54 (by kernel_rfl) rfl #[.agg #[.int .i64 a0_0, .slice A0_1 l0_1.length c0_1], .slice A1 l1.length c1] rfl mP ?_; (with_reducible refine (impl_StateValid.calls k a0_0 _ _ l0_1 _ _ l1 true _ ?side1 ?side2 ?side3 ?side4 A5.out).mono ?_); (case side1 => exact gC ((Kd.C_below HR0_1.out HB.out))); (case side2 => exact HC0_1.out); (case side3 => exact gC ((Kd.C_below HR1.out HB.out))); (case side4 => exact HC1.out); rintro e w15 ⟨rfl, hb⟩; refine ⟨_, rfl, ?_⟩; have n0_ := Aside0.mk (blk_below (g := gb350) (o := .cells #[.int .i64 a0_0, .slice A0_1 l0_1.length c0_1] 39 (0, 0)) (gB (BK350.out)) hb); have n1_ := Aside0.mk (below_step (bl1 HB GE350) hb); clear BK350; clear HB; have BK350 := n0_; have HB := n1_; clear n0_ n1_; (try clear hb); (try clear hb2); (try clear hk); (try clear hi)) | ((with_reducible refine gate_callee (f := 49) rfl ?_); refine goesL_ (some 16) rfl rfl Tryd.func49 (by kernel_rfl) rfl #[.slice A1 l1.length c1] rfl mP ?_; (with_reducible refine (slices_Clone_bool_bool.calls _ _ l1 t352 _ ?side1 ?side2 A7.out).mono ?_); (case side1 => exact gC ((Kd.C_below HR1.out HB.out))); (case side2 => exact HC1.out); rintro e w16 ⟨v353, rfl, ho0, hb⟩; refine ⟨_, rfl, ?_⟩; have n0_ := Aside0.mk (Kd.R_lower ho0 (below_size (bl1 HB GE350))); have n1_ := Aside0.mk (blk_below (g := gb350) (o := .cells #[.int .i64 a0_0, .slice A0_1 l0_1.length c0_1] 39 (0, 0)) (gB (BK350.out)) hb); have n2_ := Aside0.mk (below_step (bl1 HB GE350) hb); clear BK350; clear HB; have HO354 := n0_; have BK350 := n1_; have HB := n2_; clear n0_ n1_ n2_; (try clear hb); (try clear hb2); (try clear hk); (try clear hi); (try clear ho0); have hcz17_0 : w16.cell? ⟨gb350, 0, none⟩ = some (.int .i64 a0_0) := (blk_cell BK350.out 0).trans rfl; have hcz17_1 : w16.cell? ⟨gb350, 1, none⟩ = some (.slice A0_1 l0_1.length c0_1) := (blk_cell BK350.out 1).trans rfl; have hfz17_0 := blk_frozen BK350.out 0; have hfz17_1 := blk_frozen BK350.out 1) | ((with_reducible refine gate_callee (f := 55) rfl ?_); refine goesL_ (some 19) rfl rfl Tryd.func55 (by kernel_rfl) rfl #[.agg #[.int .i64 a0_0, .slice A0_1 l0_1.length c0_1], .int .i64 a2] rfl mP ?_; (with_reducible refine (impl_Net_hasLine.calls a0_0 _ _ l0_1 a2 true _ ?side1 ?side2 A8.out).mono ?_); (case side1 => exact gC ((Kd.C_below HR0_1.out HB.out))); (case side2 => exact HC0_1.out); rintro e w18 ⟨rfl, hb⟩; refine ⟨_, rfl, ?_⟩; have n0_ := Aside0.mk (Kd.R_below (gR (HO354.out)) hb); have n1_ := Aside0.mk (blk_below (g := gb350) (o := .cells #[.int .i64 a0_0, .slice A0_1 l0_1.length c0_1] 39 (0, 0)) (gB (BK350.out)) hb); have n2_ := Aside0.mk (below_step (bl1 HB GE350) hb); clear HO354; clear BK350; clear HB; have HO354 := n0_; have BK350 := n1_; have HB := n2_; clear n0_ n1_ n2_; (try clear hb); (try clear hb2); (try clear hk); (try clear hi); have p12 : 0 ≤ (a2 : Int) := oD; have q12 : (a2 : Int) < ((t352.length : Int) : Int) := oD; obtain ⟨go12, co12, eo12, gb12, gl12, cl12, HG12⟩ := Kd.R_form HO354.out (by first | omega | (obtain ⟨_, _, e_⟩ := Kd.R_slice HO354.out; injection e_ with _ e_ _; omega)); (first | cases eo12 | (injection eo12 with ea_ en_ ec_; (first | subst ea_ | (injection ea_ with ea_; subst ea_)); subst ec_; clear en_)); have GB12 := Aside0.mk gb12; have GG12 := Aside0.mk HG12; clear gb12 gl12 HG12; obtain ⟨hx12_0, hf12_0⟩ := Kd.R_celln false HO354.out (a2 : Int) p12 q12; replace p12 := eq_true p12; replace q12 := eq_true q12; obtain ⟨hy19_, hz19_⟩ := Kd.R_celln false HO354.out (a2 : Int) (oD) (oD); have HP19 := Kd.R_putg HO354.out (a2 : Int) a3) | ((with_reducible refine gate_store (t := 4) (p := 25) rfl ?_); refine store_event (t := 4) (p := 25) (v := ?vo_w20) (w1 := (w18.setCell ⟨go12, (a2 : Int).toNat, none⟩ (.bool a3))) ?hg ?ho ?hn ?hr ?_; (case ho => rfl); (case hg => rfl); (case hn => rfl); (case hr => exact hR); intro w20 hw; have hg : w18.grownBy w20 (some go12) := (by rw [hw]; exact HP19.2); have hp_ : Kd.R Kd.bool 4 w20 w.heap.size (fun _ => True) (.slice (some ⟨go12, 0, none⟩) t352.length co12) y356 := (by rw [hw, Ny356.out]; exact HP19.1); clear HP19; have n0_ := Aside0.mk (blk_grown (g := gb350) (o := .cells #[.int .i64 a0_0, .slice A0_1 l0_1.length c0_1] 39 (0, 0)) (gB (BK350.out)) hg (Kd.R_ne HO354.out BK350.out (by decide))); have n1_ := Aside0.mk (hp_); have n2_ := Aside0.mk ((by rw [hw]; exact below_set (HB.out) GB12.out : Below w.heap.size w w20)); clear BK350; clear HO354; clear HB; have BK350 := n0_; have HO354 := n1_; have HB := n2_; clear n0_ n1_ n2_; clear hg hw hp_))
 go_ret2
 exact ⟨_, fR, gR (HO354.out), bl1 HB GE350⟩

end Go.Proofs.YthkdkjmnnpcdhaaDoor.P

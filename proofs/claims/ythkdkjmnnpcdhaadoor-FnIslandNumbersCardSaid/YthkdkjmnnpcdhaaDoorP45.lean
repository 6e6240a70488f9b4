/- Contracts of Go functions of this seat's translation, written by this repo's wip/mk.py: it calls the kit's print.py with contracts typed by hand in place of functions that it does not take. Not trusted: Lean checks it. -/
import Derived.Test.YthkdkjmnnpcdhaaDoorP0
import Derived.Test.YthkdkjmnnpcdhaaDoorP11
import Derived.Test.YthkdkjmnnpcdhaaDoorP31
import Derived.Test.YthkdkjmnnpcdhaaDoorP42
namespace Go.Proofs.YthkdkjmnnpcdhaaDoor.P
open Go.RowKit Go.Proofs.YthkdkjmnnpcdhaaDoorW.PrintWords Go.Proofs.YthkdkjmnnpcdhaaDoorW.PrintLast Go.Proofs.YthkdkjmnnpcdhaaDoorW.PrintMore
attribute [local go_sem] max2_int min2_int max_two min_two max_three min_three max_four min_four   -- for this text's walks alone
set_option linter.unusedVariables false
set_option linter.unusedSimpArgs false

/-! ### spec_Reached: function 30 -/
mutual
def spec_Reached.j0 : Nat → List Bool → Int → List Int → Bool → Int → List (S52) → Option (List Int)
 | 0, _, _, _, _, _, _ => none
 | k + 1, x1, x2, x7, x22, x488000, x488001 => if x22 = true then (some x7) else ((spec_l3Reach.f k x488000 x488001 x1 x2).bind fun t493 => (spec_Reached.l0 k x7 t493 0 x488000 x488001))
def spec_Reached.l0 : Nat → List Int → List Bool → Int → Int → List (S52) → Option (List Int)
 | 0, _, _, _, _, _ => none
 | k + 1, x7, x8, x9, x488000, x488001 => if x9 < x488000 then (if 0 ≤ x9 then (if x9 < (x8.length : Int) then (if rdOf false x8 x9 = true then (if x7.length < 17592186044416 then (spec_Reached.l0 k (x7 ++ [x9]) x8 (wrap64 (x9 + 1)) x488000 x488001) else (none)) else (spec_Reached.l0 k x7 x8 (wrap64 (x9 + 1)) x488000 x488001)) else (none)) else (none)) else (some x7)
end
def spec_Reached.f (k : Nat) (a0_0 : Int) (l0_1 : List (S52)) (l1 : List Bool) (a2 : Int) : Option (List Int) := (some (([] : List Int) : List Int)).bind fun y488 => ((spec_StateValid.f k a0_0 l0_1 l1).bind fun t491 => (if t491 = true then ((spec_l1In.f a2 0 (wrap64 (a0_0 - 1))).bind fun t492 => (spec_Reached.j0 k l1 a2 y488 (!t492) a0_0 l0_1)) else (spec_Reached.j0 k l1 a2 y488 true a0_0 l0_1)))
theorem spec_Reached.mono_l : ∀ k, (∀ y0 y1 y2 y3 y4 y5, LeO (spec_Reached.j0 k y0 y1 y2 y3 y4 y5) (spec_Reached.j0 (k + 1) y0 y1 y2 y3 y4 y5)) ∧ (∀ y0 y1 y2 y3 y4, LeO (spec_Reached.l0 k y0 y1 y2 y3 y4) (spec_Reached.l0 (k + 1) y0 y1 y2 y3 y4))
 | 0 => ⟨fun _ _ _ _ _ _ r h => by simp [spec_Reached.j0] at h, fun _ _ _ _ _ r h => by simp [spec_Reached.l0] at h⟩
 | k + 1 => by
  obtain ⟨ih0, ih1⟩ := spec_Reached.mono_l k
  refine ⟨?_, ?_⟩
  ·
   intro y0 y1 y2 y3 y4 y5
   unfold spec_Reached.j0
   repeat' first
   | (with_reducible exact ih0 _ _ _ _ _ _)
   | (with_reducible exact ih1 _ _ _ _ _)
   | (with_reducible exact spec_StateValid.mono _ _ _ _)
   | (with_reducible exact spec_l3Reach.mono _ _ _ _ _)
   | (with_reducible exact LeO.refl _)
   | (with_reducible exact LeO.none _)
   | (with_reducible refine LeO.ite ?_ ?_)
   | (with_reducible refine LeO.bind ?_ (fun _ => ?_))
   | exact ih0 _ _ _ _ _ _
   | exact ih1 _ _ _ _ _
   | exact spec_StateValid.mono _ _ _ _
   | exact spec_l3Reach.mono _ _ _ _ _
   | exact LeO.none _
   | refine LeO.ite ?_ ?_
   | refine LeO.bind ?_ (fun _ => ?_)
  ·
   intro y0 y1 y2 y3 y4
   unfold spec_Reached.l0
   repeat' first
   | (with_reducible exact ih0 _ _ _ _ _ _)
   | (with_reducible exact ih1 _ _ _ _ _)
   | (with_reducible exact spec_StateValid.mono _ _ _ _)
   | (with_reducible exact spec_l3Reach.mono _ _ _ _ _)
   | (with_reducible exact LeO.refl _)
   | (with_reducible exact LeO.none _)
   | (with_reducible refine LeO.ite ?_ ?_)
   | (with_reducible refine LeO.bind ?_ (fun _ => ?_))
   | exact ih0 _ _ _ _ _ _
   | exact ih1 _ _ _ _ _
   | exact spec_StateValid.mono _ _ _ _
   | exact spec_l3Reach.mono _ _ _ _ _
   | exact LeO.none _
   | refine LeO.ite ?_ ?_
   | refine LeO.bind ?_ (fun _ => ?_)
theorem spec_Reached.mono : ∀ a0 a1 a2 a3 k, LeO (spec_Reached.f k a0 a1 a2 a3) (spec_Reached.f (k + 1) a0 a1 a2 a3) := by
 intro a0 a1 a2 a3 k
 obtain ⟨ih0, ih1⟩ := spec_Reached.mono_l k
 unfold spec_Reached.f
 repeat' first
   | (with_reducible exact ih0 _ _ _ _ _ _)
   | (with_reducible exact ih1 _ _ _ _ _)
   | (with_reducible exact spec_StateValid.mono _ _ _ _)
   | (with_reducible exact spec_l3Reach.mono _ _ _ _ _)
   | (with_reducible exact LeO.refl _)
   | (with_reducible exact LeO.none _)
   | (with_reducible refine LeO.ite ?_ ?_)
   | (with_reducible refine LeO.bind ?_ (fun _ => ?_))
   | exact ih0 _ _ _ _ _ _
   | exact ih1 _ _ _ _ _
   | exact spec_StateValid.mono _ _ _ _
   | exact spec_l3Reach.mono _ _ _ _ _
   | exact LeO.none _
   | refine LeO.ite ?_ ?_
   | refine LeO.bind ?_ (fun _ => ?_)
set_option maxHeartbeats 8000000 in
set_option maxRecDepth 100000 in
theorem spec_Reached.calls (k : Nat) (a0_0 : Int) (A0_1 : Option Addr) (c0_1 : Nat) (l0_1 : List (S52)) (A1 : Option Addr) (c1 : Nat) (l1 : List Bool) (a2 : Int) (r : List Int) (w : World) (hr0_1 : Kd.C k52 w A0_1 l0_1.length l0_1) (hc0_1 : l0_1.length ≤ c0_1) (hr1 : Kd.C Kd.bool w A1 l1.length l1) (hc1 : l1.length ≤ c1) (h : spec_Reached.f k a0_0 l0_1 l1 a2 = some r) :
  Calls Tryd.prog 30 #[.agg #[.int .i64 a0_0, .slice A0_1 l0_1.length c0_1], .slice A1 l1.length c1, .int .i64 a2] w fun e w' => ∃ v0_ : Value, e = .returned (v0_) ∧ Kd.R (Kd.int .i64) 3 w' w.heap.size (fun _ => True) v0_ r ∧ Below w.heap.size w w' := by
 have hu39 := Tryd.underlying39
 have HR0_1 := Aside0.mk hr0_1
 have HC0_1 := Aside0.mk hc0_1
 clear hr0_1 hc0_1
 have HR1 := Aside0.mk hr1
 have HC1 := Aside0.mk hc1
 clear hr1 hc1
 have HB := Aside0.mk (Below.refl w.heap.size w)
 have H : ((some (([] : List Int) : List Int)).bind fun y488 => ((spec_StateValid.f k a0_0 l0_1 l1).bind fun t491 => (if t491 = true then ((spec_l1In.f a2 0 (wrap64 (a0_0 - 1))).bind fun t492 => (spec_Reached.j0 k l1 a2 y488 (!t492) a0_0 l0_1)) else (spec_Reached.j0 k l1 a2 y488 true a0_0 l0_1)))) = some r := h
 clear h
 obtain ⟨y488, hy488⟩ : ∃ y_ : List Int, y_ = (([] : List Int)) := ⟨_, rfl⟩
 replace H : ((spec_StateValid.f k a0_0 l0_1 l1).bind fun t491 => (if t491 = true then ((spec_l1In.f a2 0 (wrap64 (a0_0 - 1))).bind fun t492 => (spec_Reached.j0 k l1 a2 y488 (!t492) a0_0 l0_1)) else (spec_Reached.j0 k l1 a2 y488 true a0_0 l0_1))) = some r := by first | (rw [hy488]; with_reducible exact H) | (have H2_ := (Option.bind_some _ _).symm.trans H; rw [hy488]; with_reducible exact H2_) | (have H2_ := (Option.bind_some _ _).symm.trans H; with_reducible exact H2_) | with_reducible exact H | (rw [hy488]; exact H) | exact H
 have Ny488 := Aside0.mk hy488
 clear hy488
 have HC4 := Aside0.mk H
 clear H
 go_enter Tryd.func30, Tryd.ntmps30
 go_upto_region 2 with (first | ((with_reducible refine gate_dst (N := 3) rfl ?_); refine box_event ?hg (N := 3) ?hd (cs := #[.int .i64 a0_0, .slice A0_1 l0_1.length c0_1]) (t := 39) ?hr ?_; (case hd => rfl); (case hg => rfl); (case hr => exact hR); intro gb487 hg w5 hbox hb; have n0_ := Aside0.mk (below_step (bl0 HB) hb); have n1_ := Aside0.mk (hbox); have n2_ := Aside0.mk ((by rw [hg]; exact (below_size (bl0 HB)) : w.heap.size ≤ gb487)); have n3_ := Aside0.mk ((by rw [hg]; exact (below_size (bl0 HB)) : w.heap.size ≤ gb487)); clear HB; have HB := n0_; have BK487 := n1_; have GW487 := n2_; have GE487 := n3_; clear n0_ n1_ n2_ n3_; clear hb hbox hg) | ((with_reducible refine gate_dst (N := 10) rfl ?_); refine Kd.R_lit (Kd.int .i64) _ 3 ?hg (N := 10) ?hd (xs := ([] : List Int)) (inner := []) (ok := fun _ => True) (okp := fun _ => True) ?hr ?hp (fun _ hk => hk) trivial (Below.refl _ _) (Nat.le_refl _) (by simp) ?_; (case hd => rfl); (case hg => rfl); (case hr => exact hR); (case hp => exact (Reps.none _ _)); intro v489 w6 ho7 hb hg_ hnew_; clear hg_ hnew_; (first | rw [← Ny488.out] at ho7 | (simp only [Int.reduceToNat] at ho7; rw [← Ny488.out] at ho7)); have n0_ := Aside0.mk (Kd.R_lower ho7 (below_size (bl1 HB GE487))); have n1_ := Aside0.mk (blk_below (g := gb487) (o := .cells #[.int .i64 a0_0, .slice A0_1 l0_1.length c0_1] 39 (0, 0)) (gB (BK487.out)) hb); have n2_ := Aside0.mk (below_step (bl1 HB GE487) hb); clear BK487; clear HB; have HO490 := n0_; have BK487 := n1_; have HB := n2_; clear n0_ n1_ n2_; clear hb ho7))
 (try simp only [Act.put, List.setIfInBounds_toArray, List.set_cons_zero, List.set_cons_succ])
 go_cut [22] (fun v22 wc => ∃ (kq : Nat) (x22_3 : Bool), v22 = .bool x22_3 ∧ Aside0 (spec_Reached.j0 kq l1 a2 y488 x22_3 a0_0 l0_1 = some r) ∧ Aside0 (kq ≤ k) ∧ Aside0 (Kd.R (Kd.int .i64) 3 wc w.heap.size (fun _ => True) v489 y488) ∧ Aside0 (wc.heap[gb487]? = some (.cells #[.int .i64 a0_0, (.slice A0_1 l0_1.length c0_1)] 39 (0, 0))) ∧ Aside0 (Below w.heap.size w wc))
 case first =>
  have H := HC4.out
  clear HC4
  replace H := Option.bind_eq_some_iff.mp H
  obtain ⟨t491, A80, H⟩ := H
  replace H : (if t491 = true then ((spec_l1In.f a2 0 (wrap64 (a0_0 - 1))).bind fun t492 => (spec_Reached.j0 k l1 a2 y488 (!t492) a0_0 l0_1)) else (spec_Reached.j0 k l1 a2 y488 true a0_0 l0_1)) = some r := H
  have A8 := Aside0.mk A80
  clear A80
  by_cases c9 : t491 = true
  rotate_left
  ·
   replace c9 := Bool.eq_false_iff.mpr c9
   subst c9
   have H1 : (spec_Reached.j0 k l1 a2 y488 true a0_0 l0_1) = some r := by rw [if_neg (show ¬ (false = true) by decide)] at H; exact H
   clear H
   have H := H1
   clear H1
   have H' := Aside0.mk H
   clear H
   have hcz14_0 : w6.cell? ⟨gb487, 0, none⟩ = some (.int .i64 a0_0) := (blk_cell BK487.out 0).trans rfl
   have hcz14_1 : w6.cell? ⟨gb487, 1, none⟩ = some (.slice A0_1 l0_1.length c0_1) := (blk_cell BK487.out 1).trans rfl
   have hfz14_0 := blk_frozen BK487.out 0
   have hfz14_1 := blk_frozen BK487.out 1
   go_wp2_with (first | ((with_reducible refine gate_callee (f := 43) rfl ?_); refine goesL_ (some 13) rfl rfl Tryd.func43 (by kernel_rfl) rfl #[.agg #[.int .i64 a0_0, .slice A0_1 l0_1.length c0_1], .slice A1 l1.length c1] rfl mP ?_; (with_reducible refine (spec_StateValid.calls k a0_0 _ _ l0_1 _ _ l1 false _ ?side1 ?side2 ?side3 ?side4 A8.out).mono ?_); (case side1 => exact gC ((Kd.C_below HR0_1.out HB.out))); (case side2 => exact HC0_1.out); (case side3 => exact gC ((Kd.C_below HR1.out HB.out))); (case side4 => exact HC1.out); rintro e w15 ⟨rfl, hb⟩; refine ⟨_, rfl, ?_⟩; have n0_ := Aside0.mk (Kd.R_below (gR (HO490.out)) hb); have n1_ := Aside0.mk (blk_below (g := gb487) (o := .cells #[.int .i64 a0_0, .slice A0_1 l0_1.length c0_1] 39 (0, 0)) (gB (BK487.out)) hb); have n2_ := Aside0.mk (below_step (bl1 HB GE487) hb); clear HO490; clear BK487; clear HB; have HO490 := n0_; have BK487 := n1_; have HB := n2_; clear n0_ n1_ n2_; (try clear hb); (try clear hb2); (try clear hk); (try clear hi)))
   go_meet
   case rel => exact ⟨_, (true), fS, H', ⟨by first | omega | exact Nat.le_refl _⟩, ⟨gR (HO490.out)⟩, ⟨gB (BK487.out)⟩, ⟨bl1 HB GE487⟩⟩
  subst c9
  have H1 : ((spec_l1In.f a2 0 (wrap64 (a0_0 - 1))).bind fun t492 => (spec_Reached.j0 k l1 a2 y488 (!t492) a0_0 l0_1)) = some r := by rw [if_pos rfl] at H; exact H
  clear H
  have H := H1
  clear H1
  replace H := Option.bind_eq_some_iff.mp H
  obtain ⟨t492, A100, H⟩ := H
  replace H : (spec_Reached.j0 k l1 a2 y488 (!t492) a0_0 l0_1) = some r := H
  have A10 := Aside0.mk A100
  clear A100
  have H' := Aside0.mk H
  clear H
  have hcz11_0 : w6.cell? ⟨gb487, 0, none⟩ = some (.int .i64 a0_0) := (blk_cell BK487.out 0).trans rfl
  have hcz11_1 : w6.cell? ⟨gb487, 1, none⟩ = some (.slice A0_1 l0_1.length c0_1) := (blk_cell BK487.out 1).trans rfl
  have hfz11_0 := blk_frozen BK487.out 0
  have hfz11_1 := blk_frozen BK487.out 1
  go_wp2_with (first | ((with_reducible refine gate_callee (f := 43) rfl ?_); refine goesL_ (some 13) rfl rfl Tryd.func43 (by kernel_rfl) rfl #[.agg #[.int .i64 a0_0, .slice A0_1 l0_1.length c0_1], .slice A1 l1.length c1] rfl mP ?_; (with_reducible refine (spec_StateValid.calls k a0_0 _ _ l0_1 _ _ l1 true _ ?side1 ?side2 ?side3 ?side4 A8.out).mono ?_); (case side1 => exact gC ((Kd.C_below HR0_1.out HB.out))); (case side2 => exact HC0_1.out); (case side3 => exact gC ((Kd.C_below HR1.out HB.out))); (case side4 => exact HC1.out); rintro e w12 ⟨rfl, hb⟩; refine ⟨_, rfl, ?_⟩; have n0_ := Aside0.mk (Kd.R_below (gR (HO490.out)) hb); have n1_ := Aside0.mk (blk_below (g := gb487) (o := .cells #[.int .i64 a0_0, .slice A0_1 l0_1.length c0_1] 39 (0, 0)) (gB (BK487.out)) hb); have n2_ := Aside0.mk (below_step (bl1 HB GE487) hb); clear HO490; clear BK487; clear HB; have HO490 := n0_; have BK487 := n1_; have HB := n2_; clear n0_ n1_ n2_; (try clear hb); (try clear hb2); (try clear hk); (try clear hi); have hcz13_0 : w12.cell? ⟨gb487, 0, none⟩ = some (.int .i64 a0_0) := (blk_cell BK487.out 0).trans rfl; have hcz13_1 : w12.cell? ⟨gb487, 1, none⟩ = some (.slice A0_1 l0_1.length c0_1) := (blk_cell BK487.out 1).trans rfl; have hfz13_0 := blk_frozen BK487.out 0; have hfz13_1 := blk_frozen BK487.out 1) | (go_at_call 51; (with_reducible refine (spec_l1In.calls a2 0 (wrap64 (a0_0 - 1)) t492 _ A10.out).mono ?_); rintro e w' ⟨rfl, ⟨nd, rfl⟩⟩))
  go_meet
  case rel => exact ⟨_, (!t492), fS, H', ⟨by first | omega | exact Nat.le_refl _⟩, ⟨gR (HO490.out)⟩, ⟨gB (BK487.out)⟩, ⟨bl1 HB GE487⟩⟩
 case rest =>
  clear HC4
  try clear c1
  try clear p2
  try clear c3
  try clear c4
  try clear p6
  try clear c9
  try clear hcz11_0
  try clear hcz11_1
  try clear hcz13_0
  try clear hcz13_1
  try clear hcz14_0
  try clear hcz14_1
  try clear hfz11_0
  try clear hfz11_1
  try clear hfz13_0
  try clear hfz13_1
  try clear hfz14_0
  try clear hfz14_1
  obtain ⟨kq, x22_3, rfl, HA, HJ3, HO_7, BK487, HB⟩ := hcut
  cases kq with
  | zero => exact absurd HA.out (by simp [spec_Reached.j0])
  | succ kj3 =>
   have H := HA.out
   clear HA
   simp only [spec_Reached.j0] at H
   by_cases c16 : x22_3 = true
   ·
    subst c16
    have H1 : (some y488) = some r := by rw [if_pos rfl] at H; exact H
    clear H
    have H := H1
    clear H1
    obtain rfl := Option.some.inj H
    go_wp2
    go_ret
    exact ⟨_, fR, gR (HO_7.out), bl1 HB GE487⟩
   replace c16 := Bool.eq_false_iff.mpr c16
   subst c16
   have H1 : ((spec_l3Reach.f kj3 a0_0 l0_1 l1 a2).bind fun t493 => (spec_Reached.l0 kj3 y488 t493 0 a0_0 l0_1)) = some r := by rw [if_neg (show ¬ (false = true) by decide)] at H; exact H
   clear H
   have H := H1
   clear H1
   replace H := Option.bind_eq_some_iff.mp H
   obtain ⟨t493, A170, H⟩ := H
   replace H : (spec_Reached.l0 kj3 y488 t493 0 a0_0 l0_1) = some r := H
   have A17 := Aside0.mk A170
   clear A170
   have H' := Aside0.mk H
   clear H
   have hcz18_0 : wc.cell? ⟨gb487, 0, none⟩ = some (.int .i64 a0_0) := (blk_cell BK487.out 0).trans rfl
   have hcz18_1 : wc.cell? ⟨gb487, 1, none⟩ = some (.slice A0_1 l0_1.length c0_1) := (blk_cell BK487.out 1).trans rfl
   have hfz18_0 := blk_frozen BK487.out 0
   have hfz18_1 := blk_frozen BK487.out 1
   go_wp2_with (first | ((with_reducible refine gate_callee (f := 63) rfl ?_); refine goesL_ (some 27) rfl rfl Tryd.func63 (by kernel_rfl) rfl #[.agg #[.int .i64 a0_0, .slice A0_1 l0_1.length c0_1], .slice A1 l1.length c1, .int .i64 a2] rfl mP ?_; (with_reducible refine (spec_l3Reach.calls kj3 a0_0 _ _ l0_1 _ _ l1 a2 t493 _ ?side1 ?side2 ?side3 ?side4 A17.out).mono ?_); (case side1 => exact gC ((Kd.C_below HR0_1.out HB.out))); (case side2 => exact HC0_1.out); (case side3 => exact gC ((Kd.C_below HR1.out HB.out))); (case side4 => exact HC1.out); rintro e w19 ⟨v494, rfl, ho0, hb⟩; refine ⟨_, rfl, ?_⟩; have n0_ := Aside0.mk (Kd.R_below (gR (HO_7.out)) hb); have n1_ := Aside0.mk (Kd.R_lower ho0 (below_size (bl1 HB GE487))); have n2_ := Aside0.mk (blk_below (g := gb487) (o := .cells #[.int .i64 a0_0, .slice A0_1 l0_1.length c0_1] 39 (0, 0)) (gB (BK487.out)) hb); have n3_ := Aside0.mk (below_step (bl1 HB GE487) hb); clear HO_7; clear BK487; clear HB; have HO_7 := n0_; have HO495 := n1_; have BK487 := n2_; have HB := n3_; clear n0_ n1_ n2_ n3_; (try clear hb); (try clear hb2); (try clear hk); (try clear hi); (try clear ho0)))
   go_loopg [7, 9] kj3 (fun kq v7 v9 w' => ∃ (x7_2 : List Int) (x9_2 : Int), v9 = .int .i64 x9_2 ∧ Aside0 (spec_Reached.l0 kq x7_2 t493 x9_2 a0_0 l0_1 = some r) ∧ Aside0 (kq ≤ kj3) ∧ Aside0 (Kd.R (Kd.int .i64) 3 w' w.heap.size (fun _ => True) v7 x7_2) ∧ Aside0 (Kd.R Kd.bool 4 w' w.heap.size (fun _ => True) v494 t493) ∧ Aside0 (w'.heap[gb487]? = some (.cells #[.int .i64 a0_0, (.slice A0_1 l0_1.length c0_1)] 39 (0, 0))) ∧ Aside0 (Below w.heap.size w w'))
   case atStart => exact ⟨(y488), (0), fS, H', ⟨Nat.le_refl _⟩, ⟨gR (HO_7.out)⟩, ⟨gR (HO495.out)⟩, ⟨gB (BK487.out)⟩, ⟨bl1 HB GE487⟩⟩
   case round =>
    clear H'
    try clear c1
    try clear p2
    try clear c3
    try clear c4
    try clear c6
    try clear p6
    try clear c9
    try clear c16
    try clear hcz11_0
    try clear hcz11_1
    try clear hcz13_0
    try clear hcz13_1
    try clear hcz14_0
    try clear hcz14_1
    try clear hcz18_0
    try clear hcz18_1
    try clear hfz11_0
    try clear hfz11_1
    try clear hfz13_0
    try clear hfz13_1
    try clear hfz14_0
    try clear hfz14_1
    try clear hfz18_0
    try clear hfz18_1
    try clear p2
    try clear p6
    obtain ⟨x7_2, x9_2, rfl, HA, HK2, HO_7, HO_8, BK487, HB⟩ := hrel
    cases gk with
    | zero => exact absurd HA.out (by simp [spec_Reached.l0])
    | succ k2 =>
     have H := HA.out
     clear HA
     simp only [spec_Reached.l0] at H
     by_cases c20 : x9_2 < a0_0
     rotate_left
     ·
      rw [if_neg c20] at H
      have c20b0 : decide (x9_2 < a0_0) = false := decide_eq_false c20
      clear c20
      obtain rfl := Option.some.inj H
      have hcz31_0 : wr.cell? ⟨gb487, 0, none⟩ = some (.int .i64 a0_0) := (blk_cell BK487.out 0).trans rfl
      have hcz31_1 : wr.cell? ⟨gb487, 1, none⟩ = some (.slice A0_1 l0_1.length c0_1) := (blk_cell BK487.out 1).trans rfl
      have hfz31_0 := blk_frozen BK487.out 0
      have hfz31_1 := blk_frozen BK487.out 1
      go_wp2
      go_ret
      exact ⟨_, fR, gR (HO_7.out), bl1 HB GE487⟩
     rw [if_pos c20] at H
     have c20b0 : decide (x9_2 < a0_0) = true := decide_eq_true c20
     clear c20
     by_cases c21 : 0 ≤ x9_2
     rotate_left
     ·
      rw [if_neg c21] at H
      exact absurd H (by simp)
     rw [if_pos c21] at H
     have c21b0 : decide (0 ≤ x9_2) = true := decide_eq_true c21
     clear c21
     by_cases c22 : x9_2 < (t493.length : Int)
     rotate_left
     ·
      rw [if_neg c22] at H
      exact absurd H (by simp)
     rw [if_pos c22] at H
     have c22b0 : decide (x9_2 < (t493.length : Int)) = true := decide_eq_true c22
     clear c22
     obtain ⟨bq23, hbq23⟩ : ∃ b_ : Bool, b_ = (rdOf false t493 x9_2) := ⟨_, rfl⟩
     replace H : (if bq23 = true then (if x7_2.length < 17592186044416 then (spec_Reached.l0 k2 (x7_2 ++ [x9_2]) t493 (wrap64 (x9_2 + 1)) a0_0 l0_1) else (none)) else (spec_Reached.l0 k2 x7_2 t493 (wrap64 (x9_2 + 1)) a0_0 l0_1)) = some r := by rw [← hbq23] at H; exact H
     have Nbq23 := Aside0.mk hbq23
     clear hbq23
     by_cases c24 : bq23 = true
     rotate_left
     ·
      replace c24 := Bool.eq_false_iff.mpr c24
      subst c24
      have H1 : (spec_Reached.l0 k2 x7_2 t493 (wrap64 (x9_2 + 1)) a0_0 l0_1) = some r := by rw [if_neg (show ¬ (false = true) by decide)] at H; exact H
      clear H
      have H := H1
      clear H1
      have H' := Aside0.mk H
      clear H
      have hcz29_0 : wr.cell? ⟨gb487, 0, none⟩ = some (.int .i64 a0_0) := (blk_cell BK487.out 0).trans rfl
      have hcz29_1 : wr.cell? ⟨gb487, 1, none⟩ = some (.slice A0_1 l0_1.length c0_1) := (blk_cell BK487.out 1).trans rfl
      have hfz29_0 := blk_frozen BK487.out 0
      have hfz29_1 := blk_frozen BK487.out 1
      obtain ⟨Ao30, co30, eo30⟩ := Kd.R_slice HO_8.out
      subst eo30
      have p496 : 0 ≤ (x9_2 : Int) := oD
      have q496 : x9_2 < (t493.length : Int) := oD
      obtain ⟨ad496, e496, hx496_0⟩ := Kd.at_bool (Kd.R_reads' HO_8.out).2.2 x9_2 p496 q496
      (try rw [← Nbq23.out] at hx496_0)
      cases e496
      replace p496 := eq_true p496
      replace q496 := eq_true q496
      go_wp2
      go_roundg k2
      case measure => have := HJ3.out; have := HK2.out; omega
      case rel => exact ⟨(x7_2), (wrap64 (x9_2 + 1)), fS, H', ⟨by have := HJ3.out; have := HK2.out; omega⟩, ⟨gR (HO_7.out)⟩, ⟨gR (HO_8.out)⟩, ⟨gB (BK487.out)⟩, ⟨bl1 HB GE487⟩⟩
     subst c24
     have H1 : (if x7_2.length < 17592186044416 then (spec_Reached.l0 k2 (x7_2 ++ [x9_2]) t493 (wrap64 (x9_2 + 1)) a0_0 l0_1) else (none)) = some r := by rw [if_pos rfl] at H; exact H
     clear H
     have H := H1
     clear H1
     by_cases c25 : x7_2.length < 17592186044416
     rotate_left
     ·
      rw [if_neg c25] at H
      exact absurd H (by simp)
     rw [if_pos c25] at H
     have LMc25 := Aside0.mk c25
     clear c25
     obtain ⟨y497, hy497⟩ : ∃ y_ : List Int, y_ = (x7_2 ++ [x9_2]) := ⟨_, rfl⟩
     replace H : (spec_Reached.l0 k2 y497 t493 (wrap64 (x9_2 + 1)) a0_0 l0_1) = some r := by first | (rw [hy497]; with_reducible exact H) | (have H2_ := (Option.bind_some _ _).symm.trans H; rw [hy497]; with_reducible exact H2_) | (have H2_ := (Option.bind_some _ _).symm.trans H; with_reducible exact H2_) | with_reducible exact H | (rw [hy497]; exact H) | exact H
     have Ny497 := Aside0.mk hy497
     clear hy497
     have H' := Aside0.mk H
     clear H
     have hcz26_0 : wr.cell? ⟨gb487, 0, none⟩ = some (.int .i64 a0_0) := (blk_cell BK487.out 0).trans rfl
     have hcz26_1 : wr.cell? ⟨gb487, 1, none⟩ = some (.slice A0_1 l0_1.length c0_1) := (blk_cell BK487.out 1).trans rfl
     have hfz26_0 := blk_frozen BK487.out 0
     have hfz26_1 := blk_frozen BK487.out 1
     obtain ⟨Ao27, co27, eo27⟩ := Kd.R_slice HO_8.out
     subst eo27
     have p496 : 0 ≤ (x9_2 : Int) := oD
     have q496 : x9_2 < (t493.length : Int) := oD
     obtain ⟨ad496, e496, hx496_0⟩ := Kd.at_bool (Kd.R_reads' HO_8.out).2.2 x9_2 p496 q496
     (try rw [← Nbq23.out] at hx496_0)
     cases e496
     replace p496 := eq_true p496
     replace q496 := eq_true q496
     go_wp2_with (first | ((with_reducible refine gate_builtin (b := .append) (xs := #[.tmp 38, .tmp 40]) rfl ?_); at_builtin; refine Kd.R_append (Kd.int .i64) (w0 := w) w.heap.size rfl (.tmp 38) (.tmp 40) 24 3 (.int .i64 0) 8 rfl Tryd.underlying24 info3 rfl (by decide) (by omega) u7 x7_2 x9_2 [.int .i64 x9_2] (fun _ => True) (fun _ => False) rfl rfl ?aP (fun _ hk => hk.elim) ?aF ?aO ?aB ?aS ?aL ?_; (case aP => exact rfl); (case aB => exact (bl1 HB GE487)); (case aF => exact (fun _ _ => trivial)); (case aO => exact (gR (HO_7.out))); (case aS => exact (below_size (bl1 HB GE487))); (case aL => have := LMc25.out; omega); intro v498 w28 ho hb hg hat; rw [← Ny497.out] at ho; have n0_ := Aside0.mk (Kd.R_over' (gR (HO_8.out)) (Kd.R_typed (gR (HO_7.out))) (by decide) hg); have n1_ := Aside0.mk (blk_grown (g := gb487) (o := .cells #[.int .i64 a0_0, .slice A0_1 l0_1.length c0_1] 39 (0, 0)) (gB (BK487.out)) hg (Kd.R_ne HO_7.out BK487.out (by decide))); have n2_ := Aside0.mk (hb); have n3_ := Aside0.mk (ho); clear HO_8; clear BK487; clear HB; clear HO_7; have HO_8 := n0_; have BK487 := n1_; have HB := n2_; have HO499 := n3_; clear n0_ n1_ n2_ n3_; clear ho hb hg hat))
     go_roundg k2
     case measure => have := HJ3.out; have := HK2.out; omega
     case rel => exact ⟨(y497), (wrap64 (x9_2 + 1)), fS, H', ⟨by have := HJ3.out; have := HK2.out; omega⟩, ⟨gR (HO499.out)⟩, ⟨gR (HO_8.out)⟩, ⟨gB (BK487.out)⟩, ⟨bl1 HB GE487⟩⟩

end Go.Proofs.YthkdkjmnnpcdhaaDoor.P
namespace Go.Proofs.YthkdkjmnnpcdhaaDoor.P
open Go.RowKit Go.Proofs.YthkdkjmnnpcdhaaDoorW.PrintWords Go.Proofs.YthkdkjmnnpcdhaaDoorW.PrintLast Go.Proofs.YthkdkjmnnpcdhaaDoorW.PrintMore
attribute [local go_sem] max2_int min2_int max_two min_two max_three min_three max_four min_four   -- for this text's walks alone
set_option linter.unusedVariables false
set_option linter.unusedSimpArgs false

/-! ### spec_l1Has: function 60 -/
def spec_l1Has.l0 : Nat → List Int → Int → Int → Option (Bool)
 | 0, _, _, _ => none
 | k + 1, x0, x1, x5 => if x5 < (x0.length : Int) then (if 0 ≤ x5 then (if (rd x0 x5) = x1 then (some true) else (spec_l1Has.l0 k x0 x1 (wrap64 (x5 + 1)))) else (none)) else (some false)
def spec_l1Has.f (k : Nat) (l0 : List Int) (a1 : Int) : Option (Bool) := spec_l1Has.l0 k l0 a1 0
theorem spec_l1Has.mono_l : ∀ k, (∀ y0 y1 y2, LeO (spec_l1Has.l0 k y0 y1 y2) (spec_l1Has.l0 (k + 1) y0 y1 y2))
 | 0 => fun _ _ _ r h => by simp [spec_l1Has.l0] at h
 | k + 1 => by
  have ih0 := spec_l1Has.mono_l k
  ·
   intro y0 y1 y2
   unfold spec_l1Has.l0
   repeat' first
   | (with_reducible exact ih0 _ _ _)
   | (with_reducible exact LeO.refl _)
   | (with_reducible exact LeO.none _)
   | (with_reducible refine LeO.ite ?_ ?_)
   | (with_reducible refine LeO.bind ?_ (fun _ => ?_))
   | exact ih0 _ _ _
   | exact LeO.none _
   | refine LeO.ite ?_ ?_
   | refine LeO.bind ?_ (fun _ => ?_)
theorem spec_l1Has.mono : ∀ a0 a1 k, LeO (spec_l1Has.f k a0 a1) (spec_l1Has.f (k + 1) a0 a1) := by
 intro a0 a1 k
 have ih0 := spec_l1Has.mono_l k
 unfold spec_l1Has.f
 repeat' first
   | (with_reducible exact ih0 _ _ _)
   | (with_reducible exact LeO.refl _)
   | (with_reducible exact LeO.none _)
   | (with_reducible refine LeO.ite ?_ ?_)
   | (with_reducible refine LeO.bind ?_ (fun _ => ?_))
   | exact ih0 _ _ _
   | exact LeO.none _
   | refine LeO.ite ?_ ?_
   | refine LeO.bind ?_ (fun _ => ?_)
set_option maxHeartbeats 8000000 in
set_option maxRecDepth 100000 in
theorem spec_l1Has.calls (k : Nat) (A0 : Option Addr) (c0 : Nat) (l0 : List Int) (a1 : Int) (r : Bool) (w : World) (hr0 : Kd.C (Kd.int .i64) w A0 l0.length l0) (hc0 : l0.length ≤ c0) (h : spec_l1Has.f k l0 a1 = some r) :
  Calls Tryd.prog 60 #[.slice A0 l0.length c0, .int .i64 a1] w fun e w' => e = .returned (.bool r) ∧ Drawn0 w w' := by
 have HR0 := Aside0.mk hr0
 have HC0 := Aside0.mk hc0
 clear hr0 hc0
 have H : (spec_l1Has.l0 k l0 a1 0) = some r := h
 clear h
 have H' := Aside0.mk H
 clear H
 go_enter Tryd.func60, Tryd.ntmps60
 go_wp2
 go_loopg [5] k (fun kq v5 w' => ∃ (x5_1 : Int), v5 = .int .i64 x5_1 ∧ Aside0 (spec_l1Has.l0 kq l0 a1 x5_1 = some r) ∧ Aside0 (kq ≤ k) ∧ Drawn0 w w')
 case atStart => exact ⟨(0), fS, H', ⟨Nat.le_refl _⟩, by repeat (first | exact Drawn0.refl _ | apply Drawn0.step)⟩
 case round =>
  clear H'
  try clear p2
  obtain ⟨x5_1, rfl, HA, HK1, ⟨m1, rfl⟩⟩ := hrel
  cases gk with
  | zero => exact absurd HA.out (by simp [spec_l1Has.l0])
  | succ k1 =>
   have H := HA.out
   clear HA
   simp only [spec_l1Has.l0] at H
   by_cases c3 : x5_1 < (l0.length : Int)
   rotate_left
   ·
    rw [if_neg c3] at H
    have c3b0 : decide (x5_1 < (l0.length : Int)) = false := decide_eq_false c3
    clear c3
    obtain rfl := Option.some.inj H
    go_wp2
    go_ret
    exact ⟨by first | rfl | (simp; done) | (simp [*]; done), by repeat (first | exact Drawn0.refl _ | apply Drawn0.step)⟩
   rw [if_pos c3] at H
   have c3b0 : decide (x5_1 < (l0.length : Int)) = true := decide_eq_true c3
   clear c3
   by_cases c4 : 0 ≤ x5_1
   rotate_left
   ·
    rw [if_neg c4] at H
    exact absurd H (by simp)
   rw [if_pos c4] at H
   have c4b0 : decide (0 ≤ x5_1) = true := decide_eq_true c4
   clear c4
   by_cases c5 : (rd l0 x5_1) = a1
   ·
    rw [if_pos c5] at H
    have c5b0 : ((rd l0 x5_1) == a1) = true := beq_iff_eq.mpr c5
    have c5b1 : ((rd l0 x5_1) != a1) = false := bne_eq_false_iff_eq.mpr c5
    clear c5
    obtain rfl := Option.some.inj H
    have p500 : 0 ≤ (x5_1 : Int) := oD
    have q500 : x5_1 < (l0.length : Int) := oD
    obtain ⟨ad500, e500, hx500_0⟩ := Kd.at_int HR0.out x5_1 p500 q500
    cases e500
    replace p500 := eq_true p500
    replace q500 := eq_true q500
    go_wp2
    go_ret
    exact ⟨by first | rfl | (simp; done) | (simp [*]; done), by repeat (first | exact Drawn0.refl _ | apply Drawn0.step)⟩
   rw [if_neg c5] at H
   have c5b0 : ((rd l0 x5_1) == a1) = false := beq_eq_false_iff_ne.mpr c5
   have c5b1 : ((rd l0 x5_1) != a1) = true := bne_iff_ne.mpr c5
   have H' := Aside0.mk H
   clear H
   have p500 : 0 ≤ (x5_1 : Int) := oD
   have q500 : x5_1 < (l0.length : Int) := oD
   obtain ⟨ad500, e500, hx500_0⟩ := Kd.at_int HR0.out x5_1 p500 q500
   cases e500
   replace p500 := eq_true p500
   replace q500 := eq_true q500
   go_wp2
   go_roundg k1
   case measure => have := HK1.out; omega
   case rel => exact ⟨(wrap64 (x5_1 + 1)), fS, H', ⟨by have := HK1.out; omega⟩, by repeat (first | exact Drawn0.refl _ | apply Drawn0.step)⟩

end Go.Proofs.YthkdkjmnnpcdhaaDoor.P
namespace Go.Proofs.YthkdkjmnnpcdhaaDoor.P
open Go.RowKit Go.Proofs.YthkdkjmnnpcdhaaDoorW.PrintWords Go.Proofs.YthkdkjmnnpcdhaaDoorW.PrintLast Go.Proofs.YthkdkjmnnpcdhaaDoorW.PrintMore
attribute [local go_sem] max2_int min2_int max_two min_two max_three min_three max_four min_four   -- for this text's walks alone
set_option linter.unusedVariables false
set_option linter.unusedSimpArgs false

/-! ### spec_SameIsland: function 26 -/
def spec_SameIsland.f (k : Nat) (a0_0 : Int) (l0_1 : List (S52)) (l1 : List Bool) (a2 : Int) (a3 : Int) : Option (Bool) := (spec_Reached.f k a0_0 l0_1 l1 a2).bind fun t502 => ((spec_l1Has.f k t502 a3).bind fun t505 => (some t505))
theorem spec_SameIsland.mono : ∀ a0 a1 a2 a3 a4 k, LeO (spec_SameIsland.f k a0 a1 a2 a3 a4) (spec_SameIsland.f (k + 1) a0 a1 a2 a3 a4) := by
 intro a0 a1 a2 a3 a4 k
 unfold spec_SameIsland.f
 repeat' first
   | (with_reducible exact spec_Reached.mono _ _ _ _ _)
   | (with_reducible exact spec_l1Has.mono _ _ _)
   | (with_reducible exact LeO.refl _)
   | (with_reducible exact LeO.none _)
   | (with_reducible refine LeO.ite ?_ ?_)
   | (with_reducible refine LeO.bind ?_ (fun _ => ?_))
   | exact spec_Reached.mono _ _ _ _ _
   | exact spec_l1Has.mono _ _ _
   | exact LeO.none _
   | refine LeO.ite ?_ ?_
   | refine LeO.bind ?_ (fun _ => ?_)
set_option maxHeartbeats 8000000 in
set_option maxRecDepth 100000 in
theorem spec_SameIsland.calls (k : Nat) (a0_0 : Int) (A0_1 : Option Addr) (c0_1 : Nat) (l0_1 : List (S52)) (A1 : Option Addr) (c1 : Nat) (l1 : List Bool) (a2 : Int) (a3 : Int) (r : Bool) (w : World) (hr0_1 : Kd.C k52 w A0_1 l0_1.length l0_1) (hc0_1 : l0_1.length ≤ c0_1) (hr1 : Kd.C Kd.bool w A1 l1.length l1) (hc1 : l1.length ≤ c1) (h : spec_SameIsland.f k a0_0 l0_1 l1 a2 a3 = some r) :
  Calls Tryd.prog 26 #[.agg #[.int .i64 a0_0, .slice A0_1 l0_1.length c0_1], .slice A1 l1.length c1, .int .i64 a2, .int .i64 a3] w fun e w' => e = .returned (.bool r) ∧ Below w.heap.size w w' := by
 have hu39 := Tryd.underlying39
 have HR0_1 := Aside0.mk hr0_1
 have HC0_1 := Aside0.mk hc0_1
 clear hr0_1 hc0_1
 have HR1 := Aside0.mk hr1
 have HC1 := Aside0.mk hc1
 clear hr1 hc1
 have HB := Aside0.mk (Below.refl w.heap.size w)
 have H : ((spec_Reached.f k a0_0 l0_1 l1 a2).bind fun t502 => ((spec_l1Has.f k t502 a3).bind fun t505 => (some t505))) = some r := h
 clear h
 replace H := Option.bind_eq_some_iff.mp H
 obtain ⟨t502, A50, H⟩ := H
 replace H : ((spec_l1Has.f k t502 a3).bind fun t505 => (some t505)) = some r := H
 have A5 := Aside0.mk A50
 clear A50
 replace H := Option.bind_eq_some_iff.mp H
 obtain ⟨t505, A60, H⟩ := H
 replace H : (some t505) = some r := H
 have A6 := Aside0.mk A60
 clear A60
 obtain rfl := Option.some.inj H
 go_enter Tryd.func26, Tryd.ntmps26
 go_wp2_with (first | ((with_reducible refine gate_dst (N := 4) rfl ?_); refine box_event ?hg (N := 4) ?hd (cs := #[.int .i64 a0_0, .slice A0_1 l0_1.length c0_1]) (t := 39) ?hr ?_; (case hd => rfl); (case hg => rfl); (case hr => exact hR); intro gb501 hg w7 hbox hb; have n0_ := Aside0.mk (below_step (bl0 HB) hb); have n1_ := Aside0.mk (hbox); have n2_ := Aside0.mk ((by rw [hg]; exact (below_size (bl0 HB)) : w.heap.size ≤ gb501)); have n3_ := Aside0.mk ((by rw [hg]; exact (below_size (bl0 HB)) : w.heap.size ≤ gb501)); clear HB; have HB := n0_; have BK501 := n1_; have GW501 := n2_; have GE501 := n3_; clear n0_ n1_ n2_ n3_; clear hb hbox hg; have hcz8_0 : w7.cell? ⟨gb501, 0, none⟩ = some (.int .i64 a0_0) := (blk_cell BK501.out 0).trans rfl; have hcz8_1 : w7.cell? ⟨gb501, 1, none⟩ = some (.slice A0_1 l0_1.length c0_1) := (blk_cell BK501.out 1).trans rfl; have hfz8_0 := blk_frozen BK501.out 0; have hfz8_1 := blk_frozen BK501.out 1) | ((with_reducible refine gate_callee (f := 30) rfl ?_); refine goesL_ (some 12) rfl rfl Tryd.func30 (by kernel_rfl) rfl #[.agg #[.int .i64 a0_0, .slice A0_1 l0_1.length c0_1], .slice A1 l1.length c1, .int .i64 a2] rfl mP ?_; (with_reducible refine (spec_Reached.calls k a0_0 _ _ l0_1 _ _ l1 a2 t502 _ ?side1 ?side2 ?side3 ?side4 A5.out).mono ?_); (case side1 => exact gC ((Kd.C_below HR0_1.out HB.out))); (case side2 => exact HC0_1.out); (case side3 => exact gC ((Kd.C_below HR1.out HB.out))); (case side4 => exact HC1.out); rintro e w9 ⟨v503, rfl, ho0, hb⟩; refine ⟨_, rfl, ?_⟩; have n0_ := Aside0.mk (Kd.R_lower ho0 (below_size (bl1 HB GE501))); have n1_ := Aside0.mk (blk_below (g := gb501) (o := .cells #[.int .i64 a0_0, .slice A0_1 l0_1.length c0_1] 39 (0, 0)) (gB (BK501.out)) hb); have n2_ := Aside0.mk (below_step (bl1 HB GE501) hb); clear BK501; clear HB; have HO504 := n0_; have BK501 := n1_; have HB := n2_; clear n0_ n1_ n2_; (try clear hb); (try clear hb2); (try clear hk); (try clear hi); (try clear ho0); obtain ⟨Ao10, co10, eo10⟩ := Kd.R_slice HO504.out; subst eo10) | ((with_reducible refine gate_callee (f := 60) rfl ?_); refine goesL_ (some 14) rfl rfl Tryd.func60 (by kernel_rfl) rfl #[.slice Ao10 t502.length co10, .int .i64 a3] rfl mP ?_; (with_reducible refine (spec_l1Has.calls k _ _ t502 a3 t505 _ ?side1 ?side2 A6.out).mono ?_); (case side1 => exact gC ((Kd.R_reads' HO504.out).2.2)); (case side2 => exact (Kd.R_reads' HO504.out).2.1); rintro e w' ⟨rfl, ⟨nd, rfl⟩⟩; refine ⟨_, rfl, ?_⟩))
 go_ret
 exact ⟨fR, bl1 HB GE501⟩

end Go.Proofs.YthkdkjmnnpcdhaaDoor.P

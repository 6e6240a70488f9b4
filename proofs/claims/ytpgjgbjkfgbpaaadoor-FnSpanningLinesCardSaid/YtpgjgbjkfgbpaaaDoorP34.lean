/- Contracts of Go functions of this seat's translation, written by this repo's wip/mk.py: it calls the kit's print.py with contracts typed by hand in place of functions that it does not take. Not trusted: Lean checks it. -/
import Derived.Test.YtpgjgbjkfgbpaaaDoorP0
import Derived.Test.YtpgjgbjkfgbpaaaDoorP25
import Derived.Test.YtpgjgbjkfgbpaaaDoorP27
import Derived.Test.YtpgjgbjkfgbpaaaDoorP30
namespace Go.Proofs.YtpgjgbjkfgbpaaaDoor.P
open Go.RowKit Go.Proofs.YtpgjgbjkfgbpaaaDoorW.PrintWords Go.Proofs.YtpgjgbjkfgbpaaaDoorW.PrintLast Go.Proofs.YtpgjgbjkfgbpaaaDoorW.PrintMore
attribute [local go_sem] max2_int min2_int max_two min_two max_three min_three max_four min_four   -- for this text's walks alone
set_option linter.unusedVariables false
set_option linter.unusedSimpArgs false

/-! ### spec_Reached: function 76 -/
mutual
def spec_Reached.j0 : Nat → List Bool → Int → List Int → Bool → Int → List (S79) → Option (List Int)
 | 0, _, _, _, _, _, _ => none
 | k + 1, x1, x2, x7, x22, x339000, x339001 => if x22 = true then (some x7) else ((spec_l3Reach.f k x339000 x339001 x1 x2).bind fun t344 => (spec_Reached.l0 k x7 t344 0 x339000 x339001))
def spec_Reached.l0 : Nat → List Int → List Bool → Int → Int → List (S79) → Option (List Int)
 | 0, _, _, _, _, _ => none
 | k + 1, x7, x8, x9, x339000, x339001 => if x9 < x339000 then (if 0 ≤ x9 then (if x9 < (x8.length : Int) then (if rdOf false x8 x9 = true then (if x7.length < 17592186044416 then (spec_Reached.l0 k (x7 ++ [x9]) x8 (wrap64 (x9 + 1)) x339000 x339001) else (none)) else (spec_Reached.l0 k x7 x8 (wrap64 (x9 + 1)) x339000 x339001)) else (none)) else (none)) else (some x7)
end
def spec_Reached.f (k : Nat) (a0_0 : Int) (l0_1 : List (S79)) (l1 : List Bool) (a2 : Int) : Option (List Int) := (some (([] : List Int) : List Int)).bind fun y339 => ((spec_StateValid.f k a0_0 l0_1 l1).bind fun t342 => (if t342 = true then ((spec_l1In.f a2 0 (wrap64 (a0_0 - 1))).bind fun t343 => (spec_Reached.j0 k l1 a2 y339 (!t343) a0_0 l0_1)) else (spec_Reached.j0 k l1 a2 y339 true a0_0 l0_1)))
theorem spec_Reached.mono_l : ∀ k, (∀ y0 y1 y2 y3 y4 y5, LeO (spec_Reached.j0 k y0 y1 y2 y3 y4 y5) (spec_Reached.j0 (k + 1) y0 y1 y2 y3 y4 y5)) ∧ (∀ y0 y1 y2 y3 y4, LeO (spec_Reached.l0 k y0 y1 y2 y3 y4) (spec_Reached.l0 (k + 1) y0 y1 y2 y3 y4))
 | 0 => ⟨fun _ _ _ _ _ _ r h => by simp [spec_Reached.j0] at h, fun _ _ _ _ _ r h => by simp [spec_Reached.l0] at h⟩
 | k + 1 => by
  obtain ⟨ih0, ih1⟩ := spec_Reached.mono_l k
  refine ⟨?_, ?_⟩
  ·
   intro y0 y1 y2 y3 y4 y5
   unfold spec_Reached.j0
   repeat' first
   | (with_reducible exact ih0 _ _ _ _ _ _)
   | (with_reducible exact ih1 _ _ _ _ _)
   | (with_reducible exact spec_StateValid.mono _ _ _ _)
   | (with_reducible exact spec_l3Reach.mono _ _ _ _ _)
   | (with_reducible exact LeO.refl _)
   | (with_reducible exact LeO.none _)
   | (with_reducible refine LeO.ite ?_ ?_)
   | (with_reducible refine LeO.bind ?_ (fun _ => ?_))
   | exact ih0 _ _ _ _ _ _
   | exact ih1 _ _ _ _ _
   | exact spec_StateValid.mono _ _ _ _
   | exact spec_l3Reach.mono _ _ _ _ _
   | exact LeO.none _
   | refine LeO.ite ?_ ?_
   | refine LeO.bind ?_ (fun _ => ?_)
  ·
   intro y0 y1 y2 y3 y4
   unfold spec_Reached.l0
   repeat' first
   | (with_reducible exact ih0 _ _ _ _ _ _)
   | (with_reducible exact ih1 _ _ _ _ _)
   | (with_reducible exact spec_StateValid.mono _ _ _ _)
   | (with_reducible exact spec_l3Reach.mono _ _ _ _ _)
   | (with_reducible exact LeO.refl _)
   | (with_reducible exact LeO.none _)
   | (with_reducible refine LeO.ite ?_ ?_)
   | (with_reducible refine LeO.bind ?_ (fun _ => ?_))
   | exact ih0 _ _ _ _ _ _
   | exact ih1 _ _ _ _ _
   | exact spec_StateValid.mono _ _ _ _
   | exact spec_l3Reach.mono _ _ _ _ _
   | exact LeO.none _
   | refine LeO.ite ?_ ?_
   | refine LeO.bind ?_ (fun _ => ?_)
theorem spec_Reached.mono : ∀ a0 a1 a2 a3 k, LeO (spec_Reached.f k a0 a1 a2 a3) (spec_Reached.f (k + 1) a0 a1 a2 a3) := by
 intro a0 a1 a2 a3 k
 obtain ⟨ih0, ih1⟩ := spec_Reached.mono_l k
 unfold spec_Reached.f
 repeat' first
   | (with_reducible exact ih0 _ _ _ _ _ _)
   | (with_reducible exact ih1 _ _ _ _ _)
   | (with_reducible exact spec_StateValid.mono _ _ _ _)
   | (with_reducible exact spec_l3Reach.mono _ _ _ _ _)
   | (with_reducible exact LeO.refl _)
   | (with_reducible exact LeO.none _)
   | (with_reducible refine LeO.ite ?_ ?_)
   | (with_reducible refine LeO.bind ?_ (fun _ => ?_))
   | exact ih0 _ _ _ _ _ _
   | exact ih1 _ _ _ _ _
   | exact spec_StateValid.mono _ _ _ _
   | exact spec_l3Reach.mono _ _ _ _ _
   | exact LeO.none _
   | refine LeO.ite ?_ ?_
   | refine LeO.bind ?_ (fun _ => ?_)
set_option maxHeartbeats 8000000 in
set_option maxRecDepth 100000 in
theorem spec_Reached.calls (k : Nat) (a0_0 : Int) (A0_1 : Option Addr) (c0_1 : Nat) (l0_1 : List (S79)) (A1 : Option Addr) (c1 : Nat) (l1 : List Bool) (a2 : Int) (r : List Int) (w : World) (hr0_1 : Kd.C k79 w A0_1 l0_1.length l0_1) (hc0_1 : l0_1.length ≤ c0_1) (hr1 : Kd.C Kd.bool w A1 l1.length l1) (hc1 : l1.length ≤ c1) (h : spec_Reached.f k a0_0 l0_1 l1 a2 = some r) :
  Calls Tryd.prog 76 #[.agg #[.int .i64 a0_0, .slice A0_1 l0_1.length c0_1], .slice A1 l1.length c1, .int .i64 a2] w fun e w' => ∃ v0_ : Value, e = .returned (v0_) ∧ Kd.R (Kd.int .i64) 3 w' w.heap.size (fun _ => True) v0_ r ∧ Below w.heap.size w w' := by
 have hu25 := Tryd.underlying25
 have HR0_1 := Aside0.mk hr0_1
 have HC0_1 := Aside0.mk hc0_1
 clear hr0_1 hc0_1
 have HR1 := Aside0.mk hr1
 have HC1 := Aside0.mk hc1
 clear hr1 hc1
 have HB := aM (Below.refl w.heap.size w)
 have H : ((some (([] : List Int) : List Int)).bind fun y339 => ((spec_StateValid.f k a0_0 l0_1 l1).bind fun t342 => (if t342 = true then ((spec_l1In.f a2 0 (wrap64 (a0_0 - 1))).bind fun t343 => (spec_Reached.j0 k l1 a2 y339 (!t343) a0_0 l0_1)) else (spec_Reached.j0 k l1 a2 y339 true a0_0 l0_1)))) = some r := h
 clear h
 obtain ⟨y339, hy339⟩ : ∃ y_ : List Int, y_ = (([] : List Int)) := ⟨_, rfl⟩
 replace H : ((spec_StateValid.f k a0_0 l0_1 l1).bind fun t342 => (if t342 = true then ((spec_l1In.f a2 0 (wrap64 (a0_0 - 1))).bind fun t343 => (spec_Reached.j0 k l1 a2 y339 (!t343) a0_0 l0_1)) else (spec_Reached.j0 k l1 a2 y339 true a0_0 l0_1))) = some r := by first | (rw [hy339]; with_reducible exact H) | (have H2_ := (Option.bind_some _ _).symm.trans H; rw [hy339]; with_reducible exact H2_) | (have H2_ := (Option.bind_some _ _).symm.trans H; with_reducible exact H2_) | with_reducible exact H | (rw [hy339]; exact H) | exact H
 have Ny339 := Aside0.mk hy339
 clear hy339
 have HC4 := Aside0.mk H
 clear H
 go_enter Tryd.func76, Tryd.ntmps76
 go_upto_region 2 with (first | ((with_reducible refine gate_dst (N := 3) rfl ?_); refine box_event ?hg (N := 3) ?hd (cs := #[.int .i64 a0_0, .slice A0_1 l0_1.length c0_1]) (t := 25) ?hr ?_; (case hd => rfl); (case hg => rfl); (case hr => exact hR); intro gb338 hg w5 hbox hb; have n0_ := aM (below_step (bl0 HB) hb); have n1_ := aM (hbox); have n2_ := aM ((by rw [hg]; exact (below_size (bl0 HB)) : w.heap.size ≤ gb338)); have n3_ := aM ((by rw [hg]; exact (below_size (bl0 HB)) : w.heap.size ≤ gb338)); clear HB; have HB := n0_; have BK338 := n1_; have GW338 := n2_; have GE338 := n3_; clear n0_ n1_ n2_ n3_; clear hb hbox hg) | ((with_reducible refine gate_dst (N := 10) rfl ?_); refine Kd.R_lit (Kd.int .i64) _ 3 ?hg (N := 10) ?hd (xs := ([] : List Int)) (inner := []) (ok := fun _ => True) (okp := fun _ => True) ?hr ?hp (fun _ hk => hk) trivial (Below.refl _ _) (Nat.le_refl _) (by simp) ?_; (case hd => rfl); (case hg => rfl); (case hr => exact hR); (case hp => exact (Reps.none _ _)); intro v340 w6 ho7 hb hg_ hnew_; clear hg_ hnew_; (first | rw [← Ny339.out] at ho7 | (simp only [Int.reduceToNat] at ho7; rw [← Ny339.out] at ho7)); have n0_ := aM (Kd.R_lower ho7 (below_size (bl1 HB GE338))); have n1_ := aM (blk_below (g := gb338) (o := .cells #[.int .i64 a0_0, .slice A0_1 l0_1.length c0_1] 25 (0, 0)) (gB (BK338.out)) hb); have n2_ := aM (below_step (bl1 HB GE338) hb); clear BK338; clear HB; have HO341 := n0_; have BK338 := n1_; have HB := n2_; clear n0_ n1_ n2_; clear hb ho7))
 (try simp only [Act.put, List.setIfInBounds_toArray, List.set_cons_zero, List.set_cons_succ])
 go_cut [22] (fun v22 wc => ∃ (kq : Nat) (x22_3 : Bool), v22 = .bool x22_3 ∧ Aside0 (spec_Reached.j0 kq l1 a2 y339 x22_3 a0_0 l0_1 = some r) ∧ Aside0 (kq ≤ k) ∧ Aside0 (Kd.R (Kd.int .i64) 3 wc w.heap.size (fun _ => True) v340 y339) ∧ Aside0 (wc.heap[gb338]? = some (.cells #[.int .i64 a0_0, (.slice A0_1 l0_1.length c0_1)] 25 (0, 0))) ∧ Aside0 (Below w.heap.size w wc))
 case first =>
  have H := HC4.out
  clear HC4
  replace H := Option.bind_eq_some_iff.mp H
  obtain ⟨t342, A80, H⟩ := H
  replace H : (if t342 = true then ((spec_l1In.f a2 0 (wrap64 (a0_0 - 1))).bind fun t343 => (spec_Reached.j0 k l1 a2 y339 (!t343) a0_0 l0_1)) else (spec_Reached.j0 k l1 a2 y339 true a0_0 l0_1)) = some r := H
  have A8 := Aside0.mk A80
  clear A80
  by_cases c9 : t342 = true
  rotate_left
  ·
   replace c9 := Bool.eq_false_iff.mpr c9
   subst c9
   have H1 : (spec_Reached.j0 k l1 a2 y339 true a0_0 l0_1) = some r := by rw [if_neg (show ¬ (false = true) by decide)] at H; exact H
   clear H
   have H := H1
   clear H1
   have H' := Aside0.mk H
   clear H
   have hcz14_0 : w6.cell? ⟨gb338, 0, none⟩ = some (.int .i64 a0_0) := (blk_cell BK338.out 0).trans rfl
   have hcz14_1 : w6.cell? ⟨gb338, 1, none⟩ = some (.slice A0_1 l0_1.length c0_1) := (blk_cell BK338.out 1).trans rfl
   have hfz14_0 := blk_frozen BK338.out 0
   have hfz14_1 := blk_frozen BK338.out 1
   go_wp2_with (first | ((with_reducible refine gate_callee (f := 34) rfl ?_); refine goesL_ (some 13) rfl rfl Tryd.func34 (by kernel_rfl) rfl #[.agg #[.int .i64 a0_0, .slice A0_1 l0_1.length c0_1], .slice A1 l1.length c1] rfl mP ?_; (with_reducible refine (spec_StateValid.calls k a0_0 _ _ l0_1 _ _ l1 false _ ?side1 ?side2 ?side3 ?side4 A8.out).mono ?_); (case side1 => exact gC ((Kd.C_below HR0_1.out HB.out))); (case side2 => exact HC0_1.out); (case side3 => exact gC ((Kd.C_below HR1.out HB.out))); (case side4 => exact HC1.out); rintro e w15 ⟨rfl, hb⟩; refine ⟨_, rfl, ?_⟩; have n0_ := aM (Kd.R_below (gR (HO341.out)) hb); have n1_ := aM (blk_below (g := gb338) (o := .cells #[.int .i64 a0_0, .slice A0_1 l0_1.length c0_1] 25 (0, 0)) (gB (BK338.out)) hb); have n2_ := aM (below_step (bl1 HB GE338) hb); clear HO341; clear BK338; clear HB; have HO341 := n0_; have BK338 := n1_; have HB := n2_; clear n0_ n1_ n2_; (try clear hb); (try clear hb2); (try clear hk); (try clear hi)))
   go_meet
   case rel => exact ⟨_, (true), fS, H', ⟨by first | omega | exact Nat.le_refl _⟩, ⟨gR (HO341.out)⟩, ⟨gB (BK338.out)⟩, ⟨bl1 HB GE338⟩⟩
  subst c9
  have H1 : ((spec_l1In.f a2 0 (wrap64 (a0_0 - 1))).bind fun t343 => (spec_Reached.j0 k l1 a2 y339 (!t343) a0_0 l0_1)) = some r := by rw [if_pos rfl] at H; exact H
  clear H
  have H := H1
  clear H1
  replace H := Option.bind_eq_some_iff.mp H
  obtain ⟨t343, A100, H⟩ := H
  replace H : (spec_Reached.j0 k l1 a2 y339 (!t343) a0_0 l0_1) = some r := H
  have A10 := Aside0.mk A100
  clear A100
  have H' := Aside0.mk H
  clear H
  have hcz11_0 : w6.cell? ⟨gb338, 0, none⟩ = some (.int .i64 a0_0) := (blk_cell BK338.out 0).trans rfl
  have hcz11_1 : w6.cell? ⟨gb338, 1, none⟩ = some (.slice A0_1 l0_1.length c0_1) := (blk_cell BK338.out 1).trans rfl
  have hfz11_0 := blk_frozen BK338.out 0
  have hfz11_1 := blk_frozen BK338.out 1
  go_wp2_with (first | ((with_reducible refine gate_callee (f := 34) rfl ?_); refine goesL_ (some 13) rfl rfl Tryd.func34 (by kernel_rfl) rfl #[.agg #[.int .i64 a0_0, .slice A0_1 l0_1.length c0_1], .slice A1 l1.length c1] rfl mP ?_; (with_reducible refine (spec_StateValid.calls k a0_0 _ _ l0_1 _ _ l1 true _ ?side1 ?side2 ?side3 ?side4 A8.out).mono ?_); (case side1 => exact gC ((Kd.C_below HR0_1.out HB.out))); (case side2 => exact HC0_1.out); (case side3 => exact gC ((Kd.C_below HR1.out HB.out))); (case side4 => exact HC1.out); rintro e w12 ⟨rfl, hb⟩; refine ⟨_, rfl, ?_⟩; have n0_ := aM (Kd.R_below (gR (HO341.out)) hb); have n1_ := aM (blk_below (g := gb338) (o := .cells #[.int .i64 a0_0, .slice A0_1 l0_1.length c0_1] 25 (0, 0)) (gB (BK338.out)) hb); have n2_ := aM (below_step (bl1 HB GE338) hb); clear HO341; clear BK338; clear HB; have HO341 := n0_; have BK338 := n1_; have HB := n2_; clear n0_ n1_ n2_; (try clear hb); (try clear hb2); (try clear hk); (try clear hi); have hcz13_0 : w12.cell? ⟨gb338, 0, none⟩ = some (.int .i64 a0_0) := (blk_cell BK338.out 0).trans rfl; have hcz13_1 : w12.cell? ⟨gb338, 1, none⟩ = some (.slice A0_1 l0_1.length c0_1) := (blk_cell BK338.out 1).trans rfl; have hfz13_0 := blk_frozen BK338.out 0; have hfz13_1 := blk_frozen BK338.out 1) | (go_at_call 75; (with_reducible refine (spec_l1In.calls a2 0 (wrap64 (a0_0 - 1)) t343 _ A10.out).mono ?_); rintro e w' ⟨rfl, ⟨nd, rfl⟩⟩))
  go_meet
  case rel => exact ⟨_, (!t343), fS, H', ⟨by first | omega | exact Nat.le_refl _⟩, ⟨gR (HO341.out)⟩, ⟨gB (BK338.out)⟩, ⟨bl1 HB GE338⟩⟩
 case rest =>
  clear HC4
  try clear c1
  try clear p2
  try clear c3
  try clear p6
  try clear c7
  try clear c9
  try clear hcz11_0
  try clear hcz11_1
  try clear hcz13_0
  try clear hcz13_1
  try clear hcz14_0
  try clear hcz14_1
  try clear hfz11_0
  try clear hfz11_1
  try clear hfz13_0
  try clear hfz13_1
  try clear hfz14_0
  try clear hfz14_1
  obtain ⟨kq, x22_3, rfl, HA, HJ3, HO_7, BK338, HB⟩ := hcut
  cases kq with
  | zero => exact absurd HA.out (by simp [spec_Reached.j0])
  | succ kj3 =>
   have H := HA.out
   clear HA
   simp only [spec_Reached.j0] at H
   by_cases c16 : x22_3 = true
   ·
    subst c16
    have H1 : (some y339) = some r := by rw [if_pos rfl] at H; exact H
    clear H
    have H := H1
    clear H1
    obtain rfl := Option.some.inj H
    go_wp2
    go_ret
    exact ⟨_, fR, gR (HO_7.out), bl1 HB GE338⟩
   replace c16 := Bool.eq_false_iff.mpr c16
   subst c16
   have H1 : ((spec_l3Reach.f kj3 a0_0 l0_1 l1 a2).bind fun t344 => (spec_Reached.l0 kj3 y339 t344 0 a0_0 l0_1)) = some r := by rw [if_neg (show ¬ (false = true) by decide)] at H; exact H
   clear H
   have H := H1
   clear H1
   replace H := Option.bind_eq_some_iff.mp H
   obtain ⟨t344, A170, H⟩ := H
   replace H : (spec_Reached.l0 kj3 y339 t344 0 a0_0 l0_1) = some r := H
   have A17 := Aside0.mk A170
   clear A170
   have H' := Aside0.mk H
   clear H
   have hcz18_0 : wc.cell? ⟨gb338, 0, none⟩ = some (.int .i64 a0_0) := (blk_cell BK338.out 0).trans rfl
   have hcz18_1 : wc.cell? ⟨gb338, 1, none⟩ = some (.slice A0_1 l0_1.length c0_1) := (blk_cell BK338.out 1).trans rfl
   have hfz18_0 := blk_frozen BK338.out 0
   have hfz18_1 := blk_frozen BK338.out 1
   go_wp2_with (first | ((with_reducible refine gate_callee (f := 115) rfl ?_); refine goesL_ (some 27) rfl rfl Tryd.func115 (by kernel_rfl) rfl #[.agg #[.int .i64 a0_0, .slice A0_1 l0_1.length c0_1], .slice A1 l1.length c1, .int .i64 a2] rfl mP ?_; (with_reducible refine (spec_l3Reach.calls kj3 a0_0 _ _ l0_1 _ _ l1 a2 t344 _ ?side1 ?side2 ?side3 ?side4 A17.out).mono ?_); (case side1 => exact gC ((Kd.C_below HR0_1.out HB.out))); (case side2 => exact HC0_1.out); (case side3 => exact gC ((Kd.C_below HR1.out HB.out))); (case side4 => exact HC1.out); rintro e w19 ⟨v345, rfl, ho0, hb⟩; refine ⟨_, rfl, ?_⟩; have n0_ := aM (Kd.R_below (gR (HO_7.out)) hb); have n1_ := aM (Kd.R_lower ho0 (below_size (bl1 HB GE338))); have n2_ := aM (blk_below (g := gb338) (o := .cells #[.int .i64 a0_0, .slice A0_1 l0_1.length c0_1] 25 (0, 0)) (gB (BK338.out)) hb); have n3_ := aM (below_step (bl1 HB GE338) hb); clear HO_7; clear BK338; clear HB; have HO_7 := n0_; have HO346 := n1_; have BK338 := n2_; have HB := n3_; clear n0_ n1_ n2_ n3_; (try clear hb); (try clear hb2); (try clear hk); (try clear hi); (try clear ho0)))
   go_loopg [7, 9] kj3 (fun kq v7 v9 w' => ∃ (x7_2 : List Int) (x9_2 : Int), v9 = .int .i64 x9_2 ∧ Aside0 (spec_Reached.l0 kq x7_2 t344 x9_2 a0_0 l0_1 = some r) ∧ Aside0 (kq ≤ kj3) ∧ Aside0 (Kd.R (Kd.int .i64) 3 w' w.heap.size (fun _ => True) v7 x7_2) ∧ Aside0 (Kd.R Kd.bool 4 w' w.heap.size (fun _ => True) v345 t344) ∧ Aside0 (w'.heap[gb338]? = some (.cells #[.int .i64 a0_0, (.slice A0_1 l0_1.length c0_1)] 25 (0, 0))) ∧ Aside0 (Below w.heap.size w w'))
   case atStart => exact ⟨(y339), (0), fS, H', ⟨Nat.le_refl _⟩, ⟨gR (HO_7.out)⟩, ⟨gR (HO346.out)⟩, ⟨gB (BK338.out)⟩, ⟨bl1 HB GE338⟩⟩
   case round =>
    clear H'
    try clear c1
    try clear p2
    try clear c3
    try clear p6
    try clear c7
    try clear c9
    try clear c11
    try clear c16
    try clear hcz11_0
    try clear hcz11_1
    try clear hcz13_0
    try clear hcz13_1
    try clear hcz14_0
    try clear hcz14_1
    try clear hcz18_0
    try clear hcz18_1
    try clear hfz11_0
    try clear hfz11_1
    try clear hfz13_0
    try clear hfz13_1
    try clear hfz14_0
    try clear hfz14_1
    try clear hfz18_0
    try clear hfz18_1
    try clear p2
    try clear p6
    obtain ⟨x7_2, x9_2, rfl, HA, HK2, HO_7, HO_8, BK338, HB⟩ := hrel
    cases gk with
    | zero => exact absurd HA.out (by simp [spec_Reached.l0])
    | succ k2 =>
     have H := HA.out
     clear HA
     simp only [spec_Reached.l0] at H
     by_cases c20 : x9_2 < a0_0
     rotate_left
     ·
      rw [if_neg c20] at H
      have c20b0 : decide (x9_2 < a0_0) = false := decide_eq_false c20
      clear c20
      obtain rfl := Option.some.inj H
      have hcz31_0 : wr.cell? ⟨gb338, 0, none⟩ = some (.int .i64 a0_0) := (blk_cell BK338.out 0).trans rfl
      have hcz31_1 : wr.cell? ⟨gb338, 1, none⟩ = some (.slice A0_1 l0_1.length c0_1) := (blk_cell BK338.out 1).trans rfl
      have hfz31_0 := blk_frozen BK338.out 0
      have hfz31_1 := blk_frozen BK338.out 1
      go_wp2
      go_ret
      exact ⟨_, fR, gR (HO_7.out), bl1 HB GE338⟩
     rw [if_pos c20] at H
     have c20b0 : decide (x9_2 < a0_0) = true := decide_eq_true c20
     clear c20
     by_cases c21 : 0 ≤ x9_2
     rotate_left
     ·
      rw [if_neg c21] at H
      exact absurd H (by simp)
     rw [if_pos c21] at H
     have c21b0 : decide (0 ≤ x9_2) = true := decide_eq_true c21
     clear c21
     by_cases c22 : x9_2 < (t344.length : Int)
     rotate_left
     ·
      rw [if_neg c22] at H
      exact absurd H (by simp)
     rw [if_pos c22] at H
     have c22b0 : decide (x9_2 < (t344.length : Int)) = true := decide_eq_true c22
     clear c22
     obtain ⟨bq23, hbq23⟩ : ∃ b_ : Bool, b_ = (rdOf false t344 x9_2) := ⟨_, rfl⟩
     replace H : (if bq23 = true then (if x7_2.length < 17592186044416 then (spec_Reached.l0 k2 (x7_2 ++ [x9_2]) t344 (wrap64 (x9_2 + 1)) a0_0 l0_1) else (none)) else (spec_Reached.l0 k2 x7_2 t344 (wrap64 (x9_2 + 1)) a0_0 l0_1)) = some r := by rw [← hbq23] at H; exact H
     have Nbq23 := Aside0.mk hbq23
     clear hbq23
     by_cases c24 : bq23 = true
     rotate_left
     ·
      replace c24 := Bool.eq_false_iff.mpr c24
      subst c24
      have H1 : (spec_Reached.l0 k2 x7_2 t344 (wrap64 (x9_2 + 1)) a0_0 l0_1) = some r := by rw [if_neg (show ¬ (false = true) by decide)] at H; exact H
      clear H
      have H := H1
      clear H1
      have H' := Aside0.mk H
      clear H
      have hcz29_0 : wr.cell? ⟨gb338, 0, none⟩ = some (.int .i64 a0_0) := (blk_cell BK338.out 0).trans rfl
      have hcz29_1 : wr.cell? ⟨gb338, 1, none⟩ = some (.slice A0_1 l0_1.length c0_1) := (blk_cell BK338.out 1).trans rfl
      have hfz29_0 := blk_frozen BK338.out 0
      have hfz29_1 := blk_frozen BK338.out 1
      obtain ⟨Ao30, co30, eo30⟩ := Kd.R_slice HO_8.out
      subst eo30
      have p347 : 0 ≤ (x9_2 : Int) := oD
      have q347 : x9_2 < (t344.length : Int) := oD
      obtain ⟨ad347, e347, hx347_0⟩ := Kd.at_bool (Kd.R_reads' HO_8.out).2.2 x9_2 p347 q347
      (try rw [← Nbq23.out] at hx347_0)
      cases e347
      replace p347 := eq_true p347
      replace q347 := eq_true q347
      go_wp2
      go_roundg k2
      case measure => have := HJ3.out; have := HK2.out; omega
      case rel => exact ⟨(x7_2), (wrap64 (x9_2 + 1)), fS, H', ⟨by have := HJ3.out; have := HK2.out; omega⟩, ⟨gR (HO_7.out)⟩, ⟨gR (HO_8.out)⟩, ⟨gB (BK338.out)⟩, ⟨bl1 HB GE338⟩⟩
     subst c24
     have H1 : (if x7_2.length < 17592186044416 then (spec_Reached.l0 k2 (x7_2 ++ [x9_2]) t344 (wrap64 (x9_2 + 1)) a0_0 l0_1) else (none)) = some r := by rw [if_pos rfl] at H; exact H
     clear H
     have H := H1
     clear H1
     by_cases c25 : x7_2.length < 17592186044416
     rotate_left
     ·
      rw [if_neg c25] at H
      exact absurd H (by simp)
     rw [if_pos c25] at H
     have LMc25 := Aside0.mk c25
     clear c25
     obtain ⟨y348, hy348⟩ : ∃ y_ : List Int, y_ = (x7_2 ++ [x9_2]) := ⟨_, rfl⟩
     replace H : (spec_Reached.l0 k2 y348 t344 (wrap64 (x9_2 + 1)) a0_0 l0_1) = some r := by first | (rw [hy348]; with_reducible exact H) | (have H2_ := (Option.bind_some _ _).symm.trans H; rw [hy348]; with_reducible exact H2_) | (have H2_ := (Option.bind_some _ _).symm.trans H; with_reducible exact H2_) | with_reducible exact H | (rw [hy348]; exact H) | exact H
     have Ny348 := Aside0.mk hy348
     clear hy348
     have H' := Aside0.mk H
     clear H
     have hcz26_0 : wr.cell? ⟨gb338, 0, none⟩ = some (.int .i64 a0_0) := (blk_cell BK338.out 0).trans rfl
     have hcz26_1 : wr.cell? ⟨gb338, 1, none⟩ = some (.slice A0_1 l0_1.length c0_1) := (blk_cell BK338.out 1).trans rfl
     have hfz26_0 := blk_frozen BK338.out 0
     have hfz26_1 := blk_frozen BK338.out 1
     obtain ⟨Ao27, co27, eo27⟩ := Kd.R_slice HO_8.out
     subst eo27
     have p347 : 0 ≤ (x9_2 : Int) := oD
     have q347 : x9_2 < (t344.length : Int) := oD
     obtain ⟨ad347, e347, hx347_0⟩ := Kd.at_bool (Kd.R_reads' HO_8.out).2.2 x9_2 p347 q347
     (try rw [← Nbq23.out] at hx347_0)
     cases e347
     replace p347 := eq_true p347
     replace q347 := eq_true q347
     go_wp2_with (first | ((with_reducible refine gate_builtin (b := .append) (xs := #[.tmp 38, .tmp 40]) rfl ?_); at_builtin; refine Kd.R_append (Kd.int .i64) (w0 := w) w.heap.size rfl (.tmp 38) (.tmp 40) 37 3 (.int .i64 0) 8 rfl Tryd.underlying37 info3 rfl (by decide) (by omega) u7 x7_2 x9_2 [.int .i64 x9_2] (fun _ => True) (fun _ => False) rfl rfl ?aP (fun _ hk => hk.elim) ?aF ?aO ?aB ?aS ?aL ?_; (case aP => exact rfl); (case aB => exact (bl1 HB GE338)); (case aF => exact (fun _ _ => trivial)); (case aO => exact (gR (HO_7.out))); (case aS => exact (below_size (bl1 HB GE338))); (case aL => have := LMc25.out; omega); intro v349 w28 ho hb hg hat; rw [← Ny348.out] at ho; have n0_ := aM (Kd.R_over' (gR (HO_8.out)) (Kd.R_typed (gR (HO_7.out))) (by decide) hg); have n1_ := aM (blk_grown (g := gb338) (o := .cells #[.int .i64 a0_0, .slice A0_1 l0_1.length c0_1] 25 (0, 0)) (gB (BK338.out)) hg (Kd.R_ne HO_7.out BK338.out (by decide))); have n2_ := aM (hb); have n3_ := aM (ho); clear HO_8; clear BK338; clear HB; clear HO_7; have HO_8 := n0_; have BK338 := n1_; have HB := n2_; have HO350 := n3_; clear n0_ n1_ n2_ n3_; clear ho hb hg hat))
     go_roundg k2
     case measure => have := HJ3.out; have := HK2.out; omega
     case rel => exact ⟨(y348), (wrap64 (x9_2 + 1)), fS, H', ⟨by have := HJ3.out; have := HK2.out; omega⟩, ⟨gR (HO350.out)⟩, ⟨gR (HO_8.out)⟩, ⟨gB (BK338.out)⟩, ⟨bl1 HB GE338⟩⟩

end Go.Proofs.YtpgjgbjkfgbpaaaDoor.P
namespace Go.Proofs.YtpgjgbjkfgbpaaaDoor.P
open Go.RowKit Go.Proofs.YtpgjgbjkfgbpaaaDoorW.PrintWords Go.Proofs.YtpgjgbjkfgbpaaaDoorW.PrintLast Go.Proofs.YtpgjgbjkfgbpaaaDoorW.PrintMore
attribute [local go_sem] max2_int min2_int max_two min_two max_three min_three max_four min_four   -- for this text's walks alone
set_option linter.unusedVariables false
set_option linter.unusedSimpArgs false

/-! ### impl_Net_hasLine: function 99 -/
def impl_Net_hasLine.f (a0_0 : Int) (l0_1 : List (S79)) (a1 : Int) : Option (Bool) := if a1 ≥ 0 then (some (decide (a1 < (l0_1.length : Int)))) else (some false)
set_option maxHeartbeats 8000000 in
set_option maxRecDepth 100000 in
theorem impl_Net_hasLine.calls (a0_0 : Int) (A0_1 : Option Addr) (c0_1 : Nat) (l0_1 : List (S79)) (a1 : Int) (r : Bool) (w : World) (hr0_1 : Kd.C k79 w A0_1 l0_1.length l0_1) (hc0_1 : l0_1.length ≤ c0_1) (h : impl_Net_hasLine.f a0_0 l0_1 a1 = some r) :
  Calls Tryd.prog 99 #[.agg #[.int .i64 a0_0, .slice A0_1 l0_1.length c0_1], .int .i64 a1] w fun e w' => e = .returned (.bool r) ∧ Below w.heap.size w w' := by
 have hu25 := Tryd.underlying25
 have HR0_1 := Aside0.mk hr0_1
 have HC0_1 := Aside0.mk hc0_1
 clear hr0_1 hc0_1
 have HB := aM (Below.refl w.heap.size w)
 have H : (if a1 ≥ 0 then (some (decide (a1 < (l0_1.length : Int)))) else (some false)) = some r := h
 clear h
 by_cases c3 : a1 ≥ 0
 rotate_left
 ·
  rw [if_neg c3] at H
  have c3b0 : decide (0 ≤ a1) = false := decide_eq_false c3
  clear c3
  obtain rfl := Option.some.inj H
  go_enter Tryd.func99, Tryd.ntmps99
  go_wp2_with (first | ((with_reducible refine gate_dst (N := 2) rfl ?_); refine box_event ?hg (N := 2) ?hd (cs := #[.int .i64 a0_0, .slice A0_1 l0_1.length c0_1]) (t := 25) ?hr ?_; (case hd => rfl); (case hg => rfl); (case hr => exact hR); intro gb359 hg w6 hbox hb; have n0_ := aM (below_step (bl0 HB) hb); have n1_ := aM (hbox); have n2_ := aM ((by rw [hg]; exact (below_size (bl0 HB)) : w.heap.size ≤ gb359)); have n3_ := aM ((by rw [hg]; exact (below_size (bl0 HB)) : w.heap.size ≤ gb359)); clear HB; have HB := n0_; have BK359 := n1_; have GW359 := n2_; have GE359 := n3_; clear n0_ n1_ n2_ n3_; clear hb hbox hg))
  go_ret
  exact ⟨fR, bl1 HB GE359⟩
 rw [if_pos c3] at H
 have c3b0 : decide (0 ≤ a1) = true := decide_eq_true c3
 clear c3
 obtain rfl := Option.some.inj H
 go_enter Tryd.func99, Tryd.ntmps99
 go_wp2_with (first | ((with_reducible refine gate_dst (N := 2) rfl ?_); refine box_event ?hg (N := 2) ?hd (cs := #[.int .i64 a0_0, .slice A0_1 l0_1.length c0_1]) (t := 25) ?hr ?_; (case hd => rfl); (case hg => rfl); (case hr => exact hR); intro gb359 hg w4 hbox hb; have n0_ := aM (below_step (bl0 HB) hb); have n1_ := aM (hbox); have n2_ := aM ((by rw [hg]; exact (below_size (bl0 HB)) : w.heap.size ≤ gb359)); have n3_ := aM ((by rw [hg]; exact (below_size (bl0 HB)) : w.heap.size ≤ gb359)); clear HB; have HB := n0_; have BK359 := n1_; have GW359 := n2_; have GE359 := n3_; clear n0_ n1_ n2_ n3_; clear hb hbox hg; have hcz5_0 : w4.cell? ⟨gb359, 0, none⟩ = some (.int .i64 a0_0) := (blk_cell BK359.out 0).trans rfl; have hcz5_1 : w4.cell? ⟨gb359, 1, none⟩ = some (.slice A0_1 l0_1.length c0_1) := (blk_cell BK359.out 1).trans rfl; have hfz5_0 := blk_frozen BK359.out 0; have hfz5_1 := blk_frozen BK359.out 1))
 go_ret
 exact ⟨fR, bl1 HB GE359⟩

end Go.Proofs.YtpgjgbjkfgbpaaaDoor.P
namespace Go.Proofs.YtpgjgbjkfgbpaaaDoor.P
open Go.RowKit Go.Proofs.YtpgjgbjkfgbpaaaDoorW.PrintWords Go.Proofs.YtpgjgbjkfgbpaaaDoorW.PrintLast Go.Proofs.YtpgjgbjkfgbpaaaDoorW.PrintMore
attribute [local go_sem] max2_int min2_int max_two min_two max_three min_three max_four min_four   -- for this text's walks alone
set_option linter.unusedVariables false
set_option linter.unusedSimpArgs false

/-! ### impl_Line_other: function 100 -/
def impl_Line_other.f (a0_0 : Int) (a0_1 : Int) (a0_2 : Int) (a1 : Int) : Option (Int) := if a1 = a0_0 then (some a0_1) else (if a1 = a0_1 then (some a0_0) else (some (-1)))
set_option maxHeartbeats 8000000 in
set_option maxRecDepth 100000 in
theorem impl_Line_other.calls (a0_0 : Int) (a0_1 : Int) (a0_2 : Int) (a1 : Int) (r : Int) (w : World) (h : impl_Line_other.f a0_0 a0_1 a0_2 a1 = some r) :
  Calls Tryd.prog 100 #[.agg #[.int .i64 a0_0, .int .i64 a0_1, .int .i64 a0_2], .int .i64 a1] w fun e w' => e = .returned (.int .i64 r) ∧ Below w.heap.size w w' := by
 have hu79 := Tryd.underlying79
 have HB := aM (Below.refl w.heap.size w)
 have H : (if a1 = a0_0 then (some a0_1) else (if a1 = a0_1 then (some a0_0) else (some (-1)))) = some r := h
 clear h
 by_cases c3 : a1 = a0_0
 ·
  rw [if_pos c3] at H
  have c3b0 : (a1 == a0_0) = true := beq_iff_eq.mpr c3
  have c3b1 : (a1 != a0_0) = false := bne_eq_false_iff_eq.mpr c3
  clear c3
  obtain rfl := Option.some.inj H
  go_enter Tryd.func100, Tryd.ntmps100
  go_wp2_with (first | ((with_reducible refine gate_dst (N := 2) rfl ?_); refine box_event ?hg (N := 2) ?hd (cs := #[.int .i64 a0_0, .int .i64 a0_1, .int .i64 a0_2]) (t := 79) ?hr ?_; (case hd => rfl); (case hg => rfl); (case hr => exact hR); intro gb360 hg w4 hbox hb; have n0_ := aM (below_step (bl0 HB) hb); have n1_ := aM (hbox); have n2_ := aM ((by rw [hg]; exact (below_size (bl0 HB)) : w.heap.size ≤ gb360)); have n3_ := aM ((by rw [hg]; exact (below_size (bl0 HB)) : w.heap.size ≤ gb360)); clear HB; have HB := n0_; have BK360 := n1_; have GW360 := n2_; have GE360 := n3_; clear n0_ n1_ n2_ n3_; clear hb hbox hg; have hcz5_0 : w4.cell? ⟨gb360, 0, none⟩ = some (.int .i64 a0_0) := (blk_cell BK360.out 0).trans rfl; have hcz5_1 : w4.cell? ⟨gb360, 1, none⟩ = some (.int .i64 a0_1) := (blk_cell BK360.out 1).trans rfl; have hcz5_2 : w4.cell? ⟨gb360, 2, none⟩ = some (.int .i64 a0_2) := (blk_cell BK360.out 2).trans rfl; have hfz5_0 := blk_frozen BK360.out 0; have hfz5_1 := blk_frozen BK360.out 1; have hfz5_2 := blk_frozen BK360.out 2))
  go_ret
  exact ⟨fR, bl1 HB GE360⟩
 rw [if_neg c3] at H
 have c3b0 : (a1 == a0_0) = false := beq_eq_false_iff_ne.mpr c3
 have c3b1 : (a1 != a0_0) = true := bne_iff_ne.mpr c3
 by_cases c6 : a1 = a0_1
 rotate_left
 ·
  rw [if_neg c6] at H
  have c6b0 : (a1 == a0_1) = false := beq_eq_false_iff_ne.mpr c6
  have c6b1 : (a1 != a0_1) = true := bne_iff_ne.mpr c6
  obtain rfl := Option.some.inj H
  go_enter Tryd.func100, Tryd.ntmps100
  go_wp2_with (first | ((with_reducible refine gate_dst (N := 2) rfl ?_); refine box_event ?hg (N := 2) ?hd (cs := #[.int .i64 a0_0, .int .i64 a0_1, .int .i64 a0_2]) (t := 79) ?hr ?_; (case hd => rfl); (case hg => rfl); (case hr => exact hR); intro gb360 hg w9 hbox hb; have n0_ := aM (below_step (bl0 HB) hb); have n1_ := aM (hbox); have n2_ := aM ((by rw [hg]; exact (below_size (bl0 HB)) : w.heap.size ≤ gb360)); have n3_ := aM ((by rw [hg]; exact (below_size (bl0 HB)) : w.heap.size ≤ gb360)); clear HB; have HB := n0_; have BK360 := n1_; have GW360 := n2_; have GE360 := n3_; clear n0_ n1_ n2_ n3_; clear hb hbox hg; have hcz10_0 : w9.cell? ⟨gb360, 0, none⟩ = some (.int .i64 a0_0) := (blk_cell BK360.out 0).trans rfl; have hcz10_1 : w9.cell? ⟨gb360, 1, none⟩ = some (.int .i64 a0_1) := (blk_cell BK360.out 1).trans rfl; have hcz10_2 : w9.cell? ⟨gb360, 2, none⟩ = some (.int .i64 a0_2) := (blk_cell BK360.out 2).trans rfl; have hfz10_0 := blk_frozen BK360.out 0; have hfz10_1 := blk_frozen BK360.out 1; have hfz10_2 := blk_frozen BK360.out 2))
  go_ret
  exact ⟨fR, bl1 HB GE360⟩
 rw [if_pos c6] at H
 have c6b0 : (a1 == a0_1) = true := beq_iff_eq.mpr c6
 have c6b1 : (a1 != a0_1) = false := bne_eq_false_iff_eq.mpr c6
 clear c6
 obtain rfl := Option.some.inj H
 go_enter Tryd.func100, Tryd.ntmps100
 go_wp2_with (first | ((with_reducible refine gate_dst (N := 2) rfl ?_); refine box_event ?hg (N := 2) ?hd (cs := #[.int .i64 a0_0, .int .i64 a0_1, .int .i64 a0_2]) (t := 79) ?hr ?_; (case hd => rfl); (case hg => rfl); (case hr => exact hR); intro gb360 hg w7 hbox hb; have n0_ := aM (below_step (bl0 HB) hb); have n1_ := aM (hbox); have n2_ := aM ((by rw [hg]; exact (below_size (bl0 HB)) : w.heap.size ≤ gb360)); have n3_ := aM ((by rw [hg]; exact (below_size (bl0 HB)) : w.heap.size ≤ gb360)); clear HB; have HB := n0_; have BK360 := n1_; have GW360 := n2_; have GE360 := n3_; clear n0_ n1_ n2_ n3_; clear hb hbox hg; have hcz8_0 : w7.cell? ⟨gb360, 0, none⟩ = some (.int .i64 a0_0) := (blk_cell BK360.out 0).trans rfl; have hcz8_1 : w7.cell? ⟨gb360, 1, none⟩ = some (.int .i64 a0_1) := (blk_cell BK360.out 1).trans rfl; have hcz8_2 : w7.cell? ⟨gb360, 2, none⟩ = some (.int .i64 a0_2) := (blk_cell BK360.out 2).trans rfl; have hfz8_0 := blk_frozen BK360.out 0; have hfz8_1 := blk_frozen BK360.out 1; have hfz8_2 := blk_frozen BK360.out 2))
 go_ret
 exact ⟨fR, bl1 HB GE360⟩

end Go.Proofs.YtpgjgbjkfgbpaaaDoor.P

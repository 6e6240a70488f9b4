/- Contracts of Go functions of this seat's translation, written by this repo's wip/mk.py: it calls the kit's print.py with contracts typed by hand in place of functions that it does not take. Not trusted: Lean checks it. -/
import Derived.Test.YtpgjgbjkfgbpaaaDoorP0
import Derived.Test.YtpgjgbjkfgbpaaaDoorP25
import Derived.Test.YtpgjgbjkfgbpaaaDoorP27
import Derived.Test.YtpgjgbjkfgbpaaaDoorP30
import Derived.Test.YtpgjgbjkfgbpaaaDoorP29
namespace Go.Proofs.YtpgjgbjkfgbpaaaDoor.P
open Go.RowKit Go.Proofs.YtpgjgbjkfgbpaaaDoorW.PrintWords Go.Proofs.YtpgjgbjkfgbpaaaDoorW.PrintLast Go.Proofs.YtpgjgbjkfgbpaaaDoorW.PrintMore
attribute [local go_sem] max2_int min2_int max_two min_two max_three min_three max_four min_four   -- for this text's walks alone
set_option linter.unusedVariables false
set_option linter.unusedSimpArgs false

/-! ### spec_Reached: function 76 -/
mutual
def spec_Reached.j0 : Nat → List Bool → Int → List Int → Bool → Int → List (S79) → Option (List Int)
 | 0, _, _, _, _, _, _ => none
 | k + 1, x1, x2, x7, x22, x339000, x339001 => if x22 = true then (some x7) else ((spec_l3Reach.f k x339000 x339001 x1 x2).bind fun t344 => (spec_Reached.l0 k x7 t344 0 x339000 x339001))
def spec_Reached.l0 : Nat → List Int → List Bool → Int → Int → List (S79) → Option (List Int)
 | 0, _, _, _, _, _ => none
 | k + 1, x7, x8, x9, x339000, x339001 => if x9 < x339000 then (if 0 ≤ x9 then (if x9 < (x8.length : Int) then (if rdOf false x8 x9 = true then (if x7.length < 17592186044416 then (spec_Reached.l0 k (x7 ++ [x9]) x8 (wrap64 (x9 + 1)) x339000 x339001) else (none)) else (spec_Reached.l0 k x7 x8 (wrap64 (x9 + 1)) x339000 x339001)) else (none)) else (none)) else (some x7)
end
def spec_Reached.f (k : Nat) (a0_0 : Int) (l0_1 : List (S79)) (l1 : List Bool) (a2 : Int) : Option (List Int) := (some (([] : List Int) : List Int)).bind fun y339 => ((spec_StateValid.f k a0_0 l0_1 l1).bind fun t342 => (if t342 = true then ((spec_l1In.f a2 0 (wrap64 (a0_0 - 1))).bind fun t343 => (spec_Reached.j0 k l1 a2 y339 (!t343) a0_0 l0_1)) else (spec_Reached.j0 k l1 a2 y339 true a0_0 l0_1)))
theorem spec_Reached.mono_l : ∀ k, (∀ y0 y1 y2 y3 y4 y5, LeO (spec_Reached.j0 k y0 y1 y2 y3 y4 y5) (spec_Reached.j0 (k + 1) y0 y1 y2 y3 y4 y5)) ∧ (∀ y0 y1 y2 y3 y4, LeO (spec_Reached.l0 k y0 y1 y2 y3 y4) (spec_Reached.l0 (k + 1) y0 y1 y2 y3 y4))
 | 0 => ⟨fun _ _ _ _ _ _ r h => by simp [spec_Reached.j0] at h, fun _ _ _ _ _ r h => by simp [spec_Reached.l0] at h⟩
 | k + 1 => by
  obtain ⟨ih0, ih1⟩ := spec_Reached.mono_l k
  refine ⟨?_, ?_⟩
  ·
   intro y0 y1 y2 y3 y4 y5
   unfold spec_Reached.j0
   repeat' first
   | (with_reducible exact ih0 _ _ _ _ _ _)
   | (with_reducible exact ih1 _ _ _ _ _)
   | (with_reducible exact spec_StateValid.mono _ _ _ _)
   | (with_reducible exact spec_l3Reach.mono _ _ _ _ _)
   | (with_reducible exact LeO.refl _)
   | (with_reducible exact LeO.none _)
   | (with_reducible refine LeO.ite ?_ ?_)
   | (with_reducible refine LeO.bind ?_ (fun _ => ?_))
   | exact ih0 _ _ _ _ _ _
   | exact ih1 _ _ _ _ _
   | exact spec_StateValid.mono _ _ _ _
   | exact spec_l3Reach.mono _ _ _ _ _
   | exact LeO.none _
   | refine LeO.ite ?_ ?_
   | refine LeO.bind ?_ (fun _ => ?_)
  ·
   intro y0 y1 y2 y3 y4
   unfold spec_Reached.l0
   repeat' first
   | (with_reducible exact ih0 _ _ _ _ _ _)
   | (with_reducible exact ih1 _ _ _ _ _)
   | (with_reducible exact spec_StateValid.mono _ _ _ _)
   | (with_reducible exact spec_l3Reach.mono _ _ _ _ _)
   | (with_reducible exact LeO.refl _)
   | (with_reducible exact LeO.none _)
   | (with_reducible refine LeO.ite ?_ ?_)
   | (with_reducible refine LeO.bind ?_ (fun _ => ?_))
   | exact ih0 _ _ _ _ _ _
   | exact ih1 _ _ _ _ _
   | exact spec_StateValid.mono _ _ _ _
   | exact spec_l3Reach.mono _ _ _ _ _
   | exact LeO.none _
   | refine LeO.ite ?_ ?_
   | refine LeO.bind ?_ (fun _ => ?_)
theorem spec_Reached.mono : ∀ a0 a1 a2 a3 k, LeO (spec_Reached.f k a0 a1 a2 a3) (spec_Reached.f (k + 1) a0 a1 a2 a3) := by
 intro a0 a1 a2 a3 k
 obtain ⟨ih0, ih1⟩ := spec_Reached.mono_l k
 unfold spec_Reached.f
 repeat' first
   | (with_reducible exact ih0 _ _ _ _ _ _)
   | (with_reducible exact ih1 _ _ _ _ _)
   | (with_reducible exact spec_StateValid.mono _ _ _ _)
   | (with_reducible exact spec_l3Reach.mono _ _ _ _ _)
   | (with_reducible exact LeO.refl _)
   | (with_reducible exact LeO.none _)
   | (with_reducible refine LeO.ite ?_ ?_)
   | (with_reducible refine LeO.bind ?_ (fun _ => ?_))
   | exact ih0 _ _ _ _ _ _
   | exact ih1 _ _ _ _ _
   | exact spec_StateValid.mono _ _ _ _
   | exact spec_l3Reach.mono _ _ _ _ _
   | exact LeO.none _
   | refine LeO.ite ?_ ?_
   | refine LeO.bind ?_ (fun _ => ?_)
set_option maxHeartbeats 8000000 in
set_option maxRecDepth 100000 in
theorem spec_Reached.calls (k : Nat) (a0_0 : Int) (A0_1 : Option Addr) (c0_1 : Nat) (l0_1 : List (S79)) (A1 : Option Addr) (c1 : Nat) (l1 : List Bool) (a2 : Int) (r : List Int) (w : World) (hr0_1 : Kd.C k79 w A0_1 l0_1.length l0_1) (hc0_1 : l0_1.length ≤ c0_1) (hr1 : Kd.C Kd.bool w A1 l1.length l1) (hc1 : l1.length ≤ c1) (h : spec_Reached.f k a0_0 l0_1 l1 a2 = some r) :
  Calls Tryd.prog 76 #[.agg #[.int .i64 a0_0, .slice A0_1 l0_1.length c0_1], .slice A1 l1.length c1, .int .i64 a2] w fun e w' => ∃ v0_ : Value, e = .returned (v0_) ∧ Kd.R (Kd.int .i64) 3 w' w.heap.size (fun _ => True) v0_ r ∧ Below w.heap.size w w' := by
 have hu25 := Tryd.underlying25
 have HR0_1 := Aside0.mk hr0_1
 have HC0_1 := Aside0.mk hc0_1
 clear hr0_1 hc0_1
 have HR1 := Aside0.mk hr1
 have HC1 := Aside0.mk hc1
 clear hr1 hc1
 have HB := aM (Below.refl w.heap.size w)
 have H : ((some (([] : List Int) : List Int)).bind fun y339 => ((spec_StateValid.f k a0_0 l0_1 l1).bind fun t342 => (if t342 = true then ((spec_l1In.f a2 0 (wrap64 (a0_0 - 1))).bind fun t343 => (spec_Reached.j0 k l1 a2 y339 (!t343) a0_0 l0_1)) else (spec_Reached.j0 k l1 a2 y339 true a0_0 l0_1)))) = some r := h
 clear h
 obtain ⟨y339, hy339⟩ : ∃ y_ : List Int, y_ = (([] : List Int)) := ⟨_, rfl⟩
 replace H : ((spec_StateValid.f k a0_0 l0_1 l1).bind fun t342 => (if t342 = true then ((spec_l1In.f a2 0 (wrap64 (a0_0 - 1))).bind fun t343 => (spec_Reached.j0 k l1 a2 y339 (!t343) a0_0 l0_1)) else (spec_Reached.j0 k l1 a2 y339 true a0_0 l0_1))) = some r := by first | (rw [hy339]; with_reducible exact H) | (have H2_ := (Option.bind_some _ _).symm.trans H; rw [hy339]; with_reducible exact H2_) | (have H2_ := (Option.bind_some _ _).symm.trans H; with_reducible exact H2_) | with_reducible exact H | (rw [hy339]; exact H) | exact H
 have Ny339 := Aside0.mk hy339
 clear hy339
 have HC4 := Aside0.mk H
 clear H
 go_enter Tryd.func76, Tryd.ntmps76
 go_upto_region 2 with (first | ((with_reducible refine gate_dst (N := 3) rfl ?_); refine box_event ?hg (N := 3) ?hd (cs := #[.int .i64 a0_0, .slice A0_1 l0_1.length c0_1]) (t := 25) ?hr ?_; (case hd => rfl); (case hg => rfl); (case hr => exact hR); intro gb338 hg w5 hbox hb; have n0_ := aM (below_step (bl0 HB) hb); have n1_ := aM (hbox); have n2_ := aM ((by rw [hg]; exact (below_size (bl0 HB)) : w.heap.size ≤ gb338)); have n3_ := aM ((by rw [hg]; exact (below_size (bl0 HB)) : w.heap.size ≤ gb338)); clear HB; have HB := n0_; have BK338 := n1_; have GW338 := n2_; have GE338 := n3_; clear n0_ n1_ n2_ n3_; clear hb hbox hg) | ((with_reducible refine gate_dst (N := 10) rfl ?_); refine Kd.R_lit (Kd.int .i64) _ 3 ?hg (N := 10) ?hd (xs := ([] : List Int)) (inner := []) (ok := fun _ => True) (okp := fun _ => True) ?hr ?hp (fun _ hk => hk) trivial (Below.refl _ _) (Nat.le_refl _) (by simp) ?_; (case hd => rfl); (case hg => rfl); (case hr => exact hR); (case hp => exact (Reps.none _ _)); intro v340 w6 ho7 hb hg_ hnew_; clear hg_ hnew_; (first | rw [← Ny339.out] at ho7 | (simp only [Int.reduceToNat] at ho7; rw [← Ny339.out] at ho7)); have n0_ := aM (Kd.R_lower ho7 (below_size (bl1 HB GE338))); have n1_ := aM (blk_below (g := gb338) (o := .cells #[.int .i64 a0_0, .slice A0_1 l0_1.length c0_1] 25 (0, 0)) (gB (BK338.out)) hb); have n2_ := aM (below_step (bl1 HB GE338) hb); clear BK338; clear HB; have HO341 := n0_; have BK338 := n1_; have HB := n2_; clear n0_ n1_ n2_; clear hb ho7))
 (try simp only [Act.put, List.setIfInBounds_toArray, List.set_cons_zero, List.set_cons_succ])
 go_cut [22] (fun v22 wc => ∃ (kq : Nat) (x22_3 : Bool), v22 = .bool x22_3 ∧ Aside0 (spec_Reached.j0 kq l1 a2 y339 x22_3 a0_0 l0_1 = some r) ∧ Aside0 (kq ≤ k) ∧ Aside0 (Kd.R (Kd.int .i64) 3 wc w.heap.size (fun _ => True) v340 y339) ∧ Aside0 (wc.heap[gb338]? = some (.cells #[.int .i64 a0_0, (.slice A0_1 l0_1.length c0_1)] 25 (0, 0))) ∧ Aside0 (Below w.heap.size w wc))
 case first =>
  have H := HC4.out
  clear HC4
  replace H := Option.bind_eq_some_iff.mp H
  obtain ⟨t342, A80, H⟩ := H
  replace H : (if t342 = true then ((spec_l1In.f a2 0 (wrap64 (a0_0 - 1))).bind fun t343 => (spec_Reached.j0 k l1 a2 y339 (!t343) a0_0 l0_1)) else (spec_Reached.j0 k l1 a2 y339 true a0_0 l0_1)) = some r := H
  have A8 := Aside0.mk A80
  clear A80
  by_cases c9 : t342 = true
  rotate_left
  ·
   replace c9 := Bool.eq_false_iff.mpr c9
   subst c9
   have H1 : (spec_Reached.j0 k l1 a2 y339 true a0_0 l0_1) = some r := by rw [if_neg (show ¬ (false = true) by decide)] at H; exact H
   clear H
   have H := H1
   clear H1
   have H' := Aside0.mk H
   clear H
   have hcz14_0 : w6.cell? ⟨gb338, 0, none⟩ = some (.int .i64 a0_0) := (blk_cell BK338.out 0).trans rfl
   have hcz14_1 : w6.cell? ⟨gb338, 1, none⟩ = some (.slice A0_1 l0_1.length c0_1) := (blk_cell BK338.out 1).trans rfl
   have hfz14_0 := blk_frozen BK338.out 0
   have hfz14_1 := blk_frozen BK338.out 1
   go_wp2_with (first | ((with_reducible refine gate_callee (f := 34) rfl ?_); refine goesL_ (some 13) rfl rfl Tryd.func34 (by kernel_rfl) rfl #[.agg #[.int .i64 a0_0, .slice A0_1 l0_1.length c0_1], .slice A1 l1.length c1] rfl mP ?_; (with_reducible refine (spec_StateValid.calls k a0_0 _ _ l0_1 _ _ l1 false _ ?side1 ?side2 ?side3 ?side4 A8.out).mono ?_); (case side1 => exact gC ((Kd.C_below HR0_1.out HB.out))); (case side2 => exact HC0_1.out); (case side3 => exact gC ((Kd.C_below HR1.out HB.out))); (case side4 => exact HC1.out); rintro e w15 ⟨rfl, hb⟩; refine ⟨_, rfl, ?_⟩; have n0_ := aM (Kd.R_below (gR (HO341.out)) hb); have n1_ := aM (blk_below (g := gb338) (o := .cells #[.int .i64 a0_0, .slice A0_1 l0_1.length c0_1] 25 (0, 0)) (gB (BK338.out)) hb); have n2_ := aM (below_step (bl1 HB GE338) hb); clear HO341; clear BK338; clear HB; have HO341 := n0_; have BK338 := n1_; have HB := n2_; clear n0_ n1_ n2_; (try clear hb); (try clear hb2); (try clear hk); (try clear hi)))
   go_meet
   case rel => exact ⟨_, (true), fS, H', ⟨by first | omega | exact Nat.le_refl _⟩, ⟨gR (HO341.out)⟩, ⟨gB (BK338.out)⟩, ⟨bl1 HB GE338⟩⟩
  subst c9
  have H1 : ((spec_l1In.f a2 0 (wrap64 (a0_0 - 1))).bind fun t343 => (spec_Reached.j0 k l1 a2 y339 (!t343) a0_0 l0_1)) = some r := by rw [if_pos rfl] at H; exact H
  clear H
  have H := H1
  clear H1
  replace H := Option.bind_eq_some_iff.mp H
  obtain ⟨t343, A100, H⟩ := H
  replace H : (spec_Reached.j0 k l1 a2 y339 (!t343) a0_0 l0_1) = some r := H
  have A10 := Aside0.mk A100
  clear A100
  have H' := Aside0.mk H
  clear H
  have hcz11_0 : w6.cell? ⟨gb338, 0, none⟩ = some (.int .i64 a0_0) := (blk_cell BK338.out 0).trans rfl
  have hcz11_1 : w6.cell? ⟨gb338, 1, none⟩ = some (.slice A0_1 l0_1.length c0_1) := (blk_cell BK338.out 1).trans rfl
  have hfz11_0 := blk_frozen BK338.out 0
  have hfz11_1 := blk_frozen BK338.out 1
  go_wp2_with (first | ((with_reducible refine gate_callee (f := 34) rfl ?_); refine goesL_ (some 13) rfl rfl Tryd.func34 (by kernel_rfl) rfl #[.agg #[.int .i64 a0_0, .slice A0_1 l0_1.length c0_1], .slice A1 l1.length c1] rfl mP ?_; (with_reducible refine (spec_StateValid.calls k a0_0 _ _ l0_1 _ _ l1 true _ ?side1 ?side2 ?side3 ?side4 A8.out).mono ?_); (case side1 => exact gC ((Kd.C_below HR0_1.out HB.out))); (case side2 => exact HC0_1.out); (case side3 => exact gC ((Kd.C_below HR1.out HB.out))); (case side4 => exact HC1.out); rintro e w12 ⟨rfl, hb⟩; refine ⟨_, rfl, ?_⟩; have n0_ := aM (Kd.R_below (gR (HO341.out)) hb); have n1_ := aM (blk_below (g := gb338) (o := .cells #[.int .i64 a0_0, .slice A0_1 l0_1.length c0_1] 25 (0, 0)) (gB (BK338.out)) hb); have n2_ := aM (below_step (bl1 HB GE338) hb); clear HO341; clear BK338; clear HB; have HO341 := n0_; have BK338 := n1_; have HB := n2_; clear n0_ n1_ n2_; (try clear hb); (try clear hb2); (try clear hk); (try clear hi); have hcz13_0 : w12.cell? ⟨gb338, 0, none⟩ = some (.int .i64 a0_0) := (blk_cell BK338.out 0).trans rfl; have hcz13_1 : w12.cell? ⟨gb338, 1, none⟩ = some (.slice A0_1 l0_1.length c0_1) := (blk_cell BK338.out 1).trans rfl; have hfz13_0 := blk_frozen BK338.out 0; have hfz13_1 := blk_frozen BK338.out 1) | (go_at_call 75; (with_reducible refine (spec_l1In.calls a2 0 (wrap64 (a0_0 - 1)) t343 _ A10.out).mono ?_); rintro e w' ⟨rfl, ⟨nd, rfl⟩⟩))
  go_meet
  case rel => exact ⟨_, (!t343), fS, H', ⟨by first | omega | exact Nat.le_refl _⟩, ⟨gR (HO341.out)⟩, ⟨gB (BK338.out)⟩, ⟨bl1 HB GE338⟩⟩
 case rest =>
  clear HC4
  try clear c1
  try clear p2
  try clear c3
  try clear p6
  try clear c7
  try clear c9
  try clear hcz11_0
  try clear hcz11_1
  try clear hcz13_0
  try clear hcz13_1
  try clear hcz14_0
  try clear hcz14_1
  try clear hfz11_0
  try clear hfz11_1
  try clear hfz13_0
  try clear hfz13_1
  try clear hfz14_0
  try clear hfz14_1
  obtain ⟨kq, x22_3, rfl, HA, HJ3, HO_7, BK338, HB⟩ := hcut
  cases kq with
  | zero => exact absurd HA.out (by simp [spec_Reached.j0])
  | succ kj3 =>
   have H := HA.out
   clear HA
   simp only [spec_Reached.j0] at H
   by_cases c16 : x22_3 = true
   ·
    subst c16
    have H1 : (some y339) = some r := by rw [if_pos rfl] at H; exact H
    clear H
    have H := H1
    clear H1
    obtain rfl := Option.some.inj H
    go_wp2
    go_ret
    exact ⟨_, fR, gR (HO_7.out), bl1 HB GE338⟩
   replace c16 := Bool.eq_false_iff.mpr c16
   subst c16
   have H1 : ((spec_l3Reach.f kj3 a0_0 l0_1 l1 a2).bind fun t344 => (spec_Reached.l0 kj3 y339 t344 0 a0_0 l0_1)) = some r := by rw [if_neg (show ¬ (false = true) by decide)] at H; exact H
   clear H
   have H := H1
   clear H1
   replace H := Option.bind_eq_some_iff.mp H
   obtain ⟨t344, A170, H⟩ := H
   replace H : (spec_Reached.l0 kj3 y339 t344 0 a0_0 l0_1) = some r := H
   have A17 := Aside0.mk A170
   clear A170
   have H' := Aside0.mk H
   clear H
   have hcz18_0 : wc.cell? ⟨gb338, 0, none⟩ = some (.int .i64 a0_0) := (blk_cell BK338.out 0).trans rfl
   have hcz18_1 : wc.cell? ⟨gb338, 1, none⟩ = some (.slice A0_1 l0_1.length c0_1) := (blk_cell BK338.out 1).trans rfl
   have hfz18_0 := blk_frozen BK338.out 0
   have hfz18_1 := blk_frozen BK338.out 1
   go_wp2_with (first | ((with_reducible refine gate_callee (f := 115) rfl ?_); refine goesL_ (some 27) rfl rfl Tryd.func115 (by kernel_rfl) rfl #[.agg #[.int .i64 a0_0, .slice A0_1 l0_1.length c0_1], .slice A1 l1.length c1, .int .i64 a2] rfl mP ?_; (with_reducible refine (spec_l3Reach.calls kj3 a0_0 _ _ l0_1 _ _ l1 a2 t344 _ ?side1 ?side2 ?side3 ?side4 A17.out).mono ?_); (case side1 => exact gC ((Kd.C_below HR0_1.out HB.out))); (case side2 => exact HC0_1.out); (case side3 => exact gC ((Kd.C_below HR1.out HB.out))); (case side4 => exact HC1.out); rintro e w19 ⟨v345, rfl, ho0, hb⟩; refine ⟨_, rfl, ?_⟩; have n0_ := aM (Kd.R_below (gR (HO_7.out)) hb); have n1_ := aM (Kd.R_lower ho0 (below_size (bl1 HB GE338))); have n2_ := aM (blk_below (g := gb338) (o := .cells #[.int .i64 a0_0, .slice A0_1 l0_1.length c0_1] 25 (0, 0)) (gB (BK338.out)) hb); have n3_ := aM (below_step (bl1 HB GE338) hb); clear HO_7; clear BK338; clear HB; have HO_7 := n0_; have HO346 := n1_; have BK338 := n2_; have HB := n3_; clear n0_ n1_ n2_ n3_; (try clear hb); (try clear hb2); (try clear hk); (try clear hi); (try clear ho0)))
   go_loopg [7, 9] kj3 (fun kq v7 v9 w' => ∃ (x7_2 : List Int) (x9_2 : Int), v9 = .int .i64 x9_2 ∧ Aside0 (spec_Reached.l0 kq x7_2 t344 x9_2 a0_0 l0_1 = some r) ∧ Aside0 (kq ≤ kj3) ∧ Aside0 (Kd.R (Kd.int .i64) 3 w' w.heap.size (fun _ => True) v7 x7_2) ∧ Aside0 (Kd.R Kd.bool 4 w' w.heap.size (fun _ => True) v345 t344) ∧ Aside0 (w'.heap[gb338]? = some (.cells #[.int .i64 a0_0, (.slice A0_1 l0_1.length c0_1)] 25 (0, 0))) ∧ Aside0 (Below w.heap.size w w'))
   case atStart => exact ⟨(y339), (0), fS, H', ⟨Nat.le_refl _⟩, ⟨gR (HO_7.out)⟩, ⟨gR (HO346.out)⟩, ⟨gB (BK338.out)⟩, ⟨bl1 HB GE338⟩⟩
   case round =>
    clear H'
    try clear c1
    try clear p2
    try clear c3
    try clear p6
    try clear c7
    try clear c9
    try clear c11
    try clear c16
    try clear hcz11_0
    try clear hcz11_1
    try clear hcz13_0
    try clear hcz13_1
    try clear hcz14_0
    try clear hcz14_1
    try clear hcz18_0
    try clear hcz18_1
    try clear hfz11_0
    try clear hfz11_1
    try clear hfz13_0
    try clear hfz13_1
    try clear hfz14_0
    try clear hfz14_1
    try clear hfz18_0
    try clear hfz18_1
    try clear p2
    try clear p6
    obtain ⟨x7_2, x9_2, rfl, HA, HK2, HO_7, HO_8, BK338, HB⟩ := hrel
    cases gk with
    | zero => exact absurd HA.out (by simp [spec_Reached.l0])
    | succ k2 =>
     have H := HA.out
     clear HA
     simp only [spec_Reached.l0] at H
     by_cases c20 : x9_2 < a0_0
     rotate_left
     ·
      rw [if_neg c20] at H
      have c20b0 : decide (x9_2 < a0_0) = false := decide_eq_false c20
      clear c20
      obtain rfl := Option.some.inj H
      have hcz31_0 : wr.cell? ⟨gb338, 0, none⟩ = some (.int .i64 a0_0) := (blk_cell BK338.out 0).trans rfl
      have hcz31_1 : wr.cell? ⟨gb338, 1, none⟩ = some (.slice A0_1 l0_1.length c0_1) := (blk_cell BK338.out 1).trans rfl
      have hfz31_0 := blk_frozen BK338.out 0
      have hfz31_1 := blk_frozen BK338.out 1
      go_wp2
      go_ret
      exact ⟨_, fR, gR (HO_7.out), bl1 HB GE338⟩
     rw [if_pos c20] at H
     have c20b0 : decide (x9_2 < a0_0) = true := decide_eq_true c20
     clear c20
     by_cases c21 : 0 ≤ x9_2
     rotate_left
     ·
      rw [if_neg c21] at H
      exact absurd H (by simp)
     rw [if_pos c21] at H
     have c21b0 : decide (0 ≤ x9_2) = true := decide_eq_true c21
     clear c21
     by_cases c22 : x9_2 < (t344.length : Int)
     rotate_left
     ·
      rw [if_neg c22] at H
      exact absurd H (by simp)
     rw [if_pos c22] at H
     have c22b0 : decide (x9_2 < (t344.length : Int)) = true := decide_eq_true c22
     clear c22
     obtain ⟨bq23, hbq23⟩ : ∃ b_ : Bool, b_ = (rdOf false t344 x9_2) := ⟨_, rfl⟩
     replace H : (if bq23 = true then (if x7_2.length < 17592186044416 then (spec_Reached.l0 k2 (x7_2 ++ [x9_2]) t344 (wrap64 (x9_2 + 1)) a0_0 l0_1) else (none)) else (spec_Reached.l0 k2 x7_2 t344 (wrap64 (x9_2 + 1)) a0_0 l0_1)) = some r := by rw [← hbq23] at H; exact H
     have Nbq23 := Aside0.mk hbq23
     clear hbq23
     by_cases c24 : bq23 = true
     rotate_left
     ·
      replace c24 := Bool.eq_false_iff.mpr c24
      subst c24
      have H1 : (spec_Reached.l0 k2 x7_2 t344 (wrap64 (x9_2 + 1)) a0_0 l0_1) = some r := by rw [if_neg (show ¬ (false = true) by decide)] at H; exact H
      clear H
      have H := H1
      clear H1
      have H' := Aside0.mk H
      clear H
      have hcz29_0 : wr.cell? ⟨gb338, 0, none⟩ = some (.int .i64 a0_0) := (blk_cell BK338.out 0).trans rfl
      have hcz29_1 : wr.cell? ⟨gb338, 1, none⟩ = some (.slice A0_1 l0_1.length c0_1) := (blk_cell BK338.out 1).trans rfl
      have hfz29_0 := blk_frozen BK338.out 0
      have hfz29_1 := blk_frozen BK338.out 1
      obtain ⟨Ao30, co30, eo30⟩ := Kd.R_slice HO_8.out
      subst eo30
      have p347 : 0 ≤ (x9_2 : Int) := oD
      have q347 : x9_2 < (t344.length : Int) := oD
      obtain ⟨ad347, e347, hx347_0⟩ := Kd.at_bool (Kd.R_reads' HO_8.out).2.2 x9_2 p347 q347
      (try rw [← Nbq23.out] at hx347_0)
      cases e347
      replace p347 := eq_true p347
      replace q347 := eq_true q347
      go_wp2
      go_roundg k2
      case measure => have := HJ3.out; have := HK2.out; omega
      case rel => exact ⟨(x7_2), (wrap64 (x9_2 + 1)), fS, H', ⟨by have := HJ3.out; have := HK2.out; omega⟩, ⟨gR (HO_7.out)⟩, ⟨gR (HO_8.out)⟩, ⟨gB (BK338.out)⟩, ⟨bl1 HB GE338⟩⟩
     subst c24
     have H1 : (if x7_2.length < 17592186044416 then (spec_Reached.l0 k2 (x7_2 ++ [x9_2]) t344 (wrap64 (x9_2 + 1)) a0_0 l0_1) else (none)) = some r := by rw [if_pos rfl] at H; exact H
     clear H
     have H := H1
     clear H1
     by_cases c25 : x7_2.length < 17592186044416
     rotate_left
     ·
      rw [if_neg c25] at H
      exact absurd H (by simp)
     rw [if_pos c25] at H
     have LMc25 := Aside0.mk c25
     clear c25
     obtain ⟨y348, hy348⟩ : ∃ y_ : List Int, y_ = (x7_2 ++ [x9_2]) := ⟨_, rfl⟩
     replace H : (spec_Reached.l0 k2 y348 t344 (wrap64 (x9_2 + 1)) a0_0 l0_1) = some r := by first | (rw [hy348]; with_reducible exact H) | (have H2_ := (Option.bind_some _ _).symm.trans H; rw [hy348]; with_reducible exact H2_) | (have H2_ := (Option.bind_some _ _).symm.trans H; with_reducible exact H2_) | with_reducible exact H | (rw [hy348]; exact H) | exact H
     have Ny348 := Aside0.mk hy348
     clear hy348
     have H' := Aside0.mk H
     clear H
     have hcz26_0 : wr.cell? ⟨gb338, 0, none⟩ = some (.int .i64 a0_0) := (blk_cell BK338.out 0).trans rfl
     have hcz26_1 : wr.cell? ⟨gb338, 1, none⟩ = some (.slice A0_1 l0_1.length c0_1) := (blk_cell BK338.out 1).trans rfl
     have hfz26_0 := blk_frozen BK338.out 0
     have hfz26_1 := blk_frozen BK338.out 1
     obtain ⟨Ao27, co27, eo27⟩ := Kd.R_slice HO_8.out
     subst eo27
     have p347 : 0 ≤ (x9_2 : Int) := oD
     have q347 : x9_2 < (t344.length : Int) := oD
     obtain ⟨ad347, e347, hx347_0⟩ := Kd.at_bool (Kd.R_reads' HO_8.out).2.2 x9_2 p347 q347
     (try rw [← Nbq23.out] at hx347_0)
     cases e347
     replace p347 := eq_true p347
     replace q347 := eq_true q347
     go_wp2_with (first | ((with_reducible refine gate_builtin (b := .append) (xs := #[.tmp 38, .tmp 40]) rfl ?_); at_builtin; refine Kd.R_append (Kd.int .i64) (w0 := w) w.heap.size rfl (.tmp 38) (.tmp 40) 37 3 (.int .i64 0) 8 rfl Tryd.underlying37 info3 rfl (by decide) (by omega) u7 x7_2 x9_2 [.int .i64 x9_2] (fun _ => True) (fun _ => False) rfl rfl ?aP (fun _ hk => hk.elim) ?aF ?aO ?aB ?aS ?aL ?_; (case aP => exact rfl); (case aB => exact (bl1 HB GE338)); (case aF => exact (fun _ _ => trivial)); (case aO => exact (gR (HO_7.out))); (case aS => exact (below_size (bl1 HB GE338))); (case aL => have := LMc25.out; omega); intro v349 w28 ho hb hg hat; rw [← Ny348.out] at ho; have n0_ := aM (Kd.R_over' (gR (HO_8.out)) (Kd.R_typed (gR (HO_7.out))) (by decide) hg); have n1_ := aM (blk_grown (g := gb338) (o := .cells #[.int .i64 a0_0, .slice A0_1 l0_1.length c0_1] 25 (0, 0)) (gB (BK338.out)) hg (Kd.R_ne HO_7.out BK338.out (by decide))); have n2_ := aM (hb); have n3_ := aM (ho); clear HO_8; clear BK338; clear HB; clear HO_7; have HO_8 := n0_; have BK338 := n1_; have HB := n2_; have HO350 := n3_; clear n0_ n1_ n2_ n3_; clear ho hb hg hat))
     go_roundg k2
     case measure => have := HJ3.out; have := HK2.out; omega
     case rel => exact ⟨(y348), (wrap64 (x9_2 + 1)), fS, H', ⟨by have := HJ3.out; have := HK2.out; omega⟩, ⟨gR (HO350.out)⟩, ⟨gR (HO_8.out)⟩, ⟨gB (BK338.out)⟩, ⟨bl1 HB GE338⟩⟩

end Go.Proofs.YtpgjgbjkfgbpaaaDoor.P
namespace Go.Proofs.YtpgjgbjkfgbpaaaDoor.P
open Go.RowKit Go.Proofs.YtpgjgbjkfgbpaaaDoorW.PrintWords Go.Proofs.YtpgjgbjkfgbpaaaDoorW.PrintLast Go.Proofs.YtpgjgbjkfgbpaaaDoorW.PrintMore
attribute [local go_sem] max2_int min2_int max_two min_two max_three min_three max_four min_four   -- for this text's walks alone
set_option linter.unusedVariables false
set_option linter.unusedSimpArgs false

/-! ### spec_IslandFeed: function 16 -/
mutual
def spec_IslandFeed.j0 : Nat → List Bool → List (S33) → Int → Bool → Int → List (S79) → Option (Int)
 | 0, _, _, _, _, _, _ => none
 | k + 1, x1, x2, x3, x24, x352000, x352001 => if x24 = true then (some (-1)) else ((spec_Reached.f k x352000 x352001 x1 x3).bind fun t354 => (spec_IslandFeed.l0 k x2 0 t354 0))
def spec_IslandFeed.l0 : Nat → List (S33) → Int → List Int → Int → Option (Int)
 | 0, _, _, _, _ => none
 | k + 1, x2, x9, x10, x11 => if x11 < (x10.length : Int) then (if 0 ≤ x11 then (if 0 ≤ (rd x10 x11) then (if (rd x10 x11) < (x2.length : Int) then (spec_IslandFeed.l0 k x2 (wrap64 (x9 + ((rd_T33 x2 (rd x10 x11)).f0))) x10 (wrap64 (x11 + 1))) else (none)) else (none)) else (none)) else (some x9)
end
def spec_IslandFeed.f (k : Nat) (a0_0 : Int) (l0_1 : List (S79)) (l1 : List Bool) (l2 : List (S33)) (a3 : Int) : Option (Int) := (spec_l5Ok.f k a0_0 l0_1 l1 l2).bind fun t352 => (if t352 = true then ((spec_l1In.f a3 0 (wrap64 (a0_0 - 1))).bind fun t353 => (spec_IslandFeed.j0 k l1 l2 a3 (!t353) a0_0 l0_1)) else (spec_IslandFeed.j0 k l1 l2 a3 true a0_0 l0_1))
theorem spec_IslandFeed.mono_l : ∀ k, (∀ y0 y1 y2 y3 y4 y5, LeO (spec_IslandFeed.j0 k y0 y1 y2 y3 y4 y5) (spec_IslandFeed.j0 (k + 1) y0 y1 y2 y3 y4 y5)) ∧ (∀ y0 y1 y2 y3, LeO (spec_IslandFeed.l0 k y0 y1 y2 y3) (spec_IslandFeed.l0 (k + 1) y0 y1 y2 y3))
 | 0 => ⟨fun _ _ _ _ _ _ r h => by simp [spec_IslandFeed.j0] at h, fun _ _ _ _ r h => by simp [spec_IslandFeed.l0] at h⟩
 | k + 1 => by
  obtain ⟨ih0, ih1⟩ := spec_IslandFeed.mono_l k
  refine ⟨?_, ?_⟩
  ·
   intro y0 y1 y2 y3 y4 y5
   unfold spec_IslandFeed.j0
   repeat' first
   | (with_reducible exact ih0 _ _ _ _ _ _)
   | (with_reducible exact ih1 _ _ _ _)
   | (with_reducible exact spec_Reached.mono _ _ _ _ _)
   | (with_reducible exact spec_l5Ok.mono _ _ _ _ _)
   | (with_reducible exact LeO.refl _)
   | (with_reducible exact LeO.none _)
   | (with_reducible refine LeO.ite ?_ ?_)
   | (with_reducible refine LeO.bind ?_ (fun _ => ?_))
   | exact ih0 _ _ _ _ _ _
   | exact ih1 _ _ _ _
   | exact spec_Reached.mono _ _ _ _ _
   | exact spec_l5Ok.mono _ _ _ _ _
   | exact LeO.none _
   | refine LeO.ite ?_ ?_
   | refine LeO.bind ?_ (fun _ => ?_)
  ·
   intro y0 y1 y2 y3
   unfold spec_IslandFeed.l0
   repeat' first
   | (with_reducible exact ih0 _ _ _ _ _ _)
   | (with_reducible exact ih1 _ _ _ _)
   | (with_reducible exact spec_Reached.mono _ _ _ _ _)
   | (with_reducible exact spec_l5Ok.mono _ _ _ _ _)
   | (with_reducible exact LeO.refl _)
   | (with_reducible exact LeO.none _)
   | (with_reducible refine LeO.ite ?_ ?_)
   | (with_reducible refine LeO.bind ?_ (fun _ => ?_))
   | exact ih0 _ _ _ _ _ _
   | exact ih1 _ _ _ _
   | exact spec_Reached.mono _ _ _ _ _
   | exact spec_l5Ok.mono _ _ _ _ _
   | exact LeO.none _
   | refine LeO.ite ?_ ?_
   | refine LeO.bind ?_ (fun _ => ?_)
theorem spec_IslandFeed.mono : ∀ a0 a1 a2 a3 a4 k, LeO (spec_IslandFeed.f k a0 a1 a2 a3 a4) (spec_IslandFeed.f (k + 1) a0 a1 a2 a3 a4) := by
 intro a0 a1 a2 a3 a4 k
 obtain ⟨ih0, ih1⟩ := spec_IslandFeed.mono_l k
 unfold spec_IslandFeed.f
 repeat' first
   | (with_reducible exact ih0 _ _ _ _ _ _)
   | (with_reducible exact ih1 _ _ _ _)
   | (with_reducible exact spec_Reached.mono _ _ _ _ _)
   | (with_reducible exact spec_l5Ok.mono _ _ _ _ _)
   | (with_reducible exact LeO.refl _)
   | (with_reducible exact LeO.none _)
   | (with_reducible refine LeO.ite ?_ ?_)
   | (with_reducible refine LeO.bind ?_ (fun _ => ?_))
   | exact ih0 _ _ _ _ _ _
   | exact ih1 _ _ _ _
   | exact spec_Reached.mono _ _ _ _ _
   | exact spec_l5Ok.mono _ _ _ _ _
   | exact LeO.none _
   | refine LeO.ite ?_ ?_
   | refine LeO.bind ?_ (fun _ => ?_)
set_option maxHeartbeats 8000000 in
set_option maxRecDepth 100000 in
theorem spec_IslandFeed.calls (k : Nat) (a0_0 : Int) (A0_1 : Option Addr) (c0_1 : Nat) (l0_1 : List (S79)) (A1 : Option Addr) (c1 : Nat) (l1 : List Bool) (A2 : Option Addr) (c2 : Nat) (l2 : List (S33)) (a3 : Int) (r : Int) (w : World) (hr0_1 : Kd.C k79 w A0_1 l0_1.length l0_1) (hc0_1 : l0_1.length ≤ c0_1) (hr1 : Kd.C Kd.bool w A1 l1.length l1) (hc1 : l1.length ≤ c1) (hr2 : Kd.C k33 w A2 l2.length l2) (hc2 : l2.length ≤ c2) (h : spec_IslandFeed.f k a0_0 l0_1 l1 l2 a3 = some r) :
  Calls Tryd.prog 16 #[.agg #[.int .i64 a0_0, .slice A0_1 l0_1.length c0_1], .slice A1 l1.length c1, .slice A2 l2.length c2, .int .i64 a3] w fun e w' => e = .returned (.int .i64 r) ∧ Below w.heap.size w w' := by
 have hu25 := Tryd.underlying25
 have HR0_1 := Aside0.mk hr0_1
 have HC0_1 := Aside0.mk hc0_1
 clear hr0_1 hc0_1
 have HR1 := Aside0.mk hr1
 have HC1 := Aside0.mk hc1
 clear hr1 hc1
 have HR2 := Aside0.mk hr2
 have HC2 := Aside0.mk hc2
 clear hr2 hc2
 have HB := aM (Below.refl w.heap.size w)
 have H : ((spec_l5Ok.f k a0_0 l0_1 l1 l2).bind fun t352 => (if t352 = true then ((spec_l1In.f a3 0 (wrap64 (a0_0 - 1))).bind fun t353 => (spec_IslandFeed.j0 k l1 l2 a3 (!t353) a0_0 l0_1)) else (spec_IslandFeed.j0 k l1 l2 a3 true a0_0 l0_1))) = some r := h
 clear h
 have HC5 := Aside0.mk H
 clear H
 go_enter Tryd.func16, Tryd.ntmps16
 go_upto_region 1 with (first | ((with_reducible refine gate_dst (N := 4) rfl ?_); refine box_event ?hg (N := 4) ?hd (cs := #[.int .i64 a0_0, .slice A0_1 l0_1.length c0_1]) (t := 25) ?hr ?_; (case hd => rfl); (case hg => rfl); (case hr => exact hR); intro gb351 hg w6 hbox hb; have n0_ := aM (below_step (bl0 HB) hb); have n1_ := aM (hbox); have n2_ := aM ((by rw [hg]; exact (below_size (bl0 HB)) : w.heap.size ≤ gb351)); have n3_ := aM ((by rw [hg]; exact (below_size (bl0 HB)) : w.heap.size ≤ gb351)); clear HB; have HB := n0_; have BK351 := n1_; have GW351 := n2_; have GE351 := n3_; clear n0_ n1_ n2_ n3_; clear hb hbox hg))
 (try simp only [Act.put, List.setIfInBounds_toArray, List.set_cons_zero, List.set_cons_succ])
 go_cut [24] (fun v24 wc => ∃ (kq : Nat) (x24_4 : Bool), v24 = .bool x24_4 ∧ Aside0 (spec_IslandFeed.j0 kq l1 l2 a3 x24_4 a0_0 l0_1 = some r) ∧ Aside0 (kq ≤ k) ∧ Aside0 (wc.heap[gb351]? = some (.cells #[.int .i64 a0_0, (.slice A0_1 l0_1.length c0_1)] 25 (0, 0))) ∧ Aside0 (Below w.heap.size w wc))
 case first =>
  have H := HC5.out
  clear HC5
  replace H := Option.bind_eq_some_iff.mp H
  obtain ⟨t352, A70, H⟩ := H
  replace H : (if t352 = true then ((spec_l1In.f a3 0 (wrap64 (a0_0 - 1))).bind fun t353 => (spec_IslandFeed.j0 k l1 l2 a3 (!t353) a0_0 l0_1)) else (spec_IslandFeed.j0 k l1 l2 a3 true a0_0 l0_1)) = some r := H
  have A7 := Aside0.mk A70
  clear A70
  by_cases c8 : t352 = true
  rotate_left
  ·
   replace c8 := Bool.eq_false_iff.mpr c8
   subst c8
   have H1 : (spec_IslandFeed.j0 k l1 l2 a3 true a0_0 l0_1) = some r := by rw [if_neg (show ¬ (false = true) by decide)] at H; exact H
   clear H
   have H := H1
   clear H1
   have H' := Aside0.mk H
   clear H
   have hcz13_0 : w6.cell? ⟨gb351, 0, none⟩ = some (.int .i64 a0_0) := (blk_cell BK351.out 0).trans rfl
   have hcz13_1 : w6.cell? ⟨gb351, 1, none⟩ = some (.slice A0_1 l0_1.length c0_1) := (blk_cell BK351.out 1).trans rfl
   have hfz13_0 := blk_frozen BK351.out 0
   have hfz13_1 := blk_frozen BK351.out 1
   go_wp2_with (first | ((with_reducible refine gate_callee (f := 74) rfl ?_); refine goesL_ (some 15) rfl rfl Tryd.func74 (by kernel_rfl) rfl #[.agg #[.int .i64 a0_0, .slice A0_1 l0_1.length c0_1], .slice A1 l1.length c1, .slice A2 l2.length c2] rfl mP ?_; (with_reducible refine (spec_l5Ok.calls k a0_0 _ _ l0_1 _ _ l1 _ _ l2 false _ ?side1 ?side2 ?side3 ?side4 ?side5 ?side6 A7.out).mono ?_); (case side1 => exact gC ((Kd.C_below HR0_1.out HB.out))); (case side2 => exact HC0_1.out); (case side3 => exact gC ((Kd.C_below HR1.out HB.out))); (case side4 => exact HC1.out); (case side5 => exact gC ((Kd.C_below HR2.out HB.out))); (case side6 => exact HC2.out); rintro e w14 ⟨rfl, hb⟩; refine ⟨_, rfl, ?_⟩; have n0_ := aM (blk_below (g := gb351) (o := .cells #[.int .i64 a0_0, .slice A0_1 l0_1.length c0_1] 25 (0, 0)) (gB (BK351.out)) hb); have n1_ := aM (below_step (bl1 HB GE351) hb); clear BK351; clear HB; have BK351 := n0_; have HB := n1_; clear n0_ n1_; (try clear hb); (try clear hb2); (try clear hk); (try clear hi)))
   go_meet
   case rel => exact ⟨_, (true), fS, H', ⟨by first | omega | exact Nat.le_refl _⟩, ⟨gB (BK351.out)⟩, ⟨bl1 HB GE351⟩⟩
  subst c8
  have H1 : ((spec_l1In.f a3 0 (wrap64 (a0_0 - 1))).bind fun t353 => (spec_IslandFeed.j0 k l1 l2 a3 (!t353) a0_0 l0_1)) = some r := by rw [if_pos rfl] at H; exact H
  clear H
  have H := H1
  clear H1
  replace H := Option.bind_eq_some_iff.mp H
  obtain ⟨t353, A90, H⟩ := H
  replace H : (spec_IslandFeed.j0 k l1 l2 a3 (!t353) a0_0 l0_1) = some r := H
  have A9 := Aside0.mk A90
  clear A90
  have H' := Aside0.mk H
  clear H
  have hcz10_0 : w6.cell? ⟨gb351, 0, none⟩ = some (.int .i64 a0_0) := (blk_cell BK351.out 0).trans rfl
  have hcz10_1 : w6.cell? ⟨gb351, 1, none⟩ = some (.slice A0_1 l0_1.length c0_1) := (blk_cell BK351.out 1).trans rfl
  have hfz10_0 := blk_frozen BK351.out 0
  have hfz10_1 := blk_frozen BK351.out 1
  go_wp2_with (first | ((with_reducible refine gate_callee (f := 74) rfl ?_); refine goesL_ (some 15) rfl rfl Tryd.func74 (by kernel_rfl) rfl #[.agg #[.int .i64 a0_0, .slice A0_1 l0_1.length c0_1], .slice A1 l1.length c1, .slice A2 l2.length c2] rfl mP ?_; (with_reducible refine (spec_l5Ok.calls k a0_0 _ _ l0_1 _ _ l1 _ _ l2 true _ ?side1 ?side2 ?side3 ?side4 ?side5 ?side6 A7.out).mono ?_); (case side1 => exact gC ((Kd.C_below HR0_1.out HB.out))); (case side2 => exact HC0_1.out); (case side3 => exact gC ((Kd.C_below HR1.out HB.out))); (case side4 => exact HC1.out); (case side5 => exact gC ((Kd.C_below HR2.out HB.out))); (case side6 => exact HC2.out); rintro e w11 ⟨rfl, hb⟩; refine ⟨_, rfl, ?_⟩; have n0_ := aM (blk_below (g := gb351) (o := .cells #[.int .i64 a0_0, .slice A0_1 l0_1.length c0_1] 25 (0, 0)) (gB (BK351.out)) hb); have n1_ := aM (below_step (bl1 HB GE351) hb); clear BK351; clear HB; have BK351 := n0_; have HB := n1_; clear n0_ n1_; (try clear hb); (try clear hb2); (try clear hk); (try clear hi); have hcz12_0 : w11.cell? ⟨gb351, 0, none⟩ = some (.int .i64 a0_0) := (blk_cell BK351.out 0).trans rfl; have hcz12_1 : w11.cell? ⟨gb351, 1, none⟩ = some (.slice A0_1 l0_1.length c0_1) := (blk_cell BK351.out 1).trans rfl; have hfz12_0 := blk_frozen BK351.out 0; have hfz12_1 := blk_frozen BK351.out 1) | (go_at_call 75; (with_reducible refine (spec_l1In.calls a3 0 (wrap64 (a0_0 - 1)) t353 _ A9.out).mono ?_); rintro e w' ⟨rfl, ⟨nd, rfl⟩⟩))
  go_meet
  case rel => exact ⟨_, (!t353), fS, H', ⟨by first | omega | exact Nat.le_refl _⟩, ⟨gB (BK351.out)⟩, ⟨bl1 HB GE351⟩⟩
 case rest =>
  clear HC5
  try clear c1
  try clear c2
  try clear p2
  try clear p6
  try clear c7
  try clear c8
  try clear hcz10_0
  try clear hcz10_1
  try clear hcz12_0
  try clear hcz12_1
  try clear hcz13_0
  try clear hcz13_1
  try clear hfz10_0
  try clear hfz10_1
  try clear hfz12_0
  try clear hfz12_1
  try clear hfz13_0
  try clear hfz13_1
  obtain ⟨kq, x24_4, rfl, HA, HJ4, BK351, HB⟩ := hcut
  cases kq with
  | zero => exact absurd HA.out (by simp [spec_IslandFeed.j0])
  | succ kj4 =>
   have H := HA.out
   clear HA
   simp only [spec_IslandFeed.j0] at H
   by_cases c15 : x24_4 = true
   ·
    subst c15
    have H1 : (some (-1)) = some r := by rw [if_pos rfl] at H; exact H
    clear H
    have H := H1
    clear H1
    obtain rfl := Option.some.inj H
    go_wp2
    go_ret
    exact ⟨fR, bl1 HB GE351⟩
   replace c15 := Bool.eq_false_iff.mpr c15
   subst c15
   have H1 : ((spec_Reached.f kj4 a0_0 l0_1 l1 a3).bind fun t354 => (spec_IslandFeed.l0 kj4 l2 0 t354 0)) = some r := by rw [if_neg (show ¬ (false = true) by decide)] at H; exact H
   clear H
   have H := H1
   clear H1
   replace H := Option.bind_eq_some_iff.mp H
   obtain ⟨t354, A160, H⟩ := H
   replace H : (spec_IslandFeed.l0 kj4 l2 0 t354 0) = some r := H
   have A16 := Aside0.mk A160
   clear A160
   have H' := Aside0.mk H
   clear H
   have hcz17_0 : wc.cell? ⟨gb351, 0, none⟩ = some (.int .i64 a0_0) := (blk_cell BK351.out 0).trans rfl
   have hcz17_1 : wc.cell? ⟨gb351, 1, none⟩ = some (.slice A0_1 l0_1.length c0_1) := (blk_cell BK351.out 1).trans rfl
   have hfz17_0 := blk_frozen BK351.out 0
   have hfz17_1 := blk_frozen BK351.out 1
   go_wp2_with (first | ((with_reducible refine gate_callee (f := 76) rfl ?_); refine goesL_ (some 28) rfl rfl Tryd.func76 (by kernel_rfl) rfl #[.agg #[.int .i64 a0_0, .slice A0_1 l0_1.length c0_1], .slice A1 l1.length c1, .int .i64 a3] rfl mP ?_; (with_reducible refine (spec_Reached.calls kj4 a0_0 _ _ l0_1 _ _ l1 a3 t354 _ ?side1 ?side2 ?side3 ?side4 A16.out).mono ?_); (case side1 => exact gC ((Kd.C_below HR0_1.out HB.out))); (case side2 => exact HC0_1.out); (case side3 => exact gC ((Kd.C_below HR1.out HB.out))); (case side4 => exact HC1.out); rintro e w18 ⟨v355, rfl, ho0, hb⟩; refine ⟨_, rfl, ?_⟩; have n0_ := aM (Kd.R_lower ho0 (below_size (bl1 HB GE351))); have n1_ := aM (blk_below (g := gb351) (o := .cells #[.int .i64 a0_0, .slice A0_1 l0_1.length c0_1] 25 (0, 0)) (gB (BK351.out)) hb); have n2_ := aM (below_step (bl1 HB GE351) hb); clear BK351; clear HB; have HO356 := n0_; have BK351 := n1_; have HB := n2_; clear n0_ n1_ n2_; (try clear hb); (try clear hb2); (try clear hk); (try clear hi); (try clear ho0)))
   go_loopg [9, 11] kj4 (fun kq v9 v11 w' => ∃ (x9_2 : Int) (x11_2 : Int), v9 = .int .i64 x9_2 ∧ v11 = .int .i64 x11_2 ∧ Aside0 (spec_IslandFeed.l0 kq l2 x9_2 t354 x11_2 = some r) ∧ Aside0 (kq ≤ kj4) ∧ Aside0 (Kd.R (Kd.int .i64) 3 w' w.heap.size (fun _ => True) v355 t354) ∧ Aside0 (w'.heap[gb351]? = some (.cells #[.int .i64 a0_0, (.slice A0_1 l0_1.length c0_1)] 25 (0, 0))) ∧ Aside0 (Below w.heap.size w w'))
   case atStart => exact ⟨(0), (0), fS, fS, H', ⟨Nat.le_refl _⟩, ⟨gR (HO356.out)⟩, ⟨gB (BK351.out)⟩, ⟨bl1 HB GE351⟩⟩
   case round =>
    clear H'
    try clear c1
    try clear c2
    try clear p2
    try clear p6
    try clear c7
    try clear c8
    try clear c15
    try clear c16
    try clear hcz10_0
    try clear hcz10_1
    try clear hcz12_0
    try clear hcz12_1
    try clear hcz13_0
    try clear hcz13_1
    try clear hcz17_0
    try clear hcz17_1
    try clear hfz10_0
    try clear hfz10_1
    try clear hfz12_0
    try clear hfz12_1
    try clear hfz13_0
    try clear hfz13_1
    try clear hfz17_0
    try clear hfz17_1
    try clear p2
    try clear p6
    obtain ⟨x9_2, x11_2, rfl, rfl, HA, HK2, HO_10, BK351, HB⟩ := hrel
    cases gk with
    | zero => exact absurd HA.out (by simp [spec_IslandFeed.l0])
    | succ k2 =>
     have H := HA.out
     clear HA
     simp only [spec_IslandFeed.l0] at H
     by_cases c19 : x11_2 < (t354.length : Int)
     rotate_left
     ·
      rw [if_neg c19] at H
      have c19b0 : decide (x11_2 < (t354.length : Int)) = false := decide_eq_false c19
      clear c19
      obtain rfl := Option.some.inj H
      obtain ⟨Ao24, co24, eo24⟩ := Kd.R_slice HO_10.out
      subst eo24
      go_wp2
      go_ret
      exact ⟨fR, bl1 HB GE351⟩
     rw [if_pos c19] at H
     have c19b0 : decide (x11_2 < (t354.length : Int)) = true := decide_eq_true c19
     clear c19
     by_cases c20 : 0 ≤ x11_2
     rotate_left
     ·
      rw [if_neg c20] at H
      exact absurd H (by simp)
     rw [if_pos c20] at H
     have c20b0 : decide (0 ≤ x11_2) = true := decide_eq_true c20
     clear c20
     by_cases c21 : 0 ≤ (rd t354 x11_2)
     rotate_left
     ·
      rw [if_neg c21] at H
      exact absurd H (by simp)
     rw [if_pos c21] at H
     have c21b0 : decide (0 ≤ (rd t354 x11_2)) = true := decide_eq_true c21
     clear c21
     by_cases c22 : (rd t354 x11_2) < (l2.length : Int)
     rotate_left
     ·
      rw [if_neg c22] at H
      exact absurd H (by simp)
     rw [if_pos c22] at H
     have c22b0 : decide ((rd t354 x11_2) < (l2.length : Int)) = true := decide_eq_true c22
     clear c22
     have H' := Aside0.mk H
     clear H
     obtain ⟨Ao23, co23, eo23⟩ := Kd.R_slice HO_10.out
     subst eo23
     have p357 : 0 ≤ (x11_2 : Int) := oD
     have q357 : x11_2 < (t354.length : Int) := oD
     obtain ⟨ad357, e357, hx357_0⟩ := Kd.at_int (Kd.R_reads' HO_10.out).2.2 x11_2 p357 q357
     cases e357
     replace p357 := eq_true p357
     replace q357 := eq_true q357
     have p358 : 0 ≤ ((rd t354 x11_2) : Int) := oD
     have q358 : (rd t354 x11_2) < (l2.length : Int) := oD
     obtain ⟨ad358, e358, hx358_0, hx358_1⟩ := at_T33 HR2.out (rd t354 x11_2) p358 q358
     cases e358
     replace hx358_0 := (HB.out.cell (World.block_lt_of_cell? w _ hx358_0)).trans hx358_0
     replace hx358_1 := (HB.out.cell (World.block_lt_of_cell? w _ hx358_1)).trans hx358_1
     replace p358 := eq_true p358
     replace q358 := eq_true q358
     go_wp2
     go_roundg k2
     case measure => have := HJ4.out; have := HK2.out; omega
     case rel => exact ⟨(wrap64 (x9_2 + ((rd_T33 l2 (rd t354 x11_2)).f0))), (wrap64 (x11_2 + 1)), fS, fS, H', ⟨by have := HJ4.out; have := HK2.out; omega⟩, ⟨gR (HO_10.out)⟩, ⟨gB (BK351.out)⟩, ⟨bl1 HB GE351⟩⟩

end Go.Proofs.YtpgjgbjkfgbpaaaDoor.P

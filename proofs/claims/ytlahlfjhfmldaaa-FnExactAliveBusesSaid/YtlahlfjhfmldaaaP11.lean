/- Contracts of Go functions of this seat's translation, written by this repo's wip/mk.py: it calls the kit's print.py with contracts typed by hand in place of functions that it does not take. Not trusted: Lean checks it. -/
import Derived.Test.YtlahlfjhfmldaaaP0
import Derived.Test.YtlahlfjhfmldaaaP4
import Derived.Test.YtlahlfjhfmldaaaP8
import Derived.Test.YtlahlfjhfmldaaaP10
namespace Go.Proofs.Ytlahlfjhfmldaaa.P
open Go.RowKit Go.Proofs.YtlahlfjhfmldaaaW.PrintWords Go.Proofs.YtlahlfjhfmldaaaW.PrintLast Go.Proofs.YtlahlfjhfmldaaaW.PrintMore
attribute [local go_sem] max2_int min2_int max_two min_two max_three min_three max_four min_four   -- for this text's walks alone
set_option linter.unusedVariables false
set_option linter.unusedSimpArgs false

/-! ### spec_IslandFeed: function 28 -/
mutual
def spec_IslandFeed.j0 : Nat → List Bool → List (S53) → Int → Bool → Int → List (S77) → Option (Int)
 | 0, _, _, _, _, _, _ => none
 | k + 1, x1, x2, x3, x24, x149000, x149001 => if x24 = true then (some (-1)) else ((spec_Reached.f k x149000 x149001 x1 x3).bind fun t151 => (spec_IslandFeed.l0 k x2 0 t151 0))
def spec_IslandFeed.l0 : Nat → List (S53) → Int → List Int → Int → Option (Int)
 | 0, _, _, _, _ => none
 | k + 1, x2, x9, x10, x11 => if x11 < (x10.length : Int) then (if 0 ≤ x11 then (if 0 ≤ (rd x10 x11) then (if (rd x10 x11) < (x2.length : Int) then (spec_IslandFeed.l0 k x2 (wrap64 (x9 + ((rd_T53 x2 (rd x10 x11)).f0))) x10 (wrap64 (x11 + 1))) else (none)) else (none)) else (none)) else (some x9)
end
def spec_IslandFeed.f (k : Nat) (a0_0 : Int) (l0_1 : List (S77)) (l1 : List Bool) (l2 : List (S53)) (a3 : Int) : Option (Int) := (spec_l5Ok.f k a0_0 l0_1 l1 l2).bind fun t149 => (if t149 = true then ((spec_l1In.f a3 0 (wrap64 (a0_0 - 1))).bind fun t150 => (spec_IslandFeed.j0 k l1 l2 a3 (!t150) a0_0 l0_1)) else (spec_IslandFeed.j0 k l1 l2 a3 true a0_0 l0_1))
theorem spec_IslandFeed.mono_l : ∀ k, (∀ y0 y1 y2 y3 y4 y5, LeO (spec_IslandFeed.j0 k y0 y1 y2 y3 y4 y5) (spec_IslandFeed.j0 (k + 1) y0 y1 y2 y3 y4 y5)) ∧ (∀ y0 y1 y2 y3, LeO (spec_IslandFeed.l0 k y0 y1 y2 y3) (spec_IslandFeed.l0 (k + 1) y0 y1 y2 y3))
 | 0 => ⟨fun _ _ _ _ _ _ r h => by simp [spec_IslandFeed.j0] at h, fun _ _ _ _ r h => by simp [spec_IslandFeed.l0] at h⟩
 | k + 1 => by
  obtain ⟨ih0, ih1⟩ := spec_IslandFeed.mono_l k
  refine ⟨?_, ?_⟩
  ·
   intro y0 y1 y2 y3 y4 y5
   unfold spec_IslandFeed.j0
   repeat' first
   | (with_reducible exact ih0 _ _ _ _ _ _)
   | (with_reducible exact ih1 _ _ _ _)
   | (with_reducible exact spec_Reached.mono _ _ _ _ _)
   | (with_reducible exact spec_l5Ok.mono _ _ _ _ _)
   | (with_reducible exact LeO.refl _)
   | (with_reducible exact LeO.none _)
   | (with_reducible refine LeO.ite ?_ ?_)
   | (with_reducible refine LeO.bind ?_ (fun _ => ?_))
   | exact ih0 _ _ _ _ _ _
   | exact ih1 _ _ _ _
   | exact spec_Reached.mono _ _ _ _ _
   | exact spec_l5Ok.mono _ _ _ _ _
   | exact LeO.none _
   | refine LeO.ite ?_ ?_
   | refine LeO.bind ?_ (fun _ => ?_)
  ·
   intro y0 y1 y2 y3
   unfold spec_IslandFeed.l0
   repeat' first
   | (with_reducible exact ih0 _ _ _ _ _ _)
   | (with_reducible exact ih1 _ _ _ _)
   | (with_reducible exact spec_Reached.mono _ _ _ _ _)
   | (with_reducible exact spec_l5Ok.mono _ _ _ _ _)
   | (with_reducible exact LeO.refl _)
   | (with_reducible exact LeO.none _)
   | (with_reducible refine LeO.ite ?_ ?_)
   | (with_reducible refine LeO.bind ?_ (fun _ => ?_))
   | exact ih0 _ _ _ _ _ _
   | exact ih1 _ _ _ _
   | exact spec_Reached.mono _ _ _ _ _
   | exact spec_l5Ok.mono _ _ _ _ _
   | exact LeO.none _
   | refine LeO.ite ?_ ?_
   | refine LeO.bind ?_ (fun _ => ?_)
theorem spec_IslandFeed.mono : ∀ a0 a1 a2 a3 a4 k, LeO (spec_IslandFeed.f k a0 a1 a2 a3 a4) (spec_IslandFeed.f (k + 1) a0 a1 a2 a3 a4) := by
 intro a0 a1 a2 a3 a4 k
 obtain ⟨ih0, ih1⟩ := spec_IslandFeed.mono_l k
 unfold spec_IslandFeed.f
 repeat' first
   | (with_reducible exact ih0 _ _ _ _ _ _)
   | (with_reducible exact ih1 _ _ _ _)
   | (with_reducible exact spec_Reached.mono _ _ _ _ _)
   | (with_reducible exact spec_l5Ok.mono _ _ _ _ _)
   | (with_reducible exact LeO.refl _)
   | (with_reducible exact LeO.none _)
   | (with_reducible refine LeO.ite ?_ ?_)
   | (with_reducible refine LeO.bind ?_ (fun _ => ?_))
   | exact ih0 _ _ _ _ _ _
   | exact ih1 _ _ _ _
   | exact spec_Reached.mono _ _ _ _ _
   | exact spec_l5Ok.mono _ _ _ _ _
   | exact LeO.none _
   | refine LeO.ite ?_ ?_
   | refine LeO.bind ?_ (fun _ => ?_)
set_option maxHeartbeats 8000000 in
set_option maxRecDepth 100000 in
theorem spec_IslandFeed.calls (k : Nat) (a0_0 : Int) (A0_1 : Option Addr) (c0_1 : Nat) (l0_1 : List (S77)) (A1 : Option Addr) (c1 : Nat) (l1 : List Bool) (A2 : Option Addr) (c2 : Nat) (l2 : List (S53)) (a3 : Int) (r : Int) (w : World) (hr0_1 : Kd.C k77 w A0_1 l0_1.length l0_1) (hc0_1 : l0_1.length ≤ c0_1) (hr1 : Kd.C Kd.bool w A1 l1.length l1) (hc1 : l1.length ≤ c1) (hr2 : Kd.C k53 w A2 l2.length l2) (hc2 : l2.length ≤ c2) (h : spec_IslandFeed.f k a0_0 l0_1 l1 l2 a3 = some r) :
  Calls Try.prog 28 #[.agg #[.int .i64 a0_0, .slice A0_1 l0_1.length c0_1], .slice A1 l1.length c1, .slice A2 l2.length c2, .int .i64 a3] w fun e w' => e = .returned (.int .i64 r) ∧ Below w.heap.size w w' := by
 have hu33 := Try.underlying33
 have HR0_1 := Aside0.mk hr0_1
 have HC0_1 := Aside0.mk hc0_1
 clear hr0_1 hc0_1
 have HR1 := Aside0.mk hr1
 have HC1 := Aside0.mk hc1
 clear hr1 hc1
 have HR2 := Aside0.mk hr2
 have HC2 := Aside0.mk hc2
 clear hr2 hc2
 have HB := Aside0.mk (Below.refl w.heap.size w)
 have H : ((spec_l5Ok.f k a0_0 l0_1 l1 l2).bind fun t149 => (if t149 = true then ((spec_l1In.f a3 0 (wrap64 (a0_0 - 1))).bind fun t150 => (spec_IslandFeed.j0 k l1 l2 a3 (!t150) a0_0 l0_1)) else (spec_IslandFeed.j0 k l1 l2 a3 true a0_0 l0_1))) = some r := h
 clear h
 have HC5 := Aside0.mk H
 clear H
 go_enter Try.func28, Try.ntmps28
 go_upto_region 1 with (first | ((with_reducible refine gate_dst (N := 4) rfl ?_); refine box_event ?hg (N := 4) ?hd (cs := #[.int .i64 a0_0, .slice A0_1 l0_1.length c0_1]) (t := 33) ?hr ?_; (case hd => rfl); (case hg => rfl); (case hr => first | (go_simp; done) | (go_simp; rfl)); intro gb148 hg w6 hbox hb; have n0_ := Aside0.mk (below_step (by repeat (first | (with_reducible first | exact HB.out | apply below_alloc | apply pw_below_drewN | apply below_drew1) | exact HB.out)) hb); have n1_ := Aside0.mk (hbox); have n2_ := Aside0.mk ((by rw [hg]; exact (below_size (by repeat (first | (with_reducible first | exact HB.out | apply below_alloc | apply pw_below_drewN | apply below_drew1) | exact HB.out))) : w.heap.size ≤ gb148)); have n3_ := Aside0.mk ((by rw [hg]; exact (below_size (by repeat (first | (with_reducible first | exact HB.out | apply below_alloc | apply pw_below_drewN | apply below_drew1) | exact HB.out))) : w.heap.size ≤ gb148)); clear HB; have HB := n0_; have BK148 := n1_; have GW148 := n2_; have GE148 := n3_; clear n0_ n1_ n2_ n3_; clear hb hbox hg))
 (try simp only [Act.put, List.setIfInBounds_toArray, List.set_cons_zero, List.set_cons_succ])
 go_cut [24] (fun v24 wc => ∃ (kq : Nat) (x24_4 : Bool), v24 = .bool x24_4 ∧ Aside0 (spec_IslandFeed.j0 kq l1 l2 a3 x24_4 a0_0 l0_1 = some r) ∧ Aside0 (kq ≤ k) ∧ Aside0 (wc.heap[gb148]? = some (.cells #[.int .i64 a0_0, (.slice A0_1 l0_1.length c0_1)] 33 (0, 0))) ∧ Aside0 (Below w.heap.size w wc))
 case first =>
  have H := HC5.out
  clear HC5
  replace H := Option.bind_eq_some_iff.mp H
  obtain ⟨t149, A70, H⟩ := H
  replace H : (if t149 = true then ((spec_l1In.f a3 0 (wrap64 (a0_0 - 1))).bind fun t150 => (spec_IslandFeed.j0 k l1 l2 a3 (!t150) a0_0 l0_1)) else (spec_IslandFeed.j0 k l1 l2 a3 true a0_0 l0_1)) = some r := H
  have A7 := Aside0.mk A70
  clear A70
  by_cases c8 : t149 = true
  rotate_left
  ·
   replace c8 := Bool.eq_false_iff.mpr c8
   subst c8
   have H1 : (spec_IslandFeed.j0 k l1 l2 a3 true a0_0 l0_1) = some r := by rw [if_neg (show ¬ (false = true) by decide)] at H; exact H
   clear H
   have H := H1
   clear H1
   have H' := Aside0.mk H
   clear H
   have hcz13_0 : w6.cell? ⟨gb148, 0, none⟩ = some (.int .i64 a0_0) := (blk_cell BK148.out 0).trans rfl
   have hcz13_1 : w6.cell? ⟨gb148, 1, none⟩ = some (.slice A0_1 l0_1.length c0_1) := (blk_cell BK148.out 1).trans rfl
   have hfz13_0 := blk_frozen BK148.out 0
   have hfz13_1 := blk_frozen BK148.out 1
   go_wp2_with (first | ((with_reducible refine gate_callee (f := 27) rfl ?_); refine goesL_ (some 15) rfl rfl Try.func27 (by kernel_rfl) rfl #[.agg #[.int .i64 a0_0, .slice A0_1 l0_1.length c0_1], .slice A1 l1.length c1, .slice A2 l2.length c2] rfl (by (try simp only [List.map_toArray, List.map_cons, List.map_nil]); first | done | rfl | (simp only [List.length_drop, List.length_take]; rfl)) ?_; (with_reducible refine (spec_l5Ok.calls k a0_0 _ _ l0_1 _ _ l1 _ _ l2 false _ ?side1 ?side2 ?side3 ?side4 ?side5 ?side6 A7.out).mono ?_); (case side1 => repeat (first | exact (Kd.C_below HR0_1.out HB.out) | (with_reducible refine Kd.C_alloc ?_ _) | (with_reducible refine Kd.C_drewN ?_ _) | (with_reducible refine Kd.C_drew ?_))); (case side2 => exact HC0_1.out); (case side3 => repeat (first | exact (Kd.C_below HR1.out HB.out) | (with_reducible refine Kd.C_alloc ?_ _) | (with_reducible refine Kd.C_drewN ?_ _) | (with_reducible refine Kd.C_drew ?_))); (case side4 => exact HC1.out); (case side5 => repeat (first | exact (Kd.C_below HR2.out HB.out) | (with_reducible refine Kd.C_alloc ?_ _) | (with_reducible refine Kd.C_drewN ?_ _) | (with_reducible refine Kd.C_drew ?_))); (case side6 => exact HC2.out); rintro e w14 ⟨rfl, hb⟩; refine ⟨_, rfl, ?_⟩; have n0_ := Aside0.mk (blk_below (g := gb148) (o := .cells #[.int .i64 a0_0, .slice A0_1 l0_1.length c0_1] 33 (0, 0)) (by (with_reducible repeat (first | refine blk_drewN ?_ _ | refine blk_drew ?_ | refine blk_alloc ?_ _)); exact BK148.out) hb); have n1_ := Aside0.mk (below_step (by repeat (first | (with_reducible first | exact HB.out | apply below_alloc | apply pw_below_drewN | apply below_drew1 | refine below_set ?_ GE148.out) | exact HB.out)) hb); clear BK148; clear HB; have BK148 := n0_; have HB := n1_; clear n0_ n1_; (try clear hb); (try clear hb2); (try clear hk); (try clear hi)))
   go_meet
   case rel => exact ⟨_, (true), (by first | rfl | (simp; done) | (simp [*]; done)), H', ⟨by first | omega | exact Nat.le_refl _⟩, ⟨by (with_reducible repeat (first | refine blk_drewN ?_ _ | refine blk_drew ?_ | refine blk_alloc ?_ _)); exact BK148.out⟩, ⟨by repeat (first | (with_reducible first | exact HB.out | apply below_alloc | apply pw_below_drewN | apply below_drew1 | refine below_set ?_ GE148.out) | exact HB.out)⟩⟩
  subst c8
  have H1 : ((spec_l1In.f a3 0 (wrap64 (a0_0 - 1))).bind fun t150 => (spec_IslandFeed.j0 k l1 l2 a3 (!t150) a0_0 l0_1)) = some r := by rw [if_pos rfl] at H; exact H
  clear H
  have H := H1
  clear H1
  replace H := Option.bind_eq_some_iff.mp H
  obtain ⟨t150, A90, H⟩ := H
  replace H : (spec_IslandFeed.j0 k l1 l2 a3 (!t150) a0_0 l0_1) = some r := H
  have A9 := Aside0.mk A90
  clear A90
  have H' := Aside0.mk H
  clear H
  have hcz10_0 : w6.cell? ⟨gb148, 0, none⟩ = some (.int .i64 a0_0) := (blk_cell BK148.out 0).trans rfl
  have hcz10_1 : w6.cell? ⟨gb148, 1, none⟩ = some (.slice A0_1 l0_1.length c0_1) := (blk_cell BK148.out 1).trans rfl
  have hfz10_0 := blk_frozen BK148.out 0
  have hfz10_1 := blk_frozen BK148.out 1
  go_wp2_with (first | ((with_reducible refine gate_callee (f := 27) rfl ?_); refine goesL_ (some 15) rfl rfl Try.func27 (by kernel_rfl) rfl #[.agg #[.int .i64 a0_0, .slice A0_1 l0_1.length c0_1], .slice A1 l1.length c1, .slice A2 l2.length c2] rfl (by (try simp only [List.map_toArray, List.map_cons, List.map_nil]); first | done | rfl | (simp only [List.length_drop, List.length_take]; rfl)) ?_; (with_reducible refine (spec_l5Ok.calls k a0_0 _ _ l0_1 _ _ l1 _ _ l2 true _ ?side1 ?side2 ?side3 ?side4 ?side5 ?side6 A7.out).mono ?_); (case side1 => repeat (first | exact (Kd.C_below HR0_1.out HB.out) | (with_reducible refine Kd.C_alloc ?_ _) | (with_reducible refine Kd.C_drewN ?_ _) | (with_reducible refine Kd.C_drew ?_))); (case side2 => exact HC0_1.out); (case side3 => repeat (first | exact (Kd.C_below HR1.out HB.out) | (with_reducible refine Kd.C_alloc ?_ _) | (with_reducible refine Kd.C_drewN ?_ _) | (with_reducible refine Kd.C_drew ?_))); (case side4 => exact HC1.out); (case side5 => repeat (first | exact (Kd.C_below HR2.out HB.out) | (with_reducible refine Kd.C_alloc ?_ _) | (with_reducible refine Kd.C_drewN ?_ _) | (with_reducible refine Kd.C_drew ?_))); (case side6 => exact HC2.out); rintro e w11 ⟨rfl, hb⟩; refine ⟨_, rfl, ?_⟩; have n0_ := Aside0.mk (blk_below (g := gb148) (o := .cells #[.int .i64 a0_0, .slice A0_1 l0_1.length c0_1] 33 (0, 0)) (by (with_reducible repeat (first | refine blk_drewN ?_ _ | refine blk_drew ?_ | refine blk_alloc ?_ _)); exact BK148.out) hb); have n1_ := Aside0.mk (below_step (by repeat (first | (with_reducible first | exact HB.out | apply below_alloc | apply pw_below_drewN | apply below_drew1 | refine below_set ?_ GE148.out) | exact HB.out)) hb); clear BK148; clear HB; have BK148 := n0_; have HB := n1_; clear n0_ n1_; (try clear hb); (try clear hb2); (try clear hk); (try clear hi); have hcz12_0 : w11.cell? ⟨gb148, 0, none⟩ = some (.int .i64 a0_0) := (blk_cell BK148.out 0).trans rfl; have hcz12_1 : w11.cell? ⟨gb148, 1, none⟩ = some (.slice A0_1 l0_1.length c0_1) := (blk_cell BK148.out 1).trans rfl; have hfz12_0 := blk_frozen BK148.out 0; have hfz12_1 := blk_frozen BK148.out 1) | (go_at_call 45; (with_reducible refine (spec_l1In.calls a3 0 (wrap64 (a0_0 - 1)) t150 _ A9.out).mono ?_); rintro e w' ⟨rfl, ⟨nd, rfl⟩⟩))
  go_meet
  case rel => exact ⟨_, (!t150), (by first | rfl | (simp; done) | (simp [*]; done)), H', ⟨by first | omega | exact Nat.le_refl _⟩, ⟨by (with_reducible repeat (first | refine blk_drewN ?_ _ | refine blk_drew ?_ | refine blk_alloc ?_ _)); exact BK148.out⟩, ⟨by repeat (first | (with_reducible first | exact HB.out | apply below_alloc | apply pw_below_drewN | apply below_drew1 | refine below_set ?_ GE148.out) | exact HB.out)⟩⟩
 case rest =>
  clear HC5
  try clear c1
  try clear c2
  try clear p2
  try clear p6
  try clear c8
  try clear hcz10_0
  try clear hcz10_1
  try clear hcz12_0
  try clear hcz12_1
  try clear hcz13_0
  try clear hcz13_1
  try clear hfz10_0
  try clear hfz10_1
  try clear hfz12_0
  try clear hfz12_1
  try clear hfz13_0
  try clear hfz13_1
  obtain ⟨kq, x24_4, rfl, HA, HJ4, BK148, HB⟩ := hcut
  cases kq with
  | zero => exact absurd HA.out (by simp [spec_IslandFeed.j0])
  | succ kj4 =>
   have H := HA.out
   clear HA
   simp only [spec_IslandFeed.j0] at H
   by_cases c15 : x24_4 = true
   ·
    subst c15
    have H1 : (some (-1)) = some r := by rw [if_pos rfl] at H; exact H
    clear H
    have H := H1
    clear H1
    obtain rfl := Option.some.inj H
    go_wp2
    go_ret
    exact ⟨by first | rfl | (simp [errW_none, errW_some] <;> rfl) | (simp [*, errW_none, errW_some] <;> rfl), by repeat (first | (with_reducible first | exact HB.out | apply below_alloc | apply pw_below_drewN | apply below_drew1 | refine below_set ?_ GE148.out) | exact HB.out)⟩
   replace c15 := Bool.eq_false_iff.mpr c15
   subst c15
   have H1 : ((spec_Reached.f kj4 a0_0 l0_1 l1 a3).bind fun t151 => (spec_IslandFeed.l0 kj4 l2 0 t151 0)) = some r := by rw [if_neg (show ¬ (false = true) by decide)] at H; exact H
   clear H
   have H := H1
   clear H1
   replace H := Option.bind_eq_some_iff.mp H
   obtain ⟨t151, A160, H⟩ := H
   replace H : (spec_IslandFeed.l0 kj4 l2 0 t151 0) = some r := H
   have A16 := Aside0.mk A160
   clear A160
   have H' := Aside0.mk H
   clear H
   have hcz17_0 : wc.cell? ⟨gb148, 0, none⟩ = some (.int .i64 a0_0) := (blk_cell BK148.out 0).trans rfl
   have hcz17_1 : wc.cell? ⟨gb148, 1, none⟩ = some (.slice A0_1 l0_1.length c0_1) := (blk_cell BK148.out 1).trans rfl
   have hfz17_0 := blk_frozen BK148.out 0
   have hfz17_1 := blk_frozen BK148.out 1
   go_wp2_with (first | ((with_reducible refine gate_callee (f := 41) rfl ?_); refine goesL_ (some 28) rfl rfl Try.func41 (by kernel_rfl) rfl #[.agg #[.int .i64 a0_0, .slice A0_1 l0_1.length c0_1], .slice A1 l1.length c1, .int .i64 a3] rfl (by (try simp only [List.map_toArray, List.map_cons, List.map_nil]); first | done | rfl | (simp only [List.length_drop, List.length_take]; rfl)) ?_; (with_reducible refine (spec_Reached.calls kj4 a0_0 _ _ l0_1 _ _ l1 a3 t151 _ ?side1 ?side2 ?side3 ?side4 A16.out).mono ?_); (case side1 => repeat (first | exact (Kd.C_below HR0_1.out HB.out) | (with_reducible refine Kd.C_alloc ?_ _) | (with_reducible refine Kd.C_drewN ?_ _) | (with_reducible refine Kd.C_drew ?_))); (case side2 => exact HC0_1.out); (case side3 => repeat (first | exact (Kd.C_below HR1.out HB.out) | (with_reducible refine Kd.C_alloc ?_ _) | (with_reducible refine Kd.C_drewN ?_ _) | (with_reducible refine Kd.C_drew ?_))); (case side4 => exact HC1.out); rintro e w18 ⟨v152, rfl, ho0, hb⟩; refine ⟨_, rfl, ?_⟩; have n0_ := Aside0.mk (Kd.R_lower ho0 (below_size (by repeat (first | (with_reducible first | exact HB.out | apply below_alloc | apply pw_below_drewN | apply below_drew1 | refine below_set ?_ GE148.out) | exact HB.out)))); have n1_ := Aside0.mk (blk_below (g := gb148) (o := .cells #[.int .i64 a0_0, .slice A0_1 l0_1.length c0_1] 33 (0, 0)) (by (with_reducible repeat (first | refine blk_drewN ?_ _ | refine blk_drew ?_ | refine blk_alloc ?_ _)); exact BK148.out) hb); have n2_ := Aside0.mk (below_step (by repeat (first | (with_reducible first | exact HB.out | apply below_alloc | apply pw_below_drewN | apply below_drew1 | refine below_set ?_ GE148.out) | exact HB.out)) hb); clear BK148; clear HB; have HO153 := n0_; have BK148 := n1_; have HB := n2_; clear n0_ n1_ n2_; (try clear hb); (try clear hb2); (try clear hk); (try clear hi); (try clear ho0)))
   go_loopg [9, 11] kj4 (fun kq v9 v11 w' => ∃ (x9_2 : Int) (x11_2 : Int), v9 = .int .i64 x9_2 ∧ v11 = .int .i64 x11_2 ∧ Aside0 (spec_IslandFeed.l0 kq l2 x9_2 t151 x11_2 = some r) ∧ Aside0 (kq ≤ kj4) ∧ Aside0 (Kd.R (Kd.int .i64) 3 w' w.heap.size (fun _ => True) v152 t151) ∧ Aside0 (w'.heap[gb148]? = some (.cells #[.int .i64 a0_0, (.slice A0_1 l0_1.length c0_1)] 33 (0, 0))) ∧ Aside0 (Below w.heap.size w w'))
   case atStart => exact ⟨(0), (0), (by first | rfl | (simp; done) | (simp [*]; done)), (by first | rfl | (simp; done) | (simp [*]; done)), H', ⟨Nat.le_refl _⟩, ⟨by (with_reducible repeat (first | apply Kd.R_alloc | apply Kd.R_drewN | apply Kd.R_drew)); exact HO153.out⟩, ⟨by (with_reducible repeat (first | refine blk_drewN ?_ _ | refine blk_drew ?_ | refine blk_alloc ?_ _)); exact BK148.out⟩, ⟨by repeat (first | (with_reducible first | exact HB.out | apply below_alloc | apply pw_below_drewN | apply below_drew1 | refine below_set ?_ GE148.out) | exact HB.out)⟩⟩
   case round =>
    clear H'
    try clear c1
    try clear c2
    try clear p2
    try clear c4
    try clear p6
    try clear c8
    try clear c15
    try clear hcz10_0
    try clear hcz10_1
    try clear hcz12_0
    try clear hcz12_1
    try clear hcz13_0
    try clear hcz13_1
    try clear hcz17_0
    try clear hcz17_1
    try clear hfz10_0
    try clear hfz10_1
    try clear hfz12_0
    try clear hfz12_1
    try clear hfz13_0
    try clear hfz13_1
    try clear hfz17_0
    try clear hfz17_1
    try clear p2
    try clear p6
    obtain ⟨x9_2, x11_2, rfl, rfl, HA, HK2, HO_10, BK148, HB⟩ := hrel
    cases gk with
    | zero => exact absurd HA.out (by simp [spec_IslandFeed.l0])
    | succ k2 =>
     have H := HA.out
     clear HA
     simp only [spec_IslandFeed.l0] at H
     by_cases c19 : x11_2 < (t151.length : Int)
     rotate_left
     ·
      rw [if_neg c19] at H
      have c19b0 : decide (x11_2 < (t151.length : Int)) = false := decide_eq_false c19
      clear c19
      obtain rfl := Option.some.inj H
      obtain ⟨Ao24, co24, eo24⟩ := Kd.R_slice HO_10.out
      subst eo24
      go_wp2
      go_ret
      exact ⟨by first | rfl | (simp [errW_none, errW_some] <;> rfl) | (simp [*, errW_none, errW_some] <;> rfl), by repeat (first | (with_reducible first | exact HB.out | apply below_alloc | apply pw_below_drewN | apply below_drew1 | refine below_set ?_ GE148.out) | exact HB.out)⟩
     rw [if_pos c19] at H
     have c19b0 : decide (x11_2 < (t151.length : Int)) = true := decide_eq_true c19
     clear c19
     by_cases c20 : 0 ≤ x11_2
     rotate_left
     ·
      rw [if_neg c20] at H
      exact absurd H (by simp)
     rw [if_pos c20] at H
     have c20b0 : decide (0 ≤ x11_2) = true := decide_eq_true c20
     clear c20
     by_cases c21 : 0 ≤ (rd t151 x11_2)
     rotate_left
     ·
      rw [if_neg c21] at H
      exact absurd H (by simp)
     rw [if_pos c21] at H
     have c21b0 : decide (0 ≤ (rd t151 x11_2)) = true := decide_eq_true c21
     clear c21
     by_cases c22 : (rd t151 x11_2) < (l2.length : Int)
     rotate_left
     ·
      rw [if_neg c22] at H
      exact absurd H (by simp)
     rw [if_pos c22] at H
     have c22b0 : decide ((rd t151 x11_2) < (l2.length : Int)) = true := decide_eq_true c22
     clear c22
     have H' := Aside0.mk H
     clear H
     obtain ⟨Ao23, co23, eo23⟩ := Kd.R_slice HO_10.out
     subst eo23
     have p154 : 0 ≤ (x11_2 : Int) := of_decide_eq_true (by first | (with_reducible assumption) | assumption)
     have q154 : x11_2 < (t151.length : Int) := of_decide_eq_true (by first | (with_reducible assumption) | assumption)
     obtain ⟨ad154, e154, hx154_0⟩ := Kd.at_int (Kd.R_reads' HO_10.out).2.2 x11_2 p154 q154
     cases e154
     replace p154 := eq_true p154
     replace q154 := eq_true q154
     have p155 : 0 ≤ ((rd t151 x11_2) : Int) := of_decide_eq_true (by first | (with_reducible assumption) | assumption)
     have q155 : (rd t151 x11_2) < (l2.length : Int) := of_decide_eq_true (by first | (with_reducible assumption) | assumption)
     obtain ⟨ad155, e155, hx155_0, hx155_1⟩ := at_T53 HR2.out (rd t151 x11_2) p155 q155
     cases e155
     replace hx155_0 := (HB.out.cell (World.block_lt_of_cell? w _ hx155_0)).trans hx155_0
     replace hx155_1 := (HB.out.cell (World.block_lt_of_cell? w _ hx155_1)).trans hx155_1
     replace p155 := eq_true p155
     replace q155 := eq_true q155
     go_wp2
     go_roundg k2
     case measure => have := HJ4.out; have := HK2.out; omega
     case rel => exact ⟨(wrap64 (x9_2 + ((rd_T53 l2 (rd t151 x11_2)).f0))), (wrap64 (x11_2 + 1)), (by first | rfl | (simp; done) | (simp [*]; done)), (by first | rfl | (simp; done) | (simp [*]; done)), H', ⟨by have := HJ4.out; have := HK2.out; omega⟩, ⟨by (with_reducible repeat (first | apply Kd.R_alloc | apply Kd.R_drewN | apply Kd.R_drew)); exact HO_10.out⟩, ⟨by (with_reducible repeat (first | refine blk_drewN ?_ _ | refine blk_drew ?_ | refine blk_alloc ?_ _)); exact BK148.out⟩, ⟨by repeat (first | (with_reducible first | exact HB.out | apply below_alloc | apply pw_below_drewN | apply below_drew1 | refine below_set ?_ GE148.out) | exact HB.out)⟩⟩

end Go.Proofs.Ytlahlfjhfmldaaa.P

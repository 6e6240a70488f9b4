/- Contracts of Go functions of this seat's translation, written by this repo's wip/mk.py: it calls the kit's print.py with contracts typed by hand in place of functions that it does not take. Not trusted: Lean checks it. -/
import Derived.Test.YtknddipjabkfbaaP0
import Derived.Test.YtknddipjabkfbaaP20
import Derived.Test.YtknddipjabkfbaaP58
import Derived.Test.YtknddipjabkfbaaP22
namespace Go.Proofs.Ytknddipjabkfbaa.P
open Go.RowKit Go.Proofs.YtknddipjabkfbaaW.PrintWords Go.Proofs.YtknddipjabkfbaaW.PrintLast Go.Proofs.YtknddipjabkfbaaW.PrintMore
attribute [local go_sem] max2_int min2_int max_two min_two max_three min_three max_four min_four   -- for this text's walks alone
set_option linter.unusedVariables false
set_option linter.unusedSimpArgs false

/-! ### impl_BusesValid: function 86 -/
mutual
def impl_BusesValid.j0 : Nat → List (S79) → Bool → Option (Bool)
 | 0, _, _ => none
 | k + 1, x1, x16 => if x16 = true then (some false) else (impl_BusesValid.l0 k x1 (x1.length : Int) 0)
def impl_BusesValid.l0 : Nat → List (S79) → Int → Int → Option (Bool)
 | 0, _, _, _ => none
 | k + 1, x17, x18, x19 => if x19 < x18 then (if 0 ≤ x19 then (if x19 < (x17.length : Int) then ((impl_powerValid.f ((rd_T79 x17 x19).f0)).bind fun t592 => (if t592 = true then ((impl_powerValid.f ((rd_T79 x17 x19).f1)).bind fun t593 => (if t593 = true then (impl_BusesValid.l0 k x17 x18 (wrap64 (x19 + 1))) else (some false))) else (some false))) else (none)) else (none)) else (some true)
end
def impl_BusesValid.f (k : Nat) (a0_0 : Int) (l0_1 : List (S73)) (l1 : List (S79)) : Option (Bool) := (impl_NetValid.f k a0_0 l0_1).bind fun t589 => (if t589 = true then (impl_BusesValid.j0 k l1 ((l1.length : Int) != a0_0)) else (impl_BusesValid.j0 k l1 true))
theorem impl_BusesValid.mono_l : ∀ k, (∀ y0 y1, LeO (impl_BusesValid.j0 k y0 y1) (impl_BusesValid.j0 (k + 1) y0 y1)) ∧ (∀ y0 y1 y2, LeO (impl_BusesValid.l0 k y0 y1 y2) (impl_BusesValid.l0 (k + 1) y0 y1 y2))
 | 0 => ⟨fun _ _ r h => by simp [impl_BusesValid.j0] at h, fun _ _ _ r h => by simp [impl_BusesValid.l0] at h⟩
 | k + 1 => by
  obtain ⟨ih0, ih1⟩ := impl_BusesValid.mono_l k
  refine ⟨?_, ?_⟩
  ·
   intro y0 y1
   unfold impl_BusesValid.j0
   repeat' first
   | (with_reducible exact ih0 _ _)
   | (with_reducible exact ih1 _ _ _)
   | (with_reducible exact impl_NetValid.mono _ _ _)
   | (with_reducible exact LeO.refl _)
   | (with_reducible exact LeO.none _)
   | (with_reducible refine LeO.ite ?_ ?_)
   | (with_reducible refine LeO.bind ?_ (fun _ => ?_))
   | exact ih0 _ _
   | exact ih1 _ _ _
   | exact impl_NetValid.mono _ _ _
   | exact LeO.none _
   | refine LeO.ite ?_ ?_
   | refine LeO.bind ?_ (fun _ => ?_)
  ·
   intro y0 y1 y2
   unfold impl_BusesValid.l0
   repeat' first
   | (with_reducible exact ih0 _ _)
   | (with_reducible exact ih1 _ _ _)
   | (with_reducible exact impl_NetValid.mono _ _ _)
   | (with_reducible exact LeO.refl _)
   | (with_reducible exact LeO.none _)
   | (with_reducible refine LeO.ite ?_ ?_)
   | (with_reducible refine LeO.bind ?_ (fun _ => ?_))
   | exact ih0 _ _
   | exact ih1 _ _ _
   | exact impl_NetValid.mono _ _ _
   | exact LeO.none _
   | refine LeO.ite ?_ ?_
   | refine LeO.bind ?_ (fun _ => ?_)
theorem impl_BusesValid.mono : ∀ a0 a1 a2 k, LeO (impl_BusesValid.f k a0 a1 a2) (impl_BusesValid.f (k + 1) a0 a1 a2) := by
 intro a0 a1 a2 k
 obtain ⟨ih0, ih1⟩ := impl_BusesValid.mono_l k
 unfold impl_BusesValid.f
 repeat' first
   | (with_reducible exact ih0 _ _)
   | (with_reducible exact ih1 _ _ _)
   | (with_reducible exact impl_NetValid.mono _ _ _)
   | (with_reducible exact LeO.refl _)
   | (with_reducible exact LeO.none _)
   | (with_reducible refine LeO.ite ?_ ?_)
   | (with_reducible refine LeO.bind ?_ (fun _ => ?_))
   | exact ih0 _ _
   | exact ih1 _ _ _
   | exact impl_NetValid.mono _ _ _
   | exact LeO.none _
   | refine LeO.ite ?_ ?_
   | refine LeO.bind ?_ (fun _ => ?_)
set_option maxHeartbeats 8000000 in
set_option maxRecDepth 100000 in
theorem impl_BusesValid.calls (k : Nat) (a0_0 : Int) (A0_1 : Option Addr) (c0_1 : Nat) (l0_1 : List (S73)) (A1 : Option Addr) (c1 : Nat) (l1 : List (S79)) (r : Bool) (w : World) (hr0_1 : Kd.C k73 w A0_1 l0_1.length l0_1) (hc0_1 : l0_1.length ≤ c0_1) (hr1 : Kd.C k79 w A1 l1.length l1) (hc1 : l1.length ≤ c1) (h : impl_BusesValid.f k a0_0 l0_1 l1 = some r) :
  Calls Try.prog 86 #[.agg #[.int .i64 a0_0, .slice A0_1 l0_1.length c0_1], .slice A1 l1.length c1] w fun e w' => e = .returned (.bool r) ∧ Below w.heap.size w w' := by
 have hu30 := Try.underlying30
 have hu79 := Try.underlying79
 have HR0_1 := Aside0.mk hr0_1
 have HC0_1 := Aside0.mk hc0_1
 clear hr0_1 hc0_1
 have HR1 := Aside0.mk hr1
 have HC1 := Aside0.mk hc1
 clear hr1 hc1
 have HB := Aside0.mk (Below.refl w.heap.size w)
 have H : ((impl_NetValid.f k a0_0 l0_1).bind fun t589 => (if t589 = true then (impl_BusesValid.j0 k l1 ((l1.length : Int) != a0_0)) else (impl_BusesValid.j0 k l1 true))) = some r := h
 clear h
 have HC3 := Aside0.mk H
 clear H
 go_enter Try.func86, Try.ntmps86
 go_upto_region 1 with (first | ((with_reducible refine gate_dst (N := 2) rfl ?_); refine box_event ?hg (N := 2) ?hd (cs := #[.int .i64 a0_0, .slice A0_1 l0_1.length c0_1]) (t := 30) ?hr ?_; (case hd => rfl); (case hg => rfl); (case hr => first | (go_simp; done) | (go_simp; rfl)); intro gb588 hg w4 hbox hb; have n0_ := Aside0.mk (below_step (by repeat (first | (with_reducible first | exact HB.out | apply below_alloc | apply pw_below_drewN | apply below_drew1) | exact HB.out)) hb); have n1_ := Aside0.mk (hbox); have n2_ := Aside0.mk ((by rw [hg]; exact (below_size (by repeat (first | (with_reducible first | exact HB.out | apply below_alloc | apply pw_below_drewN | apply below_drew1) | exact HB.out))) : w.heap.size ≤ gb588)); have n3_ := Aside0.mk ((by rw [hg]; exact (below_size (by repeat (first | (with_reducible first | exact HB.out | apply below_alloc | apply pw_below_drewN | apply below_drew1) | exact HB.out))) : w.heap.size ≤ gb588)); clear HB; have HB := n0_; have BK588 := n1_; have GW588 := n2_; have GE588 := n3_; clear n0_ n1_ n2_ n3_; clear hb hbox hg))
 (try simp only [Act.put, List.setIfInBounds_toArray, List.set_cons_zero, List.set_cons_succ])
 go_cut [16] (fun v16 wc => ∃ (kq : Nat) (x16_2 : Bool), v16 = .bool x16_2 ∧ Aside0 (impl_BusesValid.j0 kq l1 x16_2 = some r) ∧ Aside0 (kq ≤ k) ∧ Aside0 (wc.heap[gb588]? = some (.cells #[.int .i64 a0_0, (.slice A0_1 l0_1.length c0_1)] 30 (0, 0))) ∧ Aside0 (Below w.heap.size w wc))
 case first =>
  have H := HC3.out
  clear HC3
  replace H := Option.bind_eq_some_iff.mp H
  obtain ⟨t589, A50, H⟩ := H
  replace H : (if t589 = true then (impl_BusesValid.j0 k l1 ((l1.length : Int) != a0_0)) else (impl_BusesValid.j0 k l1 true)) = some r := H
  have A5 := Aside0.mk A50
  clear A50
  by_cases c6 : t589 = true
  rotate_left
  ·
   replace c6 := Bool.eq_false_iff.mpr c6
   subst c6
   have H1 : (impl_BusesValid.j0 k l1 true) = some r := by rw [if_neg (show ¬ (false = true) by decide)] at H; exact H
   clear H
   have H := H1
   clear H1
   have H' := Aside0.mk H
   clear H
   have hcz10_0 : w4.cell? ⟨gb588, 0, none⟩ = some (.int .i64 a0_0) := (blk_cell BK588.out 0).trans rfl
   have hcz10_1 : w4.cell? ⟨gb588, 1, none⟩ = some (.slice A0_1 l0_1.length c0_1) := (blk_cell BK588.out 1).trans rfl
   have hfz10_0 := blk_frozen BK588.out 0
   have hfz10_1 := blk_frozen BK588.out 1
   go_wp2_with (first | ((with_reducible refine gate_callee (f := 82) rfl ?_); refine goesL_ (some 8) rfl rfl Try.func82 (by kernel_rfl) rfl #[.agg #[.int .i64 a0_0, .slice A0_1 l0_1.length c0_1]] rfl (by (try simp only [List.map_toArray, List.map_cons, List.map_nil]); first | done | rfl | (simp only [List.length_drop, List.length_take]; rfl)) ?_; (with_reducible refine (impl_NetValid.calls k a0_0 _ _ l0_1 false _ ?side1 ?side2 A5.out).mono ?_); (case side1 => repeat (first | exact (Kd.C_below HR0_1.out HB.out) | (with_reducible refine Kd.C_alloc ?_ _) | (with_reducible refine Kd.C_drewN ?_ _) | (with_reducible refine Kd.C_drew ?_))); (case side2 => exact HC0_1.out); rintro e w11 ⟨rfl, hb⟩; refine ⟨_, rfl, ?_⟩; have n0_ := Aside0.mk (blk_below (g := gb588) (o := .cells #[.int .i64 a0_0, .slice A0_1 l0_1.length c0_1] 30 (0, 0)) (by (with_reducible repeat (first | refine blk_drewN ?_ _ | refine blk_drew ?_ | refine blk_alloc ?_ _)); exact BK588.out) hb); have n1_ := Aside0.mk (below_step (by repeat (first | (with_reducible first | exact HB.out | apply below_alloc | apply pw_below_drewN | apply below_drew1 | refine below_set ?_ GE588.out) | exact HB.out)) hb); clear BK588; clear HB; have BK588 := n0_; have HB := n1_; clear n0_ n1_; (try clear hb); (try clear hb2); (try clear hk); (try clear hi)))
   go_meet
   case rel => exact ⟨_, (true), (by first | rfl | (simp; done) | (simp [*]; done)), H', ⟨by first | omega | exact Nat.le_refl _⟩, ⟨by (with_reducible repeat (first | refine blk_drewN ?_ _ | refine blk_drew ?_ | refine blk_alloc ?_ _)); exact BK588.out⟩, ⟨by repeat (first | (with_reducible first | exact HB.out | apply below_alloc | apply pw_below_drewN | apply below_drew1 | refine below_set ?_ GE588.out) | exact HB.out)⟩⟩
  subst c6
  have H1 : (impl_BusesValid.j0 k l1 ((l1.length : Int) != a0_0)) = some r := by rw [if_pos rfl] at H; exact H
  clear H
  have H := H1
  clear H1
  have H' := Aside0.mk H
  clear H
  have hcz7_0 : w4.cell? ⟨gb588, 0, none⟩ = some (.int .i64 a0_0) := (blk_cell BK588.out 0).trans rfl
  have hcz7_1 : w4.cell? ⟨gb588, 1, none⟩ = some (.slice A0_1 l0_1.length c0_1) := (blk_cell BK588.out 1).trans rfl
  have hfz7_0 := blk_frozen BK588.out 0
  have hfz7_1 := blk_frozen BK588.out 1
  go_wp2_with (first | ((with_reducible refine gate_callee (f := 82) rfl ?_); refine goesL_ (some 8) rfl rfl Try.func82 (by kernel_rfl) rfl #[.agg #[.int .i64 a0_0, .slice A0_1 l0_1.length c0_1]] rfl (by (try simp only [List.map_toArray, List.map_cons, List.map_nil]); first | done | rfl | (simp only [List.length_drop, List.length_take]; rfl)) ?_; (with_reducible refine (impl_NetValid.calls k a0_0 _ _ l0_1 true _ ?side1 ?side2 A5.out).mono ?_); (case side1 => repeat (first | exact (Kd.C_below HR0_1.out HB.out) | (with_reducible refine Kd.C_alloc ?_ _) | (with_reducible refine Kd.C_drewN ?_ _) | (with_reducible refine Kd.C_drew ?_))); (case side2 => exact HC0_1.out); rintro e w8 ⟨rfl, hb⟩; refine ⟨_, rfl, ?_⟩; have n0_ := Aside0.mk (blk_below (g := gb588) (o := .cells #[.int .i64 a0_0, .slice A0_1 l0_1.length c0_1] 30 (0, 0)) (by (with_reducible repeat (first | refine blk_drewN ?_ _ | refine blk_drew ?_ | refine blk_alloc ?_ _)); exact BK588.out) hb); have n1_ := Aside0.mk (below_step (by repeat (first | (with_reducible first | exact HB.out | apply below_alloc | apply pw_below_drewN | apply below_drew1 | refine below_set ?_ GE588.out) | exact HB.out)) hb); clear BK588; clear HB; have BK588 := n0_; have HB := n1_; clear n0_ n1_; (try clear hb); (try clear hb2); (try clear hk); (try clear hi); have hcz9_0 : w8.cell? ⟨gb588, 0, none⟩ = some (.int .i64 a0_0) := (blk_cell BK588.out 0).trans rfl; have hcz9_1 : w8.cell? ⟨gb588, 1, none⟩ = some (.slice A0_1 l0_1.length c0_1) := (blk_cell BK588.out 1).trans rfl; have hfz9_0 := blk_frozen BK588.out 0; have hfz9_1 := blk_frozen BK588.out 1))
  go_meet
  case rel => exact ⟨_, (((l1.length : Int) != a0_0)), (by first | rfl | (simp; done) | (simp [*]; done)), H', ⟨by first | omega | exact Nat.le_refl _⟩, ⟨by (with_reducible repeat (first | refine blk_drewN ?_ _ | refine blk_drew ?_ | refine blk_alloc ?_ _)); exact BK588.out⟩, ⟨by repeat (first | (with_reducible first | exact HB.out | apply below_alloc | apply pw_below_drewN | apply below_drew1 | refine below_set ?_ GE588.out) | exact HB.out)⟩⟩
 case rest =>
  clear HC3
  try clear c1
  try clear p2
  try clear c6
  try clear c8
  try clear hcz10_0
  try clear hcz10_1
  try clear hcz7_0
  try clear hcz7_1
  try clear hcz9_0
  try clear hcz9_1
  try clear hfz10_0
  try clear hfz10_1
  try clear hfz7_0
  try clear hfz7_1
  try clear hfz9_0
  try clear hfz9_1
  obtain ⟨kq, x16_2, rfl, HA, HJ2, BK588, HB⟩ := hcut
  cases kq with
  | zero => exact absurd HA.out (by simp [impl_BusesValid.j0])
  | succ kj2 =>
   have H := HA.out
   clear HA
   simp only [impl_BusesValid.j0] at H
   by_cases c12 : x16_2 = true
   ·
    subst c12
    have H1 : (some false) = some r := by rw [if_pos rfl] at H; exact H
    clear H
    have H := H1
    clear H1
    obtain rfl := Option.some.inj H
    go_wp2
    go_ret
    exact ⟨by first | rfl | (simp [errW_none, errW_some] <;> rfl) | (simp [*, errW_none, errW_some] <;> rfl), by repeat (first | (with_reducible first | exact HB.out | apply below_alloc | apply pw_below_drewN | apply below_drew1 | refine below_set ?_ GE588.out) | exact HB.out)⟩
   replace c12 := Bool.eq_false_iff.mpr c12
   subst c12
   have H1 : (impl_BusesValid.l0 kj2 l1 (l1.length : Int) 0) = some r := by rw [if_neg (show ¬ (false = true) by decide)] at H; exact H
   clear H
   have H := H1
   clear H1
   have H' := Aside0.mk H
   clear H
   go_wp2
   go_loopg [19] kj2 (fun kq v19 w' => ∃ (x19_2 : Int), v19 = .int .i64 x19_2 ∧ Aside0 (impl_BusesValid.l0 kq l1 (l1.length : Int) x19_2 = some r) ∧ Aside0 (kq ≤ kj2) ∧ Aside0 (w'.heap[gb588]? = some (.cells #[.int .i64 a0_0, (.slice A0_1 l0_1.length c0_1)] 30 (0, 0))) ∧ Aside0 (Below w.heap.size w w'))
   case atStart => exact ⟨(0), (by first | rfl | (simp; done) | (simp [*]; done)), H', ⟨Nat.le_refl _⟩, ⟨by (with_reducible repeat (first | refine blk_drewN ?_ _ | refine blk_drew ?_ | refine blk_alloc ?_ _)); exact BK588.out⟩, ⟨by repeat (first | (with_reducible first | exact HB.out | apply below_alloc | apply pw_below_drewN | apply below_drew1 | refine below_set ?_ GE588.out) | exact HB.out)⟩⟩
   case round =>
    clear H'
    try clear c1
    try clear p2
    try clear c6
    try clear c8
    try clear c12
    try clear hcz10_0
    try clear hcz10_1
    try clear hcz7_0
    try clear hcz7_1
    try clear hcz9_0
    try clear hcz9_1
    try clear hfz10_0
    try clear hfz10_1
    try clear hfz7_0
    try clear hfz7_1
    try clear hfz9_0
    try clear hfz9_1
    try clear p2
    obtain ⟨x19_2, rfl, HA, HK2, BK588, HB⟩ := hrel
    cases gk with
    | zero => exact absurd HA.out (by simp [impl_BusesValid.l0])
    | succ k2 =>
     have H := HA.out
     clear HA
     simp only [impl_BusesValid.l0] at H
     by_cases c13 : x19_2 < (l1.length : Int)
     rotate_left
     ·
      rw [if_neg c13] at H
      have c13b0 : decide (x19_2 < (l1.length : Int)) = false := decide_eq_false c13
      clear c13
      obtain rfl := Option.some.inj H
      go_wp2
      go_ret
      exact ⟨by first | rfl | (simp [errW_none, errW_some] <;> rfl) | (simp [*, errW_none, errW_some] <;> rfl), by repeat (first | (with_reducible first | exact HB.out | apply below_alloc | apply pw_below_drewN | apply below_drew1 | refine below_set ?_ GE588.out) | exact HB.out)⟩
     rw [if_pos c13] at H
     have c13b0 : decide (x19_2 < (l1.length : Int)) = true := decide_eq_true c13
     clear c13
     by_cases c14 : 0 ≤ x19_2
     rotate_left
     ·
      rw [if_neg c14] at H
      exact absurd H (by simp)
     rw [if_pos c14] at H
     have c14b0 : decide (0 ≤ x19_2) = true := decide_eq_true c14
     clear c14
     by_cases c15 : x19_2 < (l1.length : Int)
     rotate_left
     ·
      rw [if_neg c15] at H
      exact absurd H (by simp)
     rw [if_pos c15] at H
     have c15b0 : decide (x19_2 < (l1.length : Int)) = true := decide_eq_true c15
     clear c15
     replace H := Option.bind_eq_some_iff.mp H
     obtain ⟨t592, A160, H⟩ := H
     replace H : (if t592 = true then ((impl_powerValid.f ((rd_T79 l1 x19_2).f1)).bind fun t593 => (if t593 = true then (impl_BusesValid.l0 k2 l1 (l1.length : Int) (wrap64 (x19_2 + 1))) else (some false))) else (some false)) = some r := H
     have A16 := Aside0.mk A160
     clear A160
     by_cases c17 : t592 = true
     rotate_left
     ·
      replace c17 := Bool.eq_false_iff.mpr c17
      subst c17
      have H1 : (some false) = some r := by rw [if_neg (show ¬ (false = true) by decide)] at H; exact H
      clear H
      have H := H1
      clear H1
      obtain rfl := Option.some.inj H
      have p590 : 0 ≤ (x19_2 : Int) := of_decide_eq_true (by first | (with_reducible assumption) | assumption)
      have q590 : x19_2 < (l1.length : Int) := of_decide_eq_true (by first | (with_reducible assumption) | assumption)
      obtain ⟨ad590, e590, hx590_0, hx590_1⟩ := at_T79 HR1.out x19_2 p590 q590
      cases e590
      replace hx590_0 := (HB.out.cell (World.block_lt_of_cell? w _ hx590_0)).trans hx590_0
      replace hx590_1 := (HB.out.cell (World.block_lt_of_cell? w _ hx590_1)).trans hx590_1
      replace p590 := eq_true p590
      replace q590 := eq_true q590
      go_wp2_with (first | ((with_reducible refine gate_dst (N := 6) rfl ?_); refine box_event ?hg (N := 6) ?hd (cs := #[.int .i64 0, .int .i64 0]) (t := 79) ?hr ?_; (case hd => rfl); (case hg => rfl); (case hr => first | (go_simp; done) | (go_simp; rfl)); intro gb591 hg w26 hbox hb; have n0_ := Aside0.mk (blk_below (g := gb588) (o := .cells #[.int .i64 a0_0, .slice A0_1 l0_1.length c0_1] 30 (0, 0)) (by (with_reducible repeat (first | refine blk_drewN ?_ _ | refine blk_drew ?_ | refine blk_alloc ?_ _)); exact BK588.out) hb); have n1_ := Aside0.mk (below_step (by repeat (first | (with_reducible first | exact HB.out | apply below_alloc | apply pw_below_drewN | apply below_drew1 | refine below_set ?_ GE588.out) | exact HB.out)) hb); have n2_ := Aside0.mk (hbox); have n3_ := Aside0.mk ((by rw [hg]; exact (below_size (by repeat (first | (with_reducible first | exact HB.out | apply below_alloc | apply pw_below_drewN | apply below_drew1 | refine below_set ?_ GE588.out) | exact HB.out))) : w.heap.size ≤ gb591)); have n4_ := Aside0.mk ((by rw [hg]; exact (below_size (by repeat (first | (with_reducible first | exact HB.out | apply below_alloc | apply pw_below_drewN | apply below_drew1 | refine below_set ?_ GE588.out) | exact HB.out))) : w.heap.size ≤ gb591)); have n5_ := Aside0.mk ((by rw [hg]; exact Nat.ne_of_lt (blk_lt (g := gb588) (o := .cells #[.int .i64 a0_0, .slice A0_1 l0_1.length c0_1] 30 (0, 0)) (by (with_reducible repeat (first | refine blk_drewN ?_ _ | refine blk_drew ?_ | refine blk_alloc ?_ _)); exact BK588.out)) : gb588 ≠ gb591)); have n6_ := Aside0.mk ((by rw [hg]; exact Nat.ne_of_gt (blk_lt (g := gb588) (o := .cells #[.int .i64 a0_0, .slice A0_1 l0_1.length c0_1] 30 (0, 0)) (by (with_reducible repeat (first | refine blk_drewN ?_ _ | refine blk_drew ?_ | refine blk_alloc ?_ _)); exact BK588.out)) : gb591 ≠ gb588)); clear BK588; clear HB; have BK588 := n0_; have HB := n1_; have BK591 := n2_; have GW591 := n3_; have GE591 := n4_; have NB588_591 := n5_; have NB591_588 := n6_; clear n0_ n1_ n2_ n3_ n4_ n5_ n6_; clear hb hbox hg; have hnb27 := NB591_588.out; have hnc27 := NB588_591.out; have hcz28_0 : w26.cell? ⟨gb591, 0, none⟩ = some (.int .i64 0) := (blk_cell BK591.out 0).trans rfl; have hcz28_1 : w26.cell? ⟨gb591, 1, none⟩ = some (.int .i64 0) := (blk_cell BK591.out 1).trans rfl; have hfz28_0 := blk_frozen BK591.out 0; have hfz28_1 := blk_frozen BK591.out 1) | ((with_reducible refine gate_callee (f := 88) rfl ?_); refine goesL_ (some 25) rfl rfl Try.func88 (by kernel_rfl) rfl #[.int .i64 ((rd_T79 l1 x19_2).f0)] rfl (by (try simp only [List.map_toArray, List.map_cons, List.map_nil]); first | done | rfl | (simp only [List.length_drop, List.length_take]; rfl)) ?_; (with_reducible refine (impl_powerValid.calls ((rd_T79 l1 x19_2).f0) false _ A16.out).mono ?_); rintro e w' ⟨rfl, ⟨nd, rfl⟩⟩; refine ⟨_, rfl, ?_⟩))
      go_ret
      exact ⟨by first | rfl | (simp [errW_none, errW_some] <;> rfl) | (simp [*, errW_none, errW_some] <;> rfl), by repeat (first | (with_reducible first | exact HB.out | apply below_alloc | apply pw_below_drewN | apply below_drew1 | refine below_set ?_ GE588.out | refine below_set ?_ GE591.out) | exact HB.out)⟩
     subst c17
     have H1 : ((impl_powerValid.f ((rd_T79 l1 x19_2).f1)).bind fun t593 => (if t593 = true then (impl_BusesValid.l0 k2 l1 (l1.length : Int) (wrap64 (x19_2 + 1))) else (some false))) = some r := by rw [if_pos rfl] at H; exact H
     clear H
     have H := H1
     clear H1
     replace H := Option.bind_eq_some_iff.mp H
     obtain ⟨t593, A180, H⟩ := H
     replace H : (if t593 = true then (impl_BusesValid.l0 k2 l1 (l1.length : Int) (wrap64 (x19_2 + 1))) else (some false)) = some r := H
     have A18 := Aside0.mk A180
     clear A180
     by_cases c19 : t593 = true
     rotate_left
     ·
      replace c19 := Bool.eq_false_iff.mpr c19
      subst c19
      have H1 : (some false) = some r := by rw [if_neg (show ¬ (false = true) by decide)] at H; exact H
      clear H
      have H := H1
      clear H1
      obtain rfl := Option.some.inj H
      have p590 : 0 ≤ (x19_2 : Int) := of_decide_eq_true (by first | (with_reducible assumption) | assumption)
      have q590 : x19_2 < (l1.length : Int) := of_decide_eq_true (by first | (with_reducible assumption) | assumption)
      obtain ⟨ad590, e590, hx590_0, hx590_1⟩ := at_T79 HR1.out x19_2 p590 q590
      cases e590
      replace hx590_0 := (HB.out.cell (World.block_lt_of_cell? w _ hx590_0)).trans hx590_0
      replace hx590_1 := (HB.out.cell (World.block_lt_of_cell? w _ hx590_1)).trans hx590_1
      replace p590 := eq_true p590
      replace q590 := eq_true q590
      go_wp2_with (first | ((with_reducible refine gate_dst (N := 6) rfl ?_); refine box_event ?hg (N := 6) ?hd (cs := #[.int .i64 0, .int .i64 0]) (t := 79) ?hr ?_; (case hd => rfl); (case hg => rfl); (case hr => first | (go_simp; done) | (go_simp; rfl)); intro gb591 hg w23 hbox hb; have n0_ := Aside0.mk (blk_below (g := gb588) (o := .cells #[.int .i64 a0_0, .slice A0_1 l0_1.length c0_1] 30 (0, 0)) (by (with_reducible repeat (first | refine blk_drewN ?_ _ | refine blk_drew ?_ | refine blk_alloc ?_ _)); exact BK588.out) hb); have n1_ := Aside0.mk (below_step (by repeat (first | (with_reducible first | exact HB.out | apply below_alloc | apply pw_below_drewN | apply below_drew1 | refine below_set ?_ GE588.out) | exact HB.out)) hb); have n2_ := Aside0.mk (hbox); have n3_ := Aside0.mk ((by rw [hg]; exact (below_size (by repeat (first | (with_reducible first | exact HB.out | apply below_alloc | apply pw_below_drewN | apply below_drew1 | refine below_set ?_ GE588.out) | exact HB.out))) : w.heap.size ≤ gb591)); have n4_ := Aside0.mk ((by rw [hg]; exact (below_size (by repeat (first | (with_reducible first | exact HB.out | apply below_alloc | apply pw_below_drewN | apply below_drew1 | refine below_set ?_ GE588.out) | exact HB.out))) : w.heap.size ≤ gb591)); have n5_ := Aside0.mk ((by rw [hg]; exact Nat.ne_of_lt (blk_lt (g := gb588) (o := .cells #[.int .i64 a0_0, .slice A0_1 l0_1.length c0_1] 30 (0, 0)) (by (with_reducible repeat (first | refine blk_drewN ?_ _ | refine blk_drew ?_ | refine blk_alloc ?_ _)); exact BK588.out)) : gb588 ≠ gb591)); have n6_ := Aside0.mk ((by rw [hg]; exact Nat.ne_of_gt (blk_lt (g := gb588) (o := .cells #[.int .i64 a0_0, .slice A0_1 l0_1.length c0_1] 30 (0, 0)) (by (with_reducible repeat (first | refine blk_drewN ?_ _ | refine blk_drew ?_ | refine blk_alloc ?_ _)); exact BK588.out)) : gb591 ≠ gb588)); clear BK588; clear HB; have BK588 := n0_; have HB := n1_; have BK591 := n2_; have GW591 := n3_; have GE591 := n4_; have NB588_591 := n5_; have NB591_588 := n6_; clear n0_ n1_ n2_ n3_ n4_ n5_ n6_; clear hb hbox hg; have hnb24 := NB591_588.out; have hnc24 := NB588_591.out; have hcz25_0 : w23.cell? ⟨gb591, 0, none⟩ = some (.int .i64 0) := (blk_cell BK591.out 0).trans rfl; have hcz25_1 : w23.cell? ⟨gb591, 1, none⟩ = some (.int .i64 0) := (blk_cell BK591.out 1).trans rfl; have hfz25_0 := blk_frozen BK591.out 0; have hfz25_1 := blk_frozen BK591.out 1) | ((with_reducible refine gate_callee (f := 88) rfl ?_); refine goesL_ (some 25) rfl rfl Try.func88 (by kernel_rfl) rfl #[.int .i64 ((rd_T79 l1 x19_2).f0)] rfl (by (try simp only [List.map_toArray, List.map_cons, List.map_nil]); first | done | rfl | (simp only [List.length_drop, List.length_take]; rfl)) ?_; (with_reducible refine (impl_powerValid.calls ((rd_T79 l1 x19_2).f0) true _ A16.out).mono ?_); rintro e w' ⟨rfl, ⟨nd, rfl⟩⟩; refine ⟨_, rfl, ?_⟩) | (go_at_call 88; (with_reducible refine (impl_powerValid.calls ((rd_T79 l1 x19_2).f1) false _ A18.out).mono ?_); rintro e w' ⟨rfl, ⟨nd, rfl⟩⟩))
      go_ret
      exact ⟨by first | rfl | (simp [errW_none, errW_some] <;> rfl) | (simp [*, errW_none, errW_some] <;> rfl), by repeat (first | (with_reducible first | exact HB.out | apply below_alloc | apply pw_below_drewN | apply below_drew1 | refine below_set ?_ GE588.out | refine below_set ?_ GE591.out) | exact HB.out)⟩
     subst c19
     have H1 : (impl_BusesValid.l0 k2 l1 (l1.length : Int) (wrap64 (x19_2 + 1))) = some r := by rw [if_pos rfl] at H; exact H
     clear H
     have H := H1
     clear H1
     have H' := Aside0.mk H
     clear H
     have p590 : 0 ≤ (x19_2 : Int) := of_decide_eq_true (by first | (with_reducible assumption) | assumption)
     have q590 : x19_2 < (l1.length : Int) := of_decide_eq_true (by first | (with_reducible assumption) | assumption)
     obtain ⟨ad590, e590, hx590_0, hx590_1⟩ := at_T79 HR1.out x19_2 p590 q590
     cases e590
     replace hx590_0 := (HB.out.cell (World.block_lt_of_cell? w _ hx590_0)).trans hx590_0
     replace hx590_1 := (HB.out.cell (World.block_lt_of_cell? w _ hx590_1)).trans hx590_1
     replace p590 := eq_true p590
     replace q590 := eq_true q590
     go_wp2_with (first | ((with_reducible refine gate_dst (N := 6) rfl ?_); refine box_event ?hg (N := 6) ?hd (cs := #[.int .i64 0, .int .i64 0]) (t := 79) ?hr ?_; (case hd => rfl); (case hg => rfl); (case hr => first | (go_simp; done) | (go_simp; rfl)); intro gb591 hg w20 hbox hb; have n0_ := Aside0.mk (blk_below (g := gb588) (o := .cells #[.int .i64 a0_0, .slice A0_1 l0_1.length c0_1] 30 (0, 0)) (by (with_reducible repeat (first | refine blk_drewN ?_ _ | refine blk_drew ?_ | refine blk_alloc ?_ _)); exact BK588.out) hb); have n1_ := Aside0.mk (below_step (by repeat (first | (with_reducible first | exact HB.out | apply below_alloc | apply pw_below_drewN | apply below_drew1 | refine below_set ?_ GE588.out) | exact HB.out)) hb); have n2_ := Aside0.mk (hbox); have n3_ := Aside0.mk ((by rw [hg]; exact (below_size (by repeat (first | (with_reducible first | exact HB.out | apply below_alloc | apply pw_below_drewN | apply below_drew1 | refine below_set ?_ GE588.out) | exact HB.out))) : w.heap.size ≤ gb591)); have n4_ := Aside0.mk ((by rw [hg]; exact (below_size (by repeat (first | (with_reducible first | exact HB.out | apply below_alloc | apply pw_below_drewN | apply below_drew1 | refine below_set ?_ GE588.out) | exact HB.out))) : w.heap.size ≤ gb591)); have n5_ := Aside0.mk ((by rw [hg]; exact Nat.ne_of_lt (blk_lt (g := gb588) (o := .cells #[.int .i64 a0_0, .slice A0_1 l0_1.length c0_1] 30 (0, 0)) (by (with_reducible repeat (first | refine blk_drewN ?_ _ | refine blk_drew ?_ | refine blk_alloc ?_ _)); exact BK588.out)) : gb588 ≠ gb591)); have n6_ := Aside0.mk ((by rw [hg]; exact Nat.ne_of_gt (blk_lt (g := gb588) (o := .cells #[.int .i64 a0_0, .slice A0_1 l0_1.length c0_1] 30 (0, 0)) (by (with_reducible repeat (first | refine blk_drewN ?_ _ | refine blk_drew ?_ | refine blk_alloc ?_ _)); exact BK588.out)) : gb591 ≠ gb588)); clear BK588; clear HB; have BK588 := n0_; have HB := n1_; have BK591 := n2_; have GW591 := n3_; have GE591 := n4_; have NB588_591 := n5_; have NB591_588 := n6_; clear n0_ n1_ n2_ n3_ n4_ n5_ n6_; clear hb hbox hg; have hnb21 := NB591_588.out; have hnc21 := NB588_591.out; have hcz22_0 : w20.cell? ⟨gb591, 0, none⟩ = some (.int .i64 0) := (blk_cell BK591.out 0).trans rfl; have hcz22_1 : w20.cell? ⟨gb591, 1, none⟩ = some (.int .i64 0) := (blk_cell BK591.out 1).trans rfl; have hfz22_0 := blk_frozen BK591.out 0; have hfz22_1 := blk_frozen BK591.out 1) | ((with_reducible refine gate_callee (f := 88) rfl ?_); refine goesL_ (some 25) rfl rfl Try.func88 (by kernel_rfl) rfl #[.int .i64 ((rd_T79 l1 x19_2).f0)] rfl (by (try simp only [List.map_toArray, List.map_cons, List.map_nil]); first | done | rfl | (simp only [List.length_drop, List.length_take]; rfl)) ?_; (with_reducible refine (impl_powerValid.calls ((rd_T79 l1 x19_2).f0) true _ A16.out).mono ?_); rintro e w' ⟨rfl, ⟨nd, rfl⟩⟩; refine ⟨_, rfl, ?_⟩) | (go_at_call 88; (with_reducible refine (impl_powerValid.calls ((rd_T79 l1 x19_2).f1) true _ A18.out).mono ?_); rintro e w' ⟨rfl, ⟨nd, rfl⟩⟩))
     go_roundg k2
     case measure => have := HJ2.out; have := HK2.out; omega
     case rel => exact ⟨(wrap64 (x19_2 + 1)), (by first | rfl | (simp; done) | (simp [*]; done)), H', ⟨by have := HJ2.out; have := HK2.out; omega⟩, ⟨by (with_reducible repeat (first | refine blk_drewN ?_ _ | refine blk_drew ?_ | refine blk_alloc ?_ _)); refine blk_far ?_ NB588_591.out _; (with_reducible repeat (first | refine blk_drewN ?_ _ | refine blk_drew ?_ | refine blk_alloc ?_ _)); refine blk_far ?_ NB588_591.out _; (with_reducible repeat (first | refine blk_drewN ?_ _ | refine blk_drew ?_ | refine blk_alloc ?_ _)); exact BK588.out⟩, ⟨by repeat (first | (with_reducible first | exact HB.out | apply below_alloc | apply pw_below_drewN | apply below_drew1 | refine below_set ?_ GE588.out | refine below_set ?_ GE591.out) | exact HB.out)⟩⟩

end Go.Proofs.Ytknddipjabkfbaa.P
namespace Go.Proofs.Ytknddipjabkfbaa.P
open Go.RowKit Go.Proofs.YtknddipjabkfbaaW.PrintWords Go.Proofs.YtknddipjabkfbaaW.PrintLast Go.Proofs.YtknddipjabkfbaaW.PrintMore
attribute [local go_sem] max2_int min2_int max_two min_two max_three min_three max_four min_four   -- for this text's walks alone
set_option linter.unusedVariables false
set_option linter.unusedSimpArgs false

/-! ### impl_fedValid: function 73 -/
def impl_fedValid.f (k : Nat) (a0_0 : Int) (l0_1 : List (S73)) (l1 : List Bool) (l2 : List (S79)) : Option (Bool) := (impl_StateValid.f k a0_0 l0_1 l1).bind fun t595 => (if t595 = true then ((impl_BusesValid.f k a0_0 l0_1 l2).bind fun t596 => (some t596)) else (some false))
theorem impl_fedValid.mono : ∀ a0 a1 a2 a3 k, LeO (impl_fedValid.f k a0 a1 a2 a3) (impl_fedValid.f (k + 1) a0 a1 a2 a3) := by
 intro a0 a1 a2 a3 k
 unfold impl_fedValid.f
 repeat' first
   | (with_reducible exact impl_BusesValid.mono _ _ _ _)
   | (with_reducible exact impl_StateValid.mono _ _ _ _)
   | (with_reducible exact LeO.refl _)
   | (with_reducible exact LeO.none _)
   | (with_reducible refine LeO.ite ?_ ?_)
   | (with_reducible refine LeO.bind ?_ (fun _ => ?_))
   | exact impl_BusesValid.mono _ _ _ _
   | exact impl_StateValid.mono _ _ _ _
   | exact LeO.none _
   | refine LeO.ite ?_ ?_
   | refine LeO.bind ?_ (fun _ => ?_)
set_option maxHeartbeats 8000000 in
set_option maxRecDepth 100000 in
theorem impl_fedValid.calls (k : Nat) (a0_0 : Int) (A0_1 : Option Addr) (c0_1 : Nat) (l0_1 : List (S73)) (A1 : Option Addr) (c1 : Nat) (l1 : List Bool) (A2 : Option Addr) (c2 : Nat) (l2 : List (S79)) (r : Bool) (w : World) (hr0_1 : Kd.C k73 w A0_1 l0_1.length l0_1) (hc0_1 : l0_1.length ≤ c0_1) (hr1 : Kd.C Kd.bool w A1 l1.length l1) (hc1 : l1.length ≤ c1) (hr2 : Kd.C k79 w A2 l2.length l2) (hc2 : l2.length ≤ c2) (h : impl_fedValid.f k a0_0 l0_1 l1 l2 = some r) :
  Calls Try.prog 73 #[.agg #[.int .i64 a0_0, .slice A0_1 l0_1.length c0_1], .slice A1 l1.length c1, .slice A2 l2.length c2] w fun e w' => e = .returned (.bool r) ∧ Below w.heap.size w w' := by
 have hu30 := Try.underlying30
 have HR0_1 := Aside0.mk hr0_1
 have HC0_1 := Aside0.mk hc0_1
 clear hr0_1 hc0_1
 have HR1 := Aside0.mk hr1
 have HC1 := Aside0.mk hc1
 clear hr1 hc1
 have HR2 := Aside0.mk hr2
 have HC2 := Aside0.mk hc2
 clear hr2 hc2
 have HB := Aside0.mk (Below.refl w.heap.size w)
 have H : ((impl_StateValid.f k a0_0 l0_1 l1).bind fun t595 => (if t595 = true then ((impl_BusesValid.f k a0_0 l0_1 l2).bind fun t596 => (some t596)) else (some false))) = some r := h
 clear h
 replace H := Option.bind_eq_some_iff.mp H
 obtain ⟨t595, A40, H⟩ := H
 replace H : (if t595 = true then ((impl_BusesValid.f k a0_0 l0_1 l2).bind fun t596 => (some t596)) else (some false)) = some r := H
 have A4 := Aside0.mk A40
 clear A40
 by_cases c5 : t595 = true
 rotate_left
 ·
  replace c5 := Bool.eq_false_iff.mpr c5
  subst c5
  have H1 : (some false) = some r := by rw [if_neg (show ¬ (false = true) by decide)] at H; exact H
  clear H
  have H := H1
  clear H1
  obtain rfl := Option.some.inj H
  go_enter Try.func73, Try.ntmps73
  go_wp2_with (first | ((with_reducible refine gate_dst (N := 3) rfl ?_); refine box_event ?hg (N := 3) ?hd (cs := #[.int .i64 a0_0, .slice A0_1 l0_1.length c0_1]) (t := 30) ?hr ?_; (case hd => rfl); (case hg => rfl); (case hr => first | (go_simp; done) | (go_simp; rfl)); intro gb594 hg w12 hbox hb; have n0_ := Aside0.mk (below_step (by repeat (first | (with_reducible first | exact HB.out | apply below_alloc | apply pw_below_drewN | apply below_drew1) | exact HB.out)) hb); have n1_ := Aside0.mk (hbox); have n2_ := Aside0.mk ((by rw [hg]; exact (below_size (by repeat (first | (with_reducible first | exact HB.out | apply below_alloc | apply pw_below_drewN | apply below_drew1) | exact HB.out))) : w.heap.size ≤ gb594)); have n3_ := Aside0.mk ((by rw [hg]; exact (below_size (by repeat (first | (with_reducible first | exact HB.out | apply below_alloc | apply pw_below_drewN | apply below_drew1) | exact HB.out))) : w.heap.size ≤ gb594)); clear HB; have HB := n0_; have BK594 := n1_; have GW594 := n2_; have GE594 := n3_; clear n0_ n1_ n2_ n3_; clear hb hbox hg; have hcz13_0 : w12.cell? ⟨gb594, 0, none⟩ = some (.int .i64 a0_0) := (blk_cell BK594.out 0).trans rfl; have hcz13_1 : w12.cell? ⟨gb594, 1, none⟩ = some (.slice A0_1 l0_1.length c0_1) := (blk_cell BK594.out 1).trans rfl; have hfz13_0 := blk_frozen BK594.out 0; have hfz13_1 := blk_frozen BK594.out 1) | ((with_reducible refine gate_callee (f := 55) rfl ?_); refine goesL_ (some 9) rfl rfl Try.func55 (by kernel_rfl) rfl #[.agg #[.int .i64 a0_0, .slice A0_1 l0_1.length c0_1], .slice A1 l1.length c1] rfl (by (try simp only [List.map_toArray, List.map_cons, List.map_nil]); first | done | rfl | (simp only [List.length_drop, List.length_take]; rfl)) ?_; (with_reducible refine (impl_StateValid.calls k a0_0 _ _ l0_1 _ _ l1 false _ ?side1 ?side2 ?side3 ?side4 A4.out).mono ?_); (case side1 => repeat (first | exact (Kd.C_below HR0_1.out HB.out) | (with_reducible refine Kd.C_alloc ?_ _) | (with_reducible refine Kd.C_drewN ?_ _) | (with_reducible refine Kd.C_drew ?_))); (case side2 => exact HC0_1.out); (case side3 => repeat (first | exact (Kd.C_below HR1.out HB.out) | (with_reducible refine Kd.C_alloc ?_ _) | (with_reducible refine Kd.C_drewN ?_ _) | (with_reducible refine Kd.C_drew ?_))); (case side4 => exact HC1.out); rintro e w14 ⟨rfl, hb⟩; refine ⟨_, rfl, ?_⟩; have n0_ := Aside0.mk (blk_below (g := gb594) (o := .cells #[.int .i64 a0_0, .slice A0_1 l0_1.length c0_1] 30 (0, 0)) (by (with_reducible repeat (first | refine blk_drewN ?_ _ | refine blk_drew ?_ | refine blk_alloc ?_ _)); exact BK594.out) hb); have n1_ := Aside0.mk (below_step (by repeat (first | (with_reducible first | exact HB.out | apply below_alloc | apply pw_below_drewN | apply below_drew1 | refine below_set ?_ GE594.out) | exact HB.out)) hb); clear BK594; clear HB; have BK594 := n0_; have HB := n1_; clear n0_ n1_; (try clear hb); (try clear hb2); (try clear hk); (try clear hi)))
  go_ret
  exact ⟨by first | rfl | (simp [errW_none, errW_some] <;> rfl) | (simp [*, errW_none, errW_some] <;> rfl), by repeat (first | (with_reducible first | exact HB.out | apply below_alloc | apply pw_below_drewN | apply below_drew1 | refine below_set ?_ GE594.out) | exact HB.out)⟩
 subst c5
 have H1 : ((impl_BusesValid.f k a0_0 l0_1 l2).bind fun t596 => (some t596)) = some r := by rw [if_pos rfl] at H; exact H
 clear H
 have H := H1
 clear H1
 replace H := Option.bind_eq_some_iff.mp H
 obtain ⟨t596, A60, H⟩ := H
 replace H : (some t596) = some r := H
 have A6 := Aside0.mk A60
 clear A60
 obtain rfl := Option.some.inj H
 go_enter Try.func73, Try.ntmps73
 go_wp2_with (first | ((with_reducible refine gate_dst (N := 3) rfl ?_); refine box_event ?hg (N := 3) ?hd (cs := #[.int .i64 a0_0, .slice A0_1 l0_1.length c0_1]) (t := 30) ?hr ?_; (case hd => rfl); (case hg => rfl); (case hr => first | (go_simp; done) | (go_simp; rfl)); intro gb594 hg w7 hbox hb; have n0_ := Aside0.mk (below_step (by repeat (first | (with_reducible first | exact HB.out | apply below_alloc | apply pw_below_drewN | apply below_drew1) | exact HB.out)) hb); have n1_ := Aside0.mk (hbox); have n2_ := Aside0.mk ((by rw [hg]; exact (below_size (by repeat (first | (with_reducible first | exact HB.out | apply below_alloc | apply pw_below_drewN | apply below_drew1) | exact HB.out))) : w.heap.size ≤ gb594)); have n3_ := Aside0.mk ((by rw [hg]; exact (below_size (by repeat (first | (with_reducible first | exact HB.out | apply below_alloc | apply pw_below_drewN | apply below_drew1) | exact HB.out))) : w.heap.size ≤ gb594)); clear HB; have HB := n0_; have BK594 := n1_; have GW594 := n2_; have GE594 := n3_; clear n0_ n1_ n2_ n3_; clear hb hbox hg; have hcz8_0 : w7.cell? ⟨gb594, 0, none⟩ = some (.int .i64 a0_0) := (blk_cell BK594.out 0).trans rfl; have hcz8_1 : w7.cell? ⟨gb594, 1, none⟩ = some (.slice A0_1 l0_1.length c0_1) := (blk_cell BK594.out 1).trans rfl; have hfz8_0 := blk_frozen BK594.out 0; have hfz8_1 := blk_frozen BK594.out 1) | ((with_reducible refine gate_callee (f := 55) rfl ?_); refine goesL_ (some 9) rfl rfl Try.func55 (by kernel_rfl) rfl #[.agg #[.int .i64 a0_0, .slice A0_1 l0_1.length c0_1], .slice A1 l1.length c1] rfl (by (try simp only [List.map_toArray, List.map_cons, List.map_nil]); first | done | rfl | (simp only [List.length_drop, List.length_take]; rfl)) ?_; (with_reducible refine (impl_StateValid.calls k a0_0 _ _ l0_1 _ _ l1 true _ ?side1 ?side2 ?side3 ?side4 A4.out).mono ?_); (case side1 => repeat (first | exact (Kd.C_below HR0_1.out HB.out) | (with_reducible refine Kd.C_alloc ?_ _) | (with_reducible refine Kd.C_drewN ?_ _) | (with_reducible refine Kd.C_drew ?_))); (case side2 => exact HC0_1.out); (case side3 => repeat (first | exact (Kd.C_below HR1.out HB.out) | (with_reducible refine Kd.C_alloc ?_ _) | (with_reducible refine Kd.C_drewN ?_ _) | (with_reducible refine Kd.C_drew ?_))); (case side4 => exact HC1.out); rintro e w9 ⟨rfl, hb⟩; refine ⟨_, rfl, ?_⟩; have n0_ := Aside0.mk (blk_below (g := gb594) (o := .cells #[.int .i64 a0_0, .slice A0_1 l0_1.length c0_1] 30 (0, 0)) (by (with_reducible repeat (first | refine blk_drewN ?_ _ | refine blk_drew ?_ | refine blk_alloc ?_ _)); exact BK594.out) hb); have n1_ := Aside0.mk (below_step (by repeat (first | (with_reducible first | exact HB.out | apply below_alloc | apply pw_below_drewN | apply below_drew1 | refine below_set ?_ GE594.out) | exact HB.out)) hb); clear BK594; clear HB; have BK594 := n0_; have HB := n1_; clear n0_ n1_; (try clear hb); (try clear hb2); (try clear hk); (try clear hi); have hcz10_0 : w9.cell? ⟨gb594, 0, none⟩ = some (.int .i64 a0_0) := (blk_cell BK594.out 0).trans rfl; have hcz10_1 : w9.cell? ⟨gb594, 1, none⟩ = some (.slice A0_1 l0_1.length c0_1) := (blk_cell BK594.out 1).trans rfl; have hfz10_0 := blk_frozen BK594.out 0; have hfz10_1 := blk_frozen BK594.out 1) | (go_at_call 86; (with_reducible refine (impl_BusesValid.calls k a0_0 _ _ l0_1 _ _ l2 t596 _ ?side1 ?side2 ?side3 ?side4 A6.out).mono ?_); (case side1 => repeat (first | exact (Kd.C_below HR0_1.out HB.out) | (with_reducible refine Kd.C_alloc ?_ _) | (with_reducible refine Kd.C_drewN ?_ _) | (with_reducible refine Kd.C_drew ?_))); (case side2 => exact HC0_1.out); (case side3 => repeat (first | exact (Kd.C_below HR2.out HB.out) | (with_reducible refine Kd.C_alloc ?_ _) | (with_reducible refine Kd.C_drewN ?_ _) | (with_reducible refine Kd.C_drew ?_))); (case side4 => exact HC2.out); rintro e w11 ⟨rfl, hb⟩; have n0_ := Aside0.mk (blk_below (g := gb594) (o := .cells #[.int .i64 a0_0, .slice A0_1 l0_1.length c0_1] 30 (0, 0)) (by (with_reducible repeat (first | refine blk_drewN ?_ _ | refine blk_drew ?_ | refine blk_alloc ?_ _)); exact BK594.out) hb); have n1_ := Aside0.mk (below_step (by repeat (first | (with_reducible first | exact HB.out | apply below_alloc | apply pw_below_drewN | apply below_drew1 | refine below_set ?_ GE594.out) | exact HB.out)) hb); clear BK594; clear HB; have BK594 := n0_; have HB := n1_; clear n0_ n1_; (try clear hb); (try clear hb2); (try clear hk); (try clear hi)))
 go_ret
 exact ⟨by first | rfl | (simp [errW_none, errW_some] <;> rfl) | (simp [*, errW_none, errW_some] <;> rfl), by repeat (first | (with_reducible first | exact HB.out | apply below_alloc | apply pw_below_drewN | apply below_drew1 | refine below_set ?_ GE594.out) | exact HB.out)⟩

end Go.Proofs.Ytknddipjabkfbaa.P

/- Contracts of Go functions of this seat's translation, written by this repo's wip/mk.py: it calls the kit's print.py with contracts typed by hand in place of functions that it does not take. Not trusted: Lean checks it. -/
import Derived.Test.YtpgjgbjkfgbpaaaDoorP0
import Derived.Test.YtpgjgbjkfgbpaaaDoorP16
namespace Go.Proofs.YtpgjgbjkfgbpaaaDoor.P
open Go.RowKit Go.Proofs.YtpgjgbjkfgbpaaaDoorW.PrintWords Go.Proofs.YtpgjgbjkfgbpaaaDoorW.PrintLast Go.Proofs.YtpgjgbjkfgbpaaaDoorW.PrintMore
attribute [local go_sem] max2_int min2_int max_two min_two max_three min_three max_four min_four   -- for this text's walks alone
set_option linter.unusedVariables false
set_option linter.unusedSimpArgs false

/-! ### impl_NetValid: function 59 -/
mutual
def impl_NetValid.j0 : Nat → Bool → Int → List (S79) → Option (Bool)
 | 0, _, _, _ => none
 | k + 1, x18, x283000, x283001 => if x18 = true then (some false) else (impl_NetValid.l0 k x283001 (x283001.length : Int) 0 x283000 x283001)
def impl_NetValid.l0 : Nat → List (S79) → Int → Int → Int → List (S79) → Option (Bool)
 | 0, _, _, _, _, _ => none
 | k + 1, x20, x21, x22, x283000, x283001 => if x22 < x21 then (if 0 ≤ x22 then (if x22 < (x20.length : Int) then ((impl_Net_hasBus.f x283000 x283001 ((rd_T79 x20 x22).f0)).bind fun t285 => (if t285 = true then ((impl_Net_hasBus.f x283000 x283001 ((rd_T79 x20 x22).f1)).bind fun t286 => (if t286 = true then (if ((rd_T79 x20 x22).f0) = ((rd_T79 x20 x22).f1) then (some false) else (if ((rd_T79 x20 x22).f2) < 1 then (some false) else (if ((rd_T79 x20 x22).f2) > 999 then (some false) else (impl_NetValid.l0 k x20 x21 (wrap64 (x22 + 1)) x283000 x283001)))) else (some false))) else (some false))) else (none)) else (none)) else (some true)
end
def impl_NetValid.f (k : Nat) (a0_0 : Int) (l0_1 : List (S79)) : Option (Bool) := if a0_0 < 1 then (impl_NetValid.j0 k true a0_0 l0_1) else (if a0_0 > 8 then (impl_NetValid.j0 k true a0_0 l0_1) else (impl_NetValid.j0 k (decide ((l0_1.length : Int) > 10)) a0_0 l0_1))
theorem impl_NetValid.mono_l : ∀ k, (∀ y0 y1 y2, LeO (impl_NetValid.j0 k y0 y1 y2) (impl_NetValid.j0 (k + 1) y0 y1 y2)) ∧ (∀ y0 y1 y2 y3 y4, LeO (impl_NetValid.l0 k y0 y1 y2 y3 y4) (impl_NetValid.l0 (k + 1) y0 y1 y2 y3 y4))
 | 0 => ⟨fun _ _ _ r h => by simp [impl_NetValid.j0] at h, fun _ _ _ _ _ r h => by simp [impl_NetValid.l0] at h⟩
 | k + 1 => by
  obtain ⟨ih0, ih1⟩ := impl_NetValid.mono_l k
  refine ⟨?_, ?_⟩
  ·
   intro y0 y1 y2
   unfold impl_NetValid.j0
   repeat' first
   | (with_reducible exact ih0 _ _ _)
   | (with_reducible exact ih1 _ _ _ _ _)
   | (with_reducible exact LeO.refl _)
   | (with_reducible exact LeO.none _)
   | (with_reducible refine LeO.ite ?_ ?_)
   | (with_reducible refine LeO.bind ?_ (fun _ => ?_))
   | exact ih0 _ _ _
   | exact ih1 _ _ _ _ _
   | exact LeO.none _
   | refine LeO.ite ?_ ?_
   | refine LeO.bind ?_ (fun _ => ?_)
  ·
   intro y0 y1 y2 y3 y4
   unfold impl_NetValid.l0
   repeat' first
   | (with_reducible exact ih0 _ _ _)
   | (with_reducible exact ih1 _ _ _ _ _)
   | (with_reducible exact LeO.refl _)
   | (with_reducible exact LeO.none _)
   | (with_reducible refine LeO.ite ?_ ?_)
   | (with_reducible refine LeO.bind ?_ (fun _ => ?_))
   | exact ih0 _ _ _
   | exact ih1 _ _ _ _ _
   | exact LeO.none _
   | refine LeO.ite ?_ ?_
   | refine LeO.bind ?_ (fun _ => ?_)
theorem impl_NetValid.mono : ∀ a0 a1 k, LeO (impl_NetValid.f k a0 a1) (impl_NetValid.f (k + 1) a0 a1) := by
 intro a0 a1 k
 obtain ⟨ih0, ih1⟩ := impl_NetValid.mono_l k
 unfold impl_NetValid.f
 repeat' first
   | (with_reducible exact ih0 _ _ _)
   | (with_reducible exact ih1 _ _ _ _ _)
   | (with_reducible exact LeO.refl _)
   | (with_reducible exact LeO.none _)
   | (with_reducible refine LeO.ite ?_ ?_)
   | (with_reducible refine LeO.bind ?_ (fun _ => ?_))
   | exact ih0 _ _ _
   | exact ih1 _ _ _ _ _
   | exact LeO.none _
   | refine LeO.ite ?_ ?_
   | refine LeO.bind ?_ (fun _ => ?_)
set_option maxHeartbeats 8000000 in
set_option maxRecDepth 100000 in
theorem impl_NetValid.calls (k : Nat) (a0_0 : Int) (A0_1 : Option Addr) (c0_1 : Nat) (l0_1 : List (S79)) (r : Bool) (w : World) (hr0_1 : Kd.C k79 w A0_1 l0_1.length l0_1) (hc0_1 : l0_1.length ≤ c0_1) (h : impl_NetValid.f k a0_0 l0_1 = some r) :
  Calls Tryd.prog 59 #[.agg #[.int .i64 a0_0, .slice A0_1 l0_1.length c0_1]] w fun e w' => e = .returned (.bool r) ∧ Below w.heap.size w w' := by
 have hu25 := Tryd.underlying25
 have hu79 := Tryd.underlying79
 have HR0_1 := Aside0.mk hr0_1
 have HC0_1 := Aside0.mk hc0_1
 clear hr0_1 hc0_1
 have HB := aM (Below.refl w.heap.size w)
 have H : (if a0_0 < 1 then (impl_NetValid.j0 k true a0_0 l0_1) else (if a0_0 > 8 then (impl_NetValid.j0 k true a0_0 l0_1) else (impl_NetValid.j0 k (decide ((l0_1.length : Int) > 10)) a0_0 l0_1))) = some r := h
 clear h
 have HC2 := Aside0.mk H
 clear H
 go_enter Tryd.func59, Tryd.ntmps59
 go_upto_region 1 with (first | ((with_reducible refine gate_dst (N := 1) rfl ?_); refine box_event ?hg (N := 1) ?hd (cs := #[.int .i64 a0_0, .slice A0_1 l0_1.length c0_1]) (t := 25) ?hr ?_; (case hd => rfl); (case hg => rfl); (case hr => exact hR); intro gb282 hg w3 hbox hb; have n0_ := aM (below_step (bl0 HB) hb); have n1_ := aM (hbox); have n2_ := aM ((by rw [hg]; exact (below_size (bl0 HB)) : w.heap.size ≤ gb282)); have n3_ := aM ((by rw [hg]; exact (below_size (bl0 HB)) : w.heap.size ≤ gb282)); clear HB; have HB := n0_; have BK282 := n1_; have GW282 := n2_; have GE282 := n3_; clear n0_ n1_ n2_ n3_; clear hb hbox hg))
 (try simp only [Act.put, List.setIfInBounds_toArray, List.set_cons_zero, List.set_cons_succ])
 go_cut [18] (fun v18 wc => ∃ (kq : Nat) (x18_1 : Bool), v18 = .bool x18_1 ∧ Aside0 (impl_NetValid.j0 kq x18_1 a0_0 l0_1 = some r) ∧ Aside0 (kq ≤ k) ∧ Aside0 (wc.heap[gb282]? = some (.cells #[.int .i64 a0_0, (.slice A0_1 l0_1.length c0_1)] 25 (0, 0))) ∧ Aside0 (Below w.heap.size w wc))
 case first =>
  have H := HC2.out
  clear HC2
  by_cases c4 : a0_0 < 1
  ·
   rw [if_pos c4] at H
   have c4b0 : decide (a0_0 < 1) = true := decide_eq_true c4
   clear c4
   (first | rw [c4b0] | (simp only [i64_w, i32_w]; rw [c4b0]) | skip)
   have H' := Aside0.mk H
   clear H
   have hcz5_0 : w3.cell? ⟨gb282, 0, none⟩ = some (.int .i64 a0_0) := (blk_cell BK282.out 0).trans rfl
   have hcz5_1 : w3.cell? ⟨gb282, 1, none⟩ = some (.slice A0_1 l0_1.length c0_1) := (blk_cell BK282.out 1).trans rfl
   have hfz5_0 := blk_frozen BK282.out 0
   have hfz5_1 := blk_frozen BK282.out 1
   go_wp2
   go_meet
   case rel => exact ⟨_, (true), fS, H', ⟨by first | omega | exact Nat.le_refl _⟩, ⟨gB (BK282.out)⟩, ⟨bl1 HB GE282⟩⟩
  rw [if_neg c4] at H
  have c4b0 : decide (a0_0 < 1) = false := decide_eq_false c4
  clear c4
  (first | rw [c4b0] | (simp only [i64_w, i32_w]; rw [c4b0]) | skip)
  by_cases c6 : a0_0 > 8
  ·
   rw [if_pos c6] at H
   have c6b0 : decide (8 < a0_0) = true := decide_eq_true c6
   clear c6
   have H' := Aside0.mk H
   clear H
   have hcz7_0 : w3.cell? ⟨gb282, 0, none⟩ = some (.int .i64 a0_0) := (blk_cell BK282.out 0).trans rfl
   have hcz7_1 : w3.cell? ⟨gb282, 1, none⟩ = some (.slice A0_1 l0_1.length c0_1) := (blk_cell BK282.out 1).trans rfl
   have hfz7_0 := blk_frozen BK282.out 0
   have hfz7_1 := blk_frozen BK282.out 1
   go_wp2
   go_meet
   case rel => exact ⟨_, (true), fS, H', ⟨by first | omega | exact Nat.le_refl _⟩, ⟨gB (BK282.out)⟩, ⟨bl1 HB GE282⟩⟩
  rw [if_neg c6] at H
  have c6b0 : decide (8 < a0_0) = false := decide_eq_false c6
  clear c6
  have H' := Aside0.mk H
  clear H
  have hcz8_0 : w3.cell? ⟨gb282, 0, none⟩ = some (.int .i64 a0_0) := (blk_cell BK282.out 0).trans rfl
  have hcz8_1 : w3.cell? ⟨gb282, 1, none⟩ = some (.slice A0_1 l0_1.length c0_1) := (blk_cell BK282.out 1).trans rfl
  have hfz8_0 := blk_frozen BK282.out 0
  have hfz8_1 := blk_frozen BK282.out 1
  go_wp2
  go_meet
  case rel => exact ⟨_, (decide ((l0_1.length : Int) > 10)), fS, H', ⟨by first | omega | exact Nat.le_refl _⟩, ⟨gB (BK282.out)⟩, ⟨bl1 HB GE282⟩⟩
 case rest =>
  clear HC2
  try clear p2
  try clear c4
  try clear c4b0
  try clear c5
  try clear c6
  try clear c6b0
  try clear hcz5_0
  try clear hcz5_1
  try clear hcz7_0
  try clear hcz7_1
  try clear hcz8_0
  try clear hcz8_1
  try clear hfz5_0
  try clear hfz5_1
  try clear hfz7_0
  try clear hfz7_1
  try clear hfz8_0
  try clear hfz8_1
  obtain ⟨kq, x18_1, rfl, HA, HJ1, BK282, HB⟩ := hcut
  cases kq with
  | zero => exact absurd HA.out (by simp [impl_NetValid.j0])
  | succ kj1 =>
   have H := HA.out
   clear HA
   simp only [impl_NetValid.j0] at H
   by_cases c9 : x18_1 = true
   ·
    subst c9
    have H1 : (some false) = some r := by rw [if_pos rfl] at H; exact H
    clear H
    have H := H1
    clear H1
    obtain rfl := Option.some.inj H
    go_wp2
    go_ret
    exact ⟨fR, bl1 HB GE282⟩
   replace c9 := Bool.eq_false_iff.mpr c9
   subst c9
   have H1 : (impl_NetValid.l0 kj1 l0_1 (l0_1.length : Int) 0 a0_0 l0_1) = some r := by rw [if_neg (show ¬ (false = true) by decide)] at H; exact H
   clear H
   have H := H1
   clear H1
   have H' := Aside0.mk H
   clear H
   have hcz10_0 : wc.cell? ⟨gb282, 0, none⟩ = some (.int .i64 a0_0) := (blk_cell BK282.out 0).trans rfl
   have hcz10_1 : wc.cell? ⟨gb282, 1, none⟩ = some (.slice A0_1 l0_1.length c0_1) := (blk_cell BK282.out 1).trans rfl
   have hfz10_0 := blk_frozen BK282.out 0
   have hfz10_1 := blk_frozen BK282.out 1
   go_wp2
   go_loopg [22] kj1 (fun kq v22 w' => ∃ (x22_2 : Int), v22 = .int .i64 x22_2 ∧ Aside0 (impl_NetValid.l0 kq l0_1 (l0_1.length : Int) x22_2 a0_0 l0_1 = some r) ∧ Aside0 (kq ≤ kj1) ∧ Aside0 (w'.heap[gb282]? = some (.cells #[.int .i64 a0_0, (.slice A0_1 l0_1.length c0_1)] 25 (0, 0))) ∧ Aside0 (Below w.heap.size w w'))
   case atStart => exact ⟨(0), fS, H', ⟨Nat.le_refl _⟩, ⟨gB (BK282.out)⟩, ⟨bl1 HB GE282⟩⟩
   case round =>
    clear H'
    try clear p2
    try clear c4
    try clear c4b0
    try clear c5
    try clear c6
    try clear c6b0
    try clear c9
    try clear hcz10_0
    try clear hcz10_1
    try clear hcz5_0
    try clear hcz5_1
    try clear hcz7_0
    try clear hcz7_1
    try clear hcz8_0
    try clear hcz8_1
    try clear hfz10_0
    try clear hfz10_1
    try clear hfz5_0
    try clear hfz5_1
    try clear hfz7_0
    try clear hfz7_1
    try clear hfz8_0
    try clear hfz8_1
    try clear p2
    obtain ⟨x22_2, rfl, HA, HK2, BK282, HB⟩ := hrel
    cases gk with
    | zero => exact absurd HA.out (by simp [impl_NetValid.l0])
    | succ k2 =>
     have H := HA.out
     clear HA
     simp only [impl_NetValid.l0] at H
     by_cases c11 : x22_2 < (l0_1.length : Int)
     rotate_left
     ·
      rw [if_neg c11] at H
      have c11b0 : decide (x22_2 < (l0_1.length : Int)) = false := decide_eq_false c11
      clear c11
      obtain rfl := Option.some.inj H
      go_wp2
      go_ret
      exact ⟨fR, bl1 HB GE282⟩
     rw [if_pos c11] at H
     have c11b0 : decide (x22_2 < (l0_1.length : Int)) = true := decide_eq_true c11
     clear c11
     by_cases c12 : 0 ≤ x22_2
     rotate_left
     ·
      rw [if_neg c12] at H
      exact absurd H (by simp)
     rw [if_pos c12] at H
     have c12b0 : decide (0 ≤ x22_2) = true := decide_eq_true c12
     clear c12
     by_cases c13 : x22_2 < (l0_1.length : Int)
     rotate_left
     ·
      rw [if_neg c13] at H
      exact absurd H (by simp)
     rw [if_pos c13] at H
     have c13b0 : decide (x22_2 < (l0_1.length : Int)) = true := decide_eq_true c13
     clear c13
     replace H := Option.bind_eq_some_iff.mp H
     obtain ⟨t285, A140, H⟩ := H
     replace H : (if t285 = true then ((impl_Net_hasBus.f a0_0 l0_1 ((rd_T79 l0_1 x22_2).f1)).bind fun t286 => (if t286 = true then (if ((rd_T79 l0_1 x22_2).f0) = ((rd_T79 l0_1 x22_2).f1) then (some false) else (if ((rd_T79 l0_1 x22_2).f2) < 1 then (some false) else (if ((rd_T79 l0_1 x22_2).f2) > 999 then (some false) else (impl_NetValid.l0 k2 l0_1 (l0_1.length : Int) (wrap64 (x22_2 + 1)) a0_0 l0_1)))) else (some false))) else (some false)) = some r := H
     have A14 := Aside0.mk A140
     clear A140
     by_cases c15 : t285 = true
     rotate_left
     ·
      replace c15 := Bool.eq_false_iff.mpr c15
      subst c15
      have H1 : (some false) = some r := by rw [if_neg (show ¬ (false = true) by decide)] at H; exact H
      clear H
      have H := H1
      clear H1
      obtain rfl := Option.some.inj H
      have p283 : 0 ≤ (x22_2 : Int) := oD
      have q283 : x22_2 < (l0_1.length : Int) := oD
      obtain ⟨ad283, e283, hx283_0, hx283_1, hx283_2⟩ := at_T79 HR0_1.out x22_2 p283 q283
      cases e283
      replace hx283_0 := (HB.out.cell (World.block_lt_of_cell? w _ hx283_0)).trans hx283_0
      replace hx283_1 := (HB.out.cell (World.block_lt_of_cell? w _ hx283_1)).trans hx283_1
      replace hx283_2 := (HB.out.cell (World.block_lt_of_cell? w _ hx283_2)).trans hx283_2
      replace p283 := eq_true p283
      replace q283 := eq_true q283
      go_wp2_with (first | ((with_reducible refine gate_dst (N := 4) rfl ?_); refine box_event ?hg (N := 4) ?hd (cs := #[.int .i64 0, .int .i64 0, .int .i64 0]) (t := 79) ?hr ?_; (case hd => rfl); (case hg => rfl); (case hr => exact hR); intro gb284 hg w65 hbox hb; have n0_ := aM (blk_below (g := gb282) (o := .cells #[.int .i64 a0_0, .slice (some ad283) l0_1.length c0_1] 25 (0, 0)) (gB (BK282.out)) hb); have n1_ := aM (below_step (bl1 HB GE282) hb); have n2_ := aM (hbox); have n3_ := aM ((by rw [hg]; exact (below_size (bl1 HB GE282)) : w.heap.size ≤ gb284)); have n4_ := aM ((by rw [hg]; exact (below_size (bl1 HB GE282)) : w.heap.size ≤ gb284)); have n5_ := aM ((by rw [hg]; exact Nat.ne_of_lt (blk_lt (g := gb282) (o := .cells #[.int .i64 a0_0, .slice (some ad283) l0_1.length c0_1] 25 (0, 0)) (gB (BK282.out))) : gb282 ≠ gb284)); have n6_ := aM ((by rw [hg]; exact Nat.ne_of_gt (blk_lt (g := gb282) (o := .cells #[.int .i64 a0_0, .slice (some ad283) l0_1.length c0_1] 25 (0, 0)) (gB (BK282.out))) : gb284 ≠ gb282)); clear BK282; clear HB; have BK282 := n0_; have HB := n1_; have BK284 := n2_; have GW284 := n3_; have GE284 := n4_; have NB282_284 := n5_; have NB284_282 := n6_; clear n0_ n1_ n2_ n3_ n4_ n5_ n6_; clear hb hbox hg; have hnb66 := NB284_282.out; have hnc66 := NB282_284.out; have hcz67_0 : w65.cell? ⟨gb284, 0, none⟩ = some (.int .i64 0) := (blk_cell BK284.out 0).trans rfl; have hcz67_1 : w65.cell? ⟨gb284, 1, none⟩ = some (.int .i64 0) := (blk_cell BK284.out 1).trans rfl; have hcz67_2 : w65.cell? ⟨gb284, 2, none⟩ = some (.int .i64 0) := (blk_cell BK284.out 2).trans rfl; have hfz67_0 := blk_frozen BK284.out 0; have hfz67_1 := blk_frozen BK284.out 1; have hfz67_2 := blk_frozen BK284.out 2; have hcz68_0 : w65.cell? ⟨gb282, 0, none⟩ = some (.int .i64 a0_0) := (blk_cell BK282.out 0).trans rfl; have hcz68_1 : w65.cell? ⟨gb282, 1, none⟩ = some (.slice (some ad283) l0_1.length c0_1) := (blk_cell BK282.out 1).trans rfl; have hfz68_0 := blk_frozen BK282.out 0; have hfz68_1 := blk_frozen BK282.out 1) | ((with_reducible refine gate_callee (f := 70) rfl ?_); refine goesL_ (some 29) rfl rfl Tryd.func70 (by kernel_rfl) rfl #[.agg #[.int .i64 a0_0, .slice (some ad283) l0_1.length c0_1], .int .i64 ((rd_T79 l0_1 x22_2).f0)] rfl mP ?_; (with_reducible refine (impl_Net_hasBus.calls a0_0 _ _ l0_1 ((rd_T79 l0_1 x22_2).f0) false _ ?side1 ?side2 A14.out).mono ?_); (case side1 => exact Kd.C_below HR0_1.out (bl2 HB GE282 GE284)); (case side2 => exact HC0_1.out); rintro e w69 ⟨rfl, hb⟩; refine ⟨_, rfl, ?_⟩; have n0_ := aM (blk_below (g := gb282) (o := .cells #[.int .i64 a0_0, .slice (some ad283) l0_1.length c0_1] 25 (0, 0)) (by (with_reducible repeat (first | refine blk_drewN ?_ _ | refine blk_drew ?_ | refine blk_alloc ?_ _)); refine blk_far ?_ NB282_284.out _; (with_reducible repeat (first | refine blk_drewN ?_ _ | refine blk_drew ?_ | refine blk_alloc ?_ _)); refine blk_far ?_ NB282_284.out _; (with_reducible repeat (first | refine blk_drewN ?_ _ | refine blk_drew ?_ | refine blk_alloc ?_ _)); refine blk_far ?_ NB282_284.out _; (with_reducible repeat (first | refine blk_drewN ?_ _ | refine blk_drew ?_ | refine blk_alloc ?_ _)); exact BK282.out) hb); have n1_ := aM (blk_below (g := gb284) (o := .cells #[.int .i64 ((rd_T79 l0_1 x22_2).f0), .int .i64 ((rd_T79 l0_1 x22_2).f1), .int .i64 ((rd_T79 l0_1 x22_2).f2)] 79 (0, 0)) (by (with_reducible repeat (first | refine blk_drewN ?_ _ | refine blk_drew ?_ | refine blk_alloc ?_ _)); refine blk_put (cs := #[.int .i64 ((rd_T79 l0_1 x22_2).f0), .int .i64 ((rd_T79 l0_1 x22_2).f1), .int .i64 0]) ?_ 2 _ rfl; (with_reducible repeat (first | refine blk_drewN ?_ _ | refine blk_drew ?_ | refine blk_alloc ?_ _)); refine blk_put (cs := #[.int .i64 ((rd_T79 l0_1 x22_2).f0), .int .i64 0, .int .i64 0]) ?_ 1 _ rfl; (with_reducible repeat (first | refine blk_drewN ?_ _ | refine blk_drew ?_ | refine blk_alloc ?_ _)); refine blk_put (cs := #[.int .i64 0, .int .i64 0, .int .i64 0]) ?_ 0 _ rfl; (with_reducible repeat (first | refine blk_drewN ?_ _ | refine blk_drew ?_ | refine blk_alloc ?_ _)); exact BK284.out) hb); have n2_ := aM (below_step (bl2 HB GE282 GE284) hb); clear BK282; clear BK284; clear HB; have BK282 := n0_; have BK284 := n1_; have HB := n2_; clear n0_ n1_ n2_; (try clear hb); (try clear hb2); (try clear hk); (try clear hi)))
      go_ret
      exact ⟨fR, bl2 HB GE282 GE284⟩
     subst c15
     have H1 : ((impl_Net_hasBus.f a0_0 l0_1 ((rd_T79 l0_1 x22_2).f1)).bind fun t286 => (if t286 = true then (if ((rd_T79 l0_1 x22_2).f0) = ((rd_T79 l0_1 x22_2).f1) then (some false) else (if ((rd_T79 l0_1 x22_2).f2) < 1 then (some false) else (if ((rd_T79 l0_1 x22_2).f2) > 999 then (some false) else (impl_NetValid.l0 k2 l0_1 (l0_1.length : Int) (wrap64 (x22_2 + 1)) a0_0 l0_1)))) else (some false))) = some r := by rw [if_pos rfl] at H; exact H
     clear H
     have H := H1
     clear H1
     replace H := Option.bind_eq_some_iff.mp H
     obtain ⟨t286, A160, H⟩ := H
     replace H : (if t286 = true then (if ((rd_T79 l0_1 x22_2).f0) = ((rd_T79 l0_1 x22_2).f1) then (some false) else (if ((rd_T79 l0_1 x22_2).f2) < 1 then (some false) else (if ((rd_T79 l0_1 x22_2).f2) > 999 then (some false) else (impl_NetValid.l0 k2 l0_1 (l0_1.length : Int) (wrap64 (x22_2 + 1)) a0_0 l0_1)))) else (some false)) = some r := H
     have A16 := Aside0.mk A160
     clear A160
     by_cases c17 : t286 = true
     rotate_left
     ·
      replace c17 := Bool.eq_false_iff.mpr c17
      subst c17
      have H1 : (some false) = some r := by rw [if_neg (show ¬ (false = true) by decide)] at H; exact H
      clear H
      have H := H1
      clear H1
      obtain rfl := Option.some.inj H
      have p283 : 0 ≤ (x22_2 : Int) := oD
      have q283 : x22_2 < (l0_1.length : Int) := oD
      obtain ⟨ad283, e283, hx283_0, hx283_1, hx283_2⟩ := at_T79 HR0_1.out x22_2 p283 q283
      cases e283
      replace hx283_0 := (HB.out.cell (World.block_lt_of_cell? w _ hx283_0)).trans hx283_0
      replace hx283_1 := (HB.out.cell (World.block_lt_of_cell? w _ hx283_1)).trans hx283_1
      replace hx283_2 := (HB.out.cell (World.block_lt_of_cell? w _ hx283_2)).trans hx283_2
      replace p283 := eq_true p283
      replace q283 := eq_true q283
      go_wp2_with (first | ((with_reducible refine gate_dst (N := 4) rfl ?_); refine box_event ?hg (N := 4) ?hd (cs := #[.int .i64 0, .int .i64 0, .int .i64 0]) (t := 79) ?hr ?_; (case hd => rfl); (case hg => rfl); (case hr => exact hR); intro gb284 hg w57 hbox hb; have n0_ := aM (blk_below (g := gb282) (o := .cells #[.int .i64 a0_0, .slice (some ad283) l0_1.length c0_1] 25 (0, 0)) (gB (BK282.out)) hb); have n1_ := aM (below_step (bl1 HB GE282) hb); have n2_ := aM (hbox); have n3_ := aM ((by rw [hg]; exact (below_size (bl1 HB GE282)) : w.heap.size ≤ gb284)); have n4_ := aM ((by rw [hg]; exact (below_size (bl1 HB GE282)) : w.heap.size ≤ gb284)); have n5_ := aM ((by rw [hg]; exact Nat.ne_of_lt (blk_lt (g := gb282) (o := .cells #[.int .i64 a0_0, .slice (some ad283) l0_1.length c0_1] 25 (0, 0)) (gB (BK282.out))) : gb282 ≠ gb284)); have n6_ := aM ((by rw [hg]; exact Nat.ne_of_gt (blk_lt (g := gb282) (o := .cells #[.int .i64 a0_0, .slice (some ad283) l0_1.length c0_1] 25 (0, 0)) (gB (BK282.out))) : gb284 ≠ gb282)); clear BK282; clear HB; have BK282 := n0_; have HB := n1_; have BK284 := n2_; have GW284 := n3_; have GE284 := n4_; have NB282_284 := n5_; have NB284_282 := n6_; clear n0_ n1_ n2_ n3_ n4_ n5_ n6_; clear hb hbox hg; have hnb58 := NB284_282.out; have hnc58 := NB282_284.out; have hcz59_0 : w57.cell? ⟨gb284, 0, none⟩ = some (.int .i64 0) := (blk_cell BK284.out 0).trans rfl; have hcz59_1 : w57.cell? ⟨gb284, 1, none⟩ = some (.int .i64 0) := (blk_cell BK284.out 1).trans rfl; have hcz59_2 : w57.cell? ⟨gb284, 2, none⟩ = some (.int .i64 0) := (blk_cell BK284.out 2).trans rfl; have hfz59_0 := blk_frozen BK284.out 0; have hfz59_1 := blk_frozen BK284.out 1; have hfz59_2 := blk_frozen BK284.out 2; have hcz60_0 : w57.cell? ⟨gb282, 0, none⟩ = some (.int .i64 a0_0) := (blk_cell BK282.out 0).trans rfl; have hcz60_1 : w57.cell? ⟨gb282, 1, none⟩ = some (.slice (some ad283) l0_1.length c0_1) := (blk_cell BK282.out 1).trans rfl; have hfz60_0 := blk_frozen BK282.out 0; have hfz60_1 := blk_frozen BK282.out 1) | ((with_reducible refine gate_callee (f := 70) rfl ?_); refine goesL_ (some 29) rfl rfl Tryd.func70 (by kernel_rfl) rfl #[.agg #[.int .i64 a0_0, .slice (some ad283) l0_1.length c0_1], .int .i64 ((rd_T79 l0_1 x22_2).f0)] rfl mP ?_; (with_reducible refine (impl_Net_hasBus.calls a0_0 _ _ l0_1 ((rd_T79 l0_1 x22_2).f0) true _ ?side1 ?side2 A14.out).mono ?_); (case side1 => exact Kd.C_below HR0_1.out (bl2 HB GE282 GE284)); (case side2 => exact HC0_1.out); rintro e w61 ⟨rfl, hb⟩; refine ⟨_, rfl, ?_⟩; have n0_ := aM (blk_below (g := gb282) (o := .cells #[.int .i64 a0_0, .slice (some ad283) l0_1.length c0_1] 25 (0, 0)) (by (with_reducible repeat (first | refine blk_drewN ?_ _ | refine blk_drew ?_ | refine blk_alloc ?_ _)); refine blk_far ?_ NB282_284.out _; (with_reducible repeat (first | refine blk_drewN ?_ _ | refine blk_drew ?_ | refine blk_alloc ?_ _)); refine blk_far ?_ NB282_284.out _; (with_reducible repeat (first | refine blk_drewN ?_ _ | refine blk_drew ?_ | refine blk_alloc ?_ _)); refine blk_far ?_ NB282_284.out _; (with_reducible repeat (first | refine blk_drewN ?_ _ | refine blk_drew ?_ | refine blk_alloc ?_ _)); exact BK282.out) hb); have n1_ := aM (blk_below (g := gb284) (o := .cells #[.int .i64 ((rd_T79 l0_1 x22_2).f0), .int .i64 ((rd_T79 l0_1 x22_2).f1), .int .i64 ((rd_T79 l0_1 x22_2).f2)] 79 (0, 0)) (by (with_reducible repeat (first | refine blk_drewN ?_ _ | refine blk_drew ?_ | refine blk_alloc ?_ _)); refine blk_put (cs := #[.int .i64 ((rd_T79 l0_1 x22_2).f0), .int .i64 ((rd_T79 l0_1 x22_2).f1), .int .i64 0]) ?_ 2 _ rfl; (with_reducible repeat (first | refine blk_drewN ?_ _ | refine blk_drew ?_ | refine blk_alloc ?_ _)); refine blk_put (cs := #[.int .i64 ((rd_T79 l0_1 x22_2).f0), .int .i64 0, .int .i64 0]) ?_ 1 _ rfl; (with_reducible repeat (first | refine blk_drewN ?_ _ | refine blk_drew ?_ | refine blk_alloc ?_ _)); refine blk_put (cs := #[.int .i64 0, .int .i64 0, .int .i64 0]) ?_ 0 _ rfl; (with_reducible repeat (first | refine blk_drewN ?_ _ | refine blk_drew ?_ | refine blk_alloc ?_ _)); exact BK284.out) hb); have n2_ := aM (below_step (bl2 HB GE282 GE284) hb); clear BK282; clear BK284; clear HB; have BK282 := n0_; have BK284 := n1_; have HB := n2_; clear n0_ n1_ n2_; (try clear hb); (try clear hb2); (try clear hk); (try clear hi); have hcz62_0 : w61.cell? ⟨gb282, 0, none⟩ = some (.int .i64 a0_0) := (blk_cell BK282.out 0).trans rfl; have hcz62_1 : w61.cell? ⟨gb282, 1, none⟩ = some (.slice (some ad283) l0_1.length c0_1) := (blk_cell BK282.out 1).trans rfl; have hfz62_0 := blk_frozen BK282.out 0; have hfz62_1 := blk_frozen BK282.out 1; have hcz63_0 : w61.cell? ⟨gb284, 0, none⟩ = some (.int .i64 ((rd_T79 l0_1 x22_2).f0)) := (blk_cell BK284.out 0).trans rfl; have hcz63_1 : w61.cell? ⟨gb284, 1, none⟩ = some (.int .i64 ((rd_T79 l0_1 x22_2).f1)) := (blk_cell BK284.out 1).trans rfl; have hcz63_2 : w61.cell? ⟨gb284, 2, none⟩ = some (.int .i64 ((rd_T79 l0_1 x22_2).f2)) := (blk_cell BK284.out 2).trans rfl; have hfz63_0 := blk_frozen BK284.out 0; have hfz63_1 := blk_frozen BK284.out 1; have hfz63_2 := blk_frozen BK284.out 2) | (go_at_call 70; (with_reducible refine (impl_Net_hasBus.calls a0_0 _ _ l0_1 ((rd_T79 l0_1 x22_2).f1) false _ ?side1 ?side2 A16.out).mono ?_); (case side1 => exact gC ((Kd.C_below HR0_1.out HB.out))); (case side2 => exact HC0_1.out); rintro e w64 ⟨rfl, hb⟩; have n0_ := aM (blk_below (g := gb282) (o := .cells #[.int .i64 a0_0, .slice (some ad283) l0_1.length c0_1] 25 (0, 0)) (gB (BK282.out)) hb); have n1_ := aM (blk_below (g := gb284) (o := .cells #[.int .i64 ((rd_T79 l0_1 x22_2).f0), .int .i64 ((rd_T79 l0_1 x22_2).f1), .int .i64 ((rd_T79 l0_1 x22_2).f2)] 79 (0, 0)) (gB (BK284.out)) hb); have n2_ := aM (below_step (bl2 HB GE282 GE284) hb); clear BK282; clear BK284; clear HB; have BK282 := n0_; have BK284 := n1_; have HB := n2_; clear n0_ n1_ n2_; (try clear hb); (try clear hb2); (try clear hk); (try clear hi)))
      go_ret
      exact ⟨fR, bl2 HB GE282 GE284⟩
     subst c17
     have H1 : (if ((rd_T79 l0_1 x22_2).f0) = ((rd_T79 l0_1 x22_2).f1) then (some false) else (if ((rd_T79 l0_1 x22_2).f2) < 1 then (some false) else (if ((rd_T79 l0_1 x22_2).f2) > 999 then (some false) else (impl_NetValid.l0 k2 l0_1 (l0_1.length : Int) (wrap64 (x22_2 + 1)) a0_0 l0_1)))) = some r := by rw [if_pos rfl] at H; exact H
     clear H
     have H := H1
     clear H1
     by_cases c18 : ((rd_T79 l0_1 x22_2).f0) = ((rd_T79 l0_1 x22_2).f1)
     ·
      rw [if_pos c18] at H
      have c18b0 : (((rd_T79 l0_1 x22_2).f0) == ((rd_T79 l0_1 x22_2).f1)) = true := beq_iff_eq.mpr c18
      have c18b1 : (((rd_T79 l0_1 x22_2).f0) != ((rd_T79 l0_1 x22_2).f1)) = false := bne_eq_false_iff_eq.mpr c18
      clear c18
      obtain rfl := Option.some.inj H
      have p283 : 0 ≤ (x22_2 : Int) := oD
      have q283 : x22_2 < (l0_1.length : Int) := oD
      obtain ⟨ad283, e283, hx283_0, hx283_1, hx283_2⟩ := at_T79 HR0_1.out x22_2 p283 q283
      cases e283
      replace hx283_0 := (HB.out.cell (World.block_lt_of_cell? w _ hx283_0)).trans hx283_0
      replace hx283_1 := (HB.out.cell (World.block_lt_of_cell? w _ hx283_1)).trans hx283_1
      replace hx283_2 := (HB.out.cell (World.block_lt_of_cell? w _ hx283_2)).trans hx283_2
      replace p283 := eq_true p283
      replace q283 := eq_true q283
      go_wp2_with (first | ((with_reducible refine gate_dst (N := 4) rfl ?_); refine box_event ?hg (N := 4) ?hd (cs := #[.int .i64 0, .int .i64 0, .int .i64 0]) (t := 79) ?hr ?_; (case hd => rfl); (case hg => rfl); (case hr => exact hR); intro gb284 hg w19 hbox hb; have n0_ := aM (blk_below (g := gb282) (o := .cells #[.int .i64 a0_0, .slice (some ad283) l0_1.length c0_1] 25 (0, 0)) (gB (BK282.out)) hb); have n1_ := aM (below_step (bl1 HB GE282) hb); have n2_ := aM (hbox); have n3_ := aM ((by rw [hg]; exact (below_size (bl1 HB GE282)) : w.heap.size ≤ gb284)); have n4_ := aM ((by rw [hg]; exact (below_size (bl1 HB GE282)) : w.heap.size ≤ gb284)); have n5_ := aM ((by rw [hg]; exact Nat.ne_of_lt (blk_lt (g := gb282) (o := .cells #[.int .i64 a0_0, .slice (some ad283) l0_1.length c0_1] 25 (0, 0)) (gB (BK282.out))) : gb282 ≠ gb284)); have n6_ := aM ((by rw [hg]; exact Nat.ne_of_gt (blk_lt (g := gb282) (o := .cells #[.int .i64 a0_0, .slice (some ad283) l0_1.length c0_1] 25 (0, 0)) (gB (BK282.out))) : gb284 ≠ gb282)); clear BK282; clear HB; have BK282 := n0_; have HB := n1_; have BK284 := n2_; have GW284 := n3_; have GE284 := n4_; have NB282_284 := n5_; have NB284_282 := n6_; clear n0_ n1_ n2_ n3_ n4_ n5_ n6_; clear hb hbox hg; have hnb20 := NB284_282.out; have hnc20 := NB282_284.out; have hcz21_0 : w19.cell? ⟨gb284, 0, none⟩ = some (.int .i64 0) := (blk_cell BK284.out 0).trans rfl; have hcz21_1 : w19.cell? ⟨gb284, 1, none⟩ = some (.int .i64 0) := (blk_cell BK284.out 1).trans rfl; have hcz21_2 : w19.cell? ⟨gb284, 2, none⟩ = some (.int .i64 0) := (blk_cell BK284.out 2).trans rfl; have hfz21_0 := blk_frozen BK284.out 0; have hfz21_1 := blk_frozen BK284.out 1; have hfz21_2 := blk_frozen BK284.out 2; have hcz22_0 : w19.cell? ⟨gb282, 0, none⟩ = some (.int .i64 a0_0) := (blk_cell BK282.out 0).trans rfl; have hcz22_1 : w19.cell? ⟨gb282, 1, none⟩ = some (.slice (some ad283) l0_1.length c0_1) := (blk_cell BK282.out 1).trans rfl; have hfz22_0 := blk_frozen BK282.out 0; have hfz22_1 := blk_frozen BK282.out 1) | ((with_reducible refine gate_callee (f := 70) rfl ?_); refine goesL_ (some 29) rfl rfl Tryd.func70 (by kernel_rfl) rfl #[.agg #[.int .i64 a0_0, .slice (some ad283) l0_1.length c0_1], .int .i64 ((rd_T79 l0_1 x22_2).f0)] rfl mP ?_; (with_reducible refine (impl_Net_hasBus.calls a0_0 _ _ l0_1 ((rd_T79 l0_1 x22_2).f0) true _ ?side1 ?side2 A14.out).mono ?_); (case side1 => exact Kd.C_below HR0_1.out (bl2 HB GE282 GE284)); (case side2 => exact HC0_1.out); rintro e w23 ⟨rfl, hb⟩; refine ⟨_, rfl, ?_⟩; have n0_ := aM (blk_below (g := gb282) (o := .cells #[.int .i64 a0_0, .slice (some ad283) l0_1.length c0_1] 25 (0, 0)) (by (with_reducible repeat (first | refine blk_drewN ?_ _ | refine blk_drew ?_ | refine blk_alloc ?_ _)); refine blk_far ?_ NB282_284.out _; (with_reducible repeat (first | refine blk_drewN ?_ _ | refine blk_drew ?_ | refine blk_alloc ?_ _)); refine blk_far ?_ NB282_284.out _; (with_reducible repeat (first | refine blk_drewN ?_ _ | refine blk_drew ?_ | refine blk_alloc ?_ _)); refine blk_far ?_ NB282_284.out _; (with_reducible repeat (first | refine blk_drewN ?_ _ | refine blk_drew ?_ | refine blk_alloc ?_ _)); exact BK282.out) hb); have n1_ := aM (blk_below (g := gb284) (o := .cells #[.int .i64 ((rd_T79 l0_1 x22_2).f0), .int .i64 ((rd_T79 l0_1 x22_2).f1), .int .i64 ((rd_T79 l0_1 x22_2).f2)] 79 (0, 0)) (by (with_reducible repeat (first | refine blk_drewN ?_ _ | refine blk_drew ?_ | refine blk_alloc ?_ _)); refine blk_put (cs := #[.int .i64 ((rd_T79 l0_1 x22_2).f0), .int .i64 ((rd_T79 l0_1 x22_2).f1), .int .i64 0]) ?_ 2 _ rfl; (with_reducible repeat (first | refine blk_drewN ?_ _ | refine blk_drew ?_ | refine blk_alloc ?_ _)); refine blk_put (cs := #[.int .i64 ((rd_T79 l0_1 x22_2).f0), .int .i64 0, .int .i64 0]) ?_ 1 _ rfl; (with_reducible repeat (first | refine blk_drewN ?_ _ | refine blk_drew ?_ | refine blk_alloc ?_ _)); refine blk_put (cs := #[.int .i64 0, .int .i64 0, .int .i64 0]) ?_ 0 _ rfl; (with_reducible repeat (first | refine blk_drewN ?_ _ | refine blk_drew ?_ | refine blk_alloc ?_ _)); exact BK284.out) hb); have n2_ := aM (below_step (bl2 HB GE282 GE284) hb); clear BK282; clear BK284; clear HB; have BK282 := n0_; have BK284 := n1_; have HB := n2_; clear n0_ n1_ n2_; (try clear hb); (try clear hb2); (try clear hk); (try clear hi); have hcz24_0 : w23.cell? ⟨gb282, 0, none⟩ = some (.int .i64 a0_0) := (blk_cell BK282.out 0).trans rfl; have hcz24_1 : w23.cell? ⟨gb282, 1, none⟩ = some (.slice (some ad283) l0_1.length c0_1) := (blk_cell BK282.out 1).trans rfl; have hfz24_0 := blk_frozen BK282.out 0; have hfz24_1 := blk_frozen BK282.out 1; have hcz25_0 : w23.cell? ⟨gb284, 0, none⟩ = some (.int .i64 ((rd_T79 l0_1 x22_2).f0)) := (blk_cell BK284.out 0).trans rfl; have hcz25_1 : w23.cell? ⟨gb284, 1, none⟩ = some (.int .i64 ((rd_T79 l0_1 x22_2).f1)) := (blk_cell BK284.out 1).trans rfl; have hcz25_2 : w23.cell? ⟨gb284, 2, none⟩ = some (.int .i64 ((rd_T79 l0_1 x22_2).f2)) := (blk_cell BK284.out 2).trans rfl; have hfz25_0 := blk_frozen BK284.out 0; have hfz25_1 := blk_frozen BK284.out 1; have hfz25_2 := blk_frozen BK284.out 2) | (go_at_call 70; (with_reducible refine (impl_Net_hasBus.calls a0_0 _ _ l0_1 ((rd_T79 l0_1 x22_2).f1) true _ ?side1 ?side2 A16.out).mono ?_); (case side1 => exact gC ((Kd.C_below HR0_1.out HB.out))); (case side2 => exact HC0_1.out); rintro e w26 ⟨rfl, hb⟩; have n0_ := aM (blk_below (g := gb282) (o := .cells #[.int .i64 a0_0, .slice (some ad283) l0_1.length c0_1] 25 (0, 0)) (gB (BK282.out)) hb); have n1_ := aM (blk_below (g := gb284) (o := .cells #[.int .i64 ((rd_T79 l0_1 x22_2).f0), .int .i64 ((rd_T79 l0_1 x22_2).f1), .int .i64 ((rd_T79 l0_1 x22_2).f2)] 79 (0, 0)) (gB (BK284.out)) hb); have n2_ := aM (below_step (bl2 HB GE282 GE284) hb); clear BK282; clear BK284; clear HB; have BK282 := n0_; have BK284 := n1_; have HB := n2_; clear n0_ n1_ n2_; (try clear hb); (try clear hb2); (try clear hk); (try clear hi); have hcz27_0 : w26.cell? ⟨gb284, 0, none⟩ = some (.int .i64 ((rd_T79 l0_1 x22_2).f0)) := (blk_cell BK284.out 0).trans rfl; have hcz27_1 : w26.cell? ⟨gb284, 1, none⟩ = some (.int .i64 ((rd_T79 l0_1 x22_2).f1)) := (blk_cell BK284.out 1).trans rfl; have hcz27_2 : w26.cell? ⟨gb284, 2, none⟩ = some (.int .i64 ((rd_T79 l0_1 x22_2).f2)) := (blk_cell BK284.out 2).trans rfl; have hfz27_0 := blk_frozen BK284.out 0; have hfz27_1 := blk_frozen BK284.out 1; have hfz27_2 := blk_frozen BK284.out 2))
      go_ret
      exact ⟨fR, bl2 HB GE282 GE284⟩
     rw [if_neg c18] at H
     have c18b0 : (((rd_T79 l0_1 x22_2).f0) == ((rd_T79 l0_1 x22_2).f1)) = false := beq_eq_false_iff_ne.mpr c18
     have c18b1 : (((rd_T79 l0_1 x22_2).f0) != ((rd_T79 l0_1 x22_2).f1)) = true := bne_iff_ne.mpr c18
     by_cases c28 : ((rd_T79 l0_1 x22_2).f2) < 1
     ·
      rw [if_pos c28] at H
      have c28b0 : decide (((rd_T79 l0_1 x22_2).f2) < 1) = true := decide_eq_true c28
      clear c28
      obtain rfl := Option.some.inj H
      have p283 : 0 ≤ (x22_2 : Int) := oD
      have q283 : x22_2 < (l0_1.length : Int) := oD
      obtain ⟨ad283, e283, hx283_0, hx283_1, hx283_2⟩ := at_T79 HR0_1.out x22_2 p283 q283
      cases e283
      replace hx283_0 := (HB.out.cell (World.block_lt_of_cell? w _ hx283_0)).trans hx283_0
      replace hx283_1 := (HB.out.cell (World.block_lt_of_cell? w _ hx283_1)).trans hx283_1
      replace hx283_2 := (HB.out.cell (World.block_lt_of_cell? w _ hx283_2)).trans hx283_2
      replace p283 := eq_true p283
      replace q283 := eq_true q283
      go_wp2_with (first | ((with_reducible refine gate_dst (N := 4) rfl ?_); refine box_event ?hg (N := 4) ?hd (cs := #[.int .i64 0, .int .i64 0, .int .i64 0]) (t := 79) ?hr ?_; (case hd => rfl); (case hg => rfl); (case hr => exact hR); intro gb284 hg w29 hbox hb; have n0_ := aM (blk_below (g := gb282) (o := .cells #[.int .i64 a0_0, .slice (some ad283) l0_1.length c0_1] 25 (0, 0)) (gB (BK282.out)) hb); have n1_ := aM (below_step (bl1 HB GE282) hb); have n2_ := aM (hbox); have n3_ := aM ((by rw [hg]; exact (below_size (bl1 HB GE282)) : w.heap.size ≤ gb284)); have n4_ := aM ((by rw [hg]; exact (below_size (bl1 HB GE282)) : w.heap.size ≤ gb284)); have n5_ := aM ((by rw [hg]; exact Nat.ne_of_lt (blk_lt (g := gb282) (o := .cells #[.int .i64 a0_0, .slice (some ad283) l0_1.length c0_1] 25 (0, 0)) (gB (BK282.out))) : gb282 ≠ gb284)); have n6_ := aM ((by rw [hg]; exact Nat.ne_of_gt (blk_lt (g := gb282) (o := .cells #[.int .i64 a0_0, .slice (some ad283) l0_1.length c0_1] 25 (0, 0)) (gB (BK282.out))) : gb284 ≠ gb282)); clear BK282; clear HB; have BK282 := n0_; have HB := n1_; have BK284 := n2_; have GW284 := n3_; have GE284 := n4_; have NB282_284 := n5_; have NB284_282 := n6_; clear n0_ n1_ n2_ n3_ n4_ n5_ n6_; clear hb hbox hg; have hnb30 := NB284_282.out; have hnc30 := NB282_284.out; have hcz31_0 : w29.cell? ⟨gb284, 0, none⟩ = some (.int .i64 0) := (blk_cell BK284.out 0).trans rfl; have hcz31_1 : w29.cell? ⟨gb284, 1, none⟩ = some (.int .i64 0) := (blk_cell BK284.out 1).trans rfl; have hcz31_2 : w29.cell? ⟨gb284, 2, none⟩ = some (.int .i64 0) := (blk_cell BK284.out 2).trans rfl; have hfz31_0 := blk_frozen BK284.out 0; have hfz31_1 := blk_frozen BK284.out 1; have hfz31_2 := blk_frozen BK284.out 2; have hcz32_0 : w29.cell? ⟨gb282, 0, none⟩ = some (.int .i64 a0_0) := (blk_cell BK282.out 0).trans rfl; have hcz32_1 : w29.cell? ⟨gb282, 1, none⟩ = some (.slice (some ad283) l0_1.length c0_1) := (blk_cell BK282.out 1).trans rfl; have hfz32_0 := blk_frozen BK282.out 0; have hfz32_1 := blk_frozen BK282.out 1) | ((with_reducible refine gate_callee (f := 70) rfl ?_); refine goesL_ (some 29) rfl rfl Tryd.func70 (by kernel_rfl) rfl #[.agg #[.int .i64 a0_0, .slice (some ad283) l0_1.length c0_1], .int .i64 ((rd_T79 l0_1 x22_2).f0)] rfl mP ?_; (with_reducible refine (impl_Net_hasBus.calls a0_0 _ _ l0_1 ((rd_T79 l0_1 x22_2).f0) true _ ?side1 ?side2 A14.out).mono ?_); (case side1 => exact Kd.C_below HR0_1.out (bl2 HB GE282 GE284)); (case side2 => exact HC0_1.out); rintro e w33 ⟨rfl, hb⟩; refine ⟨_, rfl, ?_⟩; have n0_ := aM (blk_below (g := gb282) (o := .cells #[.int .i64 a0_0, .slice (some ad283) l0_1.length c0_1] 25 (0, 0)) (by (with_reducible repeat (first | refine blk_drewN ?_ _ | refine blk_drew ?_ | refine blk_alloc ?_ _)); refine blk_far ?_ NB282_284.out _; (with_reducible repeat (first | refine blk_drewN ?_ _ | refine blk_drew ?_ | refine blk_alloc ?_ _)); refine blk_far ?_ NB282_284.out _; (with_reducible repeat (first | refine blk_drewN ?_ _ | refine blk_drew ?_ | refine blk_alloc ?_ _)); refine blk_far ?_ NB282_284.out _; (with_reducible repeat (first | refine blk_drewN ?_ _ | refine blk_drew ?_ | refine blk_alloc ?_ _)); exact BK282.out) hb); have n1_ := aM (blk_below (g := gb284) (o := .cells #[.int .i64 ((rd_T79 l0_1 x22_2).f0), .int .i64 ((rd_T79 l0_1 x22_2).f1), .int .i64 ((rd_T79 l0_1 x22_2).f2)] 79 (0, 0)) (by (with_reducible repeat (first | refine blk_drewN ?_ _ | refine blk_drew ?_ | refine blk_alloc ?_ _)); refine blk_put (cs := #[.int .i64 ((rd_T79 l0_1 x22_2).f0), .int .i64 ((rd_T79 l0_1 x22_2).f1), .int .i64 0]) ?_ 2 _ rfl; (with_reducible repeat (first | refine blk_drewN ?_ _ | refine blk_drew ?_ | refine blk_alloc ?_ _)); refine blk_put (cs := #[.int .i64 ((rd_T79 l0_1 x22_2).f0), .int .i64 0, .int .i64 0]) ?_ 1 _ rfl; (with_reducible repeat (first | refine blk_drewN ?_ _ | refine blk_drew ?_ | refine blk_alloc ?_ _)); refine blk_put (cs := #[.int .i64 0, .int .i64 0, .int .i64 0]) ?_ 0 _ rfl; (with_reducible repeat (first | refine blk_drewN ?_ _ | refine blk_drew ?_ | refine blk_alloc ?_ _)); exact BK284.out) hb); have n2_ := aM (below_step (bl2 HB GE282 GE284) hb); clear BK282; clear BK284; clear HB; have BK282 := n0_; have BK284 := n1_; have HB := n2_; clear n0_ n1_ n2_; (try clear hb); (try clear hb2); (try clear hk); (try clear hi); have hcz34_0 : w33.cell? ⟨gb282, 0, none⟩ = some (.int .i64 a0_0) := (blk_cell BK282.out 0).trans rfl; have hcz34_1 : w33.cell? ⟨gb282, 1, none⟩ = some (.slice (some ad283) l0_1.length c0_1) := (blk_cell BK282.out 1).trans rfl; have hfz34_0 := blk_frozen BK282.out 0; have hfz34_1 := blk_frozen BK282.out 1; have hcz35_0 : w33.cell? ⟨gb284, 0, none⟩ = some (.int .i64 ((rd_T79 l0_1 x22_2).f0)) := (blk_cell BK284.out 0).trans rfl; have hcz35_1 : w33.cell? ⟨gb284, 1, none⟩ = some (.int .i64 ((rd_T79 l0_1 x22_2).f1)) := (blk_cell BK284.out 1).trans rfl; have hcz35_2 : w33.cell? ⟨gb284, 2, none⟩ = some (.int .i64 ((rd_T79 l0_1 x22_2).f2)) := (blk_cell BK284.out 2).trans rfl; have hfz35_0 := blk_frozen BK284.out 0; have hfz35_1 := blk_frozen BK284.out 1; have hfz35_2 := blk_frozen BK284.out 2) | (go_at_call 70; (with_reducible refine (impl_Net_hasBus.calls a0_0 _ _ l0_1 ((rd_T79 l0_1 x22_2).f1) true _ ?side1 ?side2 A16.out).mono ?_); (case side1 => exact gC ((Kd.C_below HR0_1.out HB.out))); (case side2 => exact HC0_1.out); rintro e w36 ⟨rfl, hb⟩; have n0_ := aM (blk_below (g := gb282) (o := .cells #[.int .i64 a0_0, .slice (some ad283) l0_1.length c0_1] 25 (0, 0)) (gB (BK282.out)) hb); have n1_ := aM (blk_below (g := gb284) (o := .cells #[.int .i64 ((rd_T79 l0_1 x22_2).f0), .int .i64 ((rd_T79 l0_1 x22_2).f1), .int .i64 ((rd_T79 l0_1 x22_2).f2)] 79 (0, 0)) (gB (BK284.out)) hb); have n2_ := aM (below_step (bl2 HB GE282 GE284) hb); clear BK282; clear BK284; clear HB; have BK282 := n0_; have BK284 := n1_; have HB := n2_; clear n0_ n1_ n2_; (try clear hb); (try clear hb2); (try clear hk); (try clear hi); have hcz37_0 : w36.cell? ⟨gb284, 0, none⟩ = some (.int .i64 ((rd_T79 l0_1 x22_2).f0)) := (blk_cell BK284.out 0).trans rfl; have hcz37_1 : w36.cell? ⟨gb284, 1, none⟩ = some (.int .i64 ((rd_T79 l0_1 x22_2).f1)) := (blk_cell BK284.out 1).trans rfl; have hcz37_2 : w36.cell? ⟨gb284, 2, none⟩ = some (.int .i64 ((rd_T79 l0_1 x22_2).f2)) := (blk_cell BK284.out 2).trans rfl; have hfz37_0 := blk_frozen BK284.out 0; have hfz37_1 := blk_frozen BK284.out 1; have hfz37_2 := blk_frozen BK284.out 2))
      go_ret
      exact ⟨fR, bl2 HB GE282 GE284⟩
     rw [if_neg c28] at H
     have c28b0 : decide (((rd_T79 l0_1 x22_2).f2) < 1) = false := decide_eq_false c28
     clear c28
     by_cases c38 : ((rd_T79 l0_1 x22_2).f2) > 999
     ·
      rw [if_pos c38] at H
      have c38b0 : decide (999 < ((rd_T79 l0_1 x22_2).f2)) = true := decide_eq_true c38
      clear c38
      obtain rfl := Option.some.inj H
      have p283 : 0 ≤ (x22_2 : Int) := oD
      have q283 : x22_2 < (l0_1.length : Int) := oD
      obtain ⟨ad283, e283, hx283_0, hx283_1, hx283_2⟩ := at_T79 HR0_1.out x22_2 p283 q283
      cases e283
      replace hx283_0 := (HB.out.cell (World.block_lt_of_cell? w _ hx283_0)).trans hx283_0
      replace hx283_1 := (HB.out.cell (World.block_lt_of_cell? w _ hx283_1)).trans hx283_1
      replace hx283_2 := (HB.out.cell (World.block_lt_of_cell? w _ hx283_2)).trans hx283_2
      replace p283 := eq_true p283
      replace q283 := eq_true q283
      go_wp2_with (first | ((with_reducible refine gate_dst (N := 4) rfl ?_); refine box_event ?hg (N := 4) ?hd (cs := #[.int .i64 0, .int .i64 0, .int .i64 0]) (t := 79) ?hr ?_; (case hd => rfl); (case hg => rfl); (case hr => exact hR); intro gb284 hg w39 hbox hb; have n0_ := aM (blk_below (g := gb282) (o := .cells #[.int .i64 a0_0, .slice (some ad283) l0_1.length c0_1] 25 (0, 0)) (gB (BK282.out)) hb); have n1_ := aM (below_step (bl1 HB GE282) hb); have n2_ := aM (hbox); have n3_ := aM ((by rw [hg]; exact (below_size (bl1 HB GE282)) : w.heap.size ≤ gb284)); have n4_ := aM ((by rw [hg]; exact (below_size (bl1 HB GE282)) : w.heap.size ≤ gb284)); have n5_ := aM ((by rw [hg]; exact Nat.ne_of_lt (blk_lt (g := gb282) (o := .cells #[.int .i64 a0_0, .slice (some ad283) l0_1.length c0_1] 25 (0, 0)) (gB (BK282.out))) : gb282 ≠ gb284)); have n6_ := aM ((by rw [hg]; exact Nat.ne_of_gt (blk_lt (g := gb282) (o := .cells #[.int .i64 a0_0, .slice (some ad283) l0_1.length c0_1] 25 (0, 0)) (gB (BK282.out))) : gb284 ≠ gb282)); clear BK282; clear HB; have BK282 := n0_; have HB := n1_; have BK284 := n2_; have GW284 := n3_; have GE284 := n4_; have NB282_284 := n5_; have NB284_282 := n6_; clear n0_ n1_ n2_ n3_ n4_ n5_ n6_; clear hb hbox hg; have hnb40 := NB284_282.out; have hnc40 := NB282_284.out; have hcz41_0 : w39.cell? ⟨gb284, 0, none⟩ = some (.int .i64 0) := (blk_cell BK284.out 0).trans rfl; have hcz41_1 : w39.cell? ⟨gb284, 1, none⟩ = some (.int .i64 0) := (blk_cell BK284.out 1).trans rfl; have hcz41_2 : w39.cell? ⟨gb284, 2, none⟩ = some (.int .i64 0) := (blk_cell BK284.out 2).trans rfl; have hfz41_0 := blk_frozen BK284.out 0; have hfz41_1 := blk_frozen BK284.out 1; have hfz41_2 := blk_frozen BK284.out 2; have hcz42_0 : w39.cell? ⟨gb282, 0, none⟩ = some (.int .i64 a0_0) := (blk_cell BK282.out 0).trans rfl; have hcz42_1 : w39.cell? ⟨gb282, 1, none⟩ = some (.slice (some ad283) l0_1.length c0_1) := (blk_cell BK282.out 1).trans rfl; have hfz42_0 := blk_frozen BK282.out 0; have hfz42_1 := blk_frozen BK282.out 1) | ((with_reducible refine gate_callee (f := 70) rfl ?_); refine goesL_ (some 29) rfl rfl Tryd.func70 (by kernel_rfl) rfl #[.agg #[.int .i64 a0_0, .slice (some ad283) l0_1.length c0_1], .int .i64 ((rd_T79 l0_1 x22_2).f0)] rfl mP ?_; (with_reducible refine (impl_Net_hasBus.calls a0_0 _ _ l0_1 ((rd_T79 l0_1 x22_2).f0) true _ ?side1 ?side2 A14.out).mono ?_); (case side1 => exact Kd.C_below HR0_1.out (bl2 HB GE282 GE284)); (case side2 => exact HC0_1.out); rintro e w43 ⟨rfl, hb⟩; refine ⟨_, rfl, ?_⟩; have n0_ := aM (blk_below (g := gb282) (o := .cells #[.int .i64 a0_0, .slice (some ad283) l0_1.length c0_1] 25 (0, 0)) (by (with_reducible repeat (first | refine blk_drewN ?_ _ | refine blk_drew ?_ | refine blk_alloc ?_ _)); refine blk_far ?_ NB282_284.out _; (with_reducible repeat (first | refine blk_drewN ?_ _ | refine blk_drew ?_ | refine blk_alloc ?_ _)); refine blk_far ?_ NB282_284.out _; (with_reducible repeat (first | refine blk_drewN ?_ _ | refine blk_drew ?_ | refine blk_alloc ?_ _)); refine blk_far ?_ NB282_284.out _; (with_reducible repeat (first | refine blk_drewN ?_ _ | refine blk_drew ?_ | refine blk_alloc ?_ _)); exact BK282.out) hb); have n1_ := aM (blk_below (g := gb284) (o := .cells #[.int .i64 ((rd_T79 l0_1 x22_2).f0), .int .i64 ((rd_T79 l0_1 x22_2).f1), .int .i64 ((rd_T79 l0_1 x22_2).f2)] 79 (0, 0)) (by (with_reducible repeat (first | refine blk_drewN ?_ _ | refine blk_drew ?_ | refine blk_alloc ?_ _)); refine blk_put (cs := #[.int .i64 ((rd_T79 l0_1 x22_2).f0), .int .i64 ((rd_T79 l0_1 x22_2).f1), .int .i64 0]) ?_ 2 _ rfl; (with_reducible repeat (first | refine blk_drewN ?_ _ | refine blk_drew ?_ | refine blk_alloc ?_ _)); refine blk_put (cs := #[.int .i64 ((rd_T79 l0_1 x22_2).f0), .int .i64 0, .int .i64 0]) ?_ 1 _ rfl; (with_reducible repeat (first | refine blk_drewN ?_ _ | refine blk_drew ?_ | refine blk_alloc ?_ _)); refine blk_put (cs := #[.int .i64 0, .int .i64 0, .int .i64 0]) ?_ 0 _ rfl; (with_reducible repeat (first | refine blk_drewN ?_ _ | refine blk_drew ?_ | refine blk_alloc ?_ _)); exact BK284.out) hb); have n2_ := aM (below_step (bl2 HB GE282 GE284) hb); clear BK282; clear BK284; clear HB; have BK282 := n0_; have BK284 := n1_; have HB := n2_; clear n0_ n1_ n2_; (try clear hb); (try clear hb2); (try clear hk); (try clear hi); have hcz44_0 : w43.cell? ⟨gb282, 0, none⟩ = some (.int .i64 a0_0) := (blk_cell BK282.out 0).trans rfl; have hcz44_1 : w43.cell? ⟨gb282, 1, none⟩ = some (.slice (some ad283) l0_1.length c0_1) := (blk_cell BK282.out 1).trans rfl; have hfz44_0 := blk_frozen BK282.out 0; have hfz44_1 := blk_frozen BK282.out 1; have hcz45_0 : w43.cell? ⟨gb284, 0, none⟩ = some (.int .i64 ((rd_T79 l0_1 x22_2).f0)) := (blk_cell BK284.out 0).trans rfl; have hcz45_1 : w43.cell? ⟨gb284, 1, none⟩ = some (.int .i64 ((rd_T79 l0_1 x22_2).f1)) := (blk_cell BK284.out 1).trans rfl; have hcz45_2 : w43.cell? ⟨gb284, 2, none⟩ = some (.int .i64 ((rd_T79 l0_1 x22_2).f2)) := (blk_cell BK284.out 2).trans rfl; have hfz45_0 := blk_frozen BK284.out 0; have hfz45_1 := blk_frozen BK284.out 1; have hfz45_2 := blk_frozen BK284.out 2) | (go_at_call 70; (with_reducible refine (impl_Net_hasBus.calls a0_0 _ _ l0_1 ((rd_T79 l0_1 x22_2).f1) true _ ?side1 ?side2 A16.out).mono ?_); (case side1 => exact gC ((Kd.C_below HR0_1.out HB.out))); (case side2 => exact HC0_1.out); rintro e w46 ⟨rfl, hb⟩; have n0_ := aM (blk_below (g := gb282) (o := .cells #[.int .i64 a0_0, .slice (some ad283) l0_1.length c0_1] 25 (0, 0)) (gB (BK282.out)) hb); have n1_ := aM (blk_below (g := gb284) (o := .cells #[.int .i64 ((rd_T79 l0_1 x22_2).f0), .int .i64 ((rd_T79 l0_1 x22_2).f1), .int .i64 ((rd_T79 l0_1 x22_2).f2)] 79 (0, 0)) (gB (BK284.out)) hb); have n2_ := aM (below_step (bl2 HB GE282 GE284) hb); clear BK282; clear BK284; clear HB; have BK282 := n0_; have BK284 := n1_; have HB := n2_; clear n0_ n1_ n2_; (try clear hb); (try clear hb2); (try clear hk); (try clear hi); have hcz47_0 : w46.cell? ⟨gb284, 0, none⟩ = some (.int .i64 ((rd_T79 l0_1 x22_2).f0)) := (blk_cell BK284.out 0).trans rfl; have hcz47_1 : w46.cell? ⟨gb284, 1, none⟩ = some (.int .i64 ((rd_T79 l0_1 x22_2).f1)) := (blk_cell BK284.out 1).trans rfl; have hcz47_2 : w46.cell? ⟨gb284, 2, none⟩ = some (.int .i64 ((rd_T79 l0_1 x22_2).f2)) := (blk_cell BK284.out 2).trans rfl; have hfz47_0 := blk_frozen BK284.out 0; have hfz47_1 := blk_frozen BK284.out 1; have hfz47_2 := blk_frozen BK284.out 2))
      go_ret
      exact ⟨fR, bl2 HB GE282 GE284⟩
     rw [if_neg c38] at H
     have c38b0 : decide (999 < ((rd_T79 l0_1 x22_2).f2)) = false := decide_eq_false c38
     clear c38
     have H' := Aside0.mk H
     clear H
     have p283 : 0 ≤ (x22_2 : Int) := oD
     have q283 : x22_2 < (l0_1.length : Int) := oD
     obtain ⟨ad283, e283, hx283_0, hx283_1, hx283_2⟩ := at_T79 HR0_1.out x22_2 p283 q283
     cases e283
     replace hx283_0 := (HB.out.cell (World.block_lt_of_cell? w _ hx283_0)).trans hx283_0
     replace hx283_1 := (HB.out.cell (World.block_lt_of_cell? w _ hx283_1)).trans hx283_1
     replace hx283_2 := (HB.out.cell (World.block_lt_of_cell? w _ hx283_2)).trans hx283_2
     replace p283 := eq_true p283
     replace q283 := eq_true q283
     go_wp2_with (first | ((with_reducible refine gate_dst (N := 4) rfl ?_); refine box_event ?hg (N := 4) ?hd (cs := #[.int .i64 0, .int .i64 0, .int .i64 0]) (t := 79) ?hr ?_; (case hd => rfl); (case hg => rfl); (case hr => exact hR); intro gb284 hg w48 hbox hb; have n0_ := aM (blk_below (g := gb282) (o := .cells #[.int .i64 a0_0, .slice (some ad283) l0_1.length c0_1] 25 (0, 0)) (gB (BK282.out)) hb); have n1_ := aM (below_step (bl1 HB GE282) hb); have n2_ := aM (hbox); have n3_ := aM ((by rw [hg]; exact (below_size (bl1 HB GE282)) : w.heap.size ≤ gb284)); have n4_ := aM ((by rw [hg]; exact (below_size (bl1 HB GE282)) : w.heap.size ≤ gb284)); have n5_ := aM ((by rw [hg]; exact Nat.ne_of_lt (blk_lt (g := gb282) (o := .cells #[.int .i64 a0_0, .slice (some ad283) l0_1.length c0_1] 25 (0, 0)) (gB (BK282.out))) : gb282 ≠ gb284)); have n6_ := aM ((by rw [hg]; exact Nat.ne_of_gt (blk_lt (g := gb282) (o := .cells #[.int .i64 a0_0, .slice (some ad283) l0_1.length c0_1] 25 (0, 0)) (gB (BK282.out))) : gb284 ≠ gb282)); clear BK282; clear HB; have BK282 := n0_; have HB := n1_; have BK284 := n2_; have GW284 := n3_; have GE284 := n4_; have NB282_284 := n5_; have NB284_282 := n6_; clear n0_ n1_ n2_ n3_ n4_ n5_ n6_; clear hb hbox hg; have hnb49 := NB284_282.out; have hnc49 := NB282_284.out; have hcz50_0 : w48.cell? ⟨gb284, 0, none⟩ = some (.int .i64 0) := (blk_cell BK284.out 0).trans rfl; have hcz50_1 : w48.cell? ⟨gb284, 1, none⟩ = some (.int .i64 0) := (blk_cell BK284.out 1).trans rfl; have hcz50_2 : w48.cell? ⟨gb284, 2, none⟩ = some (.int .i64 0) := (blk_cell BK284.out 2).trans rfl; have hfz50_0 := blk_frozen BK284.out 0; have hfz50_1 := blk_frozen BK284.out 1; have hfz50_2 := blk_frozen BK284.out 2; have hcz51_0 : w48.cell? ⟨gb282, 0, none⟩ = some (.int .i64 a0_0) := (blk_cell BK282.out 0).trans rfl; have hcz51_1 : w48.cell? ⟨gb282, 1, none⟩ = some (.slice (some ad283) l0_1.length c0_1) := (blk_cell BK282.out 1).trans rfl; have hfz51_0 := blk_frozen BK282.out 0; have hfz51_1 := blk_frozen BK282.out 1) | ((with_reducible refine gate_callee (f := 70) rfl ?_); refine goesL_ (some 29) rfl rfl Tryd.func70 (by kernel_rfl) rfl #[.agg #[.int .i64 a0_0, .slice (some ad283) l0_1.length c0_1], .int .i64 ((rd_T79 l0_1 x22_2).f0)] rfl mP ?_; (with_reducible refine (impl_Net_hasBus.calls a0_0 _ _ l0_1 ((rd_T79 l0_1 x22_2).f0) true _ ?side1 ?side2 A14.out).mono ?_); (case side1 => exact Kd.C_below HR0_1.out (bl2 HB GE282 GE284)); (case side2 => exact HC0_1.out); rintro e w52 ⟨rfl, hb⟩; refine ⟨_, rfl, ?_⟩; have n0_ := aM (blk_below (g := gb282) (o := .cells #[.int .i64 a0_0, .slice (some ad283) l0_1.length c0_1] 25 (0, 0)) (by (with_reducible repeat (first | refine blk_drewN ?_ _ | refine blk_drew ?_ | refine blk_alloc ?_ _)); refine blk_far ?_ NB282_284.out _; (with_reducible repeat (first | refine blk_drewN ?_ _ | refine blk_drew ?_ | refine blk_alloc ?_ _)); refine blk_far ?_ NB282_284.out _; (with_reducible repeat (first | refine blk_drewN ?_ _ | refine blk_drew ?_ | refine blk_alloc ?_ _)); refine blk_far ?_ NB282_284.out _; (with_reducible repeat (first | refine blk_drewN ?_ _ | refine blk_drew ?_ | refine blk_alloc ?_ _)); exact BK282.out) hb); have n1_ := aM (blk_below (g := gb284) (o := .cells #[.int .i64 ((rd_T79 l0_1 x22_2).f0), .int .i64 ((rd_T79 l0_1 x22_2).f1), .int .i64 ((rd_T79 l0_1 x22_2).f2)] 79 (0, 0)) (by (with_reducible repeat (first | refine blk_drewN ?_ _ | refine blk_drew ?_ | refine blk_alloc ?_ _)); refine blk_put (cs := #[.int .i64 ((rd_T79 l0_1 x22_2).f0), .int .i64 ((rd_T79 l0_1 x22_2).f1), .int .i64 0]) ?_ 2 _ rfl; (with_reducible repeat (first | refine blk_drewN ?_ _ | refine blk_drew ?_ | refine blk_alloc ?_ _)); refine blk_put (cs := #[.int .i64 ((rd_T79 l0_1 x22_2).f0), .int .i64 0, .int .i64 0]) ?_ 1 _ rfl; (with_reducible repeat (first | refine blk_drewN ?_ _ | refine blk_drew ?_ | refine blk_alloc ?_ _)); refine blk_put (cs := #[.int .i64 0, .int .i64 0, .int .i64 0]) ?_ 0 _ rfl; (with_reducible repeat (first | refine blk_drewN ?_ _ | refine blk_drew ?_ | refine blk_alloc ?_ _)); exact BK284.out) hb); have n2_ := aM (below_step (bl2 HB GE282 GE284) hb); clear BK282; clear BK284; clear HB; have BK282 := n0_; have BK284 := n1_; have HB := n2_; clear n0_ n1_ n2_; (try clear hb); (try clear hb2); (try clear hk); (try clear hi); have hcz53_0 : w52.cell? ⟨gb282, 0, none⟩ = some (.int .i64 a0_0) := (blk_cell BK282.out 0).trans rfl; have hcz53_1 : w52.cell? ⟨gb282, 1, none⟩ = some (.slice (some ad283) l0_1.length c0_1) := (blk_cell BK282.out 1).trans rfl; have hfz53_0 := blk_frozen BK282.out 0; have hfz53_1 := blk_frozen BK282.out 1; have hcz54_0 : w52.cell? ⟨gb284, 0, none⟩ = some (.int .i64 ((rd_T79 l0_1 x22_2).f0)) := (blk_cell BK284.out 0).trans rfl; have hcz54_1 : w52.cell? ⟨gb284, 1, none⟩ = some (.int .i64 ((rd_T79 l0_1 x22_2).f1)) := (blk_cell BK284.out 1).trans rfl; have hcz54_2 : w52.cell? ⟨gb284, 2, none⟩ = some (.int .i64 ((rd_T79 l0_1 x22_2).f2)) := (blk_cell BK284.out 2).trans rfl; have hfz54_0 := blk_frozen BK284.out 0; have hfz54_1 := blk_frozen BK284.out 1; have hfz54_2 := blk_frozen BK284.out 2) | (go_at_call 70; (with_reducible refine (impl_Net_hasBus.calls a0_0 _ _ l0_1 ((rd_T79 l0_1 x22_2).f1) true _ ?side1 ?side2 A16.out).mono ?_); (case side1 => exact gC ((Kd.C_below HR0_1.out HB.out))); (case side2 => exact HC0_1.out); rintro e w55 ⟨rfl, hb⟩; have n0_ := aM (blk_below (g := gb282) (o := .cells #[.int .i64 a0_0, .slice (some ad283) l0_1.length c0_1] 25 (0, 0)) (gB (BK282.out)) hb); have n1_ := aM (blk_below (g := gb284) (o := .cells #[.int .i64 ((rd_T79 l0_1 x22_2).f0), .int .i64 ((rd_T79 l0_1 x22_2).f1), .int .i64 ((rd_T79 l0_1 x22_2).f2)] 79 (0, 0)) (gB (BK284.out)) hb); have n2_ := aM (below_step (bl2 HB GE282 GE284) hb); clear BK282; clear BK284; clear HB; have BK282 := n0_; have BK284 := n1_; have HB := n2_; clear n0_ n1_ n2_; (try clear hb); (try clear hb2); (try clear hk); (try clear hi); have hcz56_0 : w55.cell? ⟨gb284, 0, none⟩ = some (.int .i64 ((rd_T79 l0_1 x22_2).f0)) := (blk_cell BK284.out 0).trans rfl; have hcz56_1 : w55.cell? ⟨gb284, 1, none⟩ = some (.int .i64 ((rd_T79 l0_1 x22_2).f1)) := (blk_cell BK284.out 1).trans rfl; have hcz56_2 : w55.cell? ⟨gb284, 2, none⟩ = some (.int .i64 ((rd_T79 l0_1 x22_2).f2)) := (blk_cell BK284.out 2).trans rfl; have hfz56_0 := blk_frozen BK284.out 0; have hfz56_1 := blk_frozen BK284.out 1; have hfz56_2 := blk_frozen BK284.out 2))
     go_roundg k2
     case measure => have := HJ1.out; have := HK2.out; omega
     case rel => exact ⟨(wrap64 (x22_2 + 1)), fS, H', ⟨by have := HJ1.out; have := HK2.out; omega⟩, ⟨gB (BK282.out)⟩, ⟨bl2 HB GE282 GE284⟩⟩

end Go.Proofs.YtpgjgbjkfgbpaaaDoor.P

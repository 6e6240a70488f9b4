/- Contracts of Go functions of this seat's translation, written by this repo's wip/mk.py: it calls the kit's print.py with contracts typed by hand in place of functions that it does not take. Not trusted: Lean checks it. -/
import Derived.Test.YthkdkjmnnpcdhaaDoorP0
import Derived.Test.YthkdkjmnnpcdhaaDoorP14
import Derived.Test.YthkdkjmnnpcdhaaDoorP15
namespace Go.Proofs.YthkdkjmnnpcdhaaDoor.P
open Go.RowKit Go.Proofs.YthkdkjmnnpcdhaaDoorW.PrintWords Go.Proofs.YthkdkjmnnpcdhaaDoorW.PrintLast Go.Proofs.YthkdkjmnnpcdhaaDoorW.PrintMore
attribute [local go_sem] max2_int min2_int max_two min_two max_three min_three max_four min_four   -- for this text's walks alone
set_option linter.unusedVariables false
set_option linter.unusedSimpArgs false

/-! ### impl_Line_other: function 69 -/
def impl_Line_other.f (a0_0 : Int) (a0_1 : Int) (a0_2 : Int) (a1 : Int) : Option (Int) := if a1 = a0_0 then (some a0_1) else (if a1 = a0_1 then (some a0_0) else (some (-1)))
set_option maxHeartbeats 8000000 in
set_option maxRecDepth 100000 in
theorem impl_Line_other.calls (a0_0 : Int) (a0_1 : Int) (a0_2 : Int) (a1 : Int) (r : Int) (w : World) (h : impl_Line_other.f a0_0 a0_1 a0_2 a1 = some r) :
  Calls Tryd.prog 69 #[.agg #[.int .i64 a0_0, .int .i64 a0_1, .int .i64 a0_2], .int .i64 a1] w fun e w' => e = .returned (.int .i64 r) ∧ Below w.heap.size w w' := by
 have hu52 := Tryd.underlying52
 have HB := Aside0.mk (Below.refl w.heap.size w)
 have H : (if a1 = a0_0 then (some a0_1) else (if a1 = a0_1 then (some a0_0) else (some (-1)))) = some r := h
 clear h
 by_cases c3 : a1 = a0_0
 ·
  rw [if_pos c3] at H
  have c3b0 : (a1 == a0_0) = true := beq_iff_eq.mpr c3
  have c3b1 : (a1 != a0_0) = false := bne_eq_false_iff_eq.mpr c3
  clear c3
  obtain rfl := Option.some.inj H
  go_enter Tryd.func69, Tryd.ntmps69
  go_wp2_with (first | ((with_reducible refine gate_dst (N := 2) rfl ?_); refine box_event ?hg (N := 2) ?hd (cs := #[.int .i64 a0_0, .int .i64 a0_1, .int .i64 a0_2]) (t := 52) ?hr ?_; (case hd => rfl); (case hg => rfl); (case hr => exact hR); intro gb233 hg w4 hbox hb; have n0_ := Aside0.mk (below_step (bl0 HB) hb); have n1_ := Aside0.mk (hbox); have n2_ := Aside0.mk ((by rw [hg]; exact (below_size (bl0 HB)) : w.heap.size ≤ gb233)); have n3_ := Aside0.mk ((by rw [hg]; exact (below_size (bl0 HB)) : w.heap.size ≤ gb233)); clear HB; have HB := n0_; have BK233 := n1_; have GW233 := n2_; have GE233 := n3_; clear n0_ n1_ n2_ n3_; clear hb hbox hg; have hcz5_0 : w4.cell? ⟨gb233, 0, none⟩ = some (.int .i64 a0_0) := (blk_cell BK233.out 0).trans rfl; have hcz5_1 : w4.cell? ⟨gb233, 1, none⟩ = some (.int .i64 a0_1) := (blk_cell BK233.out 1).trans rfl; have hcz5_2 : w4.cell? ⟨gb233, 2, none⟩ = some (.int .i64 a0_2) := (blk_cell BK233.out 2).trans rfl; have hfz5_0 := blk_frozen BK233.out 0; have hfz5_1 := blk_frozen BK233.out 1; have hfz5_2 := blk_frozen BK233.out 2))
  go_ret
  exact ⟨fR, bl1 HB GE233⟩
 rw [if_neg c3] at H
 have c3b0 : (a1 == a0_0) = false := beq_eq_false_iff_ne.mpr c3
 have c3b1 : (a1 != a0_0) = true := bne_iff_ne.mpr c3
 by_cases c6 : a1 = a0_1
 rotate_left
 ·
  rw [if_neg c6] at H
  have c6b0 : (a1 == a0_1) = false := beq_eq_false_iff_ne.mpr c6
  have c6b1 : (a1 != a0_1) = true := bne_iff_ne.mpr c6
  obtain rfl := Option.some.inj H
  go_enter Tryd.func69, Tryd.ntmps69
  go_wp2_with (first | ((with_reducible refine gate_dst (N := 2) rfl ?_); refine box_event ?hg (N := 2) ?hd (cs := #[.int .i64 a0_0, .int .i64 a0_1, .int .i64 a0_2]) (t := 52) ?hr ?_; (case hd => rfl); (case hg => rfl); (case hr => exact hR); intro gb233 hg w9 hbox hb; have n0_ := Aside0.mk (below_step (bl0 HB) hb); have n1_ := Aside0.mk (hbox); have n2_ := Aside0.mk ((by rw [hg]; exact (below_size (bl0 HB)) : w.heap.size ≤ gb233)); have n3_ := Aside0.mk ((by rw [hg]; exact (below_size (bl0 HB)) : w.heap.size ≤ gb233)); clear HB; have HB := n0_; have BK233 := n1_; have GW233 := n2_; have GE233 := n3_; clear n0_ n1_ n2_ n3_; clear hb hbox hg; have hcz10_0 : w9.cell? ⟨gb233, 0, none⟩ = some (.int .i64 a0_0) := (blk_cell BK233.out 0).trans rfl; have hcz10_1 : w9.cell? ⟨gb233, 1, none⟩ = some (.int .i64 a0_1) := (blk_cell BK233.out 1).trans rfl; have hcz10_2 : w9.cell? ⟨gb233, 2, none⟩ = some (.int .i64 a0_2) := (blk_cell BK233.out 2).trans rfl; have hfz10_0 := blk_frozen BK233.out 0; have hfz10_1 := blk_frozen BK233.out 1; have hfz10_2 := blk_frozen BK233.out 2))
  go_ret
  exact ⟨fR, bl1 HB GE233⟩
 rw [if_pos c6] at H
 have c6b0 : (a1 == a0_1) = true := beq_iff_eq.mpr c6
 have c6b1 : (a1 != a0_1) = false := bne_eq_false_iff_eq.mpr c6
 clear c6
 obtain rfl := Option.some.inj H
 go_enter Tryd.func69, Tryd.ntmps69
 go_wp2_with (first | ((with_reducible refine gate_dst (N := 2) rfl ?_); refine box_event ?hg (N := 2) ?hd (cs := #[.int .i64 a0_0, .int .i64 a0_1, .int .i64 a0_2]) (t := 52) ?hr ?_; (case hd => rfl); (case hg => rfl); (case hr => exact hR); intro gb233 hg w7 hbox hb; have n0_ := Aside0.mk (below_step (bl0 HB) hb); have n1_ := Aside0.mk (hbox); have n2_ := Aside0.mk ((by rw [hg]; exact (below_size (bl0 HB)) : w.heap.size ≤ gb233)); have n3_ := Aside0.mk ((by rw [hg]; exact (below_size (bl0 HB)) : w.heap.size ≤ gb233)); clear HB; have HB := n0_; have BK233 := n1_; have GW233 := n2_; have GE233 := n3_; clear n0_ n1_ n2_ n3_; clear hb hbox hg; have hcz8_0 : w7.cell? ⟨gb233, 0, none⟩ = some (.int .i64 a0_0) := (blk_cell BK233.out 0).trans rfl; have hcz8_1 : w7.cell? ⟨gb233, 1, none⟩ = some (.int .i64 a0_1) := (blk_cell BK233.out 1).trans rfl; have hcz8_2 : w7.cell? ⟨gb233, 2, none⟩ = some (.int .i64 a0_2) := (blk_cell BK233.out 2).trans rfl; have hfz8_0 := blk_frozen BK233.out 0; have hfz8_1 := blk_frozen BK233.out 1; have hfz8_2 := blk_frozen BK233.out 2))
 go_ret
 exact ⟨fR, bl1 HB GE233⟩

end Go.Proofs.YthkdkjmnnpcdhaaDoor.P
namespace Go.Proofs.YthkdkjmnnpcdhaaDoor.P
open Go.RowKit Go.Proofs.YthkdkjmnnpcdhaaDoorW.PrintWords Go.Proofs.YthkdkjmnnpcdhaaDoorW.PrintLast Go.Proofs.YthkdkjmnnpcdhaaDoorW.PrintMore
attribute [local go_sem] max2_int min2_int max_two min_two max_three min_three max_four min_four   -- for this text's walks alone
set_option linter.unusedVariables false
set_option linter.unusedSimpArgs false

/-! ### impl_OtherEnd: function 52 -/
def impl_OtherEnd.f (k : Nat) (a0_0 : Int) (l0_1 : List (S52)) (a1 : Int) (a2 : Int) : Option (Int) := (impl_NetValid.f k a0_0 l0_1).bind fun t235 => (if t235 = true then ((impl_Net_hasLine.f a0_0 l0_1 a1).bind fun t236 => (if t236 = true then (if 0 ≤ a1 then (if a1 < (l0_1.length : Int) then ((impl_Line_other.f ((rd_T52 l0_1 a1).f0) ((rd_T52 l0_1 a1).f1) ((rd_T52 l0_1 a1).f2) a2).bind fun t238 => (some t238)) else (none)) else (none)) else (some (-1)))) else (some (-1)))
theorem impl_OtherEnd.mono : ∀ a0 a1 a2 a3 k, LeO (impl_OtherEnd.f k a0 a1 a2 a3) (impl_OtherEnd.f (k + 1) a0 a1 a2 a3) := by
 intro a0 a1 a2 a3 k
 unfold impl_OtherEnd.f
 repeat' first
   | (with_reducible exact impl_NetValid.mono _ _ _)
   | (with_reducible exact LeO.refl _)
   | (with_reducible exact LeO.none _)
   | (with_reducible refine LeO.ite ?_ ?_)
   | (with_reducible refine LeO.bind ?_ (fun _ => ?_))
   | exact impl_NetValid.mono _ _ _
   | exact LeO.none _
   | refine LeO.ite ?_ ?_
   | refine LeO.bind ?_ (fun _ => ?_)
set_option maxHeartbeats 8000000 in
set_option maxRecDepth 100000 in
theorem impl_OtherEnd.calls (k : Nat) (a0_0 : Int) (A0_1 : Option Addr) (c0_1 : Nat) (l0_1 : List (S52)) (a1 : Int) (a2 : Int) (r : Int) (w : World) (hr0_1 : Kd.C k52 w A0_1 l0_1.length l0_1) (hc0_1 : l0_1.length ≤ c0_1) (h : impl_OtherEnd.f k a0_0 l0_1 a1 a2 = some r) :
  Calls Tryd.prog 52 #[.agg #[.int .i64 a0_0, .slice A0_1 l0_1.length c0_1], .int .i64 a1, .int .i64 a2] w fun e w' => e = .returned (.int .i64 r) ∧ Below w.heap.size w w' := by
 have hu39 := Tryd.underlying39
 have hu52 := Tryd.underlying52
 have HR0_1 := Aside0.mk hr0_1
 have HC0_1 := Aside0.mk hc0_1
 clear hr0_1 hc0_1
 have HB := Aside0.mk (Below.refl w.heap.size w)
 have H : ((impl_NetValid.f k a0_0 l0_1).bind fun t235 => (if t235 = true then ((impl_Net_hasLine.f a0_0 l0_1 a1).bind fun t236 => (if t236 = true then (if 0 ≤ a1 then (if a1 < (l0_1.length : Int) then ((impl_Line_other.f ((rd_T52 l0_1 a1).f0) ((rd_T52 l0_1 a1).f1) ((rd_T52 l0_1 a1).f2) a2).bind fun t238 => (some t238)) else (none)) else (none)) else (some (-1)))) else (some (-1)))) = some r := h
 clear h
 replace H := Option.bind_eq_some_iff.mp H
 obtain ⟨t235, A40, H⟩ := H
 replace H : (if t235 = true then ((impl_Net_hasLine.f a0_0 l0_1 a1).bind fun t236 => (if t236 = true then (if 0 ≤ a1 then (if a1 < (l0_1.length : Int) then ((impl_Line_other.f ((rd_T52 l0_1 a1).f0) ((rd_T52 l0_1 a1).f1) ((rd_T52 l0_1 a1).f2) a2).bind fun t238 => (some t238)) else (none)) else (none)) else (some (-1)))) else (some (-1))) = some r := H
 have A4 := Aside0.mk A40
 clear A40
 by_cases c5 : t235 = true
 rotate_left
 ·
  replace c5 := Bool.eq_false_iff.mpr c5
  subst c5
  have H1 : (some (-1)) = some r := by rw [if_neg (show ¬ (false = true) by decide)] at H; exact H
  clear H
  have H := H1
  clear H1
  obtain rfl := Option.some.inj H
  go_enter Tryd.func52, Tryd.ntmps52
  go_wp2_with (first | ((with_reducible refine gate_dst (N := 3) rfl ?_); refine box_event ?hg (N := 3) ?hd (cs := #[.int .i64 a0_0, .slice A0_1 l0_1.length c0_1]) (t := 39) ?hr ?_; (case hd => rfl); (case hg => rfl); (case hr => exact hR); intro gb234 hg w23 hbox hb; have n0_ := Aside0.mk (below_step (bl0 HB) hb); have n1_ := Aside0.mk (hbox); have n2_ := Aside0.mk ((by rw [hg]; exact (below_size (bl0 HB)) : w.heap.size ≤ gb234)); have n3_ := Aside0.mk ((by rw [hg]; exact (below_size (bl0 HB)) : w.heap.size ≤ gb234)); clear HB; have HB := n0_; have BK234 := n1_; have GW234 := n2_; have GE234 := n3_; clear n0_ n1_ n2_ n3_; clear hb hbox hg; have hcz24_0 : w23.cell? ⟨gb234, 0, none⟩ = some (.int .i64 a0_0) := (blk_cell BK234.out 0).trans rfl; have hcz24_1 : w23.cell? ⟨gb234, 1, none⟩ = some (.slice A0_1 l0_1.length c0_1) := (blk_cell BK234.out 1).trans rfl; have hfz24_0 := blk_frozen BK234.out 0; have hfz24_1 := blk_frozen BK234.out 1) | ((with_reducible refine gate_callee (f := 68) rfl ?_); refine goesL_ (some 8) rfl rfl Tryd.func68 (by kernel_rfl) rfl #[.agg #[.int .i64 a0_0, .slice A0_1 l0_1.length c0_1]] rfl mP ?_; (with_reducible refine (impl_NetValid.calls k a0_0 _ _ l0_1 false _ ?side1 ?side2 A4.out).mono ?_); (case side1 => exact gC ((Kd.C_below HR0_1.out HB.out))); (case side2 => exact HC0_1.out); rintro e w25 ⟨rfl, hb⟩; refine ⟨_, rfl, ?_⟩; have n0_ := Aside0.mk (blk_below (g := gb234) (o := .cells #[.int .i64 a0_0, .slice A0_1 l0_1.length c0_1] 39 (0, 0)) (gB (BK234.out)) hb); have n1_ := Aside0.mk (below_step (bl1 HB GE234) hb); clear BK234; clear HB; have BK234 := n0_; have HB := n1_; clear n0_ n1_; (try clear hb); (try clear hb2); (try clear hk); (try clear hi)))
  go_ret
  exact ⟨fR, bl1 HB GE234⟩
 subst c5
 have H1 : ((impl_Net_hasLine.f a0_0 l0_1 a1).bind fun t236 => (if t236 = true then (if 0 ≤ a1 then (if a1 < (l0_1.length : Int) then ((impl_Line_other.f ((rd_T52 l0_1 a1).f0) ((rd_T52 l0_1 a1).f1) ((rd_T52 l0_1 a1).f2) a2).bind fun t238 => (some t238)) else (none)) else (none)) else (some (-1)))) = some r := by rw [if_pos rfl] at H; exact H
 clear H
 have H := H1
 clear H1
 replace H := Option.bind_eq_some_iff.mp H
 obtain ⟨t236, A60, H⟩ := H
 replace H : (if t236 = true then (if 0 ≤ a1 then (if a1 < (l0_1.length : Int) then ((impl_Line_other.f ((rd_T52 l0_1 a1).f0) ((rd_T52 l0_1 a1).f1) ((rd_T52 l0_1 a1).f2) a2).bind fun t238 => (some t238)) else (none)) else (none)) else (some (-1))) = some r := H
 have A6 := Aside0.mk A60
 clear A60
 by_cases c7 : t236 = true
 rotate_left
 ·
  replace c7 := Bool.eq_false_iff.mpr c7
  subst c7
  have H1 : (some (-1)) = some r := by rw [if_neg (show ¬ (false = true) by decide)] at H; exact H
  clear H
  have H := H1
  clear H1
  obtain rfl := Option.some.inj H
  go_enter Tryd.func52, Tryd.ntmps52
  go_wp2_with (first | ((with_reducible refine gate_dst (N := 3) rfl ?_); refine box_event ?hg (N := 3) ?hd (cs := #[.int .i64 a0_0, .slice A0_1 l0_1.length c0_1]) (t := 39) ?hr ?_; (case hd => rfl); (case hg => rfl); (case hr => exact hR); intro gb234 hg w18 hbox hb; have n0_ := Aside0.mk (below_step (bl0 HB) hb); have n1_ := Aside0.mk (hbox); have n2_ := Aside0.mk ((by rw [hg]; exact (below_size (bl0 HB)) : w.heap.size ≤ gb234)); have n3_ := Aside0.mk ((by rw [hg]; exact (below_size (bl0 HB)) : w.heap.size ≤ gb234)); clear HB; have HB := n0_; have BK234 := n1_; have GW234 := n2_; have GE234 := n3_; clear n0_ n1_ n2_ n3_; clear hb hbox hg; have hcz19_0 : w18.cell? ⟨gb234, 0, none⟩ = some (.int .i64 a0_0) := (blk_cell BK234.out 0).trans rfl; have hcz19_1 : w18.cell? ⟨gb234, 1, none⟩ = some (.slice A0_1 l0_1.length c0_1) := (blk_cell BK234.out 1).trans rfl; have hfz19_0 := blk_frozen BK234.out 0; have hfz19_1 := blk_frozen BK234.out 1) | ((with_reducible refine gate_callee (f := 68) rfl ?_); refine goesL_ (some 8) rfl rfl Tryd.func68 (by kernel_rfl) rfl #[.agg #[.int .i64 a0_0, .slice A0_1 l0_1.length c0_1]] rfl mP ?_; (with_reducible refine (impl_NetValid.calls k a0_0 _ _ l0_1 true _ ?side1 ?side2 A4.out).mono ?_); (case side1 => exact gC ((Kd.C_below HR0_1.out HB.out))); (case side2 => exact HC0_1.out); rintro e w20 ⟨rfl, hb⟩; refine ⟨_, rfl, ?_⟩; have n0_ := Aside0.mk (blk_below (g := gb234) (o := .cells #[.int .i64 a0_0, .slice A0_1 l0_1.length c0_1] 39 (0, 0)) (gB (BK234.out)) hb); have n1_ := Aside0.mk (below_step (bl1 HB GE234) hb); clear BK234; clear HB; have BK234 := n0_; have HB := n1_; clear n0_ n1_; (try clear hb); (try clear hb2); (try clear hk); (try clear hi); have hcz21_0 : w20.cell? ⟨gb234, 0, none⟩ = some (.int .i64 a0_0) := (blk_cell BK234.out 0).trans rfl; have hcz21_1 : w20.cell? ⟨gb234, 1, none⟩ = some (.slice A0_1 l0_1.length c0_1) := (blk_cell BK234.out 1).trans rfl; have hfz21_0 := blk_frozen BK234.out 0; have hfz21_1 := blk_frozen BK234.out 1) | (go_at_call 55; (with_reducible refine (impl_Net_hasLine.calls a0_0 _ _ l0_1 a1 false _ ?side1 ?side2 A6.out).mono ?_); (case side1 => exact gC ((Kd.C_below HR0_1.out HB.out))); (case side2 => exact HC0_1.out); rintro e w22 ⟨rfl, hb⟩; have n0_ := Aside0.mk (blk_below (g := gb234) (o := .cells #[.int .i64 a0_0, .slice A0_1 l0_1.length c0_1] 39 (0, 0)) (gB (BK234.out)) hb); have n1_ := Aside0.mk (below_step (bl1 HB GE234) hb); clear BK234; clear HB; have BK234 := n0_; have HB := n1_; clear n0_ n1_; (try clear hb); (try clear hb2); (try clear hk); (try clear hi)))
  go_ret
  exact ⟨fR, bl1 HB GE234⟩
 subst c7
 have H1 : (if 0 ≤ a1 then (if a1 < (l0_1.length : Int) then ((impl_Line_other.f ((rd_T52 l0_1 a1).f0) ((rd_T52 l0_1 a1).f1) ((rd_T52 l0_1 a1).f2) a2).bind fun t238 => (some t238)) else (none)) else (none)) = some r := by rw [if_pos rfl] at H; exact H
 clear H
 have H := H1
 clear H1
 by_cases c8 : 0 ≤ a1
 rotate_left
 ·
  rw [if_neg c8] at H
  exact absurd H (by simp)
 rw [if_pos c8] at H
 have c8b0 : decide (0 ≤ a1) = true := decide_eq_true c8
 clear c8
 by_cases c9 : a1 < (l0_1.length : Int)
 rotate_left
 ·
  rw [if_neg c9] at H
  exact absurd H (by simp)
 rw [if_pos c9] at H
 have c9b0 : decide (a1 < (l0_1.length : Int)) = true := decide_eq_true c9
 clear c9
 replace H := Option.bind_eq_some_iff.mp H
 obtain ⟨t238, A100, H⟩ := H
 replace H : (some t238) = some r := H
 have A10 := Aside0.mk A100
 clear A100
 obtain rfl := Option.some.inj H
 go_enter Tryd.func52, Tryd.ntmps52
 go_wp2_with (first | ((with_reducible refine gate_dst (N := 3) rfl ?_); refine box_event ?hg (N := 3) ?hd (cs := #[.int .i64 a0_0, .slice A0_1 l0_1.length c0_1]) (t := 39) ?hr ?_; (case hd => rfl); (case hg => rfl); (case hr => exact hR); intro gb234 hg w11 hbox hb; have n0_ := Aside0.mk (below_step (bl0 HB) hb); have n1_ := Aside0.mk (hbox); have n2_ := Aside0.mk ((by rw [hg]; exact (below_size (bl0 HB)) : w.heap.size ≤ gb234)); have n3_ := Aside0.mk ((by rw [hg]; exact (below_size (bl0 HB)) : w.heap.size ≤ gb234)); clear HB; have HB := n0_; have BK234 := n1_; have GW234 := n2_; have GE234 := n3_; clear n0_ n1_ n2_ n3_; clear hb hbox hg; have hcz12_0 : w11.cell? ⟨gb234, 0, none⟩ = some (.int .i64 a0_0) := (blk_cell BK234.out 0).trans rfl; have hcz12_1 : w11.cell? ⟨gb234, 1, none⟩ = some (.slice A0_1 l0_1.length c0_1) := (blk_cell BK234.out 1).trans rfl; have hfz12_0 := blk_frozen BK234.out 0; have hfz12_1 := blk_frozen BK234.out 1) | ((with_reducible refine gate_callee (f := 68) rfl ?_); refine goesL_ (some 8) rfl rfl Tryd.func68 (by kernel_rfl) rfl #[.agg #[.int .i64 a0_0, .slice A0_1 l0_1.length c0_1]] rfl mP ?_; (with_reducible refine (impl_NetValid.calls k a0_0 _ _ l0_1 true _ ?side1 ?side2 A4.out).mono ?_); (case side1 => exact gC ((Kd.C_below HR0_1.out HB.out))); (case side2 => exact HC0_1.out); rintro e w13 ⟨rfl, hb⟩; refine ⟨_, rfl, ?_⟩; have n0_ := Aside0.mk (blk_below (g := gb234) (o := .cells #[.int .i64 a0_0, .slice A0_1 l0_1.length c0_1] 39 (0, 0)) (gB (BK234.out)) hb); have n1_ := Aside0.mk (below_step (bl1 HB GE234) hb); clear BK234; clear HB; have BK234 := n0_; have HB := n1_; clear n0_ n1_; (try clear hb); (try clear hb2); (try clear hk); (try clear hi); have hcz14_0 : w13.cell? ⟨gb234, 0, none⟩ = some (.int .i64 a0_0) := (blk_cell BK234.out 0).trans rfl; have hcz14_1 : w13.cell? ⟨gb234, 1, none⟩ = some (.slice A0_1 l0_1.length c0_1) := (blk_cell BK234.out 1).trans rfl; have hfz14_0 := blk_frozen BK234.out 0; have hfz14_1 := blk_frozen BK234.out 1) | (go_at_call 55; (with_reducible refine (impl_Net_hasLine.calls a0_0 _ _ l0_1 a1 true _ ?side1 ?side2 A6.out).mono ?_); (case side1 => exact gC ((Kd.C_below HR0_1.out HB.out))); (case side2 => exact HC0_1.out); rintro e w15 ⟨rfl, hb⟩; have n0_ := Aside0.mk (blk_below (g := gb234) (o := .cells #[.int .i64 a0_0, .slice A0_1 l0_1.length c0_1] 39 (0, 0)) (gB (BK234.out)) hb); have n1_ := Aside0.mk (below_step (bl1 HB GE234) hb); clear BK234; clear HB; have BK234 := n0_; have HB := n1_; clear n0_ n1_; (try clear hb); (try clear hb2); (try clear hk); (try clear hi); have hcz16_0 : w15.cell? ⟨gb234, 0, none⟩ = some (.int .i64 a0_0) := (blk_cell BK234.out 0).trans rfl; have hcz16_1 : w15.cell? ⟨gb234, 1, none⟩ = some (.slice A0_1 l0_1.length c0_1) := (blk_cell BK234.out 1).trans rfl; have hfz16_0 := blk_frozen BK234.out 0; have hfz16_1 := blk_frozen BK234.out 1; have p237 : 0 ≤ (a1 : Int) := oD; have q237 : a1 < (l0_1.length : Int) := oD; obtain ⟨ad237, e237, hx237_0, hx237_1, hx237_2⟩ := at_T52 HR0_1.out a1 p237 q237; cases e237; replace hx237_0 := (HB.out.cell (World.block_lt_of_cell? w _ hx237_0)).trans hx237_0; replace hx237_1 := (HB.out.cell (World.block_lt_of_cell? w _ hx237_1)).trans hx237_1; replace hx237_2 := (HB.out.cell (World.block_lt_of_cell? w _ hx237_2)).trans hx237_2; replace p237 := eq_true p237; replace q237 := eq_true q237) | ((with_reducible refine gate_callee (f := 69) rfl ?_); refine goesL_ (some 22) rfl rfl Tryd.func69 (by kernel_rfl) rfl #[.agg #[.int .i64 ((rd_T52 l0_1 a1).f0), .int .i64 ((rd_T52 l0_1 a1).f1), .int .i64 ((rd_T52 l0_1 a1).f2)], .int .i64 a2] rfl mP ?_; (with_reducible refine (impl_Line_other.calls ((rd_T52 l0_1 a1).f0) ((rd_T52 l0_1 a1).f1) ((rd_T52 l0_1 a1).f2) a2 t238 _ A10.out).mono ?_); rintro e w17 ⟨rfl, hb⟩; refine ⟨_, rfl, ?_⟩; have n0_ := Aside0.mk (blk_below (g := gb234) (o := .cells #[.int .i64 a0_0, .slice (some ad237) l0_1.length c0_1] 39 (0, 0)) (gB (BK234.out)) hb); have n1_ := Aside0.mk (below_step (bl1 HB GE234) hb); clear BK234; clear HB; have BK234 := n0_; have HB := n1_; clear n0_ n1_; (try clear hb); (try clear hb2); (try clear hk); (try clear hi)))
 go_ret
 exact ⟨fR, bl1 HB GE234⟩

end Go.Proofs.YthkdkjmnnpcdhaaDoor.P
namespace Go.Proofs.YthkdkjmnnpcdhaaDoor.P
open Go.RowKit Go.Proofs.YthkdkjmnnpcdhaaDoorW.PrintWords Go.Proofs.YthkdkjmnnpcdhaaDoorW.PrintLast Go.Proofs.YthkdkjmnnpcdhaaDoorW.PrintMore
attribute [local go_sem] max2_int min2_int max_two min_two max_three min_three max_four min_four   -- for this text's walks alone
set_option linter.unusedVariables false
set_option linter.unusedSimpArgs false

/-! ### impl_NetText: function 53 -/
def impl_NetText.f (k : Nat) (a0_0 : Int) (l0_1 : List (S52)) : Option (ByteArray) := (impl_NetValid.f k a0_0 l0_1).bind fun t240 => (if t240 = true then (none) else (some (⟨#[]⟩ : ByteArray)))
theorem impl_NetText.mono : ∀ a0 a1 k, LeO (impl_NetText.f k a0 a1) (impl_NetText.f (k + 1) a0 a1) := by
 intro a0 a1 k
 unfold impl_NetText.f
 repeat' first
   | (with_reducible exact impl_NetValid.mono _ _ _)
   | (with_reducible exact LeO.refl _)
   | (with_reducible exact LeO.none _)
   | (with_reducible refine LeO.ite ?_ ?_)
   | (with_reducible refine LeO.bind ?_ (fun _ => ?_))
   | exact impl_NetValid.mono _ _ _
   | exact LeO.none _
   | refine LeO.ite ?_ ?_
   | refine LeO.bind ?_ (fun _ => ?_)
set_option maxHeartbeats 8000000 in
set_option maxRecDepth 100000 in
theorem impl_NetText.calls (k : Nat) (a0_0 : Int) (A0_1 : Option Addr) (c0_1 : Nat) (l0_1 : List (S52)) (r : ByteArray) (w : World) (hr0_1 : Kd.C k52 w A0_1 l0_1.length l0_1) (hc0_1 : l0_1.length ≤ c0_1) (h : impl_NetText.f k a0_0 l0_1 = some r) :
  Calls Tryd.prog 53 #[.agg #[.int .i64 a0_0, .slice A0_1 l0_1.length c0_1]] w fun e w' => e = .returned (.string r) ∧ Below w.heap.size w w' := by
 have hu39 := Tryd.underlying39
 have HR0_1 := Aside0.mk hr0_1
 have HC0_1 := Aside0.mk hc0_1
 clear hr0_1 hc0_1
 have HB := Aside0.mk (Below.refl w.heap.size w)
 have H : ((impl_NetValid.f k a0_0 l0_1).bind fun t240 => (if t240 = true then (none) else (some (⟨#[]⟩ : ByteArray)))) = some r := h
 clear h
 replace H := Option.bind_eq_some_iff.mp H
 obtain ⟨t240, A20, H⟩ := H
 replace H : (if t240 = true then (none) else (some (⟨#[]⟩ : ByteArray))) = some r := H
 have A2 := Aside0.mk A20
 clear A20
 by_cases c3 : t240 = true
 ·
  subst c3
  have H1 : (none) = some r := by rw [if_pos rfl] at H; exact H
  clear H
  have H := H1
  clear H1
  exact absurd H (by simp)
 replace c3 := Bool.eq_false_iff.mpr c3
 subst c3
 have H1 : (some (⟨#[]⟩ : ByteArray)) = some r := by rw [if_neg (show ¬ (false = true) by decide)] at H; exact H
 clear H
 have H := H1
 clear H1
 obtain rfl := Option.some.inj H
 go_enter Tryd.func53, Tryd.ntmps53
 go_wp2_with (first | ((with_reducible refine gate_dst (N := 1) rfl ?_); refine box_event ?hg (N := 1) ?hd (cs := #[.int .i64 a0_0, .slice A0_1 l0_1.length c0_1]) (t := 39) ?hr ?_; (case hd => rfl); (case hg => rfl); (case hr => exact hR); intro gb239 hg w4 hbox hb; have n0_ := Aside0.mk (below_step (bl0 HB) hb); have n1_ := Aside0.mk (hbox); have n2_ := Aside0.mk ((by rw [hg]; exact (below_size (bl0 HB)) : w.heap.size ≤ gb239)); have n3_ := Aside0.mk ((by rw [hg]; exact (below_size (bl0 HB)) : w.heap.size ≤ gb239)); clear HB; have HB := n0_; have BK239 := n1_; have GW239 := n2_; have GE239 := n3_; clear n0_ n1_ n2_ n3_; clear hb hbox hg; have hcz5_0 : w4.cell? ⟨gb239, 0, none⟩ = some (.int .i64 a0_0) := (blk_cell BK239.out 0).trans rfl; have hcz5_1 : w4.cell? ⟨gb239, 1, none⟩ = some (.slice A0_1 l0_1.length c0_1) := (blk_cell BK239.out 1).trans rfl; have hfz5_0 := blk_frozen BK239.out 0; have hfz5_1 := blk_frozen BK239.out 1) | ((with_reducible refine gate_callee (f := 68) rfl ?_); refine goesL_ (some 7) rfl rfl Tryd.func68 (by kernel_rfl) rfl #[.agg #[.int .i64 a0_0, .slice A0_1 l0_1.length c0_1]] rfl mP ?_; (with_reducible refine (impl_NetValid.calls k a0_0 _ _ l0_1 false _ ?side1 ?side2 A2.out).mono ?_); (case side1 => exact gC ((Kd.C_below HR0_1.out HB.out))); (case side2 => exact HC0_1.out); rintro e w6 ⟨rfl, hb⟩; refine ⟨_, rfl, ?_⟩; have n0_ := Aside0.mk (blk_below (g := gb239) (o := .cells #[.int .i64 a0_0, .slice A0_1 l0_1.length c0_1] 39 (0, 0)) (gB (BK239.out)) hb); have n1_ := Aside0.mk (below_step (bl1 HB GE239) hb); clear BK239; clear HB; have BK239 := n0_; have HB := n1_; clear n0_ n1_; (try clear hb); (try clear hb2); (try clear hk); (try clear hi)))
 go_ret
 exact ⟨fR, bl1 HB GE239⟩

end Go.Proofs.YthkdkjmnnpcdhaaDoor.P
namespace Go.Proofs.YthkdkjmnnpcdhaaDoor.P
open Go.RowKit Go.Proofs.YthkdkjmnnpcdhaaDoorW.PrintWords Go.Proofs.YthkdkjmnnpcdhaaDoorW.PrintLast Go.Proofs.YthkdkjmnnpcdhaaDoorW.PrintMore
attribute [local go_sem] max2_int min2_int max_two min_two max_three min_three max_four min_four   -- for this text's walks alone
set_option linter.unusedVariables false
set_option linter.unusedSimpArgs false

/-! ### laws_alive: function 15 -/
def laws_alive.f (k : Nat)  : Option (Bool) := (impl_OtherEnd.f k 2 (([(⟨0, 1, 1⟩ : S52)] : List (S52))) 0 0).bind fun t244 => (if t244 = 1 then ((impl_NetText.f k 0 ([] : List (S52))).bind fun t245 => (some (t245.toList == ([] : List UInt8)))) else (some false))
theorem laws_alive.mono : ∀ k, LeO (laws_alive.f k ) (laws_alive.f (k + 1) ) := by
 intro  k
 unfold laws_alive.f
 repeat' first
   | (with_reducible exact impl_NetText.mono _ _ _)
   | (with_reducible exact impl_OtherEnd.mono _ _ _ _ _)
   | (with_reducible exact LeO.refl _)
   | (with_reducible exact LeO.none _)
   | (with_reducible refine LeO.ite ?_ ?_)
   | (with_reducible refine LeO.bind ?_ (fun _ => ?_))
   | exact impl_NetText.mono _ _ _
   | exact impl_OtherEnd.mono _ _ _ _ _
   | exact LeO.none _
   | refine LeO.ite ?_ ?_
   | refine LeO.bind ?_ (fun _ => ?_)
set_option maxHeartbeats 8000000 in
set_option maxRecDepth 100000 in
theorem laws_alive.calls (k : Nat)  (r : Bool) (w : World) (h : laws_alive.f k  = some r) :
  Calls Tryd.prog 15 #[] w fun e w' => e = .returned (.bool r) ∧ Below w.heap.size w w' := by
 have hu52 := Tryd.underlying52
 have hu39 := Tryd.underlying39
 have HB := Aside0.mk (Below.refl w.heap.size w)
 have H : ((impl_OtherEnd.f k 2 (([(⟨0, 1, 1⟩ : S52)] : List (S52))) 0 0).bind fun t244 => (if t244 = 1 then ((impl_NetText.f k 0 ([] : List (S52))).bind fun t245 => (some (t245.toList == ([] : List UInt8)))) else (some false))) = some r := h
 clear h
 obtain ⟨y241, hy241⟩ : ∃ y_ : List (S52), y_ = (([(⟨0, 1, 1⟩ : S52)] : List (S52))) := ⟨_, rfl⟩
 replace H : ((impl_OtherEnd.f k 2 y241 0 0).bind fun t244 => (if t244 = 1 then ((impl_NetText.f k 0 ([] : List (S52))).bind fun t245 => (some (t245.toList == ([] : List UInt8)))) else (some false))) = some r := by first | (rw [hy241]; with_reducible exact H) | (have H2_ := (Option.bind_some _ _).symm.trans H; rw [hy241]; with_reducible exact H2_) | (have H2_ := (Option.bind_some _ _).symm.trans H; with_reducible exact H2_) | with_reducible exact H | (rw [hy241]; exact H) | exact H
 have Ny241 := Aside0.mk hy241
 clear hy241
 replace H := Option.bind_eq_some_iff.mp H
 obtain ⟨t244, A10, H⟩ := H
 replace H : (if t244 = 1 then ((impl_NetText.f k 0 ([] : List (S52))).bind fun t245 => (some (t245.toList == ([] : List UInt8)))) else (some false)) = some r := H
 have A1 := Aside0.mk A10
 clear A10
 by_cases c2 : t244 = 1
 rotate_left
 ·
  rw [if_neg c2] at H
  have c2b0 : (t244 == 1) = false := beq_eq_false_iff_ne.mpr c2
  have c2b1 : (t244 != 1) = true := bne_iff_ne.mpr c2
  obtain rfl := Option.some.inj H
  go_enter Tryd.func15, Tryd.ntmps15
  go_wp2_with (first | ((with_reducible refine gate_dst (N := 2) rfl ?_); refine Kd.R_lit k52 _ 52 ?hg (N := 2) ?hd (xs := ([(⟨0, 1, 1⟩ : S52)] : List (S52))) (inner := [.int .i64 0, .int .i64 1, .int .i64 1]) (ok := fun _ => True) (okp := fun _ => True) ?hr ?hp (fun _ hk => hk) trivial (Below.refl _ _) (Nat.le_refl _) (by simp) ?_; (case hd => rfl); (case hg => rfl); (case hr => exact hR); (case hp => exact (Reps.c3 (show Kd.M k52 _ _ _ (⟨0, 1, 1⟩ : S52) [.int .i64 0, .int .i64 1, .int .i64 1] from (k52_mkM _ _ _ (⟨0, 1, 1⟩ : S52) )) (Reps.none _ _))); intro v242 w9 ho10 hb hg_ hnew_; clear hg_ hnew_; (first | rw [← Ny241.out] at ho10 | (simp only [Int.reduceToNat] at ho10; rw [← Ny241.out] at ho10)); have n0_ := Aside0.mk (Kd.R_lower ho10 (below_size (bl0 HB))); have n1_ := Aside0.mk (below_step (bl0 HB) hb); clear HB; have HO243 := n0_; have HB := n1_; clear n0_ n1_; clear hb ho10; obtain ⟨Ao11, co11, eo11⟩ := Kd.R_slice HO243.out; subst eo11) | ((with_reducible refine gate_callee (f := 52) rfl ?_); refine goesL_ (some 4) rfl rfl Tryd.func52 (by kernel_rfl) rfl #[.agg #[.int .i64 2, .slice Ao11 y241.length co11], .int .i64 0, .int .i64 0] rfl mP ?_; (with_reducible refine (impl_OtherEnd.calls k 2 _ _ y241 0 0 t244 _ ?side1 ?side2 A1.out).mono ?_); (case side1 => exact gC ((Kd.R_reads' HO243.out).2.2)); (case side2 => exact (Kd.R_reads' HO243.out).2.1); rintro e w12 ⟨rfl, hb⟩; refine ⟨_, rfl, ?_⟩; have n0_ := Aside0.mk (Kd.R_below (gR (HO243.out)) hb); have n1_ := Aside0.mk (below_step (bl0 HB) hb); clear HO243; clear HB; have HO243 := n0_; have HB := n1_; clear n0_ n1_; (try clear hb); (try clear hb2); (try clear hk); (try clear hi)))
  go_ret
  exact ⟨fR, bl0 HB⟩
 rw [if_pos c2] at H
 have c2b0 : (t244 == 1) = true := beq_iff_eq.mpr c2
 have c2b1 : (t244 != 1) = false := bne_eq_false_iff_eq.mpr c2
 clear c2
 replace H := Option.bind_eq_some_iff.mp H
 obtain ⟨t245, A30, H⟩ := H
 replace H : (some (t245.toList == ([] : List UInt8))) = some r := H
 have A3 := Aside0.mk A30
 clear A30
 obtain rfl := Option.some.inj H
 go_enter Tryd.func15, Tryd.ntmps15
 go_wp2_with (first | ((with_reducible refine gate_dst (N := 2) rfl ?_); refine Kd.R_lit k52 _ 52 ?hg (N := 2) ?hd (xs := ([(⟨0, 1, 1⟩ : S52)] : List (S52))) (inner := [.int .i64 0, .int .i64 1, .int .i64 1]) (ok := fun _ => True) (okp := fun _ => True) ?hr ?hp (fun _ hk => hk) trivial (Below.refl _ _) (Nat.le_refl _) (by simp) ?_; (case hd => rfl); (case hg => rfl); (case hr => exact hR); (case hp => exact (Reps.c3 (show Kd.M k52 _ _ _ (⟨0, 1, 1⟩ : S52) [.int .i64 0, .int .i64 1, .int .i64 1] from (k52_mkM _ _ _ (⟨0, 1, 1⟩ : S52) )) (Reps.none _ _))); intro v242 w4 ho5 hb hg_ hnew_; clear hg_ hnew_; (first | rw [← Ny241.out] at ho5 | (simp only [Int.reduceToNat] at ho5; rw [← Ny241.out] at ho5)); have n0_ := Aside0.mk (Kd.R_lower ho5 (below_size (bl0 HB))); have n1_ := Aside0.mk (below_step (bl0 HB) hb); clear HB; have HO243 := n0_; have HB := n1_; clear n0_ n1_; clear hb ho5; obtain ⟨Ao6, co6, eo6⟩ := Kd.R_slice HO243.out; subst eo6) | ((with_reducible refine gate_callee (f := 52) rfl ?_); refine goesL_ (some 4) rfl rfl Tryd.func52 (by kernel_rfl) rfl #[.agg #[.int .i64 2, .slice Ao6 y241.length co6], .int .i64 0, .int .i64 0] rfl mP ?_; (with_reducible refine (impl_OtherEnd.calls k 2 _ _ y241 0 0 t244 _ ?side1 ?side2 A1.out).mono ?_); (case side1 => exact gC ((Kd.R_reads' HO243.out).2.2)); (case side2 => exact (Kd.R_reads' HO243.out).2.1); rintro e w7 ⟨rfl, hb⟩; refine ⟨_, rfl, ?_⟩; have n0_ := Aside0.mk (Kd.R_below (gR (HO243.out)) hb); have n1_ := Aside0.mk (below_step (bl0 HB) hb); clear HO243; clear HB; have HO243 := n0_; have HB := n1_; clear n0_ n1_; (try clear hb); (try clear hb2); (try clear hk); (try clear hi)) | (go_at_call 53; (refine (impl_NetText.calls k 0 _ _ ([] : List (S52)) t245 _ ?side1 ?side2 A3.out).mono ?_); (case side1 => exact Kd.C_nil _ _); (case side2 => exact Nat.le_refl _); rintro e w8 ⟨rfl, hb⟩; have n0_ := Aside0.mk (Kd.R_below (gR (HO243.out)) hb); have n1_ := Aside0.mk (below_step (bl0 HB) hb); clear HO243; clear HB; have HO243 := n0_; have HB := n1_; clear n0_ n1_; (try clear hb); (try clear hb2); (try clear hk); (try clear hi)))
 go_ret
 exact ⟨fR, bl0 HB⟩

end Go.Proofs.YthkdkjmnnpcdhaaDoor.P

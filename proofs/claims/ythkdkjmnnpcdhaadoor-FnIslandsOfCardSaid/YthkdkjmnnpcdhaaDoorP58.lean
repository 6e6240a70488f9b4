/- Contracts of Go functions of this seat's translation, written by this repo's wip/mk.py: it calls the kit's print.py with contracts typed by hand in place of functions that it does not take. Not trusted: Lean checks it. -/
import Derived.Test.YthkdkjmnnpcdhaaDoorP0
import Derived.Test.YthkdkjmnnpcdhaaDoorP19
import Derived.Test.YthkdkjmnnpcdhaaDoorP46
import Derived.Test.YthkdkjmnnpcdhaaDoorP54
import Derived.Test.YthkdkjmnnpcdhaaDoorP56
import Derived.Test.YthkdkjmnnpcdhaaDoorP57
namespace Go.Proofs.YthkdkjmnnpcdhaaDoor.P
open Go.RowKit Go.Proofs.YthkdkjmnnpcdhaaDoorW.PrintWords Go.Proofs.YthkdkjmnnpcdhaaDoorW.PrintLast Go.Proofs.YthkdkjmnnpcdhaaDoorW.PrintMore
attribute [local go_sem] max2_int min2_int max_two min_two max_three min_three max_four min_four   -- for this text's walks alone
set_option linter.unusedVariables false
set_option linter.unusedSimpArgs false

/-! ### laws_FnIslandsOf: function 8 -/
mutual
def laws_FnIslandsOf.l0 : Nat → List (List Int) → List Int → Int → Int → Int → List (S52) → Option (Bool)
 | 0, _, _, _, _, _, _ => none
 | k + 1, x5, x6, x7, x8, x662000, x662001 => if x8 < (x5.length : Int) then (if 0 ≤ x8 then (laws_FnIslandsOf.l1 k x5 x6 (wrap64 (x7 + ((rd_L5 x5 x8).length : Int))) x8 0 x662000 x662001) else (none)) else (some (x7 == x662000))
def laws_FnIslandsOf.l1 : Nat → List (List Int) → List Int → Int → Int → Int → Int → List (S52) → Option (Bool)
 | 0, _, _, _, _, _, _, _ => none
 | k + 1, x5, x6, x7, x8, x9, x662000, x662001 => if 0 ≤ x8 then (if x8 < (x5.length : Int) then (if x9 < ((rd_L5 x5 x8).length : Int) then (if 0 ≤ x9 then (if 0 ≤ (rd (rd_L5 x5 x8) x9) then (if (rd (rd_L5 x5 x8) x9) < (x6.length : Int) then (if 0 < ((rd_L5 x5 x8).length : Int) then (if (rd x6 (rd (rd_L5 x5 x8) x9)) = (rd (rd_L5 x5 x8) 0) then (laws_FnIslandsOf.l1 k x5 x6 x7 x8 (wrap64 (x9 + 1)) x662000 x662001) else (none)) else (none)) else (none)) else (none)) else (none)) else (laws_FnIslandsOf.l0 k x5 x6 x7 (wrap64 (x8 + 1)) x662000 x662001)) else (none)) else (none)
end
def laws_FnIslandsOf.f (k : Nat) (l0 : List Int) : Option (Bool) := if (l0.length : Int) > 1048576 then (some true) else ((spec_DrawIslandsOf.f k l0).bind fun bt654 => ((impl_IslandsOf.f k bt654.1 bt654.2.1 bt654.2.2).bind fun t662 => ((spec_IslandsOf.f k bt654.1 bt654.2.1 bt654.2.2).bind fun t665 => ((laws_sameLists.f k t662 t665).bind fun t668 => (if t668 = true then (if (t662.length : Int) = 0 then ((laws_alive.f k).bind fun t669 => (some t669)) else ((impl_IslandNumbers.f k bt654.1 bt654.2.1 bt654.2.2).bind fun t670 => (if (t670.length : Int) = bt654.1 then (laws_FnIslandsOf.l0 k t662 t670 0 0 bt654.1 bt654.2.1) else (none)))) else (none))))))
theorem laws_FnIslandsOf.mono_l : ∀ k, (∀ y0 y1 y2 y3 y4 y5, LeO (laws_FnIslandsOf.l0 k y0 y1 y2 y3 y4 y5) (laws_FnIslandsOf.l0 (k + 1) y0 y1 y2 y3 y4 y5)) ∧ (∀ y0 y1 y2 y3 y4 y5 y6, LeO (laws_FnIslandsOf.l1 k y0 y1 y2 y3 y4 y5 y6) (laws_FnIslandsOf.l1 (k + 1) y0 y1 y2 y3 y4 y5 y6))
 | 0 => ⟨fun _ _ _ _ _ _ r h => by simp [laws_FnIslandsOf.l0] at h, fun _ _ _ _ _ _ _ r h => by simp [laws_FnIslandsOf.l1] at h⟩
 | k + 1 => by
  obtain ⟨ih0, ih1⟩ := laws_FnIslandsOf.mono_l k
  refine ⟨?_, ?_⟩
  ·
   intro y0 y1 y2 y3 y4 y5
   unfold laws_FnIslandsOf.l0
   repeat' first
   | (with_reducible exact ih0 _ _ _ _ _ _)
   | (with_reducible exact ih1 _ _ _ _ _ _ _)
   | (with_reducible exact impl_IslandNumbers.mono _ _ _ _)
   | (with_reducible exact impl_IslandsOf.mono _ _ _ _)
   | (with_reducible exact laws_alive.mono _)
   | (with_reducible exact laws_sameLists.mono _ _ _)
   | (with_reducible exact spec_DrawIslandsOf.mono _ _)
   | (with_reducible exact spec_IslandsOf.mono _ _ _ _)
   | (with_reducible exact LeO.refl _)
   | (with_reducible exact LeO.none _)
   | (with_reducible refine LeO.ite ?_ ?_)
   | (with_reducible refine LeO.bind ?_ (fun _ => ?_))
   | exact ih0 _ _ _ _ _ _
   | exact ih1 _ _ _ _ _ _ _
   | exact impl_IslandNumbers.mono _ _ _ _
   | exact impl_IslandsOf.mono _ _ _ _
   | exact laws_alive.mono _
   | exact laws_sameLists.mono _ _ _
   | exact spec_DrawIslandsOf.mono _ _
   | exact spec_IslandsOf.mono _ _ _ _
   | exact LeO.none _
   | refine LeO.ite ?_ ?_
   | refine LeO.bind ?_ (fun _ => ?_)
  ·
   intro y0 y1 y2 y3 y4 y5 y6
   unfold laws_FnIslandsOf.l1
   repeat' first
   | (with_reducible exact ih0 _ _ _ _ _ _)
   | (with_reducible exact ih1 _ _ _ _ _ _ _)
   | (with_reducible exact impl_IslandNumbers.mono _ _ _ _)
   | (with_reducible exact impl_IslandsOf.mono _ _ _ _)
   | (with_reducible exact laws_alive.mono _)
   | (with_reducible exact laws_sameLists.mono _ _ _)
   | (with_reducible exact spec_DrawIslandsOf.mono _ _)
   | (with_reducible exact spec_IslandsOf.mono _ _ _ _)
   | (with_reducible exact LeO.refl _)
   | (with_reducible exact LeO.none _)
   | (with_reducible refine LeO.ite ?_ ?_)
   | (with_reducible refine LeO.bind ?_ (fun _ => ?_))
   | exact ih0 _ _ _ _ _ _
   | exact ih1 _ _ _ _ _ _ _
   | exact impl_IslandNumbers.mono _ _ _ _
   | exact impl_IslandsOf.mono _ _ _ _
   | exact laws_alive.mono _
   | exact laws_sameLists.mono _ _ _
   | exact spec_DrawIslandsOf.mono _ _
   | exact spec_IslandsOf.mono _ _ _ _
   | exact LeO.none _
   | refine LeO.ite ?_ ?_
   | refine LeO.bind ?_ (fun _ => ?_)
theorem laws_FnIslandsOf.mono : ∀ a0 k, LeO (laws_FnIslandsOf.f k a0) (laws_FnIslandsOf.f (k + 1) a0) := by
 intro a0 k
 obtain ⟨ih0, ih1⟩ := laws_FnIslandsOf.mono_l k
 unfold laws_FnIslandsOf.f
 repeat' first
   | (with_reducible exact ih0 _ _ _ _ _ _)
   | (with_reducible exact ih1 _ _ _ _ _ _ _)
   | (with_reducible exact impl_IslandNumbers.mono _ _ _ _)
   | (with_reducible exact impl_IslandsOf.mono _ _ _ _)
   | (with_reducible exact laws_alive.mono _)
   | (with_reducible exact laws_sameLists.mono _ _ _)
   | (with_reducible exact spec_DrawIslandsOf.mono _ _)
   | (with_reducible exact spec_IslandsOf.mono _ _ _ _)
   | (with_reducible exact LeO.refl _)
   | (with_reducible exact LeO.none _)
   | (with_reducible refine LeO.ite ?_ ?_)
   | (with_reducible refine LeO.bind ?_ (fun _ => ?_))
   | exact ih0 _ _ _ _ _ _
   | exact ih1 _ _ _ _ _ _ _
   | exact impl_IslandNumbers.mono _ _ _ _
   | exact impl_IslandsOf.mono _ _ _ _
   | exact laws_alive.mono _
   | exact laws_sameLists.mono _ _ _
   | exact spec_DrawIslandsOf.mono _ _
   | exact spec_IslandsOf.mono _ _ _ _
   | exact LeO.none _
   | refine LeO.ite ?_ ?_
   | refine LeO.bind ?_ (fun _ => ?_)
set_option maxHeartbeats 8000000 in
set_option maxRecDepth 100000 in
theorem laws_FnIslandsOf.calls (k : Nat) (A0 : Option Addr) (c0 : Nat) (l0 : List Int) (r : Bool) (w : World) (hr0 : Kd.C (Kd.int .u8) w A0 l0.length l0) (hc0 : l0.length ≤ c0) (h : laws_FnIslandsOf.f k l0 = some r) :
  Calls Tryd.prog 8 #[.slice A0 l0.length c0] w fun e w' => e = .returned (.bool r) ∧ Below w.heap.size w w' := by
 have hu39 := Tryd.underlying39
 have HR0 := Aside0.mk hr0
 have HC0 := Aside0.mk hc0
 clear hr0 hc0
 have HB := Aside0.mk (Below.refl w.heap.size w)
 have H : (if (l0.length : Int) > 1048576 then (some true) else ((spec_DrawIslandsOf.f k l0).bind fun bt654 => ((impl_IslandsOf.f k bt654.1 bt654.2.1 bt654.2.2).bind fun t662 => ((spec_IslandsOf.f k bt654.1 bt654.2.1 bt654.2.2).bind fun t665 => ((laws_sameLists.f k t662 t665).bind fun t668 => (if t668 = true then (if (t662.length : Int) = 0 then ((laws_alive.f k).bind fun t669 => (some t669)) else ((impl_IslandNumbers.f k bt654.1 bt654.2.1 bt654.2.2).bind fun t670 => (if (t670.length : Int) = bt654.1 then (laws_FnIslandsOf.l0 k t662 t670 0 0 bt654.1 bt654.2.1) else (none)))) else (none))))))) = some r := h
 clear h
 by_cases c2 : (l0.length : Int) > 1048576
 ·
  rw [if_pos c2] at H
  have c2b0 : decide (1048576 < (l0.length : Int)) = true := decide_eq_true c2
  have c2b1 : decide (1048576 < l0.length) = true := decide_eq_true (by omega)
  clear c2
  obtain rfl := Option.some.inj H
  go_enter Tryd.func8, Tryd.ntmps8
  go_wp2
  repeat (go_quiet (fail); try go_wp2)
  go_ret
  exact ⟨by first | rfl | (simp [errW_none, errW_some] <;> rfl) | (simp [*, errW_none, errW_some] <;> rfl), by repeat (first | (with_reducible first | exact HB.out | apply below_alloc | apply pw_below_drewN | apply below_drew1) | exact HB.out)⟩
 ·
  rw [if_neg c2] at H
  have c2b0 : decide (1048576 < (l0.length : Int)) = false := decide_eq_false c2
  have c2b1 : decide (1048576 < l0.length) = false := decide_eq_false (by omega)
  clear c2
  replace H := Option.bind_eq_some_iff.mp H
  obtain ⟨⟨t654, t655, t658⟩, A30, H⟩ := H
  replace H : ((impl_IslandsOf.f k t654 t655 t658).bind fun t662 => ((spec_IslandsOf.f k t654 t655 t658).bind fun t665 => ((laws_sameLists.f k t662 t665).bind fun t668 => (if t668 = true then (if (t662.length : Int) = 0 then ((laws_alive.f k).bind fun t669 => (some t669)) else ((impl_IslandNumbers.f k t654 t655 t658).bind fun t670 => (if (t670.length : Int) = t654 then (laws_FnIslandsOf.l0 k t662 t670 0 0 t654 t655) else (none)))) else (none))))) = some r := H
  have A3 := Aside0.mk A30
  clear A30
  replace H := Option.bind_eq_some_iff.mp H
  obtain ⟨t662, A40, H⟩ := H
  replace H : ((spec_IslandsOf.f k t654 t655 t658).bind fun t665 => ((laws_sameLists.f k t662 t665).bind fun t668 => (if t668 = true then (if (t662.length : Int) = 0 then ((laws_alive.f k).bind fun t669 => (some t669)) else ((impl_IslandNumbers.f k t654 t655 t658).bind fun t670 => (if (t670.length : Int) = t654 then (laws_FnIslandsOf.l0 k t662 t670 0 0 t654 t655) else (none)))) else (none)))) = some r := H
  have A4 := Aside0.mk A40
  clear A40
  replace H := Option.bind_eq_some_iff.mp H
  obtain ⟨t665, A50, H⟩ := H
  replace H : ((laws_sameLists.f k t662 t665).bind fun t668 => (if t668 = true then (if (t662.length : Int) = 0 then ((laws_alive.f k).bind fun t669 => (some t669)) else ((impl_IslandNumbers.f k t654 t655 t658).bind fun t670 => (if (t670.length : Int) = t654 then (laws_FnIslandsOf.l0 k t662 t670 0 0 t654 t655) else (none)))) else (none))) = some r := H
  have A5 := Aside0.mk A50
  clear A50
  replace H := Option.bind_eq_some_iff.mp H
  obtain ⟨t668, A60, H⟩ := H
  replace H : (if t668 = true then (if (t662.length : Int) = 0 then ((laws_alive.f k).bind fun t669 => (some t669)) else ((impl_IslandNumbers.f k t654 t655 t658).bind fun t670 => (if (t670.length : Int) = t654 then (laws_FnIslandsOf.l0 k t662 t670 0 0 t654 t655) else (none)))) else (none)) = some r := H
  have A6 := Aside0.mk A60
  clear A60
  by_cases c7 : t668 = true
  ·
   subst c7
   have H1 : (if (t662.length : Int) = 0 then ((laws_alive.f k).bind fun t669 => (some t669)) else ((impl_IslandNumbers.f k t654 t655 t658).bind fun t670 => (if (t670.length : Int) = t654 then (laws_FnIslandsOf.l0 k t662 t670 0 0 t654 t655) else (none)))) = some r := by rw [if_pos rfl] at H; exact H
   clear H
   have H := H1
   clear H1
   by_cases c8 : (t662.length : Int) = 0
   ·
    rw [if_pos c8] at H
    have c8b0 : ((t662.length : Int) == 0) = true := beq_iff_eq.mpr c8
    have c8b1 : ((t662.length : Int) != 0) = false := bne_eq_false_iff_eq.mpr c8
    clear c8
    replace H := Option.bind_eq_some_iff.mp H
    obtain ⟨t669, A90, H⟩ := H
    replace H : (some t669) = some r := H
    have A9 := Aside0.mk A90
    clear A90
    obtain rfl := Option.some.inj H
    go_enter Tryd.func8, Tryd.ntmps8
    go_wp2_with (first | (go_at_call 32; (with_reducible refine (spec_DrawIslandsOf.calls k _ _ l0 t654 t655 t658 _ ?side1 ?side2 A3.out).mono ?_); (case side1 => repeat (first | exact HR0.out | (with_reducible refine Kd.C_alloc ?_ _) | (with_reducible refine Kd.C_drewN ?_ _) | (with_reducible refine Kd.C_drew ?_))); (case side2 => exact HC0.out); rintro e w10 ⟨v656, v659, rfl, ho0, ho1, hb⟩; have n0_ := Aside0.mk (Kd.R_lower ho0 (below_size (by repeat (first | (with_reducible first | exact HB.out | apply below_alloc | apply pw_below_drewN | apply below_drew1) | exact HB.out)))); have n1_ := Aside0.mk (Kd.R_lower ho1 (below_size (by repeat (first | (with_reducible first | exact HB.out | apply below_alloc | apply pw_below_drewN | apply below_drew1) | exact HB.out)))); have n2_ := Aside0.mk (below_step (by repeat (first | (with_reducible first | exact HB.out | apply below_alloc | apply pw_below_drewN | apply below_drew1) | exact HB.out)) hb); clear HB; have HO657 := n0_; have HO660 := n1_; have HB := n2_; clear n0_ n1_ n2_; (try clear hb); (try clear hb2); (try clear hk); (try clear hi); (try clear ho0); (try clear ho1)) | ((with_reducible refine gate_dst (N := 3) rfl ?_); refine box_event ?hg (N := 3) ?hd (cs := #[.int .i64 0, .slice none 0 0]) (t := 39) ?hr ?_; (case hd => rfl); (case hg => rfl); (case hr => first | (go_simp; done) | (go_simp; rfl)); intro gb661 hg w11 hbox hb; have n0_ := Aside0.mk (Kd.R_below (by (with_reducible repeat (first | apply Kd.R_alloc | apply Kd.R_drewN | apply Kd.R_drew)); exact HO657.out) hb); have n1_ := Aside0.mk (Kd.R_below (by (with_reducible repeat (first | apply Kd.R_alloc | apply Kd.R_drewN | apply Kd.R_drew)); exact HO660.out) hb); have n2_ := Aside0.mk (below_step (by repeat (first | (with_reducible first | exact HB.out | apply below_alloc | apply pw_below_drewN | apply below_drew1) | exact HB.out)) hb); have n3_ := Aside0.mk (hbox); have n4_ := Aside0.mk ((by rw [hg]; exact (below_size (by repeat (first | (with_reducible first | exact HB.out | apply below_alloc | apply pw_below_drewN | apply below_drew1) | exact HB.out))) : w.heap.size ≤ gb661)); have n5_ := Aside0.mk ((by rw [hg]; exact (below_size (by repeat (first | (with_reducible first | exact HB.out | apply below_alloc | apply pw_below_drewN | apply below_drew1) | exact HB.out))) : w.heap.size ≤ gb661)); clear HO657; clear HO660; clear HB; have HO657 := n0_; have HO660 := n1_; have HB := n2_; have BK661 := n3_; have GW661 := n4_; have GE661 := n5_; clear n0_ n1_ n2_ n3_ n4_ n5_; clear hb hbox hg; have hcz12_0 : w11.cell? ⟨gb661, 0, none⟩ = some (.int .i64 0) := (blk_cell BK661.out 0).trans rfl; have hcz12_1 : w11.cell? ⟨gb661, 1, none⟩ = some (.slice none 0 0) := (blk_cell BK661.out 1).trans rfl; have hfz12_0 := blk_frozen BK661.out 0; have hfz12_1 := blk_frozen BK661.out 1; obtain ⟨Ao13, co13, eo13⟩ := Kd.R_slice HO657.out; subst eo13; obtain ⟨Ao14, co14, eo14⟩ := Kd.R_slice HO660.out; subst eo14) | (go_at_call 33; (with_reducible refine (impl_IslandsOf.calls k t654 _ _ t655 _ _ t658 t662 _ ?side1 ?side2 ?side3 ?side4 A4.out).mono ?_); (case side1 => refine (Kd.R_reads' (e := 52) (base := w.heap.size) (ok := fun k_ => True) (n := t655.length) (c := co13) ?_).2.2; exact (by (with_reducible repeat (first | apply Kd.R_alloc | apply Kd.R_drewN | apply Kd.R_drew)); exact (Kd.R_mono (Kd.R_far (p := ⟨gb661, 1, none⟩) (Kd.R_far (p := ⟨gb661, 0, none⟩) (Kd.R_types HO657.out BK661.out (by decide)) (fun _ hk => hk.2) (.int .i64 t654)) (fun _ hk => hk.2) (.slice Ao13 t655.length co13)) (fun _ h_ => h_.1)))); (case side2 => exact (Kd.R_reads' HO657.out).2.1); (case side3 => refine (Kd.R_reads' (e := 4) (base := w.heap.size) (ok := fun k_ => True) (n := t658.length) (c := co14) ?_).2.2; exact (by (with_reducible repeat (first | apply Kd.R_alloc | apply Kd.R_drewN | apply Kd.R_drew)); exact (Kd.R_mono (Kd.R_far (p := ⟨gb661, 1, none⟩) (Kd.R_far (p := ⟨gb661, 0, none⟩) (Kd.R_types HO660.out BK661.out (by decide)) (fun _ hk => hk.2) (.int .i64 t654)) (fun _ hk => hk.2) (.slice Ao13 t655.length co13)) (fun _ h_ => h_.1)))); (case side4 => exact (Kd.R_reads' HO660.out).2.1); rintro e w15 ⟨v663, rfl, ho0, hb⟩; have n0_ := Aside0.mk (Kd.R_below (by (with_reducible repeat (first | apply Kd.R_alloc | apply Kd.R_drewN | apply Kd.R_drew)); exact (Kd.R_mono (Kd.R_far (p := ⟨gb661, 1, none⟩) (Kd.R_far (p := ⟨gb661, 0, none⟩) (Kd.R_types HO657.out BK661.out (by decide)) (fun _ hk => hk.2) (.int .i64 t654)) (fun _ hk => hk.2) (.slice Ao13 t655.length co13)) (fun _ h_ => h_.1))) hb); have n1_ := Aside0.mk (Kd.R_below (by (with_reducible repeat (first | apply Kd.R_alloc | apply Kd.R_drewN | apply Kd.R_drew)); exact (Kd.R_mono (Kd.R_far (p := ⟨gb661, 1, none⟩) (Kd.R_far (p := ⟨gb661, 0, none⟩) (Kd.R_types HO660.out BK661.out (by decide)) (fun _ hk => hk.2) (.int .i64 t654)) (fun _ hk => hk.2) (.slice Ao13 t655.length co13)) (fun _ h_ => h_.1))) hb); have n2_ := Aside0.mk (Kd.S_lower ho0 (below_size (by repeat (first | (with_reducible first | exact HB.out | apply below_alloc | apply pw_below_drewN | apply below_drew1 | refine below_set ?_ GE661.out) | exact HB.out)))); have n3_ := Aside0.mk (blk_below (g := gb661) (o := .cells #[.int .i64 t654, .slice Ao13 t655.length co13] 39 (0, 0)) (by (with_reducible repeat (first | refine blk_drewN ?_ _ | refine blk_drew ?_ | refine blk_alloc ?_ _)); refine blk_put (cs := #[.int .i64 t654, .slice none 0 0]) ?_ 1 _ rfl; (with_reducible repeat (first | refine blk_drewN ?_ _ | refine blk_drew ?_ | refine blk_alloc ?_ _)); refine blk_put (cs := #[.int .i64 0, .slice none 0 0]) ?_ 0 _ rfl; (with_reducible repeat (first | refine blk_drewN ?_ _ | refine blk_drew ?_ | refine blk_alloc ?_ _)); exact BK661.out) hb); have n4_ := Aside0.mk (below_step (by repeat (first | (with_reducible first | exact HB.out | apply below_alloc | apply pw_below_drewN | apply below_drew1 | refine below_set ?_ GE661.out) | exact HB.out)) hb); clear HO657; clear HO660; clear BK661; clear HB; have HO657 := n0_; have HO660 := n1_; have HO664 := n2_; have BK661 := n3_; have HB := n4_; clear n0_ n1_ n2_ n3_ n4_; (try clear hb); (try clear hb2); (try clear hk); (try clear hi); (try clear ho0); have hcz16_0 : w15.cell? ⟨gb661, 0, none⟩ = some (.int .i64 t654) := (blk_cell BK661.out 0).trans rfl; have hcz16_1 : w15.cell? ⟨gb661, 1, none⟩ = some (.slice Ao13 t655.length co13) := (blk_cell BK661.out 1).trans rfl; have hfz16_0 := blk_frozen BK661.out 0; have hfz16_1 := blk_frozen BK661.out 1) | (go_at_call 35; (with_reducible refine (spec_IslandsOf.calls k t654 _ _ t655 _ _ t658 t665 _ ?side1 ?side2 ?side3 ?side4 A5.out).mono ?_); (case side1 => repeat (first | exact (Kd.R_reads' HO657.out).2.2 | (with_reducible refine Kd.C_alloc ?_ _) | (with_reducible refine Kd.C_drewN ?_ _) | (with_reducible refine Kd.C_drew ?_))); (case side2 => exact (Kd.R_reads' HO657.out).2.1); (case side3 => repeat (first | exact (Kd.R_reads' HO660.out).2.2 | (with_reducible refine Kd.C_alloc ?_ _) | (with_reducible refine Kd.C_drewN ?_ _) | (with_reducible refine Kd.C_drew ?_))); (case side4 => exact (Kd.R_reads' HO660.out).2.1); rintro e w17 ⟨v666, rfl, ho0, hb⟩; have n0_ := Aside0.mk (Kd.R_below (by (with_reducible repeat (first | apply Kd.R_alloc | apply Kd.R_drewN | apply Kd.R_drew)); exact HO657.out) hb); have n1_ := Aside0.mk (Kd.R_below (by (with_reducible repeat (first | apply Kd.R_alloc | apply Kd.R_drewN | apply Kd.R_drew)); exact HO660.out) hb); have n2_ := Aside0.mk (Kd.S_elder' (by (with_reducible repeat (first | apply Kd.S_alloc | apply Kd.S_drewN | apply Kd.S_drew)); exact HO664.out) (Kd.S_base ho0) hb); have n3_ := Aside0.mk (Kd.S_lower (Kd.S_new' ho0 (Kd.S_lt (by (with_reducible repeat (first | apply Kd.S_alloc | apply Kd.S_drewN | apply Kd.S_drew)); exact HO664.out))) (below_size (by repeat (first | (with_reducible first | exact HB.out | apply below_alloc | apply pw_below_drewN | apply below_drew1 | refine below_set ?_ GE661.out) | exact HB.out)))); have n4_ := Aside0.mk (blk_below (g := gb661) (o := .cells #[.int .i64 t654, .slice Ao13 t655.length co13] 39 (0, 0)) (by (with_reducible repeat (first | refine blk_drewN ?_ _ | refine blk_drew ?_ | refine blk_alloc ?_ _)); exact BK661.out) hb); have n5_ := Aside0.mk (below_step (by repeat (first | (with_reducible first | exact HB.out | apply below_alloc | apply pw_below_drewN | apply below_drew1 | refine below_set ?_ GE661.out) | exact HB.out)) hb); clear HO657; clear HO660; clear HO664; clear BK661; clear HB; have HO657 := n0_; have HO660 := n1_; have HO664 := n2_; have HO667 := n3_; have BK661 := n4_; have HB := n5_; clear n0_ n1_ n2_ n3_ n4_ n5_; (try clear hb); (try clear hb2); (try clear hk); (try clear hi); (try clear ho0); obtain ⟨Ao18, co18, eo18⟩ := Kd.S_slice HO664.out; subst eo18; obtain ⟨Ao19, co19, eo19⟩ := Kd.S_slice HO667.out; subst eo19) | (go_at_call 34; (with_reducible refine (laws_sameLists.calls k _ _ t662 _ _ t665 true _ ?side1 ?side2 ?side3 ?side4 A6.out).mono ?_); (case side1 => repeat (first | exact (Kd.S_reads' HO664.out).2.2 | (with_reducible refine Kd.C_alloc ?_ _) | (with_reducible refine Kd.C_drewN ?_ _) | (with_reducible refine Kd.C_drew ?_))); (case side2 => exact (Kd.S_reads' HO664.out).2.1); (case side3 => repeat (first | exact (Kd.S_reads' HO667.out).2.2 | (with_reducible refine Kd.C_alloc ?_ _) | (with_reducible refine Kd.C_drewN ?_ _) | (with_reducible refine Kd.C_drew ?_))); (case side4 => exact (Kd.S_reads' HO667.out).2.1); rintro e w' ⟨rfl, ⟨nd, rfl⟩⟩; (try first | exact ⟨rfl, _, World.drewN_drewN _ _ _⟩ | exact ⟨rfl, _, Eq.trans (World.drewN_drewN _ _ _) (congrArg (World.drewN _) (Nat.add_assoc _ _ _))⟩)) | (go_at_call 15; (with_reducible refine (laws_alive.calls k  t669 _ A9.out).mono ?_); rintro e w20 ⟨rfl, hb⟩; have n0_ := Aside0.mk (Kd.R_below (by (with_reducible repeat (first | apply Kd.R_alloc | apply Kd.R_drewN | apply Kd.R_drew)); exact HO657.out) hb); have n1_ := Aside0.mk (Kd.R_below (by (with_reducible repeat (first | apply Kd.R_alloc | apply Kd.R_drewN | apply Kd.R_drew)); exact HO660.out) hb); have n2_ := Aside0.mk (Kd.S_below (by (with_reducible repeat (first | apply Kd.S_alloc | apply Kd.S_drewN | apply Kd.S_drew)); exact HO664.out) hb); have n3_ := Aside0.mk (Kd.S_below (by (with_reducible repeat (first | apply Kd.S_alloc | apply Kd.S_drewN | apply Kd.S_drew)); exact HO667.out) hb); have n4_ := Aside0.mk (blk_below (g := gb661) (o := .cells #[.int .i64 t654, .slice Ao13 t655.length co13] 39 (0, 0)) (by (with_reducible repeat (first | refine blk_drewN ?_ _ | refine blk_drew ?_ | refine blk_alloc ?_ _)); exact BK661.out) hb); have n5_ := Aside0.mk (below_step (by repeat (first | (with_reducible first | exact HB.out | apply below_alloc | apply pw_below_drewN | apply below_drew1 | refine below_set ?_ GE661.out) | exact HB.out)) hb); clear HO657; clear HO660; clear HO664; clear HO667; clear BK661; clear HB; have HO657 := n0_; have HO660 := n1_; have HO664 := n2_; have HO667 := n3_; have BK661 := n4_; have HB := n5_; clear n0_ n1_ n2_ n3_ n4_ n5_; (try clear hb); (try clear hb2); (try clear hk); (try clear hi)))
    repeat (go_quiet (first | (go_at_call 32; (with_reducible refine (spec_DrawIslandsOf.calls k _ _ l0 t654 t655 t658 _ ?side1 ?side2 A3.out).mono ?_); (case side1 => repeat (first | exact HR0.out | (with_reducible refine Kd.C_alloc ?_ _) | (with_reducible refine Kd.C_drewN ?_ _) | (with_reducible refine Kd.C_drew ?_))); (case side2 => exact HC0.out); rintro e w10 ⟨v656, v659, rfl, ho0, ho1, hb⟩; have n0_ := Aside0.mk (Kd.R_lower ho0 (below_size (by repeat (first | (with_reducible first | exact HB.out | apply below_alloc | apply pw_below_drewN | apply below_drew1) | exact HB.out)))); have n1_ := Aside0.mk (Kd.R_lower ho1 (below_size (by repeat (first | (with_reducible first | exact HB.out | apply below_alloc | apply pw_below_drewN | apply below_drew1) | exact HB.out)))); have n2_ := Aside0.mk (below_step (by repeat (first | (with_reducible first | exact HB.out | apply below_alloc | apply pw_below_drewN | apply below_drew1) | exact HB.out)) hb); clear HB; have HO657 := n0_; have HO660 := n1_; have HB := n2_; clear n0_ n1_ n2_; (try clear hb); (try clear hb2); (try clear hk); (try clear hi); (try clear ho0); (try clear ho1)) | ((with_reducible refine gate_dst (N := 3) rfl ?_); refine box_event ?hg (N := 3) ?hd (cs := #[.int .i64 0, .slice none 0 0]) (t := 39) ?hr ?_; (case hd => rfl); (case hg => rfl); (case hr => first | (go_simp; done) | (go_simp; rfl)); intro gb661 hg w11 hbox hb; have n0_ := Aside0.mk (Kd.R_below (by (with_reducible repeat (first | apply Kd.R_alloc | apply Kd.R_drewN | apply Kd.R_drew)); exact HO657.out) hb); have n1_ := Aside0.mk (Kd.R_below (by (with_reducible repeat (first | apply Kd.R_alloc | apply Kd.R_drewN | apply Kd.R_drew)); exact HO660.out) hb); have n2_ := Aside0.mk (below_step (by repeat (first | (with_reducible first | exact HB.out | apply below_alloc | apply pw_below_drewN | apply below_drew1) | exact HB.out)) hb); have n3_ := Aside0.mk (hbox); have n4_ := Aside0.mk ((by rw [hg]; exact (below_size (by repeat (first | (with_reducible first | exact HB.out | apply below_alloc | apply pw_below_drewN | apply below_drew1) | exact HB.out))) : w.heap.size ≤ gb661)); have n5_ := Aside0.mk ((by rw [hg]; exact (below_size (by repeat (first | (with_reducible first | exact HB.out | apply below_alloc | apply pw_below_drewN | apply below_drew1) | exact HB.out))) : w.heap.size ≤ gb661)); clear HO657; clear HO660; clear HB; have HO657 := n0_; have HO660 := n1_; have HB := n2_; have BK661 := n3_; have GW661 := n4_; have GE661 := n5_; clear n0_ n1_ n2_ n3_ n4_ n5_; clear hb hbox hg; have hcz12_0 : w11.cell? ⟨gb661, 0, none⟩ = some (.int .i64 0) := (blk_cell BK661.out 0).trans rfl; have hcz12_1 : w11.cell? ⟨gb661, 1, none⟩ = some (.slice none 0 0) := (blk_cell BK661.out 1).trans rfl; have hfz12_0 := blk_frozen BK661.out 0; have hfz12_1 := blk_frozen BK661.out 1; obtain ⟨Ao13, co13, eo13⟩ := Kd.R_slice HO657.out; subst eo13; obtain ⟨Ao14, co14, eo14⟩ := Kd.R_slice HO660.out; subst eo14) | (go_at_call 33; (with_reducible refine (impl_IslandsOf.calls k t654 _ _ t655 _ _ t658 t662 _ ?side1 ?side2 ?side3 ?side4 A4.out).mono ?_); (case side1 => refine (Kd.R_reads' (e := 52) (base := w.heap.size) (ok := fun k_ => True) (n := t655.length) (c := co13) ?_).2.2; exact (by (with_reducible repeat (first | apply Kd.R_alloc | apply Kd.R_drewN | apply Kd.R_drew)); exact (Kd.R_mono (Kd.R_far (p := ⟨gb661, 1, none⟩) (Kd.R_far (p := ⟨gb661, 0, none⟩) (Kd.R_types HO657.out BK661.out (by decide)) (fun _ hk => hk.2) (.int .i64 t654)) (fun _ hk => hk.2) (.slice Ao13 t655.length co13)) (fun _ h_ => h_.1)))); (case side2 => exact (Kd.R_reads' HO657.out).2.1); (case side3 => refine (Kd.R_reads' (e := 4) (base := w.heap.size) (ok := fun k_ => True) (n := t658.length) (c := co14) ?_).2.2; exact (by (with_reducible repeat (first | apply Kd.R_alloc | apply Kd.R_drewN | apply Kd.R_drew)); exact (Kd.R_mono (Kd.R_far (p := ⟨gb661, 1, none⟩) (Kd.R_far (p := ⟨gb661, 0, none⟩) (Kd.R_types HO660.out BK661.out (by decide)) (fun _ hk => hk.2) (.int .i64 t654)) (fun _ hk => hk.2) (.slice Ao13 t655.length co13)) (fun _ h_ => h_.1)))); (case side4 => exact (Kd.R_reads' HO660.out).2.1); rintro e w15 ⟨v663, rfl, ho0, hb⟩; have n0_ := Aside0.mk (Kd.R_below (by (with_reducible repeat (first | apply Kd.R_alloc | apply Kd.R_drewN | apply Kd.R_drew)); exact (Kd.R_mono (Kd.R_far (p := ⟨gb661, 1, none⟩) (Kd.R_far (p := ⟨gb661, 0, none⟩) (Kd.R_types HO657.out BK661.out (by decide)) (fun _ hk => hk.2) (.int .i64 t654)) (fun _ hk => hk.2) (.slice Ao13 t655.length co13)) (fun _ h_ => h_.1))) hb); have n1_ := Aside0.mk (Kd.R_below (by (with_reducible repeat (first | apply Kd.R_alloc | apply Kd.R_drewN | apply Kd.R_drew)); exact (Kd.R_mono (Kd.R_far (p := ⟨gb661, 1, none⟩) (Kd.R_far (p := ⟨gb661, 0, none⟩) (Kd.R_types HO660.out BK661.out (by decide)) (fun _ hk => hk.2) (.int .i64 t654)) (fun _ hk => hk.2) (.slice Ao13 t655.length co13)) (fun _ h_ => h_.1))) hb); have n2_ := Aside0.mk (Kd.S_lower ho0 (below_size (by repeat (first | (with_reducible first | exact HB.out | apply below_alloc | apply pw_below_drewN | apply below_drew1 | refine below_set ?_ GE661.out) | exact HB.out)))); have n3_ := Aside0.mk (blk_below (g := gb661) (o := .cells #[.int .i64 t654, .slice Ao13 t655.length co13] 39 (0, 0)) (by (with_reducible repeat (first | refine blk_drewN ?_ _ | refine blk_drew ?_ | refine blk_alloc ?_ _)); refine blk_put (cs := #[.int .i64 t654, .slice none 0 0]) ?_ 1 _ rfl; (with_reducible repeat (first | refine blk_drewN ?_ _ | refine blk_drew ?_ | refine blk_alloc ?_ _)); refine blk_put (cs := #[.int .i64 0, .slice none 0 0]) ?_ 0 _ rfl; (with_reducible repeat (first | refine blk_drewN ?_ _ | refine blk_drew ?_ | refine blk_alloc ?_ _)); exact BK661.out) hb); have n4_ := Aside0.mk (below_step (by repeat (first | (with_reducible first | exact HB.out | apply below_alloc | apply pw_below_drewN | apply below_drew1 | refine below_set ?_ GE661.out) | exact HB.out)) hb); clear HO657; clear HO660; clear BK661; clear HB; have HO657 := n0_; have HO660 := n1_; have HO664 := n2_; have BK661 := n3_; have HB := n4_; clear n0_ n1_ n2_ n3_ n4_; (try clear hb); (try clear hb2); (try clear hk); (try clear hi); (try clear ho0); have hcz16_0 : w15.cell? ⟨gb661, 0, none⟩ = some (.int .i64 t654) := (blk_cell BK661.out 0).trans rfl; have hcz16_1 : w15.cell? ⟨gb661, 1, none⟩ = some (.slice Ao13 t655.length co13) := (blk_cell BK661.out 1).trans rfl; have hfz16_0 := blk_frozen BK661.out 0; have hfz16_1 := blk_frozen BK661.out 1) | (go_at_call 35; (with_reducible refine (spec_IslandsOf.calls k t654 _ _ t655 _ _ t658 t665 _ ?side1 ?side2 ?side3 ?side4 A5.out).mono ?_); (case side1 => repeat (first | exact (Kd.R_reads' HO657.out).2.2 | (with_reducible refine Kd.C_alloc ?_ _) | (with_reducible refine Kd.C_drewN ?_ _) | (with_reducible refine Kd.C_drew ?_))); (case side2 => exact (Kd.R_reads' HO657.out).2.1); (case side3 => repeat (first | exact (Kd.R_reads' HO660.out).2.2 | (with_reducible refine Kd.C_alloc ?_ _) | (with_reducible refine Kd.C_drewN ?_ _) | (with_reducible refine Kd.C_drew ?_))); (case side4 => exact (Kd.R_reads' HO660.out).2.1); rintro e w17 ⟨v666, rfl, ho0, hb⟩; have n0_ := Aside0.mk (Kd.R_below (by (with_reducible repeat (first | apply Kd.R_alloc | apply Kd.R_drewN | apply Kd.R_drew)); exact HO657.out) hb); have n1_ := Aside0.mk (Kd.R_below (by (with_reducible repeat (first | apply Kd.R_alloc | apply Kd.R_drewN | apply Kd.R_drew)); exact HO660.out) hb); have n2_ := Aside0.mk (Kd.S_elder' (by (with_reducible repeat (first | apply Kd.S_alloc | apply Kd.S_drewN | apply Kd.S_drew)); exact HO664.out) (Kd.S_base ho0) hb); have n3_ := Aside0.mk (Kd.S_lower (Kd.S_new' ho0 (Kd.S_lt (by (with_reducible repeat (first | apply Kd.S_alloc | apply Kd.S_drewN | apply Kd.S_drew)); exact HO664.out))) (below_size (by repeat (first | (with_reducible first | exact HB.out | apply below_alloc | apply pw_below_drewN | apply below_drew1 | refine below_set ?_ GE661.out) | exact HB.out)))); have n4_ := Aside0.mk (blk_below (g := gb661) (o := .cells #[.int .i64 t654, .slice Ao13 t655.length co13] 39 (0, 0)) (by (with_reducible repeat (first | refine blk_drewN ?_ _ | refine blk_drew ?_ | refine blk_alloc ?_ _)); exact BK661.out) hb); have n5_ := Aside0.mk (below_step (by repeat (first | (with_reducible first | exact HB.out | apply below_alloc | apply pw_below_drewN | apply below_drew1 | refine below_set ?_ GE661.out) | exact HB.out)) hb); clear HO657; clear HO660; clear HO664; clear BK661; clear HB; have HO657 := n0_; have HO660 := n1_; have HO664 := n2_; have HO667 := n3_; have BK661 := n4_; have HB := n5_; clear n0_ n1_ n2_ n3_ n4_ n5_; (try clear hb); (try clear hb2); (try clear hk); (try clear hi); (try clear ho0); obtain ⟨Ao18, co18, eo18⟩ := Kd.S_slice HO664.out; subst eo18; obtain ⟨Ao19, co19, eo19⟩ := Kd.S_slice HO667.out; subst eo19) | (go_at_call 34; (with_reducible refine (laws_sameLists.calls k _ _ t662 _ _ t665 true _ ?side1 ?side2 ?side3 ?side4 A6.out).mono ?_); (case side1 => repeat (first | exact (Kd.S_reads' HO664.out).2.2 | (with_reducible refine Kd.C_alloc ?_ _) | (with_reducible refine Kd.C_drewN ?_ _) | (with_reducible refine Kd.C_drew ?_))); (case side2 => exact (Kd.S_reads' HO664.out).2.1); (case side3 => repeat (first | exact (Kd.S_reads' HO667.out).2.2 | (with_reducible refine Kd.C_alloc ?_ _) | (with_reducible refine Kd.C_drewN ?_ _) | (with_reducible refine Kd.C_drew ?_))); (case side4 => exact (Kd.S_reads' HO667.out).2.1); rintro e w' ⟨rfl, ⟨nd, rfl⟩⟩; (try first | exact ⟨rfl, _, World.drewN_drewN _ _ _⟩ | exact ⟨rfl, _, Eq.trans (World.drewN_drewN _ _ _) (congrArg (World.drewN _) (Nat.add_assoc _ _ _))⟩)) | (go_at_call 15; (with_reducible refine (laws_alive.calls k  t669 _ A9.out).mono ?_); rintro e w20 ⟨rfl, hb⟩; have n0_ := Aside0.mk (Kd.R_below (by (with_reducible repeat (first | apply Kd.R_alloc | apply Kd.R_drewN | apply Kd.R_drew)); exact HO657.out) hb); have n1_ := Aside0.mk (Kd.R_below (by (with_reducible repeat (first | apply Kd.R_alloc | apply Kd.R_drewN | apply Kd.R_drew)); exact HO660.out) hb); have n2_ := Aside0.mk (Kd.S_below (by (with_reducible repeat (first | apply Kd.S_alloc | apply Kd.S_drewN | apply Kd.S_drew)); exact HO664.out) hb); have n3_ := Aside0.mk (Kd.S_below (by (with_reducible repeat (first | apply Kd.S_alloc | apply Kd.S_drewN | apply Kd.S_drew)); exact HO667.out) hb); have n4_ := Aside0.mk (blk_below (g := gb661) (o := .cells #[.int .i64 t654, .slice Ao13 t655.length co13] 39 (0, 0)) (by (with_reducible repeat (first | refine blk_drewN ?_ _ | refine blk_drew ?_ | refine blk_alloc ?_ _)); exact BK661.out) hb); have n5_ := Aside0.mk (below_step (by repeat (first | (with_reducible first | exact HB.out | apply below_alloc | apply pw_below_drewN | apply below_drew1 | refine below_set ?_ GE661.out) | exact HB.out)) hb); clear HO657; clear HO660; clear HO664; clear HO667; clear BK661; clear HB; have HO657 := n0_; have HO660 := n1_; have HO664 := n2_; have HO667 := n3_; have BK661 := n4_; have HB := n5_; clear n0_ n1_ n2_ n3_ n4_ n5_; (try clear hb); (try clear hb2); (try clear hk); (try clear hi))); try go_wp2_with (first | (go_at_call 32; (with_reducible refine (spec_DrawIslandsOf.calls k _ _ l0 t654 t655 t658 _ ?side1 ?side2 A3.out).mono ?_); (case side1 => repeat (first | exact HR0.out | (with_reducible refine Kd.C_alloc ?_ _) | (with_reducible refine Kd.C_drewN ?_ _) | (with_reducible refine Kd.C_drew ?_))); (case side2 => exact HC0.out); rintro e w10 ⟨v656, v659, rfl, ho0, ho1, hb⟩; have n0_ := Aside0.mk (Kd.R_lower ho0 (below_size (by repeat (first | (with_reducible first | exact HB.out | apply below_alloc | apply pw_below_drewN | apply below_drew1) | exact HB.out)))); have n1_ := Aside0.mk (Kd.R_lower ho1 (below_size (by repeat (first | (with_reducible first | exact HB.out | apply below_alloc | apply pw_below_drewN | apply below_drew1) | exact HB.out)))); have n2_ := Aside0.mk (below_step (by repeat (first | (with_reducible first | exact HB.out | apply below_alloc | apply pw_below_drewN | apply below_drew1) | exact HB.out)) hb); clear HB; have HO657 := n0_; have HO660 := n1_; have HB := n2_; clear n0_ n1_ n2_; (try clear hb); (try clear hb2); (try clear hk); (try clear hi); (try clear ho0); (try clear ho1)) | ((with_reducible refine gate_dst (N := 3) rfl ?_); refine box_event ?hg (N := 3) ?hd (cs := #[.int .i64 0, .slice none 0 0]) (t := 39) ?hr ?_; (case hd => rfl); (case hg => rfl); (case hr => first | (go_simp; done) | (go_simp; rfl)); intro gb661 hg w11 hbox hb; have n0_ := Aside0.mk (Kd.R_below (by (with_reducible repeat (first | apply Kd.R_alloc | apply Kd.R_drewN | apply Kd.R_drew)); exact HO657.out) hb); have n1_ := Aside0.mk (Kd.R_below (by (with_reducible repeat (first | apply Kd.R_alloc | apply Kd.R_drewN | apply Kd.R_drew)); exact HO660.out) hb); have n2_ := Aside0.mk (below_step (by repeat (first | (with_reducible first | exact HB.out | apply below_alloc | apply pw_below_drewN | apply below_drew1) | exact HB.out)) hb); have n3_ := Aside0.mk (hbox); have n4_ := Aside0.mk ((by rw [hg]; exact (below_size (by repeat (first | (with_reducible first | exact HB.out | apply below_alloc | apply pw_below_drewN | apply below_drew1) | exact HB.out))) : w.heap.size ≤ gb661)); have n5_ := Aside0.mk ((by rw [hg]; exact (below_size (by repeat (first | (with_reducible first | exact HB.out | apply below_alloc | apply pw_below_drewN | apply below_drew1) | exact HB.out))) : w.heap.size ≤ gb661)); clear HO657; clear HO660; clear HB; have HO657 := n0_; have HO660 := n1_; have HB := n2_; have BK661 := n3_; have GW661 := n4_; have GE661 := n5_; clear n0_ n1_ n2_ n3_ n4_ n5_; clear hb hbox hg; have hcz12_0 : w11.cell? ⟨gb661, 0, none⟩ = some (.int .i64 0) := (blk_cell BK661.out 0).trans rfl; have hcz12_1 : w11.cell? ⟨gb661, 1, none⟩ = some (.slice none 0 0) := (blk_cell BK661.out 1).trans rfl; have hfz12_0 := blk_frozen BK661.out 0; have hfz12_1 := blk_frozen BK661.out 1; obtain ⟨Ao13, co13, eo13⟩ := Kd.R_slice HO657.out; subst eo13; obtain ⟨Ao14, co14, eo14⟩ := Kd.R_slice HO660.out; subst eo14) | (go_at_call 33; (with_reducible refine (impl_IslandsOf.calls k t654 _ _ t655 _ _ t658 t662 _ ?side1 ?side2 ?side3 ?side4 A4.out).mono ?_); (case side1 => refine (Kd.R_reads' (e := 52) (base := w.heap.size) (ok := fun k_ => True) (n := t655.length) (c := co13) ?_).2.2; exact (by (with_reducible repeat (first | apply Kd.R_alloc | apply Kd.R_drewN | apply Kd.R_drew)); exact (Kd.R_mono (Kd.R_far (p := ⟨gb661, 1, none⟩) (Kd.R_far (p := ⟨gb661, 0, none⟩) (Kd.R_types HO657.out BK661.out (by decide)) (fun _ hk => hk.2) (.int .i64 t654)) (fun _ hk => hk.2) (.slice Ao13 t655.length co13)) (fun _ h_ => h_.1)))); (case side2 => exact (Kd.R_reads' HO657.out).2.1); (case side3 => refine (Kd.R_reads' (e := 4) (base := w.heap.size) (ok := fun k_ => True) (n := t658.length) (c := co14) ?_).2.2; exact (by (with_reducible repeat (first | apply Kd.R_alloc | apply Kd.R_drewN | apply Kd.R_drew)); exact (Kd.R_mono (Kd.R_far (p := ⟨gb661, 1, none⟩) (Kd.R_far (p := ⟨gb661, 0, none⟩) (Kd.R_types HO660.out BK661.out (by decide)) (fun _ hk => hk.2) (.int .i64 t654)) (fun _ hk => hk.2) (.slice Ao13 t655.length co13)) (fun _ h_ => h_.1)))); (case side4 => exact (Kd.R_reads' HO660.out).2.1); rintro e w15 ⟨v663, rfl, ho0, hb⟩; have n0_ := Aside0.mk (Kd.R_below (by (with_reducible repeat (first | apply Kd.R_alloc | apply Kd.R_drewN | apply Kd.R_drew)); exact (Kd.R_mono (Kd.R_far (p := ⟨gb661, 1, none⟩) (Kd.R_far (p := ⟨gb661, 0, none⟩) (Kd.R_types HO657.out BK661.out (by decide)) (fun _ hk => hk.2) (.int .i64 t654)) (fun _ hk => hk.2) (.slice Ao13 t655.length co13)) (fun _ h_ => h_.1))) hb); have n1_ := Aside0.mk (Kd.R_below (by (with_reducible repeat (first | apply Kd.R_alloc | apply Kd.R_drewN | apply Kd.R_drew)); exact (Kd.R_mono (Kd.R_far (p := ⟨gb661, 1, none⟩) (Kd.R_far (p := ⟨gb661, 0, none⟩) (Kd.R_types HO660.out BK661.out (by decide)) (fun _ hk => hk.2) (.int .i64 t654)) (fun _ hk => hk.2) (.slice Ao13 t655.length co13)) (fun _ h_ => h_.1))) hb); have n2_ := Aside0.mk (Kd.S_lower ho0 (below_size (by repeat (first | (with_reducible first | exact HB.out | apply below_alloc | apply pw_below_drewN | apply below_drew1 | refine below_set ?_ GE661.out) | exact HB.out)))); have n3_ := Aside0.mk (blk_below (g := gb661) (o := .cells #[.int .i64 t654, .slice Ao13 t655.length co13] 39 (0, 0)) (by (with_reducible repeat (first | refine blk_drewN ?_ _ | refine blk_drew ?_ | refine blk_alloc ?_ _)); refine blk_put (cs := #[.int .i64 t654, .slice none 0 0]) ?_ 1 _ rfl; (with_reducible repeat (first | refine blk_drewN ?_ _ | refine blk_drew ?_ | refine blk_alloc ?_ _)); refine blk_put (cs := #[.int .i64 0, .slice none 0 0]) ?_ 0 _ rfl; (with_reducible repeat (first | refine blk_drewN ?_ _ | refine blk_drew ?_ | refine blk_alloc ?_ _)); exact BK661.out) hb); have n4_ := Aside0.mk (below_step (by repeat (first | (with_reducible first | exact HB.out | apply below_alloc | apply pw_below_drewN | apply below_drew1 | refine below_set ?_ GE661.out) | exact HB.out)) hb); clear HO657; clear HO660; clear BK661; clear HB; have HO657 := n0_; have HO660 := n1_; have HO664 := n2_; have BK661 := n3_; have HB := n4_; clear n0_ n1_ n2_ n3_ n4_; (try clear hb); (try clear hb2); (try clear hk); (try clear hi); (try clear ho0); have hcz16_0 : w15.cell? ⟨gb661, 0, none⟩ = some (.int .i64 t654) := (blk_cell BK661.out 0).trans rfl; have hcz16_1 : w15.cell? ⟨gb661, 1, none⟩ = some (.slice Ao13 t655.length co13) := (blk_cell BK661.out 1).trans rfl; have hfz16_0 := blk_frozen BK661.out 0; have hfz16_1 := blk_frozen BK661.out 1) | (go_at_call 35; (with_reducible refine (spec_IslandsOf.calls k t654 _ _ t655 _ _ t658 t665 _ ?side1 ?side2 ?side3 ?side4 A5.out).mono ?_); (case side1 => repeat (first | exact (Kd.R_reads' HO657.out).2.2 | (with_reducible refine Kd.C_alloc ?_ _) | (with_reducible refine Kd.C_drewN ?_ _) | (with_reducible refine Kd.C_drew ?_))); (case side2 => exact (Kd.R_reads' HO657.out).2.1); (case side3 => repeat (first | exact (Kd.R_reads' HO660.out).2.2 | (with_reducible refine Kd.C_alloc ?_ _) | (with_reducible refine Kd.C_drewN ?_ _) | (with_reducible refine Kd.C_drew ?_))); (case side4 => exact (Kd.R_reads' HO660.out).2.1); rintro e w17 ⟨v666, rfl, ho0, hb⟩; have n0_ := Aside0.mk (Kd.R_below (by (with_reducible repeat (first | apply Kd.R_alloc | apply Kd.R_drewN | apply Kd.R_drew)); exact HO657.out) hb); have n1_ := Aside0.mk (Kd.R_below (by (with_reducible repeat (first | apply Kd.R_alloc | apply Kd.R_drewN | apply Kd.R_drew)); exact HO660.out) hb); have n2_ := Aside0.mk (Kd.S_elder' (by (with_reducible repeat (first | apply Kd.S_alloc | apply Kd.S_drewN | apply Kd.S_drew)); exact HO664.out) (Kd.S_base ho0) hb); have n3_ := Aside0.mk (Kd.S_lower (Kd.S_new' ho0 (Kd.S_lt (by (with_reducible repeat (first | apply Kd.S_alloc | apply Kd.S_drewN | apply Kd.S_drew)); exact HO664.out))) (below_size (by repeat (first | (with_reducible first | exact HB.out | apply below_alloc | apply pw_below_drewN | apply below_drew1 | refine below_set ?_ GE661.out) | exact HB.out)))); have n4_ := Aside0.mk (blk_below (g := gb661) (o := .cells #[.int .i64 t654, .slice Ao13 t655.length co13] 39 (0, 0)) (by (with_reducible repeat (first | refine blk_drewN ?_ _ | refine blk_drew ?_ | refine blk_alloc ?_ _)); exact BK661.out) hb); have n5_ := Aside0.mk (below_step (by repeat (first | (with_reducible first | exact HB.out | apply below_alloc | apply pw_below_drewN | apply below_drew1 | refine below_set ?_ GE661.out) | exact HB.out)) hb); clear HO657; clear HO660; clear HO664; clear BK661; clear HB; have HO657 := n0_; have HO660 := n1_; have HO664 := n2_; have HO667 := n3_; have BK661 := n4_; have HB := n5_; clear n0_ n1_ n2_ n3_ n4_ n5_; (try clear hb); (try clear hb2); (try clear hk); (try clear hi); (try clear ho0); obtain ⟨Ao18, co18, eo18⟩ := Kd.S_slice HO664.out; subst eo18; obtain ⟨Ao19, co19, eo19⟩ := Kd.S_slice HO667.out; subst eo19) | (go_at_call 34; (with_reducible refine (laws_sameLists.calls k _ _ t662 _ _ t665 true _ ?side1 ?side2 ?side3 ?side4 A6.out).mono ?_); (case side1 => repeat (first | exact (Kd.S_reads' HO664.out).2.2 | (with_reducible refine Kd.C_alloc ?_ _) | (with_reducible refine Kd.C_drewN ?_ _) | (with_reducible refine Kd.C_drew ?_))); (case side2 => exact (Kd.S_reads' HO664.out).2.1); (case side3 => repeat (first | exact (Kd.S_reads' HO667.out).2.2 | (with_reducible refine Kd.C_alloc ?_ _) | (with_reducible refine Kd.C_drewN ?_ _) | (with_reducible refine Kd.C_drew ?_))); (case side4 => exact (Kd.S_reads' HO667.out).2.1); rintro e w' ⟨rfl, ⟨nd, rfl⟩⟩; (try first | exact ⟨rfl, _, World.drewN_drewN _ _ _⟩ | exact ⟨rfl, _, Eq.trans (World.drewN_drewN _ _ _) (congrArg (World.drewN _) (Nat.add_assoc _ _ _))⟩)) | (go_at_call 15; (with_reducible refine (laws_alive.calls k  t669 _ A9.out).mono ?_); rintro e w20 ⟨rfl, hb⟩; have n0_ := Aside0.mk (Kd.R_below (by (with_reducible repeat (first | apply Kd.R_alloc | apply Kd.R_drewN | apply Kd.R_drew)); exact HO657.out) hb); have n1_ := Aside0.mk (Kd.R_below (by (with_reducible repeat (first | apply Kd.R_alloc | apply Kd.R_drewN | apply Kd.R_drew)); exact HO660.out) hb); have n2_ := Aside0.mk (Kd.S_below (by (with_reducible repeat (first | apply Kd.S_alloc | apply Kd.S_drewN | apply Kd.S_drew)); exact HO664.out) hb); have n3_ := Aside0.mk (Kd.S_below (by (with_reducible repeat (first | apply Kd.S_alloc | apply Kd.S_drewN | apply Kd.S_drew)); exact HO667.out) hb); have n4_ := Aside0.mk (blk_below (g := gb661) (o := .cells #[.int .i64 t654, .slice Ao13 t655.length co13] 39 (0, 0)) (by (with_reducible repeat (first | refine blk_drewN ?_ _ | refine blk_drew ?_ | refine blk_alloc ?_ _)); exact BK661.out) hb); have n5_ := Aside0.mk (below_step (by repeat (first | (with_reducible first | exact HB.out | apply below_alloc | apply pw_below_drewN | apply below_drew1 | refine below_set ?_ GE661.out) | exact HB.out)) hb); clear HO657; clear HO660; clear HO664; clear HO667; clear BK661; clear HB; have HO657 := n0_; have HO660 := n1_; have HO664 := n2_; have HO667 := n3_; have BK661 := n4_; have HB := n5_; clear n0_ n1_ n2_ n3_ n4_ n5_; (try clear hb); (try clear hb2); (try clear hk); (try clear hi))))
    go_ret
    exact ⟨by first | rfl | (simp [errW_none, errW_some] <;> rfl) | (simp [*, errW_none, errW_some] <;> rfl), by repeat (first | (with_reducible first | exact HB.out | apply below_alloc | apply pw_below_drewN | apply below_drew1 | refine below_set ?_ GE661.out) | exact HB.out)⟩
   ·
    rw [if_neg c8] at H
    have c8b0 : ((t662.length : Int) == 0) = false := beq_eq_false_iff_ne.mpr c8
    have c8b1 : ((t662.length : Int) != 0) = true := bne_iff_ne.mpr c8
    have c8b2 : ¬ (t662 = []) := fun h_ => c8 (by rw [h_]; rfl)
    replace H := Option.bind_eq_some_iff.mp H
    obtain ⟨t670, A210, H⟩ := H
    replace H : (if (t670.length : Int) = t654 then (laws_FnIslandsOf.l0 k t662 t670 0 0 t654 t655) else (none)) = some r := H
    have A21 := Aside0.mk A210
    clear A210
    by_cases c22 : (t670.length : Int) = t654
    ·
     rw [if_pos c22] at H
     have c22b0 : ((t670.length : Int) == t654) = true := beq_iff_eq.mpr c22
     have c22b1 : ((t670.length : Int) != t654) = false := bne_eq_false_iff_eq.mpr c22
     clear c22
     have H' := Aside0.mk H
     clear H
     go_enter Tryd.func8, Tryd.ntmps8
     go_wp2_with (first | (go_at_call 32; (with_reducible refine (spec_DrawIslandsOf.calls k _ _ l0 t654 t655 t658 _ ?side1 ?side2 A3.out).mono ?_); (case side1 => repeat (first | exact HR0.out | (with_reducible refine Kd.C_alloc ?_ _) | (with_reducible refine Kd.C_drewN ?_ _) | (with_reducible refine Kd.C_drew ?_))); (case side2 => exact HC0.out); rintro e w23 ⟨v656, v659, rfl, ho0, ho1, hb⟩; have n0_ := Aside0.mk (Kd.R_lower ho0 (below_size (by repeat (first | (with_reducible first | exact HB.out | apply below_alloc | apply pw_below_drewN | apply below_drew1) | exact HB.out)))); have n1_ := Aside0.mk (Kd.R_lower ho1 (below_size (by repeat (first | (with_reducible first | exact HB.out | apply below_alloc | apply pw_below_drewN | apply below_drew1) | exact HB.out)))); have n2_ := Aside0.mk (below_step (by repeat (first | (with_reducible first | exact HB.out | apply below_alloc | apply pw_below_drewN | apply below_drew1) | exact HB.out)) hb); clear HB; have HO657 := n0_; have HO660 := n1_; have HB := n2_; clear n0_ n1_ n2_; (try clear hb); (try clear hb2); (try clear hk); (try clear hi); (try clear ho0); (try clear ho1)) | ((with_reducible refine gate_dst (N := 3) rfl ?_); refine box_event ?hg (N := 3) ?hd (cs := #[.int .i64 0, .slice none 0 0]) (t := 39) ?hr ?_; (case hd => rfl); (case hg => rfl); (case hr => first | (go_simp; done) | (go_simp; rfl)); intro gb661 hg w24 hbox hb; have n0_ := Aside0.mk (Kd.R_below (by (with_reducible repeat (first | apply Kd.R_alloc | apply Kd.R_drewN | apply Kd.R_drew)); exact HO657.out) hb); have n1_ := Aside0.mk (Kd.R_below (by (with_reducible repeat (first | apply Kd.R_alloc | apply Kd.R_drewN | apply Kd.R_drew)); exact HO660.out) hb); have n2_ := Aside0.mk (below_step (by repeat (first | (with_reducible first | exact HB.out | apply below_alloc | apply pw_below_drewN | apply below_drew1) | exact HB.out)) hb); have n3_ := Aside0.mk (hbox); have n4_ := Aside0.mk ((by rw [hg]; exact (below_size (by repeat (first | (with_reducible first | exact HB.out | apply below_alloc | apply pw_below_drewN | apply below_drew1) | exact HB.out))) : w.heap.size ≤ gb661)); have n5_ := Aside0.mk ((by rw [hg]; exact (below_size (by repeat (first | (with_reducible first | exact HB.out | apply below_alloc | apply pw_below_drewN | apply below_drew1) | exact HB.out))) : w.heap.size ≤ gb661)); clear HO657; clear HO660; clear HB; have HO657 := n0_; have HO660 := n1_; have HB := n2_; have BK661 := n3_; have GW661 := n4_; have GE661 := n5_; clear n0_ n1_ n2_ n3_ n4_ n5_; clear hb hbox hg; have hcz25_0 : w24.cell? ⟨gb661, 0, none⟩ = some (.int .i64 0) := (blk_cell BK661.out 0).trans rfl; have hcz25_1 : w24.cell? ⟨gb661, 1, none⟩ = some (.slice none 0 0) := (blk_cell BK661.out 1).trans rfl; have hfz25_0 := blk_frozen BK661.out 0; have hfz25_1 := blk_frozen BK661.out 1; obtain ⟨Ao26, co26, eo26⟩ := Kd.R_slice HO657.out; subst eo26; obtain ⟨Ao27, co27, eo27⟩ := Kd.R_slice HO660.out; subst eo27) | (go_at_call 33; (with_reducible refine (impl_IslandsOf.calls k t654 _ _ t655 _ _ t658 t662 _ ?side1 ?side2 ?side3 ?side4 A4.out).mono ?_); (case side1 => refine (Kd.R_reads' (e := 52) (base := w.heap.size) (ok := fun k_ => True) (n := t655.length) (c := co26) ?_).2.2; exact (by (with_reducible repeat (first | apply Kd.R_alloc | apply Kd.R_drewN | apply Kd.R_drew)); exact (Kd.R_mono (Kd.R_far (p := ⟨gb661, 1, none⟩) (Kd.R_far (p := ⟨gb661, 0, none⟩) (Kd.R_types HO657.out BK661.out (by decide)) (fun _ hk => hk.2) (.int .i64 t654)) (fun _ hk => hk.2) (.slice Ao26 t655.length co26)) (fun _ h_ => h_.1)))); (case side2 => exact (Kd.R_reads' HO657.out).2.1); (case side3 => refine (Kd.R_reads' (e := 4) (base := w.heap.size) (ok := fun k_ => True) (n := t658.length) (c := co27) ?_).2.2; exact (by (with_reducible repeat (first | apply Kd.R_alloc | apply Kd.R_drewN | apply Kd.R_drew)); exact (Kd.R_mono (Kd.R_far (p := ⟨gb661, 1, none⟩) (Kd.R_far (p := ⟨gb661, 0, none⟩) (Kd.R_types HO660.out BK661.out (by decide)) (fun _ hk => hk.2) (.int .i64 t654)) (fun _ hk => hk.2) (.slice Ao26 t655.length co26)) (fun _ h_ => h_.1)))); (case side4 => exact (Kd.R_reads' HO660.out).2.1); rintro e w28 ⟨v663, rfl, ho0, hb⟩; have n0_ := Aside0.mk (Kd.R_below (by (with_reducible repeat (first | apply Kd.R_alloc | apply Kd.R_drewN | apply Kd.R_drew)); exact (Kd.R_mono (Kd.R_far (p := ⟨gb661, 1, none⟩) (Kd.R_far (p := ⟨gb661, 0, none⟩) (Kd.R_types HO657.out BK661.out (by decide)) (fun _ hk => hk.2) (.int .i64 t654)) (fun _ hk => hk.2) (.slice Ao26 t655.length co26)) (fun _ h_ => h_.1))) hb); have n1_ := Aside0.mk (Kd.R_below (by (with_reducible repeat (first | apply Kd.R_alloc | apply Kd.R_drewN | apply Kd.R_drew)); exact (Kd.R_mono (Kd.R_far (p := ⟨gb661, 1, none⟩) (Kd.R_far (p := ⟨gb661, 0, none⟩) (Kd.R_types HO660.out BK661.out (by decide)) (fun _ hk => hk.2) (.int .i64 t654)) (fun _ hk => hk.2) (.slice Ao26 t655.length co26)) (fun _ h_ => h_.1))) hb); have n2_ := Aside0.mk (Kd.S_lower ho0 (below_size (by repeat (first | (with_reducible first | exact HB.out | apply below_alloc | apply pw_below_drewN | apply below_drew1 | refine below_set ?_ GE661.out) | exact HB.out)))); have n3_ := Aside0.mk (blk_below (g := gb661) (o := .cells #[.int .i64 t654, .slice Ao26 t655.length co26] 39 (0, 0)) (by (with_reducible repeat (first | refine blk_drewN ?_ _ | refine blk_drew ?_ | refine blk_alloc ?_ _)); refine blk_put (cs := #[.int .i64 t654, .slice none 0 0]) ?_ 1 _ rfl; (with_reducible repeat (first | refine blk_drewN ?_ _ | refine blk_drew ?_ | refine blk_alloc ?_ _)); refine blk_put (cs := #[.int .i64 0, .slice none 0 0]) ?_ 0 _ rfl; (with_reducible repeat (first | refine blk_drewN ?_ _ | refine blk_drew ?_ | refine blk_alloc ?_ _)); exact BK661.out) hb); have n4_ := Aside0.mk (below_step (by repeat (first | (with_reducible first | exact HB.out | apply below_alloc | apply pw_below_drewN | apply below_drew1 | refine below_set ?_ GE661.out) | exact HB.out)) hb); clear HO657; clear HO660; clear BK661; clear HB; have HO657 := n0_; have HO660 := n1_; have HO664 := n2_; have BK661 := n3_; have HB := n4_; clear n0_ n1_ n2_ n3_ n4_; (try clear hb); (try clear hb2); (try clear hk); (try clear hi); (try clear ho0); have hcz29_0 : w28.cell? ⟨gb661, 0, none⟩ = some (.int .i64 t654) := (blk_cell BK661.out 0).trans rfl; have hcz29_1 : w28.cell? ⟨gb661, 1, none⟩ = some (.slice Ao26 t655.length co26) := (blk_cell BK661.out 1).trans rfl; have hfz29_0 := blk_frozen BK661.out 0; have hfz29_1 := blk_frozen BK661.out 1) | (go_at_call 35; (with_reducible refine (spec_IslandsOf.calls k t654 _ _ t655 _ _ t658 t665 _ ?side1 ?side2 ?side3 ?side4 A5.out).mono ?_); (case side1 => repeat (first | exact (Kd.R_reads' HO657.out).2.2 | (with_reducible refine Kd.C_alloc ?_ _) | (with_reducible refine Kd.C_drewN ?_ _) | (with_reducible refine Kd.C_drew ?_))); (case side2 => exact (Kd.R_reads' HO657.out).2.1); (case side3 => repeat (first | exact (Kd.R_reads' HO660.out).2.2 | (with_reducible refine Kd.C_alloc ?_ _) | (with_reducible refine Kd.C_drewN ?_ _) | (with_reducible refine Kd.C_drew ?_))); (case side4 => exact (Kd.R_reads' HO660.out).2.1); rintro e w30 ⟨v666, rfl, ho0, hb⟩; have n0_ := Aside0.mk (Kd.R_below (by (with_reducible repeat (first | apply Kd.R_alloc | apply Kd.R_drewN | apply Kd.R_drew)); exact HO657.out) hb); have n1_ := Aside0.mk (Kd.R_below (by (with_reducible repeat (first | apply Kd.R_alloc | apply Kd.R_drewN | apply Kd.R_drew)); exact HO660.out) hb); have n2_ := Aside0.mk (Kd.S_elder' (by (with_reducible repeat (first | apply Kd.S_alloc | apply Kd.S_drewN | apply Kd.S_drew)); exact HO664.out) (Kd.S_base ho0) hb); have n3_ := Aside0.mk (Kd.S_lower (Kd.S_new' ho0 (Kd.S_lt (by (with_reducible repeat (first | apply Kd.S_alloc | apply Kd.S_drewN | apply Kd.S_drew)); exact HO664.out))) (below_size (by repeat (first | (with_reducible first | exact HB.out | apply below_alloc | apply pw_below_drewN | apply below_drew1 | refine below_set ?_ GE661.out) | exact HB.out)))); have n4_ := Aside0.mk (blk_below (g := gb661) (o := .cells #[.int .i64 t654, .slice Ao26 t655.length co26] 39 (0, 0)) (by (with_reducible repeat (first | refine blk_drewN ?_ _ | refine blk_drew ?_ | refine blk_alloc ?_ _)); exact BK661.out) hb); have n5_ := Aside0.mk (below_step (by repeat (first | (with_reducible first | exact HB.out | apply below_alloc | apply pw_below_drewN | apply below_drew1 | refine below_set ?_ GE661.out) | exact HB.out)) hb); clear HO657; clear HO660; clear HO664; clear BK661; clear HB; have HO657 := n0_; have HO660 := n1_; have HO664 := n2_; have HO667 := n3_; have BK661 := n4_; have HB := n5_; clear n0_ n1_ n2_ n3_ n4_ n5_; (try clear hb); (try clear hb2); (try clear hk); (try clear hi); (try clear ho0); obtain ⟨Ao31, co31, eo31⟩ := Kd.S_slice HO664.out; subst eo31; obtain ⟨Ao32, co32, eo32⟩ := Kd.S_slice HO667.out; subst eo32) | (go_at_call 34; (with_reducible refine (laws_sameLists.calls k _ _ t662 _ _ t665 true _ ?side1 ?side2 ?side3 ?side4 A6.out).mono ?_); (case side1 => repeat (first | exact (Kd.S_reads' HO664.out).2.2 | (with_reducible refine Kd.C_alloc ?_ _) | (with_reducible refine Kd.C_drewN ?_ _) | (with_reducible refine Kd.C_drew ?_))); (case side2 => exact (Kd.S_reads' HO664.out).2.1); (case side3 => repeat (first | exact (Kd.S_reads' HO667.out).2.2 | (with_reducible refine Kd.C_alloc ?_ _) | (with_reducible refine Kd.C_drewN ?_ _) | (with_reducible refine Kd.C_drew ?_))); (case side4 => exact (Kd.S_reads' HO667.out).2.1); rintro e w' ⟨rfl, ⟨nd, rfl⟩⟩; (try first | exact ⟨rfl, _, World.drewN_drewN _ _ _⟩ | exact ⟨rfl, _, Eq.trans (World.drewN_drewN _ _ _) (congrArg (World.drewN _) (Nat.add_assoc _ _ _))⟩); have hcz33_0 : w30.cell? ⟨gb661, 0, none⟩ = some (.int .i64 t654) := (blk_cell BK661.out 0).trans rfl; have hcz33_1 : w30.cell? ⟨gb661, 1, none⟩ = some (.slice Ao26 t655.length co26) := (blk_cell BK661.out 1).trans rfl; have hfz33_0 := blk_frozen BK661.out 0; have hfz33_1 := blk_frozen BK661.out 1) | (go_at_call 27; (with_reducible refine (impl_IslandNumbers.calls k t654 _ _ t655 _ _ t658 t670 _ ?side1 ?side2 ?side3 ?side4 A21.out).mono ?_); (case side1 => repeat (first | exact (Kd.R_reads' HO657.out).2.2 | (with_reducible refine Kd.C_alloc ?_ _) | (with_reducible refine Kd.C_drewN ?_ _) | (with_reducible refine Kd.C_drew ?_))); (case side2 => exact (Kd.R_reads' HO657.out).2.1); (case side3 => repeat (first | exact (Kd.R_reads' HO660.out).2.2 | (with_reducible refine Kd.C_alloc ?_ _) | (with_reducible refine Kd.C_drewN ?_ _) | (with_reducible refine Kd.C_drew ?_))); (case side4 => exact (Kd.R_reads' HO660.out).2.1); rintro e w34 ⟨v671, rfl, ho0, hb⟩; have n0_ := Aside0.mk (Kd.R_below (by (with_reducible repeat (first | apply Kd.R_alloc | apply Kd.R_drewN | apply Kd.R_drew)); exact HO657.out) hb); have n1_ := Aside0.mk (Kd.R_below (by (with_reducible repeat (first | apply Kd.R_alloc | apply Kd.R_drewN | apply Kd.R_drew)); exact HO660.out) hb); have n2_ := Aside0.mk (Kd.S_elder' (by (with_reducible repeat (first | apply Kd.S_alloc | apply Kd.S_drewN | apply Kd.S_drew)); exact HO664.out) (Kd.R_base ho0) hb); have n3_ := Aside0.mk (Kd.S_elder' (by (with_reducible repeat (first | apply Kd.S_alloc | apply Kd.S_drewN | apply Kd.S_drew)); exact HO667.out) (Kd.R_base ho0) hb); have n4_ := Aside0.mk (Kd.R_lower ho0 (below_size (by repeat (first | (with_reducible first | exact HB.out | apply below_alloc | apply pw_below_drewN | apply below_drew1 | refine below_set ?_ GE661.out) | exact HB.out)))); have n5_ := Aside0.mk (blk_below (g := gb661) (o := .cells #[.int .i64 t654, .slice Ao26 t655.length co26] 39 (0, 0)) (by (with_reducible repeat (first | refine blk_drewN ?_ _ | refine blk_drew ?_ | refine blk_alloc ?_ _)); exact BK661.out) hb); have n6_ := Aside0.mk (below_step (by repeat (first | (with_reducible first | exact HB.out | apply below_alloc | apply pw_below_drewN | apply below_drew1 | refine below_set ?_ GE661.out) | exact HB.out)) hb); clear HO657; clear HO660; clear HO664; clear HO667; clear BK661; clear HB; have HO657 := n0_; have HO660 := n1_; have HO664 := n2_; have HO667 := n3_; have HO672 := n4_; have BK661 := n5_; have HB := n6_; clear n0_ n1_ n2_ n3_ n4_ n5_ n6_; (try clear hb); (try clear hb2); (try clear hk); (try clear hi); (try clear ho0); obtain ⟨Ao35, co35, eo35⟩ := Kd.R_slice HO672.out; subst eo35; have hcz36_0 : w34.cell? ⟨gb661, 0, none⟩ = some (.int .i64 t654) := (blk_cell BK661.out 0).trans rfl; have hcz36_1 : w34.cell? ⟨gb661, 1, none⟩ = some (.slice Ao26 t655.length co26) := (blk_cell BK661.out 1).trans rfl; have hfz36_0 := blk_frozen BK661.out 0; have hfz36_1 := blk_frozen BK661.out 1))
     repeat (go_quiet (first | (go_at_call 32; (with_reducible refine (spec_DrawIslandsOf.calls k _ _ l0 t654 t655 t658 _ ?side1 ?side2 A3.out).mono ?_); (case side1 => repeat (first | exact HR0.out | (with_reducible refine Kd.C_alloc ?_ _) | (with_reducible refine Kd.C_drewN ?_ _) | (with_reducible refine Kd.C_drew ?_))); (case side2 => exact HC0.out); rintro e w23 ⟨v656, v659, rfl, ho0, ho1, hb⟩; have n0_ := Aside0.mk (Kd.R_lower ho0 (below_size (by repeat (first | (with_reducible first | exact HB.out | apply below_alloc | apply pw_below_drewN | apply below_drew1) | exact HB.out)))); have n1_ := Aside0.mk (Kd.R_lower ho1 (below_size (by repeat (first | (with_reducible first | exact HB.out | apply below_alloc | apply pw_below_drewN | apply below_drew1) | exact HB.out)))); have n2_ := Aside0.mk (below_step (by repeat (first | (with_reducible first | exact HB.out | apply below_alloc | apply pw_below_drewN | apply below_drew1) | exact HB.out)) hb); clear HB; have HO657 := n0_; have HO660 := n1_; have HB := n2_; clear n0_ n1_ n2_; (try clear hb); (try clear hb2); (try clear hk); (try clear hi); (try clear ho0); (try clear ho1)) | ((with_reducible refine gate_dst (N := 3) rfl ?_); refine box_event ?hg (N := 3) ?hd (cs := #[.int .i64 0, .slice none 0 0]) (t := 39) ?hr ?_; (case hd => rfl); (case hg => rfl); (case hr => first | (go_simp; done) | (go_simp; rfl)); intro gb661 hg w24 hbox hb; have n0_ := Aside0.mk (Kd.R_below (by (with_reducible repeat (first | apply Kd.R_alloc | apply Kd.R_drewN | apply Kd.R_drew)); exact HO657.out) hb); have n1_ := Aside0.mk (Kd.R_below (by (with_reducible repeat (first | apply Kd.R_alloc | apply Kd.R_drewN | apply Kd.R_drew)); exact HO660.out) hb); have n2_ := Aside0.mk (below_step (by repeat (first | (with_reducible first | exact HB.out | apply below_alloc | apply pw_below_drewN | apply below_drew1) | exact HB.out)) hb); have n3_ := Aside0.mk (hbox); have n4_ := Aside0.mk ((by rw [hg]; exact (below_size (by repeat (first | (with_reducible first | exact HB.out | apply below_alloc | apply pw_below_drewN | apply below_drew1) | exact HB.out))) : w.heap.size ≤ gb661)); have n5_ := Aside0.mk ((by rw [hg]; exact (below_size (by repeat (first | (with_reducible first | exact HB.out | apply below_alloc | apply pw_below_drewN | apply below_drew1) | exact HB.out))) : w.heap.size ≤ gb661)); clear HO657; clear HO660; clear HB; have HO657 := n0_; have HO660 := n1_; have HB := n2_; have BK661 := n3_; have GW661 := n4_; have GE661 := n5_; clear n0_ n1_ n2_ n3_ n4_ n5_; clear hb hbox hg; have hcz25_0 : w24.cell? ⟨gb661, 0, none⟩ = some (.int .i64 0) := (blk_cell BK661.out 0).trans rfl; have hcz25_1 : w24.cell? ⟨gb661, 1, none⟩ = some (.slice none 0 0) := (blk_cell BK661.out 1).trans rfl; have hfz25_0 := blk_frozen BK661.out 0; have hfz25_1 := blk_frozen BK661.out 1; obtain ⟨Ao26, co26, eo26⟩ := Kd.R_slice HO657.out; subst eo26; obtain ⟨Ao27, co27, eo27⟩ := Kd.R_slice HO660.out; subst eo27) | (go_at_call 33; (with_reducible refine (impl_IslandsOf.calls k t654 _ _ t655 _ _ t658 t662 _ ?side1 ?side2 ?side3 ?side4 A4.out).mono ?_); (case side1 => refine (Kd.R_reads' (e := 52) (base := w.heap.size) (ok := fun k_ => True) (n := t655.length) (c := co26) ?_).2.2; exact (by (with_reducible repeat (first | apply Kd.R_alloc | apply Kd.R_drewN | apply Kd.R_drew)); exact (Kd.R_mono (Kd.R_far (p := ⟨gb661, 1, none⟩) (Kd.R_far (p := ⟨gb661, 0, none⟩) (Kd.R_types HO657.out BK661.out (by decide)) (fun _ hk => hk.2) (.int .i64 t654)) (fun _ hk => hk.2) (.slice Ao26 t655.length co26)) (fun _ h_ => h_.1)))); (case side2 => exact (Kd.R_reads' HO657.out).2.1); (case side3 => refine (Kd.R_reads' (e := 4) (base := w.heap.size) (ok := fun k_ => True) (n := t658.length) (c := co27) ?_).2.2; exact (by (with_reducible repeat (first | apply Kd.R_alloc | apply Kd.R_drewN | apply Kd.R_drew)); exact (Kd.R_mono (Kd.R_far (p := ⟨gb661, 1, none⟩) (Kd.R_far (p := ⟨gb661, 0, none⟩) (Kd.R_types HO660.out BK661.out (by decide)) (fun _ hk => hk.2) (.int .i64 t654)) (fun _ hk => hk.2) (.slice Ao26 t655.length co26)) (fun _ h_ => h_.1)))); (case side4 => exact (Kd.R_reads' HO660.out).2.1); rintro e w28 ⟨v663, rfl, ho0, hb⟩; have n0_ := Aside0.mk (Kd.R_below (by (with_reducible repeat (first | apply Kd.R_alloc | apply Kd.R_drewN | apply Kd.R_drew)); exact (Kd.R_mono (Kd.R_far (p := ⟨gb661, 1, none⟩) (Kd.R_far (p := ⟨gb661, 0, none⟩) (Kd.R_types HO657.out BK661.out (by decide)) (fun _ hk => hk.2) (.int .i64 t654)) (fun _ hk => hk.2) (.slice Ao26 t655.length co26)) (fun _ h_ => h_.1))) hb); have n1_ := Aside0.mk (Kd.R_below (by (with_reducible repeat (first | apply Kd.R_alloc | apply Kd.R_drewN | apply Kd.R_drew)); exact (Kd.R_mono (Kd.R_far (p := ⟨gb661, 1, none⟩) (Kd.R_far (p := ⟨gb661, 0, none⟩) (Kd.R_types HO660.out BK661.out (by decide)) (fun _ hk => hk.2) (.int .i64 t654)) (fun _ hk => hk.2) (.slice Ao26 t655.length co26)) (fun _ h_ => h_.1))) hb); have n2_ := Aside0.mk (Kd.S_lower ho0 (below_size (by repeat (first | (with_reducible first | exact HB.out | apply below_alloc | apply pw_below_drewN | apply below_drew1 | refine below_set ?_ GE661.out) | exact HB.out)))); have n3_ := Aside0.mk (blk_below (g := gb661) (o := .cells #[.int .i64 t654, .slice Ao26 t655.length co26] 39 (0, 0)) (by (with_reducible repeat (first | refine blk_drewN ?_ _ | refine blk_drew ?_ | refine blk_alloc ?_ _)); refine blk_put (cs := #[.int .i64 t654, .slice none 0 0]) ?_ 1 _ rfl; (with_reducible repeat (first | refine blk_drewN ?_ _ | refine blk_drew ?_ | refine blk_alloc ?_ _)); refine blk_put (cs := #[.int .i64 0, .slice none 0 0]) ?_ 0 _ rfl; (with_reducible repeat (first | refine blk_drewN ?_ _ | refine blk_drew ?_ | refine blk_alloc ?_ _)); exact BK661.out) hb); have n4_ := Aside0.mk (below_step (by repeat (first | (with_reducible first | exact HB.out | apply below_alloc | apply pw_below_drewN | apply below_drew1 | refine below_set ?_ GE661.out) | exact HB.out)) hb); clear HO657; clear HO660; clear BK661; clear HB; have HO657 := n0_; have HO660 := n1_; have HO664 := n2_; have BK661 := n3_; have HB := n4_; clear n0_ n1_ n2_ n3_ n4_; (try clear hb); (try clear hb2); (try clear hk); (try clear hi); (try clear ho0); have hcz29_0 : w28.cell? ⟨gb661, 0, none⟩ = some (.int .i64 t654) := (blk_cell BK661.out 0).trans rfl; have hcz29_1 : w28.cell? ⟨gb661, 1, none⟩ = some (.slice Ao26 t655.length co26) := (blk_cell BK661.out 1).trans rfl; have hfz29_0 := blk_frozen BK661.out 0; have hfz29_1 := blk_frozen BK661.out 1) | (go_at_call 35; (with_reducible refine (spec_IslandsOf.calls k t654 _ _ t655 _ _ t658 t665 _ ?side1 ?side2 ?side3 ?side4 A5.out).mono ?_); (case side1 => repeat (first | exact (Kd.R_reads' HO657.out).2.2 | (with_reducible refine Kd.C_alloc ?_ _) | (with_reducible refine Kd.C_drewN ?_ _) | (with_reducible refine Kd.C_drew ?_))); (case side2 => exact (Kd.R_reads' HO657.out).2.1); (case side3 => repeat (first | exact (Kd.R_reads' HO660.out).2.2 | (with_reducible refine Kd.C_alloc ?_ _) | (with_reducible refine Kd.C_drewN ?_ _) | (with_reducible refine Kd.C_drew ?_))); (case side4 => exact (Kd.R_reads' HO660.out).2.1); rintro e w30 ⟨v666, rfl, ho0, hb⟩; have n0_ := Aside0.mk (Kd.R_below (by (with_reducible repeat (first | apply Kd.R_alloc | apply Kd.R_drewN | apply Kd.R_drew)); exact HO657.out) hb); have n1_ := Aside0.mk (Kd.R_below (by (with_reducible repeat (first | apply Kd.R_alloc | apply Kd.R_drewN | apply Kd.R_drew)); exact HO660.out) hb); have n2_ := Aside0.mk (Kd.S_elder' (by (with_reducible repeat (first | apply Kd.S_alloc | apply Kd.S_drewN | apply Kd.S_drew)); exact HO664.out) (Kd.S_base ho0) hb); have n3_ := Aside0.mk (Kd.S_lower (Kd.S_new' ho0 (Kd.S_lt (by (with_reducible repeat (first | apply Kd.S_alloc | apply Kd.S_drewN | apply Kd.S_drew)); exact HO664.out))) (below_size (by repeat (first | (with_reducible first | exact HB.out | apply below_alloc | apply pw_below_drewN | apply below_drew1 | refine below_set ?_ GE661.out) | exact HB.out)))); have n4_ := Aside0.mk (blk_below (g := gb661) (o := .cells #[.int .i64 t654, .slice Ao26 t655.length co26] 39 (0, 0)) (by (with_reducible repeat (first | refine blk_drewN ?_ _ | refine blk_drew ?_ | refine blk_alloc ?_ _)); exact BK661.out) hb); have n5_ := Aside0.mk (below_step (by repeat (first | (with_reducible first | exact HB.out | apply below_alloc | apply pw_below_drewN | apply below_drew1 | refine below_set ?_ GE661.out) | exact HB.out)) hb); clear HO657; clear HO660; clear HO664; clear BK661; clear HB; have HO657 := n0_; have HO660 := n1_; have HO664 := n2_; have HO667 := n3_; have BK661 := n4_; have HB := n5_; clear n0_ n1_ n2_ n3_ n4_ n5_; (try clear hb); (try clear hb2); (try clear hk); (try clear hi); (try clear ho0); obtain ⟨Ao31, co31, eo31⟩ := Kd.S_slice HO664.out; subst eo31; obtain ⟨Ao32, co32, eo32⟩ := Kd.S_slice HO667.out; subst eo32) | (go_at_call 34; (with_reducible refine (laws_sameLists.calls k _ _ t662 _ _ t665 true _ ?side1 ?side2 ?side3 ?side4 A6.out).mono ?_); (case side1 => repeat (first | exact (Kd.S_reads' HO664.out).2.2 | (with_reducible refine Kd.C_alloc ?_ _) | (with_reducible refine Kd.C_drewN ?_ _) | (with_reducible refine Kd.C_drew ?_))); (case side2 => exact (Kd.S_reads' HO664.out).2.1); (case side3 => repeat (first | exact (Kd.S_reads' HO667.out).2.2 | (with_reducible refine Kd.C_alloc ?_ _) | (with_reducible refine Kd.C_drewN ?_ _) | (with_reducible refine Kd.C_drew ?_))); (case side4 => exact (Kd.S_reads' HO667.out).2.1); rintro e w' ⟨rfl, ⟨nd, rfl⟩⟩; (try first | exact ⟨rfl, _, World.drewN_drewN _ _ _⟩ | exact ⟨rfl, _, Eq.trans (World.drewN_drewN _ _ _) (congrArg (World.drewN _) (Nat.add_assoc _ _ _))⟩); have hcz33_0 : w30.cell? ⟨gb661, 0, none⟩ = some (.int .i64 t654) := (blk_cell BK661.out 0).trans rfl; have hcz33_1 : w30.cell? ⟨gb661, 1, none⟩ = some (.slice Ao26 t655.length co26) := (blk_cell BK661.out 1).trans rfl; have hfz33_0 := blk_frozen BK661.out 0; have hfz33_1 := blk_frozen BK661.out 1) | (go_at_call 27; (with_reducible refine (impl_IslandNumbers.calls k t654 _ _ t655 _ _ t658 t670 _ ?side1 ?side2 ?side3 ?side4 A21.out).mono ?_); (case side1 => repeat (first | exact (Kd.R_reads' HO657.out).2.2 | (with_reducible refine Kd.C_alloc ?_ _) | (with_reducible refine Kd.C_drewN ?_ _) | (with_reducible refine Kd.C_drew ?_))); (case side2 => exact (Kd.R_reads' HO657.out).2.1); (case side3 => repeat (first | exact (Kd.R_reads' HO660.out).2.2 | (with_reducible refine Kd.C_alloc ?_ _) | (with_reducible refine Kd.C_drewN ?_ _) | (with_reducible refine Kd.C_drew ?_))); (case side4 => exact (Kd.R_reads' HO660.out).2.1); rintro e w34 ⟨v671, rfl, ho0, hb⟩; have n0_ := Aside0.mk (Kd.R_below (by (with_reducible repeat (first | apply Kd.R_alloc | apply Kd.R_drewN | apply Kd.R_drew)); exact HO657.out) hb); have n1_ := Aside0.mk (Kd.R_below (by (with_reducible repeat (first | apply Kd.R_alloc | apply Kd.R_drewN | apply Kd.R_drew)); exact HO660.out) hb); have n2_ := Aside0.mk (Kd.S_elder' (by (with_reducible repeat (first | apply Kd.S_alloc | apply Kd.S_drewN | apply Kd.S_drew)); exact HO664.out) (Kd.R_base ho0) hb); have n3_ := Aside0.mk (Kd.S_elder' (by (with_reducible repeat (first | apply Kd.S_alloc | apply Kd.S_drewN | apply Kd.S_drew)); exact HO667.out) (Kd.R_base ho0) hb); have n4_ := Aside0.mk (Kd.R_lower ho0 (below_size (by repeat (first | (with_reducible first | exact HB.out | apply below_alloc | apply pw_below_drewN | apply below_drew1 | refine below_set ?_ GE661.out) | exact HB.out)))); have n5_ := Aside0.mk (blk_below (g := gb661) (o := .cells #[.int .i64 t654, .slice Ao26 t655.length co26] 39 (0, 0)) (by (with_reducible repeat (first | refine blk_drewN ?_ _ | refine blk_drew ?_ | refine blk_alloc ?_ _)); exact BK661.out) hb); have n6_ := Aside0.mk (below_step (by repeat (first | (with_reducible first | exact HB.out | apply below_alloc | apply pw_below_drewN | apply below_drew1 | refine below_set ?_ GE661.out) | exact HB.out)) hb); clear HO657; clear HO660; clear HO664; clear HO667; clear BK661; clear HB; have HO657 := n0_; have HO660 := n1_; have HO664 := n2_; have HO667 := n3_; have HO672 := n4_; have BK661 := n5_; have HB := n6_; clear n0_ n1_ n2_ n3_ n4_ n5_ n6_; (try clear hb); (try clear hb2); (try clear hk); (try clear hi); (try clear ho0); obtain ⟨Ao35, co35, eo35⟩ := Kd.R_slice HO672.out; subst eo35; have hcz36_0 : w34.cell? ⟨gb661, 0, none⟩ = some (.int .i64 t654) := (blk_cell BK661.out 0).trans rfl; have hcz36_1 : w34.cell? ⟨gb661, 1, none⟩ = some (.slice Ao26 t655.length co26) := (blk_cell BK661.out 1).trans rfl; have hfz36_0 := blk_frozen BK661.out 0; have hfz36_1 := blk_frozen BK661.out 1)); try go_wp2_with (first | (go_at_call 32; (with_reducible refine (spec_DrawIslandsOf.calls k _ _ l0 t654 t655 t658 _ ?side1 ?side2 A3.out).mono ?_); (case side1 => repeat (first | exact HR0.out | (with_reducible refine Kd.C_alloc ?_ _) | (with_reducible refine Kd.C_drewN ?_ _) | (with_reducible refine Kd.C_drew ?_))); (case side2 => exact HC0.out); rintro e w23 ⟨v656, v659, rfl, ho0, ho1, hb⟩; have n0_ := Aside0.mk (Kd.R_lower ho0 (below_size (by repeat (first | (with_reducible first | exact HB.out | apply below_alloc | apply pw_below_drewN | apply below_drew1) | exact HB.out)))); have n1_ := Aside0.mk (Kd.R_lower ho1 (below_size (by repeat (first | (with_reducible first | exact HB.out | apply below_alloc | apply pw_below_drewN | apply below_drew1) | exact HB.out)))); have n2_ := Aside0.mk (below_step (by repeat (first | (with_reducible first | exact HB.out | apply below_alloc | apply pw_below_drewN | apply below_drew1) | exact HB.out)) hb); clear HB; have HO657 := n0_; have HO660 := n1_; have HB := n2_; clear n0_ n1_ n2_; (try clear hb); (try clear hb2); (try clear hk); (try clear hi); (try clear ho0); (try clear ho1)) | ((with_reducible refine gate_dst (N := 3) rfl ?_); refine box_event ?hg (N := 3) ?hd (cs := #[.int .i64 0, .slice none 0 0]) (t := 39) ?hr ?_; (case hd => rfl); (case hg => rfl); (case hr => first | (go_simp; done) | (go_simp; rfl)); intro gb661 hg w24 hbox hb; have n0_ := Aside0.mk (Kd.R_below (by (with_reducible repeat (first | apply Kd.R_alloc | apply Kd.R_drewN | apply Kd.R_drew)); exact HO657.out) hb); have n1_ := Aside0.mk (Kd.R_below (by (with_reducible repeat (first | apply Kd.R_alloc | apply Kd.R_drewN | apply Kd.R_drew)); exact HO660.out) hb); have n2_ := Aside0.mk (below_step (by repeat (first | (with_reducible first | exact HB.out | apply below_alloc | apply pw_below_drewN | apply below_drew1) | exact HB.out)) hb); have n3_ := Aside0.mk (hbox); have n4_ := Aside0.mk ((by rw [hg]; exact (below_size (by repeat (first | (with_reducible first | exact HB.out | apply below_alloc | apply pw_below_drewN | apply below_drew1) | exact HB.out))) : w.heap.size ≤ gb661)); have n5_ := Aside0.mk ((by rw [hg]; exact (below_size (by repeat (first | (with_reducible first | exact HB.out | apply below_alloc | apply pw_below_drewN | apply below_drew1) | exact HB.out))) : w.heap.size ≤ gb661)); clear HO657; clear HO660; clear HB; have HO657 := n0_; have HO660 := n1_; have HB := n2_; have BK661 := n3_; have GW661 := n4_; have GE661 := n5_; clear n0_ n1_ n2_ n3_ n4_ n5_; clear hb hbox hg; have hcz25_0 : w24.cell? ⟨gb661, 0, none⟩ = some (.int .i64 0) := (blk_cell BK661.out 0).trans rfl; have hcz25_1 : w24.cell? ⟨gb661, 1, none⟩ = some (.slice none 0 0) := (blk_cell BK661.out 1).trans rfl; have hfz25_0 := blk_frozen BK661.out 0; have hfz25_1 := blk_frozen BK661.out 1; obtain ⟨Ao26, co26, eo26⟩ := Kd.R_slice HO657.out; subst eo26; obtain ⟨Ao27, co27, eo27⟩ := Kd.R_slice HO660.out; subst eo27) | (go_at_call 33; (with_reducible refine (impl_IslandsOf.calls k t654 _ _ t655 _ _ t658 t662 _ ?side1 ?side2 ?side3 ?side4 A4.out).mono ?_); (case side1 => refine (Kd.R_reads' (e := 52) (base := w.heap.size) (ok := fun k_ => True) (n := t655.length) (c := co26) ?_).2.2; exact (by (with_reducible repeat (first | apply Kd.R_alloc | apply Kd.R_drewN | apply Kd.R_drew)); exact (Kd.R_mono (Kd.R_far (p := ⟨gb661, 1, none⟩) (Kd.R_far (p := ⟨gb661, 0, none⟩) (Kd.R_types HO657.out BK661.out (by decide)) (fun _ hk => hk.2) (.int .i64 t654)) (fun _ hk => hk.2) (.slice Ao26 t655.length co26)) (fun _ h_ => h_.1)))); (case side2 => exact (Kd.R_reads' HO657.out).2.1); (case side3 => refine (Kd.R_reads' (e := 4) (base := w.heap.size) (ok := fun k_ => True) (n := t658.length) (c := co27) ?_).2.2; exact (by (with_reducible repeat (first | apply Kd.R_alloc | apply Kd.R_drewN | apply Kd.R_drew)); exact (Kd.R_mono (Kd.R_far (p := ⟨gb661, 1, none⟩) (Kd.R_far (p := ⟨gb661, 0, none⟩) (Kd.R_types HO660.out BK661.out (by decide)) (fun _ hk => hk.2) (.int .i64 t654)) (fun _ hk => hk.2) (.slice Ao26 t655.length co26)) (fun _ h_ => h_.1)))); (case side4 => exact (Kd.R_reads' HO660.out).2.1); rintro e w28 ⟨v663, rfl, ho0, hb⟩; have n0_ := Aside0.mk (Kd.R_below (by (with_reducible repeat (first | apply Kd.R_alloc | apply Kd.R_drewN | apply Kd.R_drew)); exact (Kd.R_mono (Kd.R_far (p := ⟨gb661, 1, none⟩) (Kd.R_far (p := ⟨gb661, 0, none⟩) (Kd.R_types HO657.out BK661.out (by decide)) (fun _ hk => hk.2) (.int .i64 t654)) (fun _ hk => hk.2) (.slice Ao26 t655.length co26)) (fun _ h_ => h_.1))) hb); have n1_ := Aside0.mk (Kd.R_below (by (with_reducible repeat (first | apply Kd.R_alloc | apply Kd.R_drewN | apply Kd.R_drew)); exact (Kd.R_mono (Kd.R_far (p := ⟨gb661, 1, none⟩) (Kd.R_far (p := ⟨gb661, 0, none⟩) (Kd.R_types HO660.out BK661.out (by decide)) (fun _ hk => hk.2) (.int .i64 t654)) (fun _ hk => hk.2) (.slice Ao26 t655.length co26)) (fun _ h_ => h_.1))) hb); have n2_ := Aside0.mk (Kd.S_lower ho0 (below_size (by repeat (first | (with_reducible first | exact HB.out | apply below_alloc | apply pw_below_drewN | apply below_drew1 | refine below_set ?_ GE661.out) | exact HB.out)))); have n3_ := Aside0.mk (blk_below (g := gb661) (o := .cells #[.int .i64 t654, .slice Ao26 t655.length co26] 39 (0, 0)) (by (with_reducible repeat (first | refine blk_drewN ?_ _ | refine blk_drew ?_ | refine blk_alloc ?_ _)); refine blk_put (cs := #[.int .i64 t654, .slice none 0 0]) ?_ 1 _ rfl; (with_reducible repeat (first | refine blk_drewN ?_ _ | refine blk_drew ?_ | refine blk_alloc ?_ _)); refine blk_put (cs := #[.int .i64 0, .slice none 0 0]) ?_ 0 _ rfl; (with_reducible repeat (first | refine blk_drewN ?_ _ | refine blk_drew ?_ | refine blk_alloc ?_ _)); exact BK661.out) hb); have n4_ := Aside0.mk (below_step (by repeat (first | (with_reducible first | exact HB.out | apply below_alloc | apply pw_below_drewN | apply below_drew1 | refine below_set ?_ GE661.out) | exact HB.out)) hb); clear HO657; clear HO660; clear BK661; clear HB; have HO657 := n0_; have HO660 := n1_; have HO664 := n2_; have BK661 := n3_; have HB := n4_; clear n0_ n1_ n2_ n3_ n4_; (try clear hb); (try clear hb2); (try clear hk); (try clear hi); (try clear ho0); have hcz29_0 : w28.cell? ⟨gb661, 0, none⟩ = some (.int .i64 t654) := (blk_cell BK661.out 0).trans rfl; have hcz29_1 : w28.cell? ⟨gb661, 1, none⟩ = some (.slice Ao26 t655.length co26) := (blk_cell BK661.out 1).trans rfl; have hfz29_0 := blk_frozen BK661.out 0; have hfz29_1 := blk_frozen BK661.out 1) | (go_at_call 35; (with_reducible refine (spec_IslandsOf.calls k t654 _ _ t655 _ _ t658 t665 _ ?side1 ?side2 ?side3 ?side4 A5.out).mono ?_); (case side1 => repeat (first | exact (Kd.R_reads' HO657.out).2.2 | (with_reducible refine Kd.C_alloc ?_ _) | (with_reducible refine Kd.C_drewN ?_ _) | (with_reducible refine Kd.C_drew ?_))); (case side2 => exact (Kd.R_reads' HO657.out).2.1); (case side3 => repeat (first | exact (Kd.R_reads' HO660.out).2.2 | (with_reducible refine Kd.C_alloc ?_ _) | (with_reducible refine Kd.C_drewN ?_ _) | (with_reducible refine Kd.C_drew ?_))); (case side4 => exact (Kd.R_reads' HO660.out).2.1); rintro e w30 ⟨v666, rfl, ho0, hb⟩; have n0_ := Aside0.mk (Kd.R_below (by (with_reducible repeat (first | apply Kd.R_alloc | apply Kd.R_drewN | apply Kd.R_drew)); exact HO657.out) hb); have n1_ := Aside0.mk (Kd.R_below (by (with_reducible repeat (first | apply Kd.R_alloc | apply Kd.R_drewN | apply Kd.R_drew)); exact HO660.out) hb); have n2_ := Aside0.mk (Kd.S_elder' (by (with_reducible repeat (first | apply Kd.S_alloc | apply Kd.S_drewN | apply Kd.S_drew)); exact HO664.out) (Kd.S_base ho0) hb); have n3_ := Aside0.mk (Kd.S_lower (Kd.S_new' ho0 (Kd.S_lt (by (with_reducible repeat (first | apply Kd.S_alloc | apply Kd.S_drewN | apply Kd.S_drew)); exact HO664.out))) (below_size (by repeat (first | (with_reducible first | exact HB.out | apply below_alloc | apply pw_below_drewN | apply below_drew1 | refine below_set ?_ GE661.out) | exact HB.out)))); have n4_ := Aside0.mk (blk_below (g := gb661) (o := .cells #[.int .i64 t654, .slice Ao26 t655.length co26] 39 (0, 0)) (by (with_reducible repeat (first | refine blk_drewN ?_ _ | refine blk_drew ?_ | refine blk_alloc ?_ _)); exact BK661.out) hb); have n5_ := Aside0.mk (below_step (by repeat (first | (with_reducible first | exact HB.out | apply below_alloc | apply pw_below_drewN | apply below_drew1 | refine below_set ?_ GE661.out) | exact HB.out)) hb); clear HO657; clear HO660; clear HO664; clear BK661; clear HB; have HO657 := n0_; have HO660 := n1_; have HO664 := n2_; have HO667 := n3_; have BK661 := n4_; have HB := n5_; clear n0_ n1_ n2_ n3_ n4_ n5_; (try clear hb); (try clear hb2); (try clear hk); (try clear hi); (try clear ho0); obtain ⟨Ao31, co31, eo31⟩ := Kd.S_slice HO664.out; subst eo31; obtain ⟨Ao32, co32, eo32⟩ := Kd.S_slice HO667.out; subst eo32) | (go_at_call 34; (with_reducible refine (laws_sameLists.calls k _ _ t662 _ _ t665 true _ ?side1 ?side2 ?side3 ?side4 A6.out).mono ?_); (case side1 => repeat (first | exact (Kd.S_reads' HO664.out).2.2 | (with_reducible refine Kd.C_alloc ?_ _) | (with_reducible refine Kd.C_drewN ?_ _) | (with_reducible refine Kd.C_drew ?_))); (case side2 => exact (Kd.S_reads' HO664.out).2.1); (case side3 => repeat (first | exact (Kd.S_reads' HO667.out).2.2 | (with_reducible refine Kd.C_alloc ?_ _) | (with_reducible refine Kd.C_drewN ?_ _) | (with_reducible refine Kd.C_drew ?_))); (case side4 => exact (Kd.S_reads' HO667.out).2.1); rintro e w' ⟨rfl, ⟨nd, rfl⟩⟩; (try first | exact ⟨rfl, _, World.drewN_drewN _ _ _⟩ | exact ⟨rfl, _, Eq.trans (World.drewN_drewN _ _ _) (congrArg (World.drewN _) (Nat.add_assoc _ _ _))⟩); have hcz33_0 : w30.cell? ⟨gb661, 0, none⟩ = some (.int .i64 t654) := (blk_cell BK661.out 0).trans rfl; have hcz33_1 : w30.cell? ⟨gb661, 1, none⟩ = some (.slice Ao26 t655.length co26) := (blk_cell BK661.out 1).trans rfl; have hfz33_0 := blk_frozen BK661.out 0; have hfz33_1 := blk_frozen BK661.out 1) | (go_at_call 27; (with_reducible refine (impl_IslandNumbers.calls k t654 _ _ t655 _ _ t658 t670 _ ?side1 ?side2 ?side3 ?side4 A21.out).mono ?_); (case side1 => repeat (first | exact (Kd.R_reads' HO657.out).2.2 | (with_reducible refine Kd.C_alloc ?_ _) | (with_reducible refine Kd.C_drewN ?_ _) | (with_reducible refine Kd.C_drew ?_))); (case side2 => exact (Kd.R_reads' HO657.out).2.1); (case side3 => repeat (first | exact (Kd.R_reads' HO660.out).2.2 | (with_reducible refine Kd.C_alloc ?_ _) | (with_reducible refine Kd.C_drewN ?_ _) | (with_reducible refine Kd.C_drew ?_))); (case side4 => exact (Kd.R_reads' HO660.out).2.1); rintro e w34 ⟨v671, rfl, ho0, hb⟩; have n0_ := Aside0.mk (Kd.R_below (by (with_reducible repeat (first | apply Kd.R_alloc | apply Kd.R_drewN | apply Kd.R_drew)); exact HO657.out) hb); have n1_ := Aside0.mk (Kd.R_below (by (with_reducible repeat (first | apply Kd.R_alloc | apply Kd.R_drewN | apply Kd.R_drew)); exact HO660.out) hb); have n2_ := Aside0.mk (Kd.S_elder' (by (with_reducible repeat (first | apply Kd.S_alloc | apply Kd.S_drewN | apply Kd.S_drew)); exact HO664.out) (Kd.R_base ho0) hb); have n3_ := Aside0.mk (Kd.S_elder' (by (with_reducible repeat (first | apply Kd.S_alloc | apply Kd.S_drewN | apply Kd.S_drew)); exact HO667.out) (Kd.R_base ho0) hb); have n4_ := Aside0.mk (Kd.R_lower ho0 (below_size (by repeat (first | (with_reducible first | exact HB.out | apply below_alloc | apply pw_below_drewN | apply below_drew1 | refine below_set ?_ GE661.out) | exact HB.out)))); have n5_ := Aside0.mk (blk_below (g := gb661) (o := .cells #[.int .i64 t654, .slice Ao26 t655.length co26] 39 (0, 0)) (by (with_reducible repeat (first | refine blk_drewN ?_ _ | refine blk_drew ?_ | refine blk_alloc ?_ _)); exact BK661.out) hb); have n6_ := Aside0.mk (below_step (by repeat (first | (with_reducible first | exact HB.out | apply below_alloc | apply pw_below_drewN | apply below_drew1 | refine below_set ?_ GE661.out) | exact HB.out)) hb); clear HO657; clear HO660; clear HO664; clear HO667; clear BK661; clear HB; have HO657 := n0_; have HO660 := n1_; have HO664 := n2_; have HO667 := n3_; have HO672 := n4_; have BK661 := n5_; have HB := n6_; clear n0_ n1_ n2_ n3_ n4_ n5_ n6_; (try clear hb); (try clear hb2); (try clear hk); (try clear hi); (try clear ho0); obtain ⟨Ao35, co35, eo35⟩ := Kd.R_slice HO672.out; subst eo35; have hcz36_0 : w34.cell? ⟨gb661, 0, none⟩ = some (.int .i64 t654) := (blk_cell BK661.out 0).trans rfl; have hcz36_1 : w34.cell? ⟨gb661, 1, none⟩ = some (.slice Ao26 t655.length co26) := (blk_cell BK661.out 1).trans rfl; have hfz36_0 := blk_frozen BK661.out 0; have hfz36_1 := blk_frozen BK661.out 1)))
     go_loopg [7, 8] k (fun kq v7 v8 w' => ∃ (x7_1 : Int) (x8_1 : Int), v7 = .int .i64 x7_1 ∧ v8 = .int .i64 x8_1 ∧ Aside0 (laws_FnIslandsOf.l0 kq t662 t670 x7_1 x8_1 t654 t655 = some r) ∧ Aside0 (kq ≤ k) ∧ Aside0 (Kd.S (Kd.slice 3 (Kd.int .i64)) 24 w' w.heap.size (fun k_ => some k_ ≠ ((.slice Ao35 t670.length co35) : Value).ownBlock) (.slice Ao31 t662.length co31) t662) ∧ Aside0 (Kd.R (Kd.int .i64) 3 w' w.heap.size (fun _ => True) (.slice Ao35 t670.length co35) t670) ∧ Aside0 (Kd.R k52 52 w' w.heap.size (fun _ => True) (.slice Ao26 t655.length co26) t655) ∧ Aside0 (w'.heap[gb661]? = some (.cells #[.int .i64 t654, (.slice Ao26 t655.length co26)] 39 (0, 0))) ∧ Aside0 (Below w.heap.size w w'))
     case atStart => exact ⟨(0), (0), (by first | rfl | (simp; done) | (simp [*]; done)), (by first | rfl | (simp; done) | (simp [*]; done)), H', ⟨Nat.le_refl _⟩, ⟨by (with_reducible repeat (first | apply Kd.S_alloc | apply Kd.S_drewN | apply Kd.S_drew)); exact Kd.S_mono HO664.out (fun _ hk => hk.2)⟩, ⟨by (with_reducible repeat (first | apply Kd.R_alloc | apply Kd.R_drewN | apply Kd.R_drew)); exact HO672.out⟩, ⟨by (with_reducible repeat (first | apply Kd.R_alloc | apply Kd.R_drewN | apply Kd.R_drew)); exact HO657.out⟩, ⟨by (with_reducible repeat (first | refine blk_drewN ?_ _ | refine blk_drew ?_ | refine blk_alloc ?_ _)); exact BK661.out⟩, ⟨by repeat (first | (with_reducible first | exact HB.out | apply below_alloc | apply pw_below_drewN | apply below_drew1 | refine below_set ?_ GE661.out) | exact HB.out)⟩⟩
     case round =>
      clear H'
      try clear c2
      try clear c2b0
      try clear c2b1
      try clear p2
      try clear c7
      try clear c8
      try clear c8b0
      try clear c8b1
      try clear c8b2
      try clear c22
      try clear c22b0
      try clear c22b1
      try clear hcz12_0
      try clear hcz12_1
      try clear hcz16_0
      try clear hcz16_1
      try clear hcz25_0
      try clear hcz25_1
      try clear hcz29_0
      try clear hcz29_1
      try clear hcz33_0
      try clear hcz33_1
      try clear hcz36_0
      try clear hcz36_1
      try clear hfz12_0
      try clear hfz12_1
      try clear hfz16_0
      try clear hfz16_1
      try clear hfz25_0
      try clear hfz25_1
      try clear hfz29_0
      try clear hfz29_1
      try clear hfz33_0
      try clear hfz33_1
      try clear hfz36_0
      try clear hfz36_1
      obtain ⟨x7_1, x8_1, rfl, rfl, HA, HK1, HO_5, HO_6, HO_662001, BK661, HB⟩ := hrel
      cases gk with
      | zero => exact absurd HA.out (by simp [laws_FnIslandsOf.l0])
      | succ k1 =>
       have H := HA.out
       clear HA
       simp only [laws_FnIslandsOf.l0] at H
       by_cases c37 : x8_1 < (t662.length : Int)
       ·
        rw [if_pos c37] at H
        have c37b0 : decide (x8_1 < (t662.length : Int)) = true := decide_eq_true c37
        clear c37
        by_cases c38 : 0 ≤ x8_1
        ·
         rw [if_pos c38] at H
         have c38b0 : decide (0 ≤ x8_1) = true := decide_eq_true c38
         clear c38
         have H' := Aside0.mk H
         clear H
         have p673 : 0 ≤ (x8_1 : Int) := of_decide_eq_true (by first | (with_reducible assumption) | assumption)
         have q673 : x8_1 < (t662.length : Int) := of_decide_eq_true (by first | (with_reducible assumption) | assumption)
         obtain ⟨ad673, A673_0, c673_0, e673, hx673_0, hl673_0, hi673_0⟩ := at_L5 (Kd.S_reads' HO_5.out).2.2 x8_1 p673 q673
         cases e673
         obtain ⟨ce673, hce673, hMe673, hcc673⟩ := Kd.S_get HO_5.out [] x8_1 p673 (by first | exact q673 | exact of_decide_eq_true (by first | (with_reducible assumption) | assumption) | (have e_ := (Kd.S_reads' HO_5.out).1; omega))
         obtain ⟨ve673_0, rfl, ge673_0⟩ := hMe673
         have hv673_0 := hcc673 0 _ rfl
         rw [Nat.add_zero, show ((Kd.slice 3 (Kd.int .i64))).sz = 1 from rfl, Nat.mul_one] at hv673_0
         replace hv673_0 := Option.some.inj (hv673_0.symm.trans hx673_0)
         rw [hv673_0] at ge673_0
         have HL673_0 := Aside0.mk (show Kd.R (Kd.int .i64) 3 _ _ _ _ (rd_L5 t662 x8_1) from ge673_0)
         clear hv673_0 ge673_0
         clear hcc673 hce673
         have HR673_0 := Aside0.mk hi673_0
         have HC673_0 := Aside0.mk hl673_0
         clear hi673_0 hl673_0
         replace p673 := eq_true p673
         replace q673 := eq_true q673
         go_wp2
         repeat (go_quiet (fail); try go_wp2)
         go_loopg [9] k1 (fun kq v9 w' => ∃ (x9_2 : Int), v9 = .int .i64 x9_2 ∧ Aside0 (laws_FnIslandsOf.l1 kq t662 t670 (wrap64 (x7_1 + ((rd_L5 t662 x8_1).length : Int))) x8_1 x9_2 t654 t655 = some r) ∧ Aside0 (kq ≤ k1) ∧ Aside0 (Kd.S (Kd.slice 3 (Kd.int .i64)) 24 w' w.heap.size (fun k_ => some k_ ≠ ((.slice Ao35 t670.length co35) : Value).ownBlock) (.slice (some ad673) t662.length co31) t662) ∧ Aside0 (Kd.R (Kd.int .i64) 3 w' w.heap.size (fun _ => True) (.slice Ao35 t670.length co35) t670) ∧ Aside0 (Kd.R k52 52 w' w.heap.size (fun _ => True) (.slice Ao26 t655.length co26) t655) ∧ Aside0 (w'.heap[gb661]? = some (.cells #[.int .i64 t654, (.slice Ao26 t655.length co26)] 39 (0, 0))) ∧ Aside0 (Kd.C (Kd.int .i64) w' A673_0 (rd_L5 t662 x8_1).length (rd_L5 t662 x8_1)) ∧ Aside0 (Below w.heap.size w w'))
         case atStart => exact ⟨(0), (by first | rfl | (simp; done) | (simp [*]; done)), H', ⟨Nat.le_refl _⟩, ⟨by (with_reducible repeat (first | apply Kd.S_alloc | apply Kd.S_drewN | apply Kd.S_drew)); exact HO_5.out⟩, ⟨by (with_reducible repeat (first | apply Kd.R_alloc | apply Kd.R_drewN | apply Kd.R_drew)); exact HO_6.out⟩, ⟨by (with_reducible repeat (first | apply Kd.R_alloc | apply Kd.R_drewN | apply Kd.R_drew)); exact HO_662001.out⟩, ⟨by (with_reducible repeat (first | refine blk_drewN ?_ _ | refine blk_drew ?_ | refine blk_alloc ?_ _)); exact BK661.out⟩, ⟨by repeat (first | (with_reducible exact HR673_0.out) | (with_reducible refine Kd.C_alloc ?_ _) | (with_reducible refine Kd.C_drewN ?_ _) | (with_reducible refine Kd.C_drew ?_) | exact HR673_0.out)⟩, ⟨by repeat (first | (with_reducible first | exact HB.out | apply below_alloc | apply pw_below_drewN | apply below_drew1 | refine below_set ?_ GE661.out) | exact HB.out)⟩⟩
         case round =>
          clear H'
          try clear c2
          try clear c2b0
          try clear c2b1
          try clear p2
          try clear c3
          try clear c6
          try clear p6
          try clear q6
          try clear hx6
          try clear c7
          try clear c8
          try clear c8b0
          try clear c8b1
          try clear c8b2
          try clear c22
          try clear c22b0
          try clear c22b1
          try clear c37
          try clear c37b0
          try clear c38
          try clear c38b0
          try clear hcz12_0
          try clear hcz12_1
          try clear hcz16_0
          try clear hcz16_1
          try clear hcz25_0
          try clear hcz25_1
          try clear hcz29_0
          try clear hcz29_1
          try clear hcz33_0
          try clear hcz33_1
          try clear hcz36_0
          try clear hcz36_1
          try clear hfz12_0
          try clear hfz12_1
          try clear hfz16_0
          try clear hfz16_1
          try clear hfz25_0
          try clear hfz25_1
          try clear hfz29_0
          try clear hfz29_1
          try clear hfz33_0
          try clear hfz33_1
          try clear hfz36_0
          try clear hfz36_1
          try clear hx673_0
          try clear p2
          try clear p673
          try clear q673
          obtain ⟨x9_2, rfl, HA, HK2, HO_5, HO_6, HO_662001, BK661, HR673_0, HB⟩ := hrel
          cases gk with
          | zero => exact absurd HA.out (by simp [laws_FnIslandsOf.l1])
          | succ k2 =>
           have H := HA.out
           clear HA
           simp only [laws_FnIslandsOf.l1] at H
           by_cases c39 : 0 ≤ x8_1
           ·
            rw [if_pos c39] at H
            have c39b0 : decide (0 ≤ x8_1) = true := decide_eq_true c39
            clear c39
            by_cases c40 : x8_1 < (t662.length : Int)
            ·
             rw [if_pos c40] at H
             have c40b0 : decide (x8_1 < (t662.length : Int)) = true := decide_eq_true c40
             clear c40
             by_cases c41 : x9_2 < ((rd_L5 t662 x8_1).length : Int)
             ·
              rw [if_pos c41] at H
              have c41b0 : decide (x9_2 < ((rd_L5 t662 x8_1).length : Int)) = true := decide_eq_true c41
              clear c41
              by_cases c42 : 0 ≤ x9_2
              ·
               rw [if_pos c42] at H
               have c42b0 : decide (0 ≤ x9_2) = true := decide_eq_true c42
               clear c42
               by_cases c43 : 0 ≤ (rd (rd_L5 t662 x8_1) x9_2)
               ·
                rw [if_pos c43] at H
                have c43b0 : decide (0 ≤ (rd (rd_L5 t662 x8_1) x9_2)) = true := decide_eq_true c43
                clear c43
                by_cases c44 : (rd (rd_L5 t662 x8_1) x9_2) < (t670.length : Int)
                ·
                 rw [if_pos c44] at H
                 have c44b0 : decide ((rd (rd_L5 t662 x8_1) x9_2) < (t670.length : Int)) = true := decide_eq_true c44
                 clear c44
                 by_cases c45 : 0 < ((rd_L5 t662 x8_1).length : Int)
                 ·
                  rw [if_pos c45] at H
                  have c45b0 : decide (0 < ((rd_L5 t662 x8_1).length : Int)) = true := decide_eq_true c45
                  have c45b1 : decide (0 < (rd_L5 t662 x8_1).length) = true := decide_eq_true (by omega)
                  clear c45
                  by_cases c46 : (rd t670 (rd (rd_L5 t662 x8_1) x9_2)) = (rd (rd_L5 t662 x8_1) 0)
                  ·
                   rw [if_pos c46] at H
                   have c46b0 : ((rd t670 (rd (rd_L5 t662 x8_1) x9_2)) == (rd (rd_L5 t662 x8_1) 0)) = true := beq_iff_eq.mpr c46
                   have c46b1 : ((rd t670 (rd (rd_L5 t662 x8_1) x9_2)) != (rd (rd_L5 t662 x8_1) 0)) = false := bne_eq_false_iff_eq.mpr c46
                   clear c46
                   have H' := Aside0.mk H
                   clear H
                   have p674 : 0 ≤ (x8_1 : Int) := of_decide_eq_true (by first | (with_reducible assumption) | assumption)
                   have q674 : x8_1 < (t662.length : Int) := of_decide_eq_true (by first | (with_reducible assumption) | assumption)
                   obtain ⟨ad674, A674_0, c674_0, e674, hx674_0, hl674_0, hi674_0⟩ := at_L5 (Kd.S_reads' HO_5.out).2.2 x8_1 p674 q674
                   obtain rfl : ad673 = ad674 := (by injection e674)
                   obtain ⟨ce674, hce674, hMe674, hcc674⟩ := Kd.S_get HO_5.out [] x8_1 p674 (by first | exact q674 | exact of_decide_eq_true (by first | (with_reducible assumption) | assumption) | (have e_ := (Kd.S_reads' HO_5.out).1; omega))
                   obtain ⟨ve674_0, rfl, ge674_0⟩ := hMe674
                   have hv674_0 := hcc674 0 _ rfl
                   rw [Nat.add_zero, show ((Kd.slice 3 (Kd.int .i64))).sz = 1 from rfl, Nat.mul_one] at hv674_0
                   replace hv674_0 := Option.some.inj (hv674_0.symm.trans hx674_0)
                   rw [hv674_0] at ge674_0
                   have HL674_0 := Aside0.mk (show Kd.R (Kd.int .i64) 3 _ _ _ _ (rd_L5 t662 x8_1) from ge674_0)
                   clear hv674_0 ge674_0
                   clear hcc674 hce674
                   have HR674_0 := Aside0.mk hi674_0
                   have HC674_0 := Aside0.mk hl674_0
                   clear hi674_0 hl674_0
                   replace p674 := eq_true p674
                   replace q674 := eq_true q674
                   have p675 : 0 ≤ (x8_1 : Int) := of_decide_eq_true (by first | (with_reducible assumption) | assumption)
                   have q675 : x8_1 < (t662.length : Int) := of_decide_eq_true (by first | (with_reducible assumption) | assumption)
                   obtain ⟨ad675, A675_0, c675_0, e675, hx675_0, hl675_0, hi675_0⟩ := at_L5 (Kd.S_reads' HO_5.out).2.2 x8_1 p675 q675
                   obtain rfl : ad673 = ad675 := (by injection e675)
                   obtain ⟨ce675, hce675, hMe675, hcc675⟩ := Kd.S_get HO_5.out [] x8_1 p675 (by first | exact q675 | exact of_decide_eq_true (by first | (with_reducible assumption) | assumption) | (have e_ := (Kd.S_reads' HO_5.out).1; omega))
                   obtain ⟨ve675_0, rfl, ge675_0⟩ := hMe675
                   have hv675_0 := hcc675 0 _ rfl
                   rw [Nat.add_zero, show ((Kd.slice 3 (Kd.int .i64))).sz = 1 from rfl, Nat.mul_one] at hv675_0
                   replace hv675_0 := Option.some.inj (hv675_0.symm.trans hx675_0)
                   rw [hv675_0] at ge675_0
                   have HL675_0 := Aside0.mk (show Kd.R (Kd.int .i64) 3 _ _ _ _ (rd_L5 t662 x8_1) from ge675_0)
                   clear hv675_0 ge675_0
                   clear hcc675 hce675
                   have HR675_0 := Aside0.mk hi675_0
                   have HC675_0 := Aside0.mk hl675_0
                   clear hi675_0 hl675_0
                   replace p675 := eq_true p675
                   replace q675 := eq_true q675
                   have ea_ := Option.some.inj (hx674_0.symm.trans hx675_0)
                   injection ea_ with ea_ en_ ec_
                   subst ea_
                   subst ec_
                   clear en_
                   have p676 : 0 ≤ (x9_2 : Int) := of_decide_eq_true (by first | (with_reducible assumption) | assumption)
                   have q676 : x9_2 < ((rd_L5 t662 x8_1).length : Int) := of_decide_eq_true (by first | (with_reducible assumption) | assumption)
                   obtain ⟨ad676, e676, hx676_0⟩ := Kd.at_int (by repeat (first | (with_reducible exact HR675_0.out) | (with_reducible refine Kd.C_alloc ?_ _) | (with_reducible refine Kd.C_drewN ?_ _) | (with_reducible refine Kd.C_drew ?_) | exact HR675_0.out)) x9_2 p676 q676
                   cases e676
                   replace p676 := eq_true p676
                   replace q676 := eq_true q676
                   have p677 : 0 ≤ ((rd (rd_L5 t662 x8_1) x9_2) : Int) := of_decide_eq_true (by first | (with_reducible assumption) | assumption)
                   have q677 : (rd (rd_L5 t662 x8_1) x9_2) < (t670.length : Int) := of_decide_eq_true (by first | (with_reducible assumption) | assumption)
                   obtain ⟨ad677, e677, hx677_0⟩ := Kd.at_int (Kd.R_reads' HO_6.out).2.2 (rd (rd_L5 t662 x8_1) x9_2) p677 q677
                   cases e677
                   replace p677 := eq_true p677
                   replace q677 := eq_true q677
                   have p678 : 0 ≤ (x8_1 : Int) := of_decide_eq_true (by first | (with_reducible assumption) | assumption)
                   have q678 : x8_1 < (t662.length : Int) := of_decide_eq_true (by first | (with_reducible assumption) | assumption)
                   obtain ⟨ad678, A678_0, c678_0, e678, hx678_0, hl678_0, hi678_0⟩ := at_L5 (Kd.S_reads' HO_5.out).2.2 x8_1 p678 q678
                   obtain rfl : ad673 = ad678 := (by injection e678)
                   obtain ⟨ce678, hce678, hMe678, hcc678⟩ := Kd.S_get HO_5.out [] x8_1 p678 (by first | exact q678 | exact of_decide_eq_true (by first | (with_reducible assumption) | assumption) | (have e_ := (Kd.S_reads' HO_5.out).1; omega))
                   obtain ⟨ve678_0, rfl, ge678_0⟩ := hMe678
                   have hv678_0 := hcc678 0 _ rfl
                   rw [Nat.add_zero, show ((Kd.slice 3 (Kd.int .i64))).sz = 1 from rfl, Nat.mul_one] at hv678_0
                   replace hv678_0 := Option.some.inj (hv678_0.symm.trans hx678_0)
                   rw [hv678_0] at ge678_0
                   have HL678_0 := Aside0.mk (show Kd.R (Kd.int .i64) 3 _ _ _ _ (rd_L5 t662 x8_1) from ge678_0)
                   clear hv678_0 ge678_0
                   clear hcc678 hce678
                   have HR678_0 := Aside0.mk hi678_0
                   have HC678_0 := Aside0.mk hl678_0
                   clear hi678_0 hl678_0
                   replace p678 := eq_true p678
                   replace q678 := eq_true q678
                   have ea_ := Option.some.inj (hx674_0.symm.trans hx678_0)
                   injection ea_ with ea_ en_ ec_
                   subst ea_
                   subst ec_
                   clear en_
                   have p679 : 0 ≤ (0 : Int) := (by omega)
                   have q679 : 0 < ((rd_L5 t662 x8_1).length : Int) := of_decide_eq_true (by first | (with_reducible assumption) | assumption)
                   obtain ⟨ad679, e679, hx679_0⟩ := Kd.at_int (by repeat (first | (with_reducible exact HR678_0.out) | (with_reducible refine Kd.C_alloc ?_ _) | (with_reducible refine Kd.C_drewN ?_ _) | (with_reducible refine Kd.C_drew ?_) | exact HR678_0.out)) 0 p679 q679
                   cases e679
                   have qi679 : (0 < (rd_L5 t662 x8_1).length) = True := eq_true (by omega)
                   (try rw [show ((0 : Int)).toNat = 0 from rfl] at hx679_0)
                   (try rw [Addr.add_zero'] at hx679_0)
                   replace p679 := eq_true p679
                   replace q679 := eq_true q679
                   go_wp2
                   repeat (go_quiet (fail); try go_wp2)
                   go_roundg k2
                   case measure => have := HK1.out; have := HK2.out; omega
                   case rel => exact ⟨(wrap64 (x9_2 + 1)), (by first | rfl | (simp; done) | (simp [*]; done)), H', ⟨by have := HK1.out; have := HK2.out; omega⟩, ⟨by (with_reducible repeat (first | apply Kd.S_alloc | apply Kd.S_drewN | apply Kd.S_drew)); exact HO_5.out⟩, ⟨by (with_reducible repeat (first | apply Kd.R_alloc | apply Kd.R_drewN | apply Kd.R_drew)); exact HO_6.out⟩, ⟨by (with_reducible repeat (first | apply Kd.R_alloc | apply Kd.R_drewN | apply Kd.R_drew)); exact HO_662001.out⟩, ⟨by (with_reducible repeat (first | refine blk_drewN ?_ _ | refine blk_drew ?_ | refine blk_alloc ?_ _)); exact BK661.out⟩, ⟨by repeat (first | (with_reducible exact HR673_0.out) | (with_reducible refine Kd.C_alloc ?_ _) | (with_reducible refine Kd.C_drewN ?_ _) | (with_reducible refine Kd.C_drew ?_) | exact HR673_0.out)⟩, ⟨by repeat (first | (with_reducible first | exact HB.out | apply below_alloc | apply pw_below_drewN | apply below_drew1 | refine below_set ?_ GE661.out) | exact HB.out)⟩⟩
                  ·
                   rw [if_neg c46] at H
                   exact absurd H (by simp)
                 ·
                  rw [if_neg c45] at H
                  exact absurd H (by simp)
                ·
                 rw [if_neg c44] at H
                 exact absurd H (by simp)
               ·
                rw [if_neg c43] at H
                exact absurd H (by simp)
              ·
               rw [if_neg c42] at H
               exact absurd H (by simp)
             ·
              rw [if_neg c41] at H
              have c41b0 : decide (x9_2 < ((rd_L5 t662 x8_1).length : Int)) = false := decide_eq_false c41
              clear c41
              have H' := Aside0.mk H
              clear H
              have p674 : 0 ≤ (x8_1 : Int) := of_decide_eq_true (by first | (with_reducible assumption) | assumption)
              have q674 : x8_1 < (t662.length : Int) := of_decide_eq_true (by first | (with_reducible assumption) | assumption)
              obtain ⟨ad674, A674_0, c674_0, e674, hx674_0, hl674_0, hi674_0⟩ := at_L5 (Kd.S_reads' HO_5.out).2.2 x8_1 p674 q674
              obtain rfl : ad673 = ad674 := (by injection e674)
              obtain ⟨ce674, hce674, hMe674, hcc674⟩ := Kd.S_get HO_5.out [] x8_1 p674 (by first | exact q674 | exact of_decide_eq_true (by first | (with_reducible assumption) | assumption) | (have e_ := (Kd.S_reads' HO_5.out).1; omega))
              obtain ⟨ve674_0, rfl, ge674_0⟩ := hMe674
              have hv674_0 := hcc674 0 _ rfl
              rw [Nat.add_zero, show ((Kd.slice 3 (Kd.int .i64))).sz = 1 from rfl, Nat.mul_one] at hv674_0
              replace hv674_0 := Option.some.inj (hv674_0.symm.trans hx674_0)
              rw [hv674_0] at ge674_0
              have HL674_0 := Aside0.mk (show Kd.R (Kd.int .i64) 3 _ _ _ _ (rd_L5 t662 x8_1) from ge674_0)
              clear hv674_0 ge674_0
              clear hcc674 hce674
              have HR674_0 := Aside0.mk hi674_0
              have HC674_0 := Aside0.mk hl674_0
              clear hi674_0 hl674_0
              replace p674 := eq_true p674
              replace q674 := eq_true q674
              go_wp2
              repeat (go_quiet (fail); try go_wp2)
              go_roundg k2
              case measure => have := HK1.out; have := HK2.out; omega
              case rel => exact ⟨((wrap64 (x7_1 + ((rd_L5 t662 x8_1).length : Int)))), (wrap64 (x8_1 + 1)), (by first | rfl | (simp; done) | (simp [*]; done)), (by first | rfl | (simp; done) | (simp [*]; done)), H', ⟨by have := HK1.out; have := HK2.out; omega⟩, ⟨by (with_reducible repeat (first | apply Kd.S_alloc | apply Kd.S_drewN | apply Kd.S_drew)); exact HO_5.out⟩, ⟨by (with_reducible repeat (first | apply Kd.R_alloc | apply Kd.R_drewN | apply Kd.R_drew)); exact HO_6.out⟩, ⟨by (with_reducible repeat (first | apply Kd.R_alloc | apply Kd.R_drewN | apply Kd.R_drew)); exact HO_662001.out⟩, ⟨by (with_reducible repeat (first | refine blk_drewN ?_ _ | refine blk_drew ?_ | refine blk_alloc ?_ _)); exact BK661.out⟩, ⟨by repeat (first | (with_reducible first | exact HB.out | apply below_alloc | apply pw_below_drewN | apply below_drew1 | refine below_set ?_ GE661.out) | exact HB.out)⟩⟩
            ·
             rw [if_neg c40] at H
             exact absurd H (by simp)
           ·
            rw [if_neg c39] at H
            exact absurd H (by simp)
        ·
         rw [if_neg c38] at H
         exact absurd H (by simp)
       ·
        rw [if_neg c37] at H
        have c37b0 : decide (x8_1 < (t662.length : Int)) = false := decide_eq_false c37
        clear c37
        obtain rfl := Option.some.inj H
        have hcz47_0 : wr.cell? ⟨gb661, 0, none⟩ = some (.int .i64 t654) := (blk_cell BK661.out 0).trans rfl
        have hcz47_1 : wr.cell? ⟨gb661, 1, none⟩ = some (.slice Ao26 t655.length co26) := (blk_cell BK661.out 1).trans rfl
        have hfz47_0 := blk_frozen BK661.out 0
        have hfz47_1 := blk_frozen BK661.out 1
        go_wp2
        repeat (go_quiet (fail); try go_wp2)
        go_ret
        exact ⟨by first | rfl | (simp [errW_none, errW_some] <;> rfl) | (simp [*, errW_none, errW_some] <;> rfl), by repeat (first | (with_reducible first | exact HB.out | apply below_alloc | apply pw_below_drewN | apply below_drew1 | refine below_set ?_ GE661.out) | exact HB.out)⟩
    ·
     rw [if_neg c22] at H
     exact absurd H (by simp)
  ·
   replace c7 := Bool.eq_false_iff.mpr c7
   subst c7
   have H1 : (none) = some r := by rw [if_neg (show ¬ (false = true) by decide)] at H; exact H
   clear H
   have H := H1
   clear H1
   exact absurd H (by simp)

end Go.Proofs.YthkdkjmnnpcdhaaDoor.P

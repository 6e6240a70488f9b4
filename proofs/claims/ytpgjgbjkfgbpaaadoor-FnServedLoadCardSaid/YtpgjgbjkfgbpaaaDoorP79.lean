/- Contracts of Go functions of this seat's translation, written by this repo's wip/mk.py: it calls the kit's print.py with contracts typed by hand in place of functions that it does not take. Not trusted: Lean checks it. -/
import Derived.Test.YtpgjgbjkfgbpaaaDoorP0
import Derived.Test.YtpgjgbjkfgbpaaaDoorP25
import Derived.Test.YtpgjgbjkfgbpaaaDoorP37
import Derived.Test.YtpgjgbjkfgbpaaaDoorP40
import Derived.Test.YtpgjgbjkfgbpaaaDoorP59
import Derived.Test.YtpgjgbjkfgbpaaaDoorP60
import Derived.Test.YtpgjgbjkfgbpaaaDoorP77
import Derived.Test.YtpgjgbjkfgbpaaaDoorP78
namespace Go.Proofs.YtpgjgbjkfgbpaaaDoor.P
open Go.RowKit Go.Proofs.YtpgjgbjkfgbpaaaDoorW.PrintWords Go.Proofs.YtpgjgbjkfgbpaaaDoorW.PrintLast Go.Proofs.YtpgjgbjkfgbpaaaDoorW.PrintMore
attribute [local go_sem] max2_int min2_int max_two min_two max_three min_three max_four min_four   -- for this text's walks alone
set_option linter.unusedVariables false
set_option linter.unusedSimpArgs false

/-! ### laws_FnServedLoad: function 8 -/
def laws_FnServedLoad.l0 : Nat → List Bool → List (S33) → Int → Int → List (List Int) → Int → Int → List (S79) → Option (Bool)
 | 0, _, _, _, _, _, _, _, _ => none
 | k + 1, x4, x5, x6, x7, x8, x9, x758000, x758001 => if x9 < (x8.length : Int) then (if 0 ≤ x9 then (if ((rd_L9 x8 x9).length : Int) > 0 then (if 0 < ((rd_L9 x8 x9).length : Int) then ((impl_IslandFeed.f k x758000 x758001 x4 x5 (rd (rd_L9 x8 x9) 0)).bind fun t768 => ((impl_IslandLoad.f k x758000 x758001 x4 x5 (rd (rd_L9 x8 x9) 0)).bind fun t771 => (if t768 ≥ t771 then ((impl_IslandLoad.f k x758000 x758001 x4 x5 (rd (rd_L9 x8 x9) 0)).bind fun t774 => (laws_FnServedLoad.l0 k x4 x5 x6 (wrap64 (x7 + t774)) x8 (wrap64 (x9 + 1)) x758000 x758001)) else (laws_FnServedLoad.l0 k x4 x5 x6 x7 x8 (wrap64 (x9 + 1)) x758000 x758001)))) else (none)) else (laws_FnServedLoad.l0 k x4 x5 x6 x7 x8 (wrap64 (x9 + 1)) x758000 x758001)) else (none)) else (if x7 = x6 then ((laws_loads.f k x5).bind fun t764 => (some (decide (x6 ≤ t764)))) else (none))
def laws_FnServedLoad.f (k : Nat) (l0 : List Int) : Option (Bool) := if (l0.length : Int) > 1048576 then (some true) else ((spec_DrawServedLoad.f k l0).bind fun bt747 => ((impl_ServedLoad.f k bt747.1 bt747.2.1 bt747.2.2.1 bt747.2.2.2).bind fun t758 => ((spec_ServedLoad.f k bt747.1 bt747.2.1 bt747.2.2.1 bt747.2.2.2).bind fun t759 => (if t758 = t759 then (if t758 < 0 then (if t758 = (-1) then ((laws_alive.f k).bind fun t760 => (some t760)) else (none)) else ((impl_IslandsOf.f k bt747.1 bt747.2.1 bt747.2.2.1).bind fun t761 => (laws_FnServedLoad.l0 k bt747.2.2.1 bt747.2.2.2 t758 0 t761 0 bt747.1 bt747.2.1))) else (none)))))
theorem laws_FnServedLoad.mono_l : ∀ k, (∀ y0 y1 y2 y3 y4 y5 y6 y7, LeO (laws_FnServedLoad.l0 k y0 y1 y2 y3 y4 y5 y6 y7) (laws_FnServedLoad.l0 (k + 1) y0 y1 y2 y3 y4 y5 y6 y7))
 | 0 => fun _ _ _ _ _ _ _ _ r h => by simp [laws_FnServedLoad.l0] at h
 | k + 1 => by
  have ih0 := laws_FnServedLoad.mono_l k
  ·
   intro y0 y1 y2 y3 y4 y5 y6 y7
   unfold laws_FnServedLoad.l0
   repeat' first
   | (with_reducible exact ih0 _ _ _ _ _ _ _ _)
   | (with_reducible exact impl_IslandFeed.mono _ _ _ _ _ _)
   | (with_reducible exact impl_IslandLoad.mono _ _ _ _ _ _)
   | (with_reducible exact impl_IslandsOf.mono _ _ _ _)
   | (with_reducible exact impl_ServedLoad.mono _ _ _ _ _)
   | (with_reducible exact laws_alive.mono _)
   | (with_reducible exact laws_loads.mono _ _)
   | (with_reducible exact spec_DrawServedLoad.mono _ _)
   | (with_reducible exact spec_ServedLoad.mono _ _ _ _ _)
   | (with_reducible exact LeO.refl _)
   | (with_reducible exact LeO.none _)
   | (with_reducible refine LeO.ite ?_ ?_)
   | (with_reducible refine LeO.bind ?_ (fun _ => ?_))
   | exact ih0 _ _ _ _ _ _ _ _
   | exact impl_IslandFeed.mono _ _ _ _ _ _
   | exact impl_IslandLoad.mono _ _ _ _ _ _
   | exact impl_IslandsOf.mono _ _ _ _
   | exact impl_ServedLoad.mono _ _ _ _ _
   | exact laws_alive.mono _
   | exact laws_loads.mono _ _
   | exact spec_DrawServedLoad.mono _ _
   | exact spec_ServedLoad.mono _ _ _ _ _
   | exact LeO.none _
   | refine LeO.ite ?_ ?_
   | refine LeO.bind ?_ (fun _ => ?_)
theorem laws_FnServedLoad.mono : ∀ a0 k, LeO (laws_FnServedLoad.f k a0) (laws_FnServedLoad.f (k + 1) a0) := by
 intro a0 k
 have ih0 := laws_FnServedLoad.mono_l k
 unfold laws_FnServedLoad.f
 repeat' first
   | (with_reducible exact ih0 _ _ _ _ _ _ _ _)
   | (with_reducible exact impl_IslandFeed.mono _ _ _ _ _ _)
   | (with_reducible exact impl_IslandLoad.mono _ _ _ _ _ _)
   | (with_reducible exact impl_IslandsOf.mono _ _ _ _)
   | (with_reducible exact impl_ServedLoad.mono _ _ _ _ _)
   | (with_reducible exact laws_alive.mono _)
   | (with_reducible exact laws_loads.mono _ _)
   | (with_reducible exact spec_DrawServedLoad.mono _ _)
   | (with_reducible exact spec_ServedLoad.mono _ _ _ _ _)
   | (with_reducible exact LeO.refl _)
   | (with_reducible exact LeO.none _)
   | (with_reducible refine LeO.ite ?_ ?_)
   | (with_reducible refine LeO.bind ?_ (fun _ => ?_))
   | exact ih0 _ _ _ _ _ _ _ _
   | exact impl_IslandFeed.mono _ _ _ _ _ _
   | exact impl_IslandLoad.mono _ _ _ _ _ _
   | exact impl_IslandsOf.mono _ _ _ _
   | exact impl_ServedLoad.mono _ _ _ _ _
   | exact laws_alive.mono _
   | exact laws_loads.mono _ _
   | exact spec_DrawServedLoad.mono _ _
   | exact spec_ServedLoad.mono _ _ _ _ _
   | exact LeO.none _
   | refine LeO.ite ?_ ?_
   | refine LeO.bind ?_ (fun _ => ?_)
def laws_FnServedLoad.T14 : Bool × List (List Nat × List Nat) := (true, [([], []), ([], []), ([0, 1], [0, 1]), ([2], [2]), ([3], [3]), ([4], [4]), ([5], [5]), ([6], [6]), ([6], [6]), ([6], [6]), ([6], [6]), ([6], [6]), ([10, 11, 6], [6, 10, 11]), ([12, 6], [6, 12]), ([13, 6], [6, 13]), ([14, 6], [6, 14]), ([7, 8, 9, 15, 6, 6], [6, 7, 8, 9, 15]), ([6], [6]), ([6], [6]), ([6], [6]), ([6], [6]), ([6], [6]), ([20, 21, 6], [6, 20, 21]), ([22, 6], [6, 22]), ([23, 6], [6, 23]), ([24, 6], [6, 24]), ([17, 18, 19, 25, 16, 6], [6, 17, 18, 19, 25]), ([16, 26, 6], [6, 16, 26]), ([6, 27], [6, 27])])
def laws_FnServedLoad.B14 : List Nat := [0, 0, 3, 7, 15, 31, 63, 127, 127, 127, 127, 127, 3199, 7295, 15487, 31871, 65535, 127, 127, 127, 127, 127, 3145855, 7340159, 15728767, 32505983, 67108863, 134217727, 268435455]
theorem laws_FnServedLoad.tab14 : rtab .any (opsOf Tryd.f8 14) = laws_FnServedLoad.T14 := by kernel_rfl
theorem laws_FnServedLoad.bits14 : waitsOk laws_FnServedLoad.T14.2 laws_FnServedLoad.B14 = true := by kernel_rfl
def laws_FnServedLoad.T15 : Bool × List (List Nat × List Nat) := (true, [([], []), ([], []), ([], []), ([], []), ([], []), ([], []), ([4, 5], [4, 5]), ([6], [6]), ([7], [7]), ([8], [8]), ([1, 2, 3, 9], [1, 2, 3, 9]), ([0, 10], [0, 10]), ([11, 10, 0, 1, 2, 3, 4, 5, 6, 7, 8, 9, 10, 11], [0, 11])])
def laws_FnServedLoad.B15 : List Nat := [0, 0, 0, 0, 0, 0, 48, 112, 240, 496, 1022, 2047, 4095]
theorem laws_FnServedLoad.tab15 : rtab .any (opsOf Tryd.f8 15) = laws_FnServedLoad.T15 := by kernel_rfl
theorem laws_FnServedLoad.bits15 : waitsOk laws_FnServedLoad.T15.2 laws_FnServedLoad.B15 = true := by kernel_rfl
set_option maxHeartbeats 8000000 in
set_option maxRecDepth 100000 in
theorem laws_FnServedLoad.calls (k : Nat) (A0 : Option Addr) (c0 : Nat) (l0 : List Int) (r : Bool) (w : World) (hr0 : Kd.C (Kd.int .u8) w A0 l0.length l0) (hc0 : l0.length ≤ c0) (h : laws_FnServedLoad.f k l0 = some r) :
  Calls Tryd.prog 8 #[.slice A0 l0.length c0] w fun e w' => e = .returned (.bool r) ∧ Below w.heap.size w w' := by
 have hu25 := Tryd.underlying25
 have HR0 := Aside0.mk hr0
 have HC0 := Aside0.mk hc0
 clear hr0 hc0
 have HB := aM (Below.refl w.heap.size w)
 have H : (if (l0.length : Int) > 1048576 then (some true) else ((spec_DrawServedLoad.f k l0).bind fun bt747 => ((impl_ServedLoad.f k bt747.1 bt747.2.1 bt747.2.2.1 bt747.2.2.2).bind fun t758 => ((spec_ServedLoad.f k bt747.1 bt747.2.1 bt747.2.2.1 bt747.2.2.2).bind fun t759 => (if t758 = t759 then (if t758 < 0 then (if t758 = (-1) then ((laws_alive.f k).bind fun t760 => (some t760)) else (none)) else ((impl_IslandsOf.f k bt747.1 bt747.2.1 bt747.2.2.1).bind fun t761 => (laws_FnServedLoad.l0 k bt747.2.2.1 bt747.2.2.2 t758 0 t761 0 bt747.1 bt747.2.1))) else (none)))))) = some r := h
 clear h
 by_cases c2 : (l0.length : Int) > 1048576
 ·
  rw [if_pos c2] at H
  have c2b0 : decide (1048576 < (l0.length : Int)) = true := decide_eq_true c2
  have c2b1 : decide (1048576 < l0.length) = true := decide_eq_true (by omega)
  clear c2
  obtain rfl := Option.some.inj H
  go_enter Tryd.func8, Tryd.ntmps8
  go_wp2
  go_ret
  exact ⟨fR, bl0 HB⟩
 rw [if_neg c2] at H
 have c2b0 : decide (1048576 < (l0.length : Int)) = false := decide_eq_false c2
 have c2b1 : decide (1048576 < l0.length) = false := decide_eq_false (by omega)
 clear c2
 replace H := Option.bind_eq_some_iff.mp H
 obtain ⟨⟨t747, t748, t751, t754⟩, A30, H⟩ := H
 replace H : ((impl_ServedLoad.f k t747 t748 t751 t754).bind fun t758 => ((spec_ServedLoad.f k t747 t748 t751 t754).bind fun t759 => (if t758 = t759 then (if t758 < 0 then (if t758 = (-1) then ((laws_alive.f k).bind fun t760 => (some t760)) else (none)) else ((impl_IslandsOf.f k t747 t748 t751).bind fun t761 => (laws_FnServedLoad.l0 k t751 t754 t758 0 t761 0 t747 t748))) else (none)))) = some r := H
 have A3 := Aside0.mk A30
 clear A30
 replace H := Option.bind_eq_some_iff.mp H
 obtain ⟨t758, A40, H⟩ := H
 replace H : ((spec_ServedLoad.f k t747 t748 t751 t754).bind fun t759 => (if t758 = t759 then (if t758 < 0 then (if t758 = (-1) then ((laws_alive.f k).bind fun t760 => (some t760)) else (none)) else ((impl_IslandsOf.f k t747 t748 t751).bind fun t761 => (laws_FnServedLoad.l0 k t751 t754 t758 0 t761 0 t747 t748))) else (none))) = some r := H
 have A4 := Aside0.mk A40
 clear A40
 replace H := Option.bind_eq_some_iff.mp H
 obtain ⟨t759, A50, H⟩ := H
 replace H : (if t758 = t759 then (if t758 < 0 then (if t758 = (-1) then ((laws_alive.f k).bind fun t760 => (some t760)) else (none)) else ((impl_IslandsOf.f k t747 t748 t751).bind fun t761 => (laws_FnServedLoad.l0 k t751 t754 t758 0 t761 0 t747 t748))) else (none)) = some r := H
 have A5 := Aside0.mk A50
 clear A50
 by_cases c6 : t758 = t759
 rotate_left
 ·
  rw [if_neg c6] at H
  exact absurd H (by simp)
 rw [if_pos c6] at H
 have c6b0 : (t758 == t759) = true := beq_iff_eq.mpr c6
 have c6b1 : (t758 != t759) = false := bne_eq_false_iff_eq.mpr c6
 clear c6
 by_cases c7 : t758 < 0
 ·
  rw [if_pos c7] at H
  have c7b0 : decide (t758 < 0) = true := decide_eq_true c7
  clear c7
  by_cases c8 : t758 = (-1)
  rotate_left
  ·
   rw [if_neg c8] at H
   exact absurd H (by simp)
  rw [if_pos c8] at H
  have c8b0 : (t758 == (-1)) = true := beq_iff_eq.mpr c8
  have c8b1 : (t758 != (-1)) = false := bne_eq_false_iff_eq.mpr c8
  clear c8
  replace H := Option.bind_eq_some_iff.mp H
  obtain ⟨t760, A90, H⟩ := H
  replace H : (some t760) = some r := H
  have A9 := Aside0.mk A90
  clear A90
  obtain rfl := Option.some.inj H
  go_enter Tryd.func8, Tryd.ntmps8
  go_wp2_with (first | ((with_reducible refine gate_callee (f := 42) rfl ?_); refine goesL_ (some 15) rfl rfl Tryd.func42 (by kernel_rfl) rfl #[.slice A0 l0.length c0] rfl mP ?_; (with_reducible refine (spec_DrawServedLoad.calls k _ _ l0 t747 t748 t751 t754 _ ?side1 ?side2 A3.out).mono ?_); (case side1 => exact gC (HR0.out)); (case side2 => exact HC0.out); rintro e w10 ⟨v749, v752, v755, rfl, ho0, ho1, ho2, hb⟩; refine ⟨_, rfl, ?_⟩; have n0_ := aM (Kd.R_lower ho0 (below_size (bl0 HB))); have n1_ := aM (Kd.R_lower ho1 (below_size (bl0 HB))); have n2_ := aM (Kd.R_lower ho2 (below_size (bl0 HB))); have n3_ := aM (below_step (bl0 HB) hb); clear HB; have HO750 := n0_; have HO753 := n1_; have HO756 := n2_; have HB := n3_; clear n0_ n1_ n2_ n3_; (try clear hb); (try clear hb2); (try clear hk); (try clear hi); (try clear ho0); (try clear ho1); (try clear ho2)) | ((with_reducible refine gate_dst (N := 3) rfl ?_); refine box_event ?hg (N := 3) ?hd (cs := #[.int .i64 0, .slice none 0 0]) (t := 25) ?hr ?_; (case hd => rfl); (case hg => rfl); (case hr => exact hR); intro gb757 hg w11 hbox hb; have n0_ := aM (Kd.R_below (gR (HO750.out)) hb); have n1_ := aM (Kd.R_below (gR (HO753.out)) hb); have n2_ := aM (Kd.R_below (gR (HO756.out)) hb); have n3_ := aM (below_step (bl0 HB) hb); have n4_ := aM (hbox); have n5_ := aM ((by rw [hg]; exact (below_size (bl0 HB)) : w.heap.size ≤ gb757)); have n6_ := aM ((by rw [hg]; exact (below_size (bl0 HB)) : w.heap.size ≤ gb757)); clear HO750; clear HO753; clear HO756; clear HB; have HO750 := n0_; have HO753 := n1_; have HO756 := n2_; have HB := n3_; have BK757 := n4_; have GW757 := n5_; have GE757 := n6_; clear n0_ n1_ n2_ n3_ n4_ n5_ n6_; clear hb hbox hg; have hcz12_0 : w11.cell? ⟨gb757, 0, none⟩ = some (.int .i64 0) := (blk_cell BK757.out 0).trans rfl; have hcz12_1 : w11.cell? ⟨gb757, 1, none⟩ = some (.slice none 0 0) := (blk_cell BK757.out 1).trans rfl; have hfz12_0 := blk_frozen BK757.out 0; have hfz12_1 := blk_frozen BK757.out 1; obtain ⟨Ao13, co13, eo13⟩ := Kd.R_slice HO750.out; subst eo13; obtain ⟨Ao14, co14, eo14⟩ := Kd.R_slice HO753.out; subst eo14; obtain ⟨Ao15, co15, eo15⟩ := Kd.R_slice HO756.out; subst eo15) | ((with_reducible refine gate_callee (f := 43) rfl ?_); refine goesL_ (some 22) rfl rfl Tryd.func43 (by kernel_rfl) rfl #[.agg #[.int .i64 t747, .slice Ao13 t748.length co13], .slice Ao14 t751.length co14, .slice Ao15 t754.length co15] rfl mP ?_; (with_reducible refine (impl_ServedLoad.calls k t747 _ _ t748 _ _ t751 _ _ t754 t758 _ ?side1 ?side2 ?side3 ?side4 ?side5 ?side6 A4.out).mono ?_); (case side1 => refine (Kd.R_reads' (e := 79) (base := w.heap.size) (ok := fun k_ => True) (n := t748.length) (c := co13) ?_).2.2; exact (by (with_reducible repeat (first | apply Kd.R_alloc | apply Kd.R_drewN | apply Kd.R_drew)); exact (Kd.R_mono (Kd.R_far (p := ⟨gb757, 1, none⟩) (Kd.R_far (p := ⟨gb757, 0, none⟩) (Kd.R_types HO750.out BK757.out (by decide)) (fun _ hk => hk.2) (.int .i64 t747)) (fun _ hk => hk.2) (.slice Ao13 t748.length co13)) (fun _ h_ => h_.1)))); (case side2 => exact (Kd.R_reads' HO750.out).2.1); (case side3 => refine (Kd.R_reads' (e := 4) (base := w.heap.size) (ok := fun k_ => True) (n := t751.length) (c := co14) ?_).2.2; exact (by (with_reducible repeat (first | apply Kd.R_alloc | apply Kd.R_drewN | apply Kd.R_drew)); exact (Kd.R_mono (Kd.R_far (p := ⟨gb757, 1, none⟩) (Kd.R_far (p := ⟨gb757, 0, none⟩) (Kd.R_types HO753.out BK757.out (by decide)) (fun _ hk => hk.2) (.int .i64 t747)) (fun _ hk => hk.2) (.slice Ao13 t748.length co13)) (fun _ h_ => h_.1)))); (case side4 => exact (Kd.R_reads' HO753.out).2.1); (case side5 => refine (Kd.R_reads' (e := 33) (base := w.heap.size) (ok := fun k_ => True) (n := t754.length) (c := co15) ?_).2.2; exact (by (with_reducible repeat (first | apply Kd.R_alloc | apply Kd.R_drewN | apply Kd.R_drew)); exact (Kd.R_mono (Kd.R_far (p := ⟨gb757, 1, none⟩) (Kd.R_far (p := ⟨gb757, 0, none⟩) (Kd.R_types HO756.out BK757.out (by decide)) (fun _ hk => hk.2) (.int .i64 t747)) (fun _ hk => hk.2) (.slice Ao13 t748.length co13)) (fun _ h_ => h_.1)))); (case side6 => exact (Kd.R_reads' HO756.out).2.1); rintro e w16 ⟨rfl, hb⟩; refine ⟨_, rfl, ?_⟩; have n0_ := aM (Kd.R_below (by (with_reducible repeat (first | apply Kd.R_alloc | apply Kd.R_drewN | apply Kd.R_drew)); exact (Kd.R_mono (Kd.R_far (p := ⟨gb757, 1, none⟩) (Kd.R_far (p := ⟨gb757, 0, none⟩) (Kd.R_types HO750.out BK757.out (by decide)) (fun _ hk => hk.2) (.int .i64 t747)) (fun _ hk => hk.2) (.slice Ao13 t748.length co13)) (fun _ h_ => h_.1))) hb); have n1_ := aM (Kd.R_below (by (with_reducible repeat (first | apply Kd.R_alloc | apply Kd.R_drewN | apply Kd.R_drew)); exact (Kd.R_mono (Kd.R_far (p := ⟨gb757, 1, none⟩) (Kd.R_far (p := ⟨gb757, 0, none⟩) (Kd.R_types HO753.out BK757.out (by decide)) (fun _ hk => hk.2) (.int .i64 t747)) (fun _ hk => hk.2) (.slice Ao13 t748.length co13)) (fun _ h_ => h_.1))) hb); have n2_ := aM (Kd.R_below (by (with_reducible repeat (first | apply Kd.R_alloc | apply Kd.R_drewN | apply Kd.R_drew)); exact (Kd.R_mono (Kd.R_far (p := ⟨gb757, 1, none⟩) (Kd.R_far (p := ⟨gb757, 0, none⟩) (Kd.R_types HO756.out BK757.out (by decide)) (fun _ hk => hk.2) (.int .i64 t747)) (fun _ hk => hk.2) (.slice Ao13 t748.length co13)) (fun _ h_ => h_.1))) hb); have n3_ := aM (blk_below (g := gb757) (o := .cells #[.int .i64 t747, .slice Ao13 t748.length co13] 25 (0, 0)) (by (with_reducible repeat (first | refine blk_drewN ?_ _ | refine blk_drew ?_ | refine blk_alloc ?_ _)); refine blk_put (cs := #[.int .i64 t747, .slice none 0 0]) ?_ 1 _ rfl; (with_reducible repeat (first | refine blk_drewN ?_ _ | refine blk_drew ?_ | refine blk_alloc ?_ _)); refine blk_put (cs := #[.int .i64 0, .slice none 0 0]) ?_ 0 _ rfl; (with_reducible repeat (first | refine blk_drewN ?_ _ | refine blk_drew ?_ | refine blk_alloc ?_ _)); exact BK757.out) hb); have n4_ := aM (below_step (bl1 HB GE757) hb); clear HO750; clear HO753; clear HO756; clear BK757; clear HB; have HO750 := n0_; have HO753 := n1_; have HO756 := n2_; have BK757 := n3_; have HB := n4_; clear n0_ n1_ n2_ n3_ n4_; (try clear hb); (try clear hb2); (try clear hk); (try clear hi); have hcz17_0 : w16.cell? ⟨gb757, 0, none⟩ = some (.int .i64 t747) := (blk_cell BK757.out 0).trans rfl; have hcz17_1 : w16.cell? ⟨gb757, 1, none⟩ = some (.slice Ao13 t748.length co13) := (blk_cell BK757.out 1).trans rfl; have hfz17_0 := blk_frozen BK757.out 0; have hfz17_1 := blk_frozen BK757.out 1) | ((with_reducible refine gate_callee (f := 44) rfl ?_); refine goesL_ (some 27) rfl rfl Tryd.func44 (by kernel_rfl) rfl #[.agg #[.int .i64 t747, .slice Ao13 t748.length co13], .slice Ao14 t751.length co14, .slice Ao15 t754.length co15] rfl mP ?_; (with_reducible refine (spec_ServedLoad.calls k t747 _ _ t748 _ _ t751 _ _ t754 t759 _ ?side1 ?side2 ?side3 ?side4 ?side5 ?side6 A5.out).mono ?_); (case side1 => exact gC ((Kd.R_reads' HO750.out).2.2)); (case side2 => exact (Kd.R_reads' HO750.out).2.1); (case side3 => exact gC ((Kd.R_reads' HO753.out).2.2)); (case side4 => exact (Kd.R_reads' HO753.out).2.1); (case side5 => exact gC ((Kd.R_reads' HO756.out).2.2)); (case side6 => exact (Kd.R_reads' HO756.out).2.1); rintro e w18 ⟨rfl, hb⟩; refine ⟨_, rfl, ?_⟩; have n0_ := aM (Kd.R_below (gR (HO750.out)) hb); have n1_ := aM (Kd.R_below (gR (HO753.out)) hb); have n2_ := aM (Kd.R_below (gR (HO756.out)) hb); have n3_ := aM (blk_below (g := gb757) (o := .cells #[.int .i64 t747, .slice Ao13 t748.length co13] 25 (0, 0)) (gB (BK757.out)) hb); have n4_ := aM (below_step (bl1 HB GE757) hb); clear HO750; clear HO753; clear HO756; clear BK757; clear HB; have HO750 := n0_; have HO753 := n1_; have HO756 := n2_; have BK757 := n3_; have HB := n4_; clear n0_ n1_ n2_ n3_ n4_; (try clear hb); (try clear hb2); (try clear hk); (try clear hi)) | (go_at_call 17; (with_reducible refine (laws_alive.calls k  t760 _ A9.out).mono ?_); rintro e w19 ⟨rfl, hb⟩; have n0_ := aM (Kd.R_below (gR (HO750.out)) hb); have n1_ := aM (Kd.R_below (gR (HO753.out)) hb); have n2_ := aM (Kd.R_below (gR (HO756.out)) hb); have n3_ := aM (blk_below (g := gb757) (o := .cells #[.int .i64 t747, .slice Ao13 t748.length co13] 25 (0, 0)) (gB (BK757.out)) hb); have n4_ := aM (below_step (bl1 HB GE757) hb); clear HO750; clear HO753; clear HO756; clear BK757; clear HB; have HO750 := n0_; have HO753 := n1_; have HO756 := n2_; have BK757 := n3_; have HB := n4_; clear n0_ n1_ n2_ n3_ n4_; (try clear hb); (try clear hb2); (try clear hk); (try clear hi)))
  go_ret
  exact ⟨fR, bl1 HB GE757⟩
 rw [if_neg c7] at H
 have c7b0 : decide (t758 < 0) = false := decide_eq_false c7
 clear c7
 replace H := Option.bind_eq_some_iff.mp H
 obtain ⟨t761, A200, H⟩ := H
 replace H : (laws_FnServedLoad.l0 k t751 t754 t758 0 t761 0 t747 t748) = some r := H
 have A20 := Aside0.mk A200
 clear A200
 have H' := Aside0.mk H
 clear H
 go_enter Tryd.func8, Tryd.ntmps8
 go_wp2_with (first | ((with_reducible refine gate_callee (f := 42) rfl ?_); refine goesL_ (some 15) rfl rfl Tryd.func42 (by kernel_rfl) rfl #[.slice A0 l0.length c0] rfl mP ?_; (with_reducible refine (spec_DrawServedLoad.calls k _ _ l0 t747 t748 t751 t754 _ ?side1 ?side2 A3.out).mono ?_); (case side1 => exact gC (HR0.out)); (case side2 => exact HC0.out); rintro e w21 ⟨v749, v752, v755, rfl, ho0, ho1, ho2, hb⟩; refine ⟨_, rfl, ?_⟩; have n0_ := aM (Kd.R_lower ho0 (below_size (bl0 HB))); have n1_ := aM (Kd.R_lower ho1 (below_size (bl0 HB))); have n2_ := aM (Kd.R_lower ho2 (below_size (bl0 HB))); have n3_ := aM (below_step (bl0 HB) hb); clear HB; have HO750 := n0_; have HO753 := n1_; have HO756 := n2_; have HB := n3_; clear n0_ n1_ n2_ n3_; (try clear hb); (try clear hb2); (try clear hk); (try clear hi); (try clear ho0); (try clear ho1); (try clear ho2)) | ((with_reducible refine gate_dst (N := 3) rfl ?_); refine box_event ?hg (N := 3) ?hd (cs := #[.int .i64 0, .slice none 0 0]) (t := 25) ?hr ?_; (case hd => rfl); (case hg => rfl); (case hr => exact hR); intro gb757 hg w22 hbox hb; have n0_ := aM (Kd.R_below (gR (HO750.out)) hb); have n1_ := aM (Kd.R_below (gR (HO753.out)) hb); have n2_ := aM (Kd.R_below (gR (HO756.out)) hb); have n3_ := aM (below_step (bl0 HB) hb); have n4_ := aM (hbox); have n5_ := aM ((by rw [hg]; exact (below_size (bl0 HB)) : w.heap.size ≤ gb757)); have n6_ := aM ((by rw [hg]; exact (below_size (bl0 HB)) : w.heap.size ≤ gb757)); clear HO750; clear HO753; clear HO756; clear HB; have HO750 := n0_; have HO753 := n1_; have HO756 := n2_; have HB := n3_; have BK757 := n4_; have GW757 := n5_; have GE757 := n6_; clear n0_ n1_ n2_ n3_ n4_ n5_ n6_; clear hb hbox hg; have hcz23_0 : w22.cell? ⟨gb757, 0, none⟩ = some (.int .i64 0) := (blk_cell BK757.out 0).trans rfl; have hcz23_1 : w22.cell? ⟨gb757, 1, none⟩ = some (.slice none 0 0) := (blk_cell BK757.out 1).trans rfl; have hfz23_0 := blk_frozen BK757.out 0; have hfz23_1 := blk_frozen BK757.out 1; obtain ⟨Ao24, co24, eo24⟩ := Kd.R_slice HO750.out; subst eo24; obtain ⟨Ao25, co25, eo25⟩ := Kd.R_slice HO753.out; subst eo25; obtain ⟨Ao26, co26, eo26⟩ := Kd.R_slice HO756.out; subst eo26) | ((with_reducible refine gate_callee (f := 43) rfl ?_); refine goesL_ (some 22) rfl rfl Tryd.func43 (by kernel_rfl) rfl #[.agg #[.int .i64 t747, .slice Ao24 t748.length co24], .slice Ao25 t751.length co25, .slice Ao26 t754.length co26] rfl mP ?_; (with_reducible refine (impl_ServedLoad.calls k t747 _ _ t748 _ _ t751 _ _ t754 t758 _ ?side1 ?side2 ?side3 ?side4 ?side5 ?side6 A4.out).mono ?_); (case side1 => refine (Kd.R_reads' (e := 79) (base := w.heap.size) (ok := fun k_ => True) (n := t748.length) (c := co24) ?_).2.2; exact (by (with_reducible repeat (first | apply Kd.R_alloc | apply Kd.R_drewN | apply Kd.R_drew)); exact (Kd.R_mono (Kd.R_far (p := ⟨gb757, 1, none⟩) (Kd.R_far (p := ⟨gb757, 0, none⟩) (Kd.R_types HO750.out BK757.out (by decide)) (fun _ hk => hk.2) (.int .i64 t747)) (fun _ hk => hk.2) (.slice Ao24 t748.length co24)) (fun _ h_ => h_.1)))); (case side2 => exact (Kd.R_reads' HO750.out).2.1); (case side3 => refine (Kd.R_reads' (e := 4) (base := w.heap.size) (ok := fun k_ => True) (n := t751.length) (c := co25) ?_).2.2; exact (by (with_reducible repeat (first | apply Kd.R_alloc | apply Kd.R_drewN | apply Kd.R_drew)); exact (Kd.R_mono (Kd.R_far (p := ⟨gb757, 1, none⟩) (Kd.R_far (p := ⟨gb757, 0, none⟩) (Kd.R_types HO753.out BK757.out (by decide)) (fun _ hk => hk.2) (.int .i64 t747)) (fun _ hk => hk.2) (.slice Ao24 t748.length co24)) (fun _ h_ => h_.1)))); (case side4 => exact (Kd.R_reads' HO753.out).2.1); (case side5 => refine (Kd.R_reads' (e := 33) (base := w.heap.size) (ok := fun k_ => True) (n := t754.length) (c := co26) ?_).2.2; exact (by (with_reducible repeat (first | apply Kd.R_alloc | apply Kd.R_drewN | apply Kd.R_drew)); exact (Kd.R_mono (Kd.R_far (p := ⟨gb757, 1, none⟩) (Kd.R_far (p := ⟨gb757, 0, none⟩) (Kd.R_types HO756.out BK757.out (by decide)) (fun _ hk => hk.2) (.int .i64 t747)) (fun _ hk => hk.2) (.slice Ao24 t748.length co24)) (fun _ h_ => h_.1)))); (case side6 => exact (Kd.R_reads' HO756.out).2.1); rintro e w27 ⟨rfl, hb⟩; refine ⟨_, rfl, ?_⟩; have n0_ := aM (Kd.R_below (by (with_reducible repeat (first | apply Kd.R_alloc | apply Kd.R_drewN | apply Kd.R_drew)); exact (Kd.R_mono (Kd.R_far (p := ⟨gb757, 1, none⟩) (Kd.R_far (p := ⟨gb757, 0, none⟩) (Kd.R_types HO750.out BK757.out (by decide)) (fun _ hk => hk.2) (.int .i64 t747)) (fun _ hk => hk.2) (.slice Ao24 t748.length co24)) (fun _ h_ => h_.1))) hb); have n1_ := aM (Kd.R_below (by (with_reducible repeat (first | apply Kd.R_alloc | apply Kd.R_drewN | apply Kd.R_drew)); exact (Kd.R_mono (Kd.R_far (p := ⟨gb757, 1, none⟩) (Kd.R_far (p := ⟨gb757, 0, none⟩) (Kd.R_types HO753.out BK757.out (by decide)) (fun _ hk => hk.2) (.int .i64 t747)) (fun _ hk => hk.2) (.slice Ao24 t748.length co24)) (fun _ h_ => h_.1))) hb); have n2_ := aM (Kd.R_below (by (with_reducible repeat (first | apply Kd.R_alloc | apply Kd.R_drewN | apply Kd.R_drew)); exact (Kd.R_mono (Kd.R_far (p := ⟨gb757, 1, none⟩) (Kd.R_far (p := ⟨gb757, 0, none⟩) (Kd.R_types HO756.out BK757.out (by decide)) (fun _ hk => hk.2) (.int .i64 t747)) (fun _ hk => hk.2) (.slice Ao24 t748.length co24)) (fun _ h_ => h_.1))) hb); have n3_ := aM (blk_below (g := gb757) (o := .cells #[.int .i64 t747, .slice Ao24 t748.length co24] 25 (0, 0)) (by (with_reducible repeat (first | refine blk_drewN ?_ _ | refine blk_drew ?_ | refine blk_alloc ?_ _)); refine blk_put (cs := #[.int .i64 t747, .slice none 0 0]) ?_ 1 _ rfl; (with_reducible repeat (first | refine blk_drewN ?_ _ | refine blk_drew ?_ | refine blk_alloc ?_ _)); refine blk_put (cs := #[.int .i64 0, .slice none 0 0]) ?_ 0 _ rfl; (with_reducible repeat (first | refine blk_drewN ?_ _ | refine blk_drew ?_ | refine blk_alloc ?_ _)); exact BK757.out) hb); have n4_ := aM (below_step (bl1 HB GE757) hb); clear HO750; clear HO753; clear HO756; clear BK757; clear HB; have HO750 := n0_; have HO753 := n1_; have HO756 := n2_; have BK757 := n3_; have HB := n4_; clear n0_ n1_ n2_ n3_ n4_; (try clear hb); (try clear hb2); (try clear hk); (try clear hi); have hcz28_0 : w27.cell? ⟨gb757, 0, none⟩ = some (.int .i64 t747) := (blk_cell BK757.out 0).trans rfl; have hcz28_1 : w27.cell? ⟨gb757, 1, none⟩ = some (.slice Ao24 t748.length co24) := (blk_cell BK757.out 1).trans rfl; have hfz28_0 := blk_frozen BK757.out 0; have hfz28_1 := blk_frozen BK757.out 1) | ((with_reducible refine gate_callee (f := 44) rfl ?_); refine goesL_ (some 27) rfl rfl Tryd.func44 (by kernel_rfl) rfl #[.agg #[.int .i64 t747, .slice Ao24 t748.length co24], .slice Ao25 t751.length co25, .slice Ao26 t754.length co26] rfl mP ?_; (with_reducible refine (spec_ServedLoad.calls k t747 _ _ t748 _ _ t751 _ _ t754 t759 _ ?side1 ?side2 ?side3 ?side4 ?side5 ?side6 A5.out).mono ?_); (case side1 => exact gC ((Kd.R_reads' HO750.out).2.2)); (case side2 => exact (Kd.R_reads' HO750.out).2.1); (case side3 => exact gC ((Kd.R_reads' HO753.out).2.2)); (case side4 => exact (Kd.R_reads' HO753.out).2.1); (case side5 => exact gC ((Kd.R_reads' HO756.out).2.2)); (case side6 => exact (Kd.R_reads' HO756.out).2.1); rintro e w29 ⟨rfl, hb⟩; refine ⟨_, rfl, ?_⟩; have n0_ := aM (Kd.R_below (gR (HO750.out)) hb); have n1_ := aM (Kd.R_below (gR (HO753.out)) hb); have n2_ := aM (Kd.R_below (gR (HO756.out)) hb); have n3_ := aM (blk_below (g := gb757) (o := .cells #[.int .i64 t747, .slice Ao24 t748.length co24] 25 (0, 0)) (gB (BK757.out)) hb); have n4_ := aM (below_step (bl1 HB GE757) hb); clear HO750; clear HO753; clear HO756; clear BK757; clear HB; have HO750 := n0_; have HO753 := n1_; have HO756 := n2_; have BK757 := n3_; have HB := n4_; clear n0_ n1_ n2_ n3_ n4_; (try clear hb); (try clear hb2); (try clear hk); (try clear hi); have hcz30_0 : w29.cell? ⟨gb757, 0, none⟩ = some (.int .i64 t747) := (blk_cell BK757.out 0).trans rfl; have hcz30_1 : w29.cell? ⟨gb757, 1, none⟩ = some (.slice Ao24 t748.length co24) := (blk_cell BK757.out 1).trans rfl; have hfz30_0 := blk_frozen BK757.out 0; have hfz30_1 := blk_frozen BK757.out 1) | ((with_reducible refine gate_callee (f := 19) rfl ?_); refine goesL_ (some 38) rfl rfl Tryd.func19 (by kernel_rfl) rfl #[.agg #[.int .i64 t747, .slice Ao24 t748.length co24], .slice Ao25 t751.length co25] rfl mP ?_; (with_reducible refine (impl_IslandsOf.calls k t747 _ _ t748 _ _ t751 t761 _ ?side1 ?side2 ?side3 ?side4 A20.out).mono ?_); (case side1 => exact gC ((Kd.R_reads' HO750.out).2.2)); (case side2 => exact (Kd.R_reads' HO750.out).2.1); (case side3 => exact gC ((Kd.R_reads' HO753.out).2.2)); (case side4 => exact (Kd.R_reads' HO753.out).2.1); rintro e w31 ⟨v762, rfl, ho0, hb⟩; refine ⟨_, rfl, ?_⟩; have n0_ := aM (Kd.R_below (gR (HO750.out)) hb); have n1_ := aM (Kd.R_below (gR (HO753.out)) hb); have n2_ := aM (Kd.R_below (gR (HO756.out)) hb); have n3_ := aM (Kd.S_lower ho0 (below_size (bl1 HB GE757))); have n4_ := aM (blk_below (g := gb757) (o := .cells #[.int .i64 t747, .slice Ao24 t748.length co24] 25 (0, 0)) (gB (BK757.out)) hb); have n5_ := aM (below_step (bl1 HB GE757) hb); clear HO750; clear HO753; clear HO756; clear BK757; clear HB; have HO750 := n0_; have HO753 := n1_; have HO756 := n2_; have HO763 := n3_; have BK757 := n4_; have HB := n5_; clear n0_ n1_ n2_ n3_ n4_ n5_; (try clear hb); (try clear hb2); (try clear hk); (try clear hi); (try clear ho0)))
 go_loopg [7, 9] k (fun kq v7 v9 w' => ∃ (x7_1 : Int) (x9_1 : Int), v7 = .int .i64 x7_1 ∧ v9 = .int .i64 x9_1 ∧ Aside0 (laws_FnServedLoad.l0 kq t751 t754 t758 x7_1 t761 x9_1 t747 t748 = some r) ∧ Aside0 (kq ≤ k) ∧ Aside0 (Kd.R Kd.bool 4 w' w.heap.size (fun _ => True) (.slice Ao25 t751.length co25) t751) ∧ Aside0 (Kd.R k33 33 w' w.heap.size (fun _ => True) (.slice Ao26 t754.length co26) t754) ∧ Aside0 (Kd.S (Kd.slice 3 (Kd.int .i64)) 37 w' w.heap.size (fun _ => True) v762 t761) ∧ Aside0 (Kd.R k79 79 w' w.heap.size (fun _ => True) (.slice Ao24 t748.length co24) t748) ∧ Aside0 (w'.heap[gb757]? = some (.cells #[.int .i64 t747, (.slice Ao24 t748.length co24)] 25 (0, 0))) ∧ Aside0 (Below w.heap.size w w'))
 case atStart => exact ⟨(0), (0), fS, fS, H', ⟨Nat.le_refl _⟩, ⟨gR (HO753.out)⟩, ⟨gR (HO756.out)⟩, ⟨gS (HO763.out)⟩, ⟨gR (HO750.out)⟩, ⟨gB (BK757.out)⟩, ⟨bl1 HB GE757⟩⟩
 case round =>
  clear H'
  try clear c1
  try clear c2
  try clear c2b0
  try clear c2b1
  try clear p2
  try clear c4
  try clear c6
  try clear c6b0
  try clear c6b1
  try clear c7
  try clear c7b0
  try clear c8
  try clear c8b0
  try clear c8b1
  try clear c19
  try clear hcz12_0
  try clear hcz12_1
  try clear hcz17_0
  try clear hcz17_1
  try clear hcz23_0
  try clear hcz23_1
  try clear hcz28_0
  try clear hcz28_1
  try clear hcz30_0
  try clear hcz30_1
  try clear hfz12_0
  try clear hfz12_1
  try clear hfz17_0
  try clear hfz17_1
  try clear hfz23_0
  try clear hfz23_1
  try clear hfz28_0
  try clear hfz28_1
  try clear hfz30_0
  try clear hfz30_1
  obtain ⟨x7_1, x9_1, rfl, rfl, HA, HK1, HO_4, HO_5, HO_8, HO_758001, BK757, HB⟩ := hrel
  cases gk with
  | zero => exact absurd HA.out (by simp [laws_FnServedLoad.l0])
  | succ k1 =>
   have H := HA.out
   clear HA
   simp only [laws_FnServedLoad.l0] at H
   by_cases c32 : x9_1 < (t761.length : Int)
   rotate_left
   ·
    rw [if_neg c32] at H
    have c32b0 : decide (x9_1 < (t761.length : Int)) = false := decide_eq_false c32
    clear c32
    by_cases c52 : x7_1 = t758
    rotate_left
    ·
     rw [if_neg c52] at H
     exact absurd H (by simp)
    rw [if_pos c52] at H
    have c52b0 : (x7_1 == t758) = true := beq_iff_eq.mpr c52
    have c52b1 : (x7_1 != t758) = false := bne_eq_false_iff_eq.mpr c52
    clear c52
    replace H := Option.bind_eq_some_iff.mp H
    obtain ⟨t764, A530, H⟩ := H
    replace H : (some (decide (t758 ≤ t764))) = some r := H
    have A53 := Aside0.mk A530
    clear A530
    obtain rfl := Option.some.inj H
    obtain ⟨Ao54, co54, eo54⟩ := Kd.S_slice HO_8.out
    subst eo54
    go_wp2_with (first | (go_at_call 30; (with_reducible refine (laws_loads.calls k1 _ _ t754 t764 _ ?side1 ?side2 A53.out).mono ?_); (case side1 => exact gC ((Kd.R_reads' HO_5.out).2.2)); (case side2 => exact (Kd.R_reads' HO_5.out).2.1); rintro e w' ⟨rfl, ⟨nd, rfl⟩⟩))
    go_ret
    exact ⟨fR, bl1 HB GE757⟩
   rw [if_pos c32] at H
   have c32b0 : decide (x9_1 < (t761.length : Int)) = true := decide_eq_true c32
   clear c32
   by_cases c33 : 0 ≤ x9_1
   rotate_left
   ·
    rw [if_neg c33] at H
    exact absurd H (by simp)
   rw [if_pos c33] at H
   have c33b0 : decide (0 ≤ x9_1) = true := decide_eq_true c33
   clear c33
   by_cases c34 : ((rd_L9 t761 x9_1).length : Int) > 0
   rotate_left
   ·
    rw [if_neg c34] at H
    have c34b0 : decide (0 < ((rd_L9 t761 x9_1).length : Int)) = false := decide_eq_false c34
    have c34b1 : decide (0 < (rd_L9 t761 x9_1).length) = false := decide_eq_false (by omega)
    clear c34
    have H' := Aside0.mk H
    clear H
    obtain ⟨Ao50, co50, eo50⟩ := Kd.S_slice HO_8.out
    subst eo50
    try go_wp2
    have n0_ := aM (Kd.R_drew HO_4.out)
    have n1_ := aM (Kd.R_drew HO_5.out)
    have n2_ := aM (Kd.S_drew HO_8.out)
    have n3_ := aM (Kd.R_drew HO_758001.out)
    have n4_ := aM (blk_drew BK757.out)
    have n5_ := aM (below_drew1 HB.out)
    clear HO_4
    clear HO_5
    clear HO_8
    clear HO_758001
    clear BK757
    clear HB
    have HO_4 := n0_
    have HO_5 := n1_
    have HO_8 := n2_
    have HO_758001 := n3_
    have BK757 := n4_
    have HB := n5_
    clear n0_ n1_ n2_ n3_ n4_ n5_
    have p765 : 0 ≤ (x9_1 : Int) := oD
    have q765 : x9_1 < (t761.length : Int) := oD
    obtain ⟨ad765, A765_0, c765_0, e765, hx765_0, hl765_0, hi765_0⟩ := at_L9 (Kd.S_reads' HO_8.out).2.2 x9_1 p765 q765
    cases e765
    obtain ⟨ce765, hce765, hMe765, hcc765⟩ := Kd.S_get HO_8.out [] x9_1 p765 (by first | exact q765 | exact oD | (have e_ := (Kd.S_reads' HO_8.out).1; omega))
    obtain ⟨ve765_0, rfl, ge765_0⟩ := hMe765
    have hv765_0 := hcc765 0 _ rfl
    rw [Nat.add_zero, show ((Kd.slice 3 (Kd.int .i64))).sz = 1 from rfl, Nat.mul_one] at hv765_0
    replace hv765_0 := Option.some.inj (hv765_0.symm.trans hx765_0)
    rw [hv765_0] at ge765_0
    have HL765_0 := aM (show Kd.R (Kd.int .i64) 3 _ _ _ _ (rd_L9 t761 x9_1) from ge765_0)
    clear hv765_0 ge765_0
    clear hcc765 hce765
    have HR765_0 := Aside0.mk hi765_0
    have HC765_0 := Aside0.mk hl765_0
    clear hi765_0 hl765_0
    replace p765 := eq_true p765
    replace q765 := eq_true q765
    refine start_ (n := 29) (S := fun w' => w'.cell? (ad765.add (x9_1).toNat) = some (.slice A765_0 (rd_L9 t761 x9_1).length c765_0)) (ds := []) #[false, false, false, false, false, false, false, false, false, false, false, false, false, false, false, false, false, false, false, false, false, false, false, false, false, false, false, false, false] (by kernel_rfl) rfl rfl (hx765_0) (fun hHeld => ?_); refine with_tabW laws_FnServedLoad.tab14 laws_FnServedLoad.bits14 (fun HT_ HW_ => ?_)
    generalize wr.drew = w51 at HO_4 HO_5 HO_8 HO_758001 BK757 HB HL765_0 HR765_0 hx765_0 hHeld ⊢
    refine pure_ (i := 0) (N := some 45) (v := ?_) (a' := ?_) #[true, false, false, false, false, false, false, false, false, false, false, false, false, false, false, false, false, false, false, false, false, false, false, false, false, false, false, false, false] rfl rfl (any_of HT_.out (by kernel_rfl)) (fun _ _ _ h => h) (Or.inl ⟨by rfl, ?_⟩) ?_ ?_
    rotate_left
    ·
     intro w'
     go_simp
     with_reducible rfl
    rotate_left
    ·
     simp only [Act.put, List.setIfInBounds_toArray, List.set_cons_zero, List.set_cons_succ, i64_w, i32_w]
     rfl
    refine pure_ (i := 1) (N := some 46) (v := ?_) (a' := ?_) #[true, true, false, false, false, false, false, false, false, false, false, false, false, false, false, false, false, false, false, false, false, false, false, false, false, false, false, false, false] rfl rfl (any_of HT_.out (by kernel_rfl)) (fun _ _ _ h => h) (Or.inl ⟨by rfl, ?_⟩) ?_ ?_
    rotate_left
    ·
     intro w'
     go_simp
     with_reducible rfl
    rotate_left
    ·
     simp only [Act.put, List.setIfInBounds_toArray, List.set_cons_zero, List.set_cons_succ, i64_w, i32_w]
     rfl
    refine pure_ (i := 2) (N := some 47) (v := ?_) (a' := ?_) #[true, true, true, false, false, false, false, false, false, false, false, false, false, false, false, false, false, false, false, false, false, false, false, false, false, false, false, false, false] rfl rfl (any_of HT_.out (by kernel_rfl)) (fun _ _ _ h => h) (Or.inl ⟨by rfl, ?_⟩) ?_ ?_
    rotate_left
    ·
     intro w'
     go_simp
     with_reducible rfl
    rotate_left
    ·
     simp only [Act.put, List.setIfInBounds_toArray, List.set_cons_zero, List.set_cons_succ, i64_w, i32_w]
     rfl
    refine take_ (i := 3) (N := some 48) (v := ?_) (a' := ?_) #[true, true, true, true, false, false, false, false, false, false, false, false, false, false, false, false, false, false, false, false, false, false, false, false, false, false, false, false, false] rfl rfl (take_ofW HT_.out HW_.out (by kernel_rfl)) (fun _ _ _ h => h) (Or.inl ⟨by rfl, ?_⟩) hHeld ?_ ?_
    rotate_left
    ·
     intro w' s0
     go_simp
     with_reducible rfl
    rotate_left
    ·
     simp only [Act.put, List.setIfInBounds_toArray, List.set_cons_zero, List.set_cons_succ, i64_w, i32_w]
     rfl
    refine pure_ (i := 4) (N := some 49) (v := ?_) (a' := ?_) #[true, true, true, true, true, false, false, false, false, false, false, false, false, false, false, false, false, false, false, false, false, false, false, false, false, false, false, false, false] rfl rfl (any_of HT_.out (by kernel_rfl)) (fun _ _ _ h => h) (Or.inl ⟨by rfl, ?_⟩) ?_ ?_
    rotate_left
    ·
     intro w'
     go_simp
     with_reducible rfl
    rotate_left
    ·
     simp only [Act.put, List.setIfInBounds_toArray, List.set_cons_zero, List.set_cons_succ, i64_w, i32_w]
     rfl
    refine pure_ (i := 5) (N := some 50) (v := ?_) (a' := ?_) #[true, true, true, true, true, true, false, false, false, false, false, false, false, false, false, false, false, false, false, false, false, false, false, false, false, false, false, false, false] rfl rfl (any_of HT_.out (by kernel_rfl)) (fun _ _ _ h => h) (Or.inl ⟨by rfl, ?_⟩) ?_ ?_
    rotate_left
    ·
     intro w'
     go_simp
     with_reducible rfl
    rotate_left
    ·
     simp only [Act.put, List.setIfInBounds_toArray, List.set_cons_zero, List.set_cons_succ, i64_w, i32_w]
     rfl
    refine pure_ (i := 6) (N := some 51) (v := ?_) (a' := ?_) #[true, true, true, true, true, true, true, false, false, false, false, false, false, false, false, false, false, false, false, false, false, false, false, false, false, false, false, false, false] rfl rfl (any_of HT_.out (by kernel_rfl)) (fun _ _ _ h => h) (Or.inl ⟨by rfl, ?_⟩) ?_ ?_
    rotate_left
    ·
     intro w'
     go_simp
     with_reducible rfl
    rotate_left
    ·
     simp only [Act.put, List.setIfInBounds_toArray, List.set_cons_zero, List.set_cons_succ, i64_w, i32_w]
     rfl
    refine pure_ (i := 7) (N := some 52) (v := undef) (a' := ?_) #[true, true, true, true, true, true, true, true, false, false, false, false, false, false, false, false, false, false, false, false, false, false, false, false, false, false, false, false, false] rfl rfl (any_of HT_.out (by kernel_rfl)) (fun _ _ _ h => h) (Or.inr ⟨by rfl, rfl⟩) ?_ ?_
    rotate_left
    ·
     simp only [Act.put, List.setIfInBounds_toArray, List.set_cons_zero, List.set_cons_succ, i64_w, i32_w]
     rfl
    refine pure_ (i := 8) (N := some 53) (v := undef) (a' := ?_) #[true, true, true, true, true, true, true, true, true, false, false, false, false, false, false, false, false, false, false, false, false, false, false, false, false, false, false, false, false] rfl rfl (any_of HT_.out (by kernel_rfl)) (fun _ _ _ h => h) (Or.inr ⟨by rfl, rfl⟩) ?_ ?_
    rotate_left
    ·
     simp only [Act.put, List.setIfInBounds_toArray, List.set_cons_zero, List.set_cons_succ, i64_w, i32_w]
     rfl
    refine pure_ (i := 9) (N := some 54) (v := undef) (a' := ?_) #[true, true, true, true, true, true, true, true, true, true, false, false, false, false, false, false, false, false, false, false, false, false, false, false, false, false, false, false, false] rfl rfl (any_of HT_.out (by kernel_rfl)) (fun _ _ _ h => h) (Or.inr ⟨by rfl, rfl⟩) ?_ ?_
    rotate_left
    ·
     simp only [Act.put, List.setIfInBounds_toArray, List.set_cons_zero, List.set_cons_succ, i64_w, i32_w]
     rfl
    refine pure_ (i := 10) (N := some 55) (v := undef) (a' := ?_) #[true, true, true, true, true, true, true, true, true, true, true, false, false, false, false, false, false, false, false, false, false, false, false, false, false, false, false, false, false] rfl rfl (any_of HT_.out (by kernel_rfl)) (fun _ _ _ h => h) (Or.inr ⟨by rfl, rfl⟩) ?_ ?_
    rotate_left
    ·
     simp only [Act.put, List.setIfInBounds_toArray, List.set_cons_zero, List.set_cons_succ, i64_w, i32_w]
     rfl
    refine pure_ (i := 11) (N := some 56) (v := undef) (a' := ?_) #[true, true, true, true, true, true, true, true, true, true, true, true, false, false, false, false, false, false, false, false, false, false, false, false, false, false, false, false, false] rfl rfl (any_of HT_.out (by kernel_rfl)) (fun _ _ _ h => h) (Or.inr ⟨by rfl, rfl⟩) ?_ ?_
    rotate_left
    ·
     simp only [Act.put, List.setIfInBounds_toArray, List.set_cons_zero, List.set_cons_succ, i64_w, i32_w]
     rfl
    refine pure_ (i := 12) (N := some 57) (v := undef) (a' := ?_) #[true, true, true, true, true, true, true, true, true, true, true, true, true, false, false, false, false, false, false, false, false, false, false, false, false, false, false, false, false] rfl rfl (any_of HT_.out (by kernel_rfl)) (fun _ _ _ h => h) (Or.inr ⟨by rfl, rfl⟩) ?_ ?_
    rotate_left
    ·
     simp only [Act.put, List.setIfInBounds_toArray, List.set_cons_zero, List.set_cons_succ, i64_w, i32_w]
     rfl
    refine pure_ (i := 13) (N := some 58) (v := undef) (a' := ?_) #[true, true, true, true, true, true, true, true, true, true, true, true, true, true, false, false, false, false, false, false, false, false, false, false, false, false, false, false, false] rfl rfl (any_of HT_.out (by kernel_rfl)) (fun _ _ _ h => h) (Or.inr ⟨by rfl, rfl⟩) ?_ ?_
    rotate_left
    ·
     simp only [Act.put, List.setIfInBounds_toArray, List.set_cons_zero, List.set_cons_succ, i64_w, i32_w]
     rfl
    refine pure_ (i := 14) (N := some 59) (v := undef) (a' := ?_) #[true, true, true, true, true, true, true, true, true, true, true, true, true, true, true, false, false, false, false, false, false, false, false, false, false, false, false, false, false] rfl rfl (any_of HT_.out (by kernel_rfl)) (fun _ _ _ h => h) (Or.inr ⟨by rfl, rfl⟩) ?_ ?_
    rotate_left
    ·
     simp only [Act.put, List.setIfInBounds_toArray, List.set_cons_zero, List.set_cons_succ, i64_w, i32_w]
     rfl
    refine pure_ (i := 15) (N := some 60) (v := undef) (a' := ?_) #[true, true, true, true, true, true, true, true, true, true, true, true, true, true, true, true, false, false, false, false, false, false, false, false, false, false, false, false, false] rfl rfl (any_of HT_.out (by kernel_rfl)) (fun _ _ _ h => h) (Or.inr ⟨by rfl, rfl⟩) ?_ ?_
    rotate_left
    ·
     simp only [Act.put, List.setIfInBounds_toArray, List.set_cons_zero, List.set_cons_succ, i64_w, i32_w]
     rfl
    refine pure_ (i := 16) (N := some 61) (v := undef) (a' := ?_) #[true, true, true, true, true, true, true, true, true, true, true, true, true, true, true, true, true, false, false, false, false, false, false, false, false, false, false, false, false] rfl rfl (any_of HT_.out (by kernel_rfl)) (fun _ _ _ h => h) (Or.inr ⟨by rfl, rfl⟩) ?_ ?_
    rotate_left
    ·
     simp only [Act.put, List.setIfInBounds_toArray, List.set_cons_zero, List.set_cons_succ, i64_w, i32_w]
     rfl
    refine pure_ (i := 17) (N := some 62) (v := undef) (a' := ?_) #[true, true, true, true, true, true, true, true, true, true, true, true, true, true, true, true, true, true, false, false, false, false, false, false, false, false, false, false, false] rfl rfl (any_of HT_.out (by kernel_rfl)) (fun _ _ _ h => h) (Or.inr ⟨by rfl, rfl⟩) ?_ ?_
    rotate_left
    ·
     simp only [Act.put, List.setIfInBounds_toArray, List.set_cons_zero, List.set_cons_succ, i64_w, i32_w]
     rfl
    refine pure_ (i := 18) (N := some 63) (v := undef) (a' := ?_) #[true, true, true, true, true, true, true, true, true, true, true, true, true, true, true, true, true, true, true, false, false, false, false, false, false, false, false, false, false] rfl rfl (any_of HT_.out (by kernel_rfl)) (fun _ _ _ h => h) (Or.inr ⟨by rfl, rfl⟩) ?_ ?_
    rotate_left
    ·
     simp only [Act.put, List.setIfInBounds_toArray, List.set_cons_zero, List.set_cons_succ, i64_w, i32_w]
     rfl
    refine pure_ (i := 19) (N := some 64) (v := undef) (a' := ?_) #[true, true, true, true, true, true, true, true, true, true, true, true, true, true, true, true, true, true, true, true, false, false, false, false, false, false, false, false, false] rfl rfl (any_of HT_.out (by kernel_rfl)) (fun _ _ _ h => h) (Or.inr ⟨by rfl, rfl⟩) ?_ ?_
    rotate_left
    ·
     simp only [Act.put, List.setIfInBounds_toArray, List.set_cons_zero, List.set_cons_succ, i64_w, i32_w]
     rfl
    refine pure_ (i := 20) (N := some 65) (v := undef) (a' := ?_) #[true, true, true, true, true, true, true, true, true, true, true, true, true, true, true, true, true, true, true, true, true, false, false, false, false, false, false, false, false] rfl rfl (any_of HT_.out (by kernel_rfl)) (fun _ _ _ h => h) (Or.inr ⟨by rfl, rfl⟩) ?_ ?_
    rotate_left
    ·
     simp only [Act.put, List.setIfInBounds_toArray, List.set_cons_zero, List.set_cons_succ, i64_w, i32_w]
     rfl
    refine pure_ (i := 21) (N := some 66) (v := undef) (a' := ?_) #[true, true, true, true, true, true, true, true, true, true, true, true, true, true, true, true, true, true, true, true, true, true, false, false, false, false, false, false, false] rfl rfl (any_of HT_.out (by kernel_rfl)) (fun _ _ _ h => h) (Or.inr ⟨by rfl, rfl⟩) ?_ ?_
    rotate_left
    ·
     simp only [Act.put, List.setIfInBounds_toArray, List.set_cons_zero, List.set_cons_succ, i64_w, i32_w]
     rfl
    refine pure_ (i := 22) (N := some 67) (v := undef) (a' := ?_) #[true, true, true, true, true, true, true, true, true, true, true, true, true, true, true, true, true, true, true, true, true, true, true, false, false, false, false, false, false] rfl rfl (any_of HT_.out (by kernel_rfl)) (fun _ _ _ h => h) (Or.inr ⟨by rfl, rfl⟩) ?_ ?_
    rotate_left
    ·
     simp only [Act.put, List.setIfInBounds_toArray, List.set_cons_zero, List.set_cons_succ, i64_w, i32_w]
     rfl
    refine pure_ (i := 23) (N := some 68) (v := undef) (a' := ?_) #[true, true, true, true, true, true, true, true, true, true, true, true, true, true, true, true, true, true, true, true, true, true, true, true, false, false, false, false, false] rfl rfl (any_of HT_.out (by kernel_rfl)) (fun _ _ _ h => h) (Or.inr ⟨by rfl, rfl⟩) ?_ ?_
    rotate_left
    ·
     simp only [Act.put, List.setIfInBounds_toArray, List.set_cons_zero, List.set_cons_succ, i64_w, i32_w]
     rfl
    refine pure_ (i := 24) (N := some 69) (v := undef) (a' := ?_) #[true, true, true, true, true, true, true, true, true, true, true, true, true, true, true, true, true, true, true, true, true, true, true, true, true, false, false, false, false] rfl rfl (any_of HT_.out (by kernel_rfl)) (fun _ _ _ h => h) (Or.inr ⟨by rfl, rfl⟩) ?_ ?_
    rotate_left
    ·
     simp only [Act.put, List.setIfInBounds_toArray, List.set_cons_zero, List.set_cons_succ, i64_w, i32_w]
     rfl
    refine pure_ (i := 25) (N := some 70) (v := undef) (a' := ?_) #[true, true, true, true, true, true, true, true, true, true, true, true, true, true, true, true, true, true, true, true, true, true, true, true, true, true, false, false, false] rfl rfl (any_of HT_.out (by kernel_rfl)) (fun _ _ _ h => h) (Or.inr ⟨by rfl, rfl⟩) ?_ ?_
    rotate_left
    ·
     simp only [Act.put, List.setIfInBounds_toArray, List.set_cons_zero, List.set_cons_succ, i64_w, i32_w]
     rfl
    refine pure_ (i := 26) (N := some 71) (v := undef) (a' := ?_) #[true, true, true, true, true, true, true, true, true, true, true, true, true, true, true, true, true, true, true, true, true, true, true, true, true, true, true, false, false] rfl rfl (any_of HT_.out (by kernel_rfl)) (fun _ _ _ h => h) (Or.inr ⟨by rfl, rfl⟩) ?_ ?_
    rotate_left
    ·
     simp only [Act.put, List.setIfInBounds_toArray, List.set_cons_zero, List.set_cons_succ, i64_w, i32_w]
     rfl
    refine pure_ (i := 27) (N := some 72) (v := undef) (a' := ?_) #[true, true, true, true, true, true, true, true, true, true, true, true, true, true, true, true, true, true, true, true, true, true, true, true, true, true, true, true, false] rfl rfl (any_of HT_.out (by kernel_rfl)) (fun _ _ _ h => h) (Or.inr ⟨by rfl, rfl⟩) ?_ ?_
    rotate_left
    ·
     simp only [Act.put, List.setIfInBounds_toArray, List.set_cons_zero, List.set_cons_succ, i64_w, i32_w]
     rfl
    refine pure_ (i := 28) (N := some 73) (v := ?_) (a' := ?_) #[true, true, true, true, true, true, true, true, true, true, true, true, true, true, true, true, true, true, true, true, true, true, true, true, true, true, true, true, true] rfl rfl (any_of HT_.out (by kernel_rfl)) (fun _ _ _ h => h) (Or.inl ⟨by rfl, ?_⟩) ?_ ?_
    rotate_left
    ·
     intro w'
     go_simp
     with_reducible rfl
    rotate_left
    ·
     simp only [Act.put, List.setIfInBounds_toArray, List.set_cons_zero, List.set_cons_succ, i64_w, i32_w]
     rfl
    refine done_ (done_of HT_.out (by kernel_rfl)) ?_
    try go_wp2
    go_roundg k1
    case measure => have := HK1.out; omega
    case rel => exact ⟨(x7_1), (wrap64 (x9_1 + 1)), fS, fS, H', ⟨by have := HK1.out; omega⟩, ⟨gR (HO_4.out)⟩, ⟨gR (HO_5.out)⟩, ⟨gS (HO_8.out)⟩, ⟨gR (HO_758001.out)⟩, ⟨gB (BK757.out)⟩, ⟨bl1 HB GE757⟩⟩
   rw [if_pos c34] at H
   have c34b0 : decide (0 < ((rd_L9 t761 x9_1).length : Int)) = true := decide_eq_true c34
   have c34b1 : decide (0 < (rd_L9 t761 x9_1).length) = true := decide_eq_true (by omega)
   clear c34
   by_cases c35 : 0 < ((rd_L9 t761 x9_1).length : Int)
   rotate_left
   ·
    rw [if_neg c35] at H
    exact absurd H (by simp)
   rw [if_pos c35] at H
   have c35b0 : decide (0 < ((rd_L9 t761 x9_1).length : Int)) = true := decide_eq_true c35
   have c35b1 : decide (0 < (rd_L9 t761 x9_1).length) = true := decide_eq_true (by omega)
   clear c35
   replace H := Option.bind_eq_some_iff.mp H
   obtain ⟨t768, A360, H⟩ := H
   replace H : ((impl_IslandLoad.f k1 t747 t748 t751 t754 (rd (rd_L9 t761 x9_1) 0)).bind fun t771 => (if t768 ≥ t771 then ((impl_IslandLoad.f k1 t747 t748 t751 t754 (rd (rd_L9 t761 x9_1) 0)).bind fun t774 => (laws_FnServedLoad.l0 k1 t751 t754 t758 (wrap64 (x7_1 + t774)) t761 (wrap64 (x9_1 + 1)) t747 t748)) else (laws_FnServedLoad.l0 k1 t751 t754 t758 x7_1 t761 (wrap64 (x9_1 + 1)) t747 t748))) = some r := H
   have A36 := Aside0.mk A360
   clear A360
   replace H := Option.bind_eq_some_iff.mp H
   obtain ⟨t771, A370, H⟩ := H
   replace H : (if t768 ≥ t771 then ((impl_IslandLoad.f k1 t747 t748 t751 t754 (rd (rd_L9 t761 x9_1) 0)).bind fun t774 => (laws_FnServedLoad.l0 k1 t751 t754 t758 (wrap64 (x7_1 + t774)) t761 (wrap64 (x9_1 + 1)) t747 t748)) else (laws_FnServedLoad.l0 k1 t751 t754 t758 x7_1 t761 (wrap64 (x9_1 + 1)) t747 t748)) = some r := H
   have A37 := Aside0.mk A370
   clear A370
   by_cases c38 : t768 ≥ t771
   rotate_left
   ·
    rw [if_neg c38] at H
    have c38b0 : decide (t771 ≤ t768) = false := decide_eq_false c38
    clear c38
    have H' := Aside0.mk H
    clear H
    obtain ⟨Ao46, co46, eo46⟩ := Kd.S_slice HO_8.out
    subst eo46
    try go_wp2
    have n0_ := aM (Kd.R_drew HO_4.out)
    have n1_ := aM (Kd.R_drew HO_5.out)
    have n2_ := aM (Kd.S_drew HO_8.out)
    have n3_ := aM (Kd.R_drew HO_758001.out)
    have n4_ := aM (blk_drew BK757.out)
    have n5_ := aM (below_drew1 HB.out)
    clear HO_4
    clear HO_5
    clear HO_8
    clear HO_758001
    clear BK757
    clear HB
    have HO_4 := n0_
    have HO_5 := n1_
    have HO_8 := n2_
    have HO_758001 := n3_
    have BK757 := n4_
    have HB := n5_
    clear n0_ n1_ n2_ n3_ n4_ n5_
    have p765 : 0 ≤ (x9_1 : Int) := oD
    have q765 : x9_1 < (t761.length : Int) := oD
    obtain ⟨ad765, A765_0, c765_0, e765, hx765_0, hl765_0, hi765_0⟩ := at_L9 (Kd.S_reads' HO_8.out).2.2 x9_1 p765 q765
    cases e765
    obtain ⟨ce765, hce765, hMe765, hcc765⟩ := Kd.S_get HO_8.out [] x9_1 p765 (by first | exact q765 | exact oD | (have e_ := (Kd.S_reads' HO_8.out).1; omega))
    obtain ⟨ve765_0, rfl, ge765_0⟩ := hMe765
    have hv765_0 := hcc765 0 _ rfl
    rw [Nat.add_zero, show ((Kd.slice 3 (Kd.int .i64))).sz = 1 from rfl, Nat.mul_one] at hv765_0
    replace hv765_0 := Option.some.inj (hv765_0.symm.trans hx765_0)
    rw [hv765_0] at ge765_0
    have HL765_0 := aM (show Kd.R (Kd.int .i64) 3 _ _ _ _ (rd_L9 t761 x9_1) from ge765_0)
    clear hv765_0 ge765_0
    clear hcc765 hce765
    have HR765_0 := Aside0.mk hi765_0
    have HC765_0 := Aside0.mk hl765_0
    clear hi765_0 hl765_0
    replace p765 := eq_true p765
    replace q765 := eq_true q765
    have p766 : 0 ≤ (x9_1 : Int) := oD
    have q766 : x9_1 < (t761.length : Int) := oD
    obtain ⟨ad766, A766_0, c766_0, e766, hx766_0, hl766_0, hi766_0⟩ := at_L9 (Kd.S_reads' HO_8.out).2.2 x9_1 p766 q766
    obtain rfl : ad765 = ad766 := (by injection e766)
    obtain ⟨ce766, hce766, hMe766, hcc766⟩ := Kd.S_get HO_8.out [] x9_1 p766 (by first | exact q766 | exact oD | (have e_ := (Kd.S_reads' HO_8.out).1; omega))
    obtain ⟨ve766_0, rfl, ge766_0⟩ := hMe766
    have hv766_0 := hcc766 0 _ rfl
    rw [Nat.add_zero, show ((Kd.slice 3 (Kd.int .i64))).sz = 1 from rfl, Nat.mul_one] at hv766_0
    replace hv766_0 := Option.some.inj (hv766_0.symm.trans hx766_0)
    rw [hv766_0] at ge766_0
    have HL766_0 := aM (show Kd.R (Kd.int .i64) 3 _ _ _ _ (rd_L9 t761 x9_1) from ge766_0)
    clear hv766_0 ge766_0
    clear hcc766 hce766
    have HR766_0 := Aside0.mk hi766_0
    have HC766_0 := Aside0.mk hl766_0
    clear hi766_0 hl766_0
    replace p766 := eq_true p766
    replace q766 := eq_true q766
    have ea_ := Option.some.inj (hx765_0.symm.trans hx766_0)
    injection ea_ with ea_ en_ ec_
    subst ea_
    subst ec_
    clear en_
    have p767 : 0 ≤ (0 : Int) := (by omega)
    have q767 : 0 < ((rd_L9 t761 x9_1).length : Int) := oD
    obtain ⟨ad767, e767, hx767_0⟩ := Kd.at_int (by repeat (first | (with_reducible exact HR766_0.out) | (with_reducible refine Kd.C_alloc ?_ _) | (with_reducible refine Kd.C_drewN ?_ _) | (with_reducible refine Kd.C_drew ?_) | exact HR766_0.out)) 0 p767 q767
    cases e767
    have qi767 : (0 < (rd_L9 t761 x9_1).length) = True := eq_true (by omega)
    (try rw [show ((0 : Int)).toNat = 0 from rfl] at hx767_0)
    (try rw [Addr.add_zero'] at hx767_0)
    replace p767 := eq_true p767
    replace q767 := eq_true q767
    have p769 : 0 ≤ (x9_1 : Int) := oD
    have q769 : x9_1 < (t761.length : Int) := oD
    obtain ⟨ad769, A769_0, c769_0, e769, hx769_0, hl769_0, hi769_0⟩ := at_L9 (Kd.S_reads' HO_8.out).2.2 x9_1 p769 q769
    obtain rfl : ad765 = ad769 := (by injection e769)
    obtain ⟨ce769, hce769, hMe769, hcc769⟩ := Kd.S_get HO_8.out [] x9_1 p769 (by first | exact q769 | exact oD | (have e_ := (Kd.S_reads' HO_8.out).1; omega))
    obtain ⟨ve769_0, rfl, ge769_0⟩ := hMe769
    have hv769_0 := hcc769 0 _ rfl
    rw [Nat.add_zero, show ((Kd.slice 3 (Kd.int .i64))).sz = 1 from rfl, Nat.mul_one] at hv769_0
    replace hv769_0 := Option.some.inj (hv769_0.symm.trans hx769_0)
    rw [hv769_0] at ge769_0
    have HL769_0 := aM (show Kd.R (Kd.int .i64) 3 _ _ _ _ (rd_L9 t761 x9_1) from ge769_0)
    clear hv769_0 ge769_0
    clear hcc769 hce769
    have HR769_0 := Aside0.mk hi769_0
    have HC769_0 := Aside0.mk hl769_0
    clear hi769_0 hl769_0
    replace p769 := eq_true p769
    replace q769 := eq_true q769
    have ea_ := Option.some.inj (hx765_0.symm.trans hx769_0)
    injection ea_ with ea_ en_ ec_
    subst ea_
    subst ec_
    clear en_
    have p770 : 0 ≤ (0 : Int) := (by omega)
    have q770 : 0 < ((rd_L9 t761 x9_1).length : Int) := oD
    obtain ⟨ad770, e770, hx770_0⟩ := Kd.at_int (by repeat (first | (with_reducible exact HR769_0.out) | (with_reducible refine Kd.C_alloc ?_ _) | (with_reducible refine Kd.C_drewN ?_ _) | (with_reducible refine Kd.C_drew ?_) | exact HR769_0.out)) 0 p770 q770
    cases e770
    have qi770 : (0 < (rd_L9 t761 x9_1).length) = True := eq_true (by omega)
    (try rw [show ((0 : Int)).toNat = 0 from rfl] at hx770_0)
    (try rw [Addr.add_zero'] at hx770_0)
    replace p770 := eq_true p770
    replace q770 := eq_true q770
    refine start_ (n := 29) (S := fun w' => w'.cell? ⟨gb757, 0, none⟩ = some (.int .i64 t747) ∧ w'.cell? ⟨gb757, 1, none⟩ = some (.slice Ao24 t748.length co24) ∧ w'.cell? (ad765.add (x9_1).toNat) = some (.slice (some ad767) (rd_L9 t761 x9_1).length c765_0) ∧ w'.cell? (ad765.add (x9_1).toNat) = some (.slice (some ad767) (rd_L9 t761 x9_1).length c765_0) ∧ w'.cell? ad767 = some (.int .i64 (rd (rd_L9 t761 x9_1) 0)) ∧ w'.cell? (ad765.add (x9_1).toNat) = some (.slice (some ad767) (rd_L9 t761 x9_1).length c765_0) ∧ w'.cell? ad767 = some (.int .i64 (rd (rd_L9 t761 x9_1) 0))) (ds := []) #[false, false, false, false, false, false, false, false, false, false, false, false, false, false, false, false, false, false, false, false, false, false, false, false, false, false, false, false, false] (by kernel_rfl) rfl rfl ⟨(blk_cell BK757.out 0).trans rfl, (blk_cell BK757.out 1).trans rfl, hx765_0, hx766_0, hx767_0, hx769_0, hx770_0⟩ (fun hHeld => ?_); refine with_tabW laws_FnServedLoad.tab14 laws_FnServedLoad.bits14 (fun HT_ HW_ => ?_)
    generalize wr.drew = w47 at HO_4 HO_5 HO_8 HO_758001 BK757 HB HL765_0 HL766_0 HL769_0 HR765_0 HR766_0 HR769_0 hx765_0 hx766_0 hx767_0 hx769_0 hx770_0 hHeld ⊢
    refine pure_ (i := 0) (N := some 45) (v := ?_) (a' := ?_) #[true, false, false, false, false, false, false, false, false, false, false, false, false, false, false, false, false, false, false, false, false, false, false, false, false, false, false, false, false] rfl rfl (any_of HT_.out (by kernel_rfl)) (fun _ _ _ h => h) (Or.inl ⟨by rfl, ?_⟩) ?_ ?_
    rotate_left
    ·
     intro w'
     go_simp
     with_reducible rfl
    rotate_left
    ·
     simp only [Act.put, List.setIfInBounds_toArray, List.set_cons_zero, List.set_cons_succ, i64_w, i32_w]
     rfl
    refine pure_ (i := 1) (N := some 46) (v := ?_) (a' := ?_) #[true, true, false, false, false, false, false, false, false, false, false, false, false, false, false, false, false, false, false, false, false, false, false, false, false, false, false, false, false] rfl rfl (any_of HT_.out (by kernel_rfl)) (fun _ _ _ h => h) (Or.inl ⟨by rfl, ?_⟩) ?_ ?_
    rotate_left
    ·
     intro w'
     go_simp
     with_reducible rfl
    rotate_left
    ·
     simp only [Act.put, List.setIfInBounds_toArray, List.set_cons_zero, List.set_cons_succ, i64_w, i32_w]
     rfl
    refine pure_ (i := 2) (N := some 47) (v := ?_) (a' := ?_) #[true, true, true, false, false, false, false, false, false, false, false, false, false, false, false, false, false, false, false, false, false, false, false, false, false, false, false, false, false] rfl rfl (any_of HT_.out (by kernel_rfl)) (fun _ _ _ h => h) (Or.inl ⟨by rfl, ?_⟩) ?_ ?_
    rotate_left
    ·
     intro w'
     go_simp
     with_reducible rfl
    rotate_left
    ·
     simp only [Act.put, List.setIfInBounds_toArray, List.set_cons_zero, List.set_cons_succ, i64_w, i32_w]
     rfl
    refine take_ (i := 3) (N := some 48) (v := ?_) (a' := ?_) #[true, true, true, true, false, false, false, false, false, false, false, false, false, false, false, false, false, false, false, false, false, false, false, false, false, false, false, false, false] rfl rfl (take_ofW HT_.out HW_.out (by kernel_rfl)) (fun _ _ _ h => h) (Or.inl ⟨by rfl, ?_⟩) hHeld ?_ ?_
    rotate_left
    ·
     rintro w' ⟨s0, s1, s2, s3, s4, s5, s6⟩
     go_simp
     with_reducible rfl
    rotate_left
    ·
     simp only [Act.put, List.setIfInBounds_toArray, List.set_cons_zero, List.set_cons_succ, i64_w, i32_w]
     rfl
    refine pure_ (i := 4) (N := some 49) (v := ?_) (a' := ?_) #[true, true, true, true, true, false, false, false, false, false, false, false, false, false, false, false, false, false, false, false, false, false, false, false, false, false, false, false, false] rfl rfl (any_of HT_.out (by kernel_rfl)) (fun _ _ _ h => h) (Or.inl ⟨by rfl, ?_⟩) ?_ ?_
    rotate_left
    ·
     intro w'
     go_simp
     with_reducible rfl
    rotate_left
    ·
     simp only [Act.put, List.setIfInBounds_toArray, List.set_cons_zero, List.set_cons_succ, i64_w, i32_w]
     rfl
    refine pure_ (i := 5) (N := some 50) (v := ?_) (a' := ?_) #[true, true, true, true, true, true, false, false, false, false, false, false, false, false, false, false, false, false, false, false, false, false, false, false, false, false, false, false, false] rfl rfl (any_of HT_.out (by kernel_rfl)) (fun _ _ _ h => h) (Or.inl ⟨by rfl, ?_⟩) ?_ ?_
    rotate_left
    ·
     intro w'
     go_simp
     with_reducible rfl
    rotate_left
    ·
     simp only [Act.put, List.setIfInBounds_toArray, List.set_cons_zero, List.set_cons_succ, i64_w, i32_w]
     rfl
    refine pure_ (i := 6) (N := some 51) (v := ?_) (a' := ?_) #[true, true, true, true, true, true, true, false, false, false, false, false, false, false, false, false, false, false, false, false, false, false, false, false, false, false, false, false, false] rfl rfl (any_of HT_.out (by kernel_rfl)) (fun _ _ _ h => h) (Or.inl ⟨by rfl, ?_⟩) ?_ ?_
    rotate_left
    ·
     intro w'
     go_simp
     with_reducible rfl
    rotate_left
    ·
     simp only [Act.put, List.setIfInBounds_toArray, List.set_cons_zero, List.set_cons_succ, i64_w, i32_w]
     rfl
    refine pure_ (i := 8) (N := some 53) (v := ?_) (a' := ?_) #[true, true, true, true, true, true, true, false, true, false, false, false, false, false, false, false, false, false, false, false, false, false, false, false, false, false, false, false, false] rfl rfl (any_of HT_.out (by kernel_rfl)) (fun _ _ _ h => h) (Or.inl ⟨by rfl, ?_⟩) ?_ ?_
    rotate_left
    ·
     intro w'
     go_simp
     with_reducible rfl
    rotate_left
    ·
     simp only [Act.put, List.setIfInBounds_toArray, List.set_cons_zero, List.set_cons_succ, i64_w, i32_w]
     rfl
    refine pure_ (i := 9) (N := some 54) (v := ?_) (a' := ?_) #[true, true, true, true, true, true, true, false, true, true, false, false, false, false, false, false, false, false, false, false, false, false, false, false, false, false, false, false, false] rfl rfl (any_of HT_.out (by kernel_rfl)) (fun _ _ _ h => h) (Or.inl ⟨by rfl, ?_⟩) ?_ ?_
    rotate_left
    ·
     intro w'
     go_simp
     with_reducible rfl
    rotate_left
    ·
     simp only [Act.put, List.setIfInBounds_toArray, List.set_cons_zero, List.set_cons_succ, i64_w, i32_w]
     rfl
    refine pure_ (i := 10) (N := some 55) (v := ?_) (a' := ?_) #[true, true, true, true, true, true, true, false, true, true, true, false, false, false, false, false, false, false, false, false, false, false, false, false, false, false, false, false, false] rfl rfl (any_of HT_.out (by kernel_rfl)) (fun _ _ _ h => h) (Or.inl ⟨by rfl, ?_⟩) ?_ ?_
    rotate_left
    ·
     intro w'
     go_simp
     with_reducible rfl
    rotate_left
    ·
     simp only [Act.put, List.setIfInBounds_toArray, List.set_cons_zero, List.set_cons_succ, i64_w, i32_w]
     rfl
    refine pure_ (i := 11) (N := some 56) (v := ?_) (a' := ?_) #[true, true, true, true, true, true, true, false, true, true, true, true, false, false, false, false, false, false, false, false, false, false, false, false, false, false, false, false, false] rfl rfl (any_of HT_.out (by kernel_rfl)) (fun _ _ _ h => h) (Or.inl ⟨by rfl, ?_⟩) ?_ ?_
    rotate_left
    ·
     intro w'
     go_simp
     with_reducible rfl
    rotate_left
    ·
     simp only [Act.put, List.setIfInBounds_toArray, List.set_cons_zero, List.set_cons_succ, i64_w, i32_w]
     rfl
    refine pure_ (i := 12) (N := some 57) (v := ?_) (a' := ?_) #[true, true, true, true, true, true, true, false, true, true, true, true, true, false, false, false, false, false, false, false, false, false, false, false, false, false, false, false, false] rfl rfl (any_of HT_.out (by kernel_rfl)) (fun _ _ _ h => h) (Or.inl ⟨by rfl, ?_⟩) ?_ ?_
    rotate_left
    ·
     intro w'
     go_simp
     with_reducible rfl
    rotate_left
    ·
     simp only [Act.put, List.setIfInBounds_toArray, List.set_cons_zero, List.set_cons_succ, i64_w, i32_w]
     rfl
    refine pure_ (i := 18) (N := some 63) (v := ?_) (a' := ?_) #[true, true, true, true, true, true, true, false, true, true, true, true, true, false, false, false, false, false, true, false, false, false, false, false, false, false, false, false, false] rfl rfl (any_of HT_.out (by kernel_rfl)) (fun _ _ _ h => h) (Or.inl ⟨by rfl, ?_⟩) ?_ ?_
    rotate_left
    ·
     intro w'
     go_simp
     with_reducible rfl
    rotate_left
    ·
     simp only [Act.put, List.setIfInBounds_toArray, List.set_cons_zero, List.set_cons_succ, i64_w, i32_w]
     rfl
    refine pure_ (i := 19) (N := some 64) (v := ?_) (a' := ?_) #[true, true, true, true, true, true, true, false, true, true, true, true, true, false, false, false, false, false, true, true, false, false, false, false, false, false, false, false, false] rfl rfl (any_of HT_.out (by kernel_rfl)) (fun _ _ _ h => h) (Or.inl ⟨by rfl, ?_⟩) ?_ ?_
    rotate_left
    ·
     intro w'
     go_simp
     with_reducible rfl
    rotate_left
    ·
     simp only [Act.put, List.setIfInBounds_toArray, List.set_cons_zero, List.set_cons_succ, i64_w, i32_w]
     rfl
    refine pure_ (i := 20) (N := some 65) (v := ?_) (a' := ?_) #[true, true, true, true, true, true, true, false, true, true, true, true, true, false, false, false, false, false, true, true, true, false, false, false, false, false, false, false, false] rfl rfl (any_of HT_.out (by kernel_rfl)) (fun _ _ _ h => h) (Or.inl ⟨by rfl, ?_⟩) ?_ ?_
    rotate_left
    ·
     intro w'
     go_simp
     with_reducible rfl
    rotate_left
    ·
     simp only [Act.put, List.setIfInBounds_toArray, List.set_cons_zero, List.set_cons_succ, i64_w, i32_w]
     rfl
    refine pure_ (i := 21) (N := some 66) (v := ?_) (a' := ?_) #[true, true, true, true, true, true, true, false, true, true, true, true, true, false, false, false, false, false, true, true, true, true, false, false, false, false, false, false, false] rfl rfl (any_of HT_.out (by kernel_rfl)) (fun _ _ _ h => h) (Or.inl ⟨by rfl, ?_⟩) ?_ ?_
    rotate_left
    ·
     intro w'
     go_simp
     with_reducible rfl
    rotate_left
    ·
     simp only [Act.put, List.setIfInBounds_toArray, List.set_cons_zero, List.set_cons_succ, i64_w, i32_w]
     rfl
    refine pure_ (i := 22) (N := some 67) (v := ?_) (a' := ?_) #[true, true, true, true, true, true, true, false, true, true, true, true, true, false, false, false, false, false, true, true, true, true, true, false, false, false, false, false, false] rfl rfl (any_of HT_.out (by kernel_rfl)) (fun _ _ _ h => h) (Or.inl ⟨by rfl, ?_⟩) ?_ ?_
    rotate_left
    ·
     intro w'
     go_simp
     with_reducible rfl
    rotate_left
    ·
     simp only [Act.put, List.setIfInBounds_toArray, List.set_cons_zero, List.set_cons_succ, i64_w, i32_w]
     rfl
    refine take_ (i := 7) (N := some 52) (v := ?_) (a' := ?_) #[true, true, true, true, true, true, true, true, true, true, true, true, true, false, false, false, false, false, true, true, true, true, true, false, false, false, false, false, false] rfl rfl (take_ofW HT_.out HW_.out (by kernel_rfl)) (fun _ _ _ h => h) (Or.inl ⟨by rfl, ?_⟩) hHeld ?_ ?_
    rotate_left
    ·
     rintro w' ⟨s0, s1, s2, s3, s4, s5, s6⟩
     go_simp
     with_reducible rfl
    rotate_left
    ·
     simp only [Act.put, List.setIfInBounds_toArray, List.set_cons_zero, List.set_cons_succ, i64_w, i32_w]
     rfl
    refine take_ (i := 13) (N := some 58) (v := ?_) (a' := ?_) #[true, true, true, true, true, true, true, true, true, true, true, true, true, true, false, false, false, false, true, true, true, true, true, false, false, false, false, false, false] rfl rfl (take_ofW HT_.out HW_.out (by kernel_rfl)) (fun _ _ _ h => h) (Or.inl ⟨by rfl, ?_⟩) hHeld ?_ ?_
    rotate_left
    ·
     rintro w' ⟨s0, s1, s2, s3, s4, s5, s6⟩
     go_simp
     with_reducible rfl
    rotate_left
    ·
     simp only [Act.put, List.setIfInBounds_toArray, List.set_cons_zero, List.set_cons_succ, i64_w, i32_w]
     rfl
    refine pure_ (i := 14) (N := some 59) (v := ?_) (a' := ?_) #[true, true, true, true, true, true, true, true, true, true, true, true, true, true, true, false, false, false, true, true, true, true, true, false, false, false, false, false, false] rfl rfl (any_of HT_.out (by kernel_rfl)) (fun _ _ _ h => h) (Or.inl ⟨by rfl, ?_⟩) ?_ ?_
    rotate_left
    ·
     intro w'
     go_simp
     with_reducible rfl
    rotate_left
    ·
     simp only [Act.put, List.setIfInBounds_toArray, List.set_cons_zero, List.set_cons_succ, i64_w, i32_w]
     rfl
    refine take_ (i := 15) (N := some 60) (v := ?_) (a' := ?_) #[true, true, true, true, true, true, true, true, true, true, true, true, true, true, true, true, false, false, true, true, true, true, true, false, false, false, false, false, false] rfl rfl (take_ofW HT_.out HW_.out (by kernel_rfl)) (fun _ _ _ h => h) (Or.inl ⟨by rfl, ?_⟩) hHeld ?_ ?_
    rotate_left
    ·
     rintro w' ⟨s0, s1, s2, s3, s4, s5, s6⟩
     go_simp
     with_reducible rfl
    rotate_left
    ·
     simp only [Act.put, List.setIfInBounds_toArray, List.set_cons_zero, List.set_cons_succ, i64_w, i32_w]
     rfl
    refine take_ (i := 17) (N := some 62) (v := ?_) (a' := ?_) #[true, true, true, true, true, true, true, true, true, true, true, true, true, true, true, true, false, true, true, true, true, true, true, false, false, false, false, false, false] rfl rfl (take_ofW HT_.out HW_.out (by kernel_rfl)) (fun _ _ _ h => h) (Or.inl ⟨by rfl, ?_⟩) hHeld ?_ ?_
    rotate_left
    ·
     rintro w' ⟨s0, s1, s2, s3, s4, s5, s6⟩
     go_simp
     with_reducible rfl
    rotate_left
    ·
     simp only [Act.put, List.setIfInBounds_toArray, List.set_cons_zero, List.set_cons_succ, i64_w, i32_w]
     rfl
    refine take_ (i := 23) (N := some 68) (v := ?_) (a' := ?_) #[true, true, true, true, true, true, true, true, true, true, true, true, true, true, true, true, false, true, true, true, true, true, true, true, false, false, false, false, false] rfl rfl (take_ofW HT_.out HW_.out (by kernel_rfl)) (fun _ _ _ h => h) (Or.inl ⟨by rfl, ?_⟩) hHeld ?_ ?_
    rotate_left
    ·
     rintro w' ⟨s0, s1, s2, s3, s4, s5, s6⟩
     go_simp
     with_reducible rfl
    rotate_left
    ·
     simp only [Act.put, List.setIfInBounds_toArray, List.set_cons_zero, List.set_cons_succ, i64_w, i32_w]
     rfl
    refine pure_ (i := 24) (N := some 69) (v := ?_) (a' := ?_) #[true, true, true, true, true, true, true, true, true, true, true, true, true, true, true, true, false, true, true, true, true, true, true, true, true, false, false, false, false] rfl rfl (any_of HT_.out (by kernel_rfl)) (fun _ _ _ h => h) (Or.inl ⟨by rfl, ?_⟩) ?_ ?_
    rotate_left
    ·
     intro w'
     go_simp
     with_reducible rfl
    rotate_left
    ·
     simp only [Act.put, List.setIfInBounds_toArray, List.set_cons_zero, List.set_cons_succ, i64_w, i32_w]
     rfl
    refine take_ (i := 25) (N := some 70) (v := ?_) (a' := ?_) #[true, true, true, true, true, true, true, true, true, true, true, true, true, true, true, true, false, true, true, true, true, true, true, true, true, true, false, false, false] rfl rfl (take_ofW HT_.out HW_.out (by kernel_rfl)) (fun _ _ _ h => h) (Or.inl ⟨by rfl, ?_⟩) hHeld ?_ ?_
    rotate_left
    ·
     rintro w' ⟨s0, s1, s2, s3, s4, s5, s6⟩
     go_simp
     with_reducible rfl
    rotate_left
    ·
     simp only [Act.put, List.setIfInBounds_toArray, List.set_cons_zero, List.set_cons_succ, i64_w, i32_w]
     rfl
    refine one_ (i := 16) (N := some 61) #[true, true, true, true, true, true, true, true, true, true, true, true, true, true, true, true, true, true, true, true, true, true, true, true, true, true, false, false, false] rfl rfl (one_of HT_.out (by kernel_rfl)) (by decide) (fun K hK => ?_)
    refine goes_ Tryd.func15 (by kernel_rfl) rfl #[.agg #[.int .i64 t747, .slice Ao24 t748.length co24], .slice Ao25 t751.length co25, .slice Ao26 t754.length co26, .int .i64 (rd (rd_L9 t761 x9_1) 0)] (by rfl) rfl rfl mP ?_
    with_reducible refine (impl_IslandFeed.calls k1 t747 _ _ t748 _ _ t751 _ _ t754 (rd (rd_L9 t761 x9_1) 0) t768 _ ?side1 ?side2 ?side3 ?side4 ?side5 ?side6 A36.out).mono ?_
    (case side1 => exact gC ((Kd.R_reads' HO_758001.out).2.2))
    (case side2 => exact (Kd.R_reads' HO_758001.out).2.1)
    (case side3 => exact gC ((Kd.R_reads' HO_4.out).2.2))
    (case side4 => exact (Kd.R_reads' HO_4.out).2.1)
    (case side5 => exact gC ((Kd.R_reads' HO_5.out).2.2))
    (case side6 => exact (Kd.R_reads' HO_5.out).2.1)
    rintro e w48 ⟨rfl, hb⟩
    have HS2_ := (hb.cell (World.block_lt_of_cell? _ _ (hHeld.2.2.1))).trans (hHeld.2.2.1)
    have HS3_ := (hb.cell (World.block_lt_of_cell? _ _ (hHeld.2.2.2.1))).trans (hHeld.2.2.2.1)
    have HS4_ := (hb.cell (World.block_lt_of_cell? _ _ (hHeld.2.2.2.2.1))).trans (hHeld.2.2.2.2.1)
    have HS5_ := (hb.cell (World.block_lt_of_cell? _ _ (hHeld.2.2.2.2.2.1))).trans (hHeld.2.2.2.2.2.1)
    have HS6_ := (hb.cell (World.block_lt_of_cell? _ _ (hHeld.2.2.2.2.2.2))).trans (hHeld.2.2.2.2.2.2)
    refine ⟨_, rfl, ?_⟩
    have n0_ := aM (Kd.R_below (gR (HO_4.out)) hb)
    have n1_ := aM (Kd.R_below (gR (HO_5.out)) hb)
    have n2_ := aM (Kd.S_below (gS (HO_8.out)) hb)
    have n3_ := aM (Kd.R_below (gR (HO_758001.out)) hb)
    have n4_ := aM (Kd.R_below (gR (HL765_0.out)) hb)
    have n5_ := aM (Kd.R_below (gR (HL766_0.out)) hb)
    have n6_ := aM (Kd.R_below (gR (HL769_0.out)) hb)
    have n7_ := aM (blk_below (g := gb757) (o := .cells #[.int .i64 t747, .slice Ao24 t748.length co24] 25 (0, 0)) (gB (BK757.out)) hb)
    have n8_ := aM (Kd.C_below (by repeat (first | (with_reducible exact HR765_0.out) | (with_reducible refine Kd.C_alloc ?_ _) | (with_reducible refine Kd.C_drewN ?_ _) | (with_reducible refine Kd.C_drew ?_) | exact HR765_0.out)) hb)
    have n9_ := aM (Kd.C_below (by repeat (first | (with_reducible exact HR766_0.out) | (with_reducible refine Kd.C_alloc ?_ _) | (with_reducible refine Kd.C_drewN ?_ _) | (with_reducible refine Kd.C_drew ?_) | exact HR766_0.out)) hb)
    have n10_ := aM (Kd.C_below (by repeat (first | (with_reducible exact HR769_0.out) | (with_reducible refine Kd.C_alloc ?_ _) | (with_reducible refine Kd.C_drewN ?_ _) | (with_reducible refine Kd.C_drew ?_) | exact HR769_0.out)) hb)
    have n11_ := aM (below_step (bl1 HB GE757) hb)
    clear HO_4
    clear HO_5
    clear HO_8
    clear HO_758001
    clear HL765_0
    clear HL766_0
    clear HL769_0
    clear BK757
    clear HR765_0
    clear HR766_0
    clear HR769_0
    clear HB
    have HO_4 := n0_
    have HO_5 := n1_
    have HO_8 := n2_
    have HO_758001 := n3_
    have HL765_0 := n4_
    have HL766_0 := n5_
    have HL769_0 := n6_
    have BK757 := n7_
    have HR765_0 := n8_
    have HR766_0 := n9_
    have HR769_0 := n10_
    have HB := n11_
    clear n0_ n1_ n2_ n3_ n4_ n5_ n6_ n7_ n8_ n9_ n10_ n11_
    (try clear hb)
    (try clear hb2)
    (try clear hk)
    (try clear hi)
    refine hK.out _ _ ⟨(blk_cell BK757.out 0).trans rfl, (blk_cell BK757.out 1).trans rfl, HS2_, HS3_, HS4_, HS5_, HS6_⟩ (fun hHeld => ?_)
    clear hK K
    refine norm_ (a' := ?_) ?_ ?_
    rotate_left
    ·
     show Act.put _ (some 61) _ = _
     simp only [Act.put, List.setIfInBounds_toArray, List.set_cons_zero, List.set_cons_succ, i64_w, i32_w]
     rfl
    refine one_ (i := 26) (N := some 71) #[true, true, true, true, true, true, true, true, true, true, true, true, true, true, true, true, true, true, true, true, true, true, true, true, true, true, true, false, false] rfl rfl (one_of HT_.out (by kernel_rfl)) (by decide) (fun K hK => ?_)
    refine goes_ Tryd.func28 (by kernel_rfl) rfl #[.agg #[.int .i64 t747, .slice Ao24 t748.length co24], .slice Ao25 t751.length co25, .slice Ao26 t754.length co26, .int .i64 (rd (rd_L9 t761 x9_1) 0)] (by rfl) rfl rfl mP ?_
    with_reducible refine (impl_IslandLoad.calls k1 t747 _ _ t748 _ _ t751 _ _ t754 (rd (rd_L9 t761 x9_1) 0) t771 _ ?side1 ?side2 ?side3 ?side4 ?side5 ?side6 A37.out).mono ?_
    (case side1 => exact gC ((Kd.R_reads' HO_758001.out).2.2))
    (case side2 => exact (Kd.R_reads' HO_758001.out).2.1)
    (case side3 => exact gC ((Kd.R_reads' HO_4.out).2.2))
    (case side4 => exact (Kd.R_reads' HO_4.out).2.1)
    (case side5 => exact gC ((Kd.R_reads' HO_5.out).2.2))
    (case side6 => exact (Kd.R_reads' HO_5.out).2.1)
    rintro e w49 ⟨rfl, hb⟩
    have HS2_ := (hb.cell (World.block_lt_of_cell? _ _ (hHeld.2.2.1))).trans (hHeld.2.2.1)
    have HS3_ := (hb.cell (World.block_lt_of_cell? _ _ (hHeld.2.2.2.1))).trans (hHeld.2.2.2.1)
    have HS4_ := (hb.cell (World.block_lt_of_cell? _ _ (hHeld.2.2.2.2.1))).trans (hHeld.2.2.2.2.1)
    have HS5_ := (hb.cell (World.block_lt_of_cell? _ _ (hHeld.2.2.2.2.2.1))).trans (hHeld.2.2.2.2.2.1)
    have HS6_ := (hb.cell (World.block_lt_of_cell? _ _ (hHeld.2.2.2.2.2.2))).trans (hHeld.2.2.2.2.2.2)
    refine ⟨_, rfl, ?_⟩
    have n0_ := aM (Kd.R_below (gR (HO_4.out)) hb)
    have n1_ := aM (Kd.R_below (gR (HO_5.out)) hb)
    have n2_ := aM (Kd.S_below (gS (HO_8.out)) hb)
    have n3_ := aM (Kd.R_below (gR (HO_758001.out)) hb)
    have n4_ := aM (Kd.R_below (gR (HL765_0.out)) hb)
    have n5_ := aM (Kd.R_below (gR (HL766_0.out)) hb)
    have n6_ := aM (Kd.R_below (gR (HL769_0.out)) hb)
    have n7_ := aM (blk_below (g := gb757) (o := .cells #[.int .i64 t747, .slice Ao24 t748.length co24] 25 (0, 0)) (gB (BK757.out)) hb)
    have n8_ := aM (Kd.C_below (by repeat (first | (with_reducible exact HR765_0.out) | (with_reducible refine Kd.C_alloc ?_ _) | (with_reducible refine Kd.C_drewN ?_ _) | (with_reducible refine Kd.C_drew ?_) | exact HR765_0.out)) hb)
    have n9_ := aM (Kd.C_below (by repeat (first | (with_reducible exact HR766_0.out) | (with_reducible refine Kd.C_alloc ?_ _) | (with_reducible refine Kd.C_drewN ?_ _) | (with_reducible refine Kd.C_drew ?_) | exact HR766_0.out)) hb)
    have n10_ := aM (Kd.C_below (by repeat (first | (with_reducible exact HR769_0.out) | (with_reducible refine Kd.C_alloc ?_ _) | (with_reducible refine Kd.C_drewN ?_ _) | (with_reducible refine Kd.C_drew ?_) | exact HR769_0.out)) hb)
    have n11_ := aM (below_step (bl1 HB GE757) hb)
    clear HO_4
    clear HO_5
    clear HO_8
    clear HO_758001
    clear HL765_0
    clear HL766_0
    clear HL769_0
    clear BK757
    clear HR765_0
    clear HR766_0
    clear HR769_0
    clear HB
    have HO_4 := n0_
    have HO_5 := n1_
    have HO_8 := n2_
    have HO_758001 := n3_
    have HL765_0 := n4_
    have HL766_0 := n5_
    have HL769_0 := n6_
    have BK757 := n7_
    have HR765_0 := n8_
    have HR766_0 := n9_
    have HR769_0 := n10_
    have HB := n11_
    clear n0_ n1_ n2_ n3_ n4_ n5_ n6_ n7_ n8_ n9_ n10_ n11_
    (try clear hb)
    (try clear hb2)
    (try clear hk)
    (try clear hi)
    refine hK.out _ _ ⟨(blk_cell BK757.out 0).trans rfl, (blk_cell BK757.out 1).trans rfl, HS2_, HS3_, HS4_, HS5_, HS6_⟩ (fun hHeld => ?_)
    clear hK K
    refine norm_ (a' := ?_) ?_ ?_
    rotate_left
    ·
     show Act.put _ (some 71) _ = _
     simp only [Act.put, List.setIfInBounds_toArray, List.set_cons_zero, List.set_cons_succ, i64_w, i32_w]
     rfl
    refine pure_ (i := 27) (N := some 72) (v := ?_) (a' := ?_) #[true, true, true, true, true, true, true, true, true, true, true, true, true, true, true, true, true, true, true, true, true, true, true, true, true, true, true, true, false] rfl rfl (any_of HT_.out (by kernel_rfl)) (fun _ _ _ h => h) (Or.inl ⟨by rfl, ?_⟩) ?_ ?_
    rotate_left
    ·
     intro w'
     go_simp
     with_reducible rfl
    rotate_left
    ·
     simp only [Act.put, List.setIfInBounds_toArray, List.set_cons_zero, List.set_cons_succ, i64_w, i32_w]
     rfl
    refine pure_ (i := 28) (N := some 73) (v := ?_) (a' := ?_) #[true, true, true, true, true, true, true, true, true, true, true, true, true, true, true, true, true, true, true, true, true, true, true, true, true, true, true, true, true] rfl rfl (any_of HT_.out (by kernel_rfl)) (fun _ _ _ h => h) (Or.inl ⟨by rfl, ?_⟩) ?_ ?_
    rotate_left
    ·
     intro w'
     go_simp
     with_reducible rfl
    rotate_left
    ·
     simp only [Act.put, List.setIfInBounds_toArray, List.set_cons_zero, List.set_cons_succ, i64_w, i32_w]
     rfl
    refine done_ (done_of HT_.out (by kernel_rfl)) ?_
    try go_wp2
    go_roundg k1
    case measure => have := HK1.out; omega
    case rel => exact ⟨(x7_1), (wrap64 (x9_1 + 1)), fS, fS, H', ⟨by have := HK1.out; omega⟩, ⟨gR (HO_4.out)⟩, ⟨gR (HO_5.out)⟩, ⟨gS (HO_8.out)⟩, ⟨gR (HO_758001.out)⟩, ⟨gB (BK757.out)⟩, ⟨bl1 HB GE757⟩⟩
   rw [if_pos c38] at H
   have c38b0 : decide (t771 ≤ t768) = true := decide_eq_true c38
   clear c38
   replace H := Option.bind_eq_some_iff.mp H
   obtain ⟨t774, A390, H⟩ := H
   replace H : (laws_FnServedLoad.l0 k1 t751 t754 t758 (wrap64 (x7_1 + t774)) t761 (wrap64 (x9_1 + 1)) t747 t748) = some r := H
   have A39 := Aside0.mk A390
   clear A390
   have H' := Aside0.mk H
   clear H
   obtain ⟨Ao40, co40, eo40⟩ := Kd.S_slice HO_8.out
   subst eo40
   try go_wp2
   have n0_ := aM (Kd.R_drew HO_4.out)
   have n1_ := aM (Kd.R_drew HO_5.out)
   have n2_ := aM (Kd.S_drew HO_8.out)
   have n3_ := aM (Kd.R_drew HO_758001.out)
   have n4_ := aM (blk_drew BK757.out)
   have n5_ := aM (below_drew1 HB.out)
   clear HO_4
   clear HO_5
   clear HO_8
   clear HO_758001
   clear BK757
   clear HB
   have HO_4 := n0_
   have HO_5 := n1_
   have HO_8 := n2_
   have HO_758001 := n3_
   have BK757 := n4_
   have HB := n5_
   clear n0_ n1_ n2_ n3_ n4_ n5_
   have p765 : 0 ≤ (x9_1 : Int) := oD
   have q765 : x9_1 < (t761.length : Int) := oD
   obtain ⟨ad765, A765_0, c765_0, e765, hx765_0, hl765_0, hi765_0⟩ := at_L9 (Kd.S_reads' HO_8.out).2.2 x9_1 p765 q765
   cases e765
   obtain ⟨ce765, hce765, hMe765, hcc765⟩ := Kd.S_get HO_8.out [] x9_1 p765 (by first | exact q765 | exact oD | (have e_ := (Kd.S_reads' HO_8.out).1; omega))
   obtain ⟨ve765_0, rfl, ge765_0⟩ := hMe765
   have hv765_0 := hcc765 0 _ rfl
   rw [Nat.add_zero, show ((Kd.slice 3 (Kd.int .i64))).sz = 1 from rfl, Nat.mul_one] at hv765_0
   replace hv765_0 := Option.some.inj (hv765_0.symm.trans hx765_0)
   rw [hv765_0] at ge765_0
   have HL765_0 := aM (show Kd.R (Kd.int .i64) 3 _ _ _ _ (rd_L9 t761 x9_1) from ge765_0)
   clear hv765_0 ge765_0
   clear hcc765 hce765
   have HR765_0 := Aside0.mk hi765_0
   have HC765_0 := Aside0.mk hl765_0
   clear hi765_0 hl765_0
   replace p765 := eq_true p765
   replace q765 := eq_true q765
   have p766 : 0 ≤ (x9_1 : Int) := oD
   have q766 : x9_1 < (t761.length : Int) := oD
   obtain ⟨ad766, A766_0, c766_0, e766, hx766_0, hl766_0, hi766_0⟩ := at_L9 (Kd.S_reads' HO_8.out).2.2 x9_1 p766 q766
   obtain rfl : ad765 = ad766 := (by injection e766)
   obtain ⟨ce766, hce766, hMe766, hcc766⟩ := Kd.S_get HO_8.out [] x9_1 p766 (by first | exact q766 | exact oD | (have e_ := (Kd.S_reads' HO_8.out).1; omega))
   obtain ⟨ve766_0, rfl, ge766_0⟩ := hMe766
   have hv766_0 := hcc766 0 _ rfl
   rw [Nat.add_zero, show ((Kd.slice 3 (Kd.int .i64))).sz = 1 from rfl, Nat.mul_one] at hv766_0
   replace hv766_0 := Option.some.inj (hv766_0.symm.trans hx766_0)
   rw [hv766_0] at ge766_0
   have HL766_0 := aM (show Kd.R (Kd.int .i64) 3 _ _ _ _ (rd_L9 t761 x9_1) from ge766_0)
   clear hv766_0 ge766_0
   clear hcc766 hce766
   have HR766_0 := Aside0.mk hi766_0
   have HC766_0 := Aside0.mk hl766_0
   clear hi766_0 hl766_0
   replace p766 := eq_true p766
   replace q766 := eq_true q766
   have ea_ := Option.some.inj (hx765_0.symm.trans hx766_0)
   injection ea_ with ea_ en_ ec_
   subst ea_
   subst ec_
   clear en_
   have p767 : 0 ≤ (0 : Int) := (by omega)
   have q767 : 0 < ((rd_L9 t761 x9_1).length : Int) := oD
   obtain ⟨ad767, e767, hx767_0⟩ := Kd.at_int (by repeat (first | (with_reducible exact HR766_0.out) | (with_reducible refine Kd.C_alloc ?_ _) | (with_reducible refine Kd.C_drewN ?_ _) | (with_reducible refine Kd.C_drew ?_) | exact HR766_0.out)) 0 p767 q767
   cases e767
   have qi767 : (0 < (rd_L9 t761 x9_1).length) = True := eq_true (by omega)
   (try rw [show ((0 : Int)).toNat = 0 from rfl] at hx767_0)
   (try rw [Addr.add_zero'] at hx767_0)
   replace p767 := eq_true p767
   replace q767 := eq_true q767
   have p769 : 0 ≤ (x9_1 : Int) := oD
   have q769 : x9_1 < (t761.length : Int) := oD
   obtain ⟨ad769, A769_0, c769_0, e769, hx769_0, hl769_0, hi769_0⟩ := at_L9 (Kd.S_reads' HO_8.out).2.2 x9_1 p769 q769
   obtain rfl : ad765 = ad769 := (by injection e769)
   obtain ⟨ce769, hce769, hMe769, hcc769⟩ := Kd.S_get HO_8.out [] x9_1 p769 (by first | exact q769 | exact oD | (have e_ := (Kd.S_reads' HO_8.out).1; omega))
   obtain ⟨ve769_0, rfl, ge769_0⟩ := hMe769
   have hv769_0 := hcc769 0 _ rfl
   rw [Nat.add_zero, show ((Kd.slice 3 (Kd.int .i64))).sz = 1 from rfl, Nat.mul_one] at hv769_0
   replace hv769_0 := Option.some.inj (hv769_0.symm.trans hx769_0)
   rw [hv769_0] at ge769_0
   have HL769_0 := aM (show Kd.R (Kd.int .i64) 3 _ _ _ _ (rd_L9 t761 x9_1) from ge769_0)
   clear hv769_0 ge769_0
   clear hcc769 hce769
   have HR769_0 := Aside0.mk hi769_0
   have HC769_0 := Aside0.mk hl769_0
   clear hi769_0 hl769_0
   replace p769 := eq_true p769
   replace q769 := eq_true q769
   have ea_ := Option.some.inj (hx765_0.symm.trans hx769_0)
   injection ea_ with ea_ en_ ec_
   subst ea_
   subst ec_
   clear en_
   have p770 : 0 ≤ (0 : Int) := (by omega)
   have q770 : 0 < ((rd_L9 t761 x9_1).length : Int) := oD
   obtain ⟨ad770, e770, hx770_0⟩ := Kd.at_int (by repeat (first | (with_reducible exact HR769_0.out) | (with_reducible refine Kd.C_alloc ?_ _) | (with_reducible refine Kd.C_drewN ?_ _) | (with_reducible refine Kd.C_drew ?_) | exact HR769_0.out)) 0 p770 q770
   cases e770
   have qi770 : (0 < (rd_L9 t761 x9_1).length) = True := eq_true (by omega)
   (try rw [show ((0 : Int)).toNat = 0 from rfl] at hx770_0)
   (try rw [Addr.add_zero'] at hx770_0)
   replace p770 := eq_true p770
   replace q770 := eq_true q770
   refine start_ (n := 29) (S := fun w' => w'.cell? ⟨gb757, 0, none⟩ = some (.int .i64 t747) ∧ w'.cell? ⟨gb757, 1, none⟩ = some (.slice Ao24 t748.length co24) ∧ w'.cell? (ad765.add (x9_1).toNat) = some (.slice (some ad767) (rd_L9 t761 x9_1).length c765_0) ∧ w'.cell? (ad765.add (x9_1).toNat) = some (.slice (some ad767) (rd_L9 t761 x9_1).length c765_0) ∧ w'.cell? ad767 = some (.int .i64 (rd (rd_L9 t761 x9_1) 0)) ∧ w'.cell? (ad765.add (x9_1).toNat) = some (.slice (some ad767) (rd_L9 t761 x9_1).length c765_0) ∧ w'.cell? ad767 = some (.int .i64 (rd (rd_L9 t761 x9_1) 0))) (ds := []) #[false, false, false, false, false, false, false, false, false, false, false, false, false, false, false, false, false, false, false, false, false, false, false, false, false, false, false, false, false] (by kernel_rfl) rfl rfl ⟨(blk_cell BK757.out 0).trans rfl, (blk_cell BK757.out 1).trans rfl, hx765_0, hx766_0, hx767_0, hx769_0, hx770_0⟩ (fun hHeld => ?_); refine with_tabW laws_FnServedLoad.tab14 laws_FnServedLoad.bits14 (fun HT_ HW_ => ?_)
   generalize wr.drew = w41 at HO_4 HO_5 HO_8 HO_758001 BK757 HB HL765_0 HL766_0 HL769_0 HR765_0 HR766_0 HR769_0 hx765_0 hx766_0 hx767_0 hx769_0 hx770_0 hHeld ⊢
   refine pure_ (i := 0) (N := some 45) (v := ?_) (a' := ?_) #[true, false, false, false, false, false, false, false, false, false, false, false, false, false, false, false, false, false, false, false, false, false, false, false, false, false, false, false, false] rfl rfl (any_of HT_.out (by kernel_rfl)) (fun _ _ _ h => h) (Or.inl ⟨by rfl, ?_⟩) ?_ ?_
   rotate_left
   ·
    intro w'
    go_simp
    with_reducible rfl
   rotate_left
   ·
    simp only [Act.put, List.setIfInBounds_toArray, List.set_cons_zero, List.set_cons_succ, i64_w, i32_w]
    rfl
   refine pure_ (i := 1) (N := some 46) (v := ?_) (a' := ?_) #[true, true, false, false, false, false, false, false, false, false, false, false, false, false, false, false, false, false, false, false, false, false, false, false, false, false, false, false, false] rfl rfl (any_of HT_.out (by kernel_rfl)) (fun _ _ _ h => h) (Or.inl ⟨by rfl, ?_⟩) ?_ ?_
   rotate_left
   ·
    intro w'
    go_simp
    with_reducible rfl
   rotate_left
   ·
    simp only [Act.put, List.setIfInBounds_toArray, List.set_cons_zero, List.set_cons_succ, i64_w, i32_w]
    rfl
   refine pure_ (i := 2) (N := some 47) (v := ?_) (a' := ?_) #[true, true, true, false, false, false, false, false, false, false, false, false, false, false, false, false, false, false, false, false, false, false, false, false, false, false, false, false, false] rfl rfl (any_of HT_.out (by kernel_rfl)) (fun _ _ _ h => h) (Or.inl ⟨by rfl, ?_⟩) ?_ ?_
   rotate_left
   ·
    intro w'
    go_simp
    with_reducible rfl
   rotate_left
   ·
    simp only [Act.put, List.setIfInBounds_toArray, List.set_cons_zero, List.set_cons_succ, i64_w, i32_w]
    rfl
   refine take_ (i := 3) (N := some 48) (v := ?_) (a' := ?_) #[true, true, true, true, false, false, false, false, false, false, false, false, false, false, false, false, false, false, false, false, false, false, false, false, false, false, false, false, false] rfl rfl (take_ofW HT_.out HW_.out (by kernel_rfl)) (fun _ _ _ h => h) (Or.inl ⟨by rfl, ?_⟩) hHeld ?_ ?_
   rotate_left
   ·
    rintro w' ⟨s0, s1, s2, s3, s4, s5, s6⟩
    go_simp
    with_reducible rfl
   rotate_left
   ·
    simp only [Act.put, List.setIfInBounds_toArray, List.set_cons_zero, List.set_cons_succ, i64_w, i32_w]
    rfl
   refine pure_ (i := 4) (N := some 49) (v := ?_) (a' := ?_) #[true, true, true, true, true, false, false, false, false, false, false, false, false, false, false, false, false, false, false, false, false, false, false, false, false, false, false, false, false] rfl rfl (any_of HT_.out (by kernel_rfl)) (fun _ _ _ h => h) (Or.inl ⟨by rfl, ?_⟩) ?_ ?_
   rotate_left
   ·
    intro w'
    go_simp
    with_reducible rfl
   rotate_left
   ·
    simp only [Act.put, List.setIfInBounds_toArray, List.set_cons_zero, List.set_cons_succ, i64_w, i32_w]
    rfl
   refine pure_ (i := 5) (N := some 50) (v := ?_) (a' := ?_) #[true, true, true, true, true, true, false, false, false, false, false, false, false, false, false, false, false, false, false, false, false, false, false, false, false, false, false, false, false] rfl rfl (any_of HT_.out (by kernel_rfl)) (fun _ _ _ h => h) (Or.inl ⟨by rfl, ?_⟩) ?_ ?_
   rotate_left
   ·
    intro w'
    go_simp
    with_reducible rfl
   rotate_left
   ·
    simp only [Act.put, List.setIfInBounds_toArray, List.set_cons_zero, List.set_cons_succ, i64_w, i32_w]
    rfl
   refine pure_ (i := 6) (N := some 51) (v := ?_) (a' := ?_) #[true, true, true, true, true, true, true, false, false, false, false, false, false, false, false, false, false, false, false, false, false, false, false, false, false, false, false, false, false] rfl rfl (any_of HT_.out (by kernel_rfl)) (fun _ _ _ h => h) (Or.inl ⟨by rfl, ?_⟩) ?_ ?_
   rotate_left
   ·
    intro w'
    go_simp
    with_reducible rfl
   rotate_left
   ·
    simp only [Act.put, List.setIfInBounds_toArray, List.set_cons_zero, List.set_cons_succ, i64_w, i32_w]
    rfl
   refine pure_ (i := 8) (N := some 53) (v := ?_) (a' := ?_) #[true, true, true, true, true, true, true, false, true, false, false, false, false, false, false, false, false, false, false, false, false, false, false, false, false, false, false, false, false] rfl rfl (any_of HT_.out (by kernel_rfl)) (fun _ _ _ h => h) (Or.inl ⟨by rfl, ?_⟩) ?_ ?_
   rotate_left
   ·
    intro w'
    go_simp
    with_reducible rfl
   rotate_left
   ·
    simp only [Act.put, List.setIfInBounds_toArray, List.set_cons_zero, List.set_cons_succ, i64_w, i32_w]
    rfl
   refine pure_ (i := 9) (N := some 54) (v := ?_) (a' := ?_) #[true, true, true, true, true, true, true, false, true, true, false, false, false, false, false, false, false, false, false, false, false, false, false, false, false, false, false, false, false] rfl rfl (any_of HT_.out (by kernel_rfl)) (fun _ _ _ h => h) (Or.inl ⟨by rfl, ?_⟩) ?_ ?_
   rotate_left
   ·
    intro w'
    go_simp
    with_reducible rfl
   rotate_left
   ·
    simp only [Act.put, List.setIfInBounds_toArray, List.set_cons_zero, List.set_cons_succ, i64_w, i32_w]
    rfl
   refine pure_ (i := 10) (N := some 55) (v := ?_) (a' := ?_) #[true, true, true, true, true, true, true, false, true, true, true, false, false, false, false, false, false, false, false, false, false, false, false, false, false, false, false, false, false] rfl rfl (any_of HT_.out (by kernel_rfl)) (fun _ _ _ h => h) (Or.inl ⟨by rfl, ?_⟩) ?_ ?_
   rotate_left
   ·
    intro w'
    go_simp
    with_reducible rfl
   rotate_left
   ·
    simp only [Act.put, List.setIfInBounds_toArray, List.set_cons_zero, List.set_cons_succ, i64_w, i32_w]
    rfl
   refine pure_ (i := 11) (N := some 56) (v := ?_) (a' := ?_) #[true, true, true, true, true, true, true, false, true, true, true, true, false, false, false, false, false, false, false, false, false, false, false, false, false, false, false, false, false] rfl rfl (any_of HT_.out (by kernel_rfl)) (fun _ _ _ h => h) (Or.inl ⟨by rfl, ?_⟩) ?_ ?_
   rotate_left
   ·
    intro w'
    go_simp
    with_reducible rfl
   rotate_left
   ·
    simp only [Act.put, List.setIfInBounds_toArray, List.set_cons_zero, List.set_cons_succ, i64_w, i32_w]
    rfl
   refine pure_ (i := 12) (N := some 57) (v := ?_) (a' := ?_) #[true, true, true, true, true, true, true, false, true, true, true, true, true, false, false, false, false, false, false, false, false, false, false, false, false, false, false, false, false] rfl rfl (any_of HT_.out (by kernel_rfl)) (fun _ _ _ h => h) (Or.inl ⟨by rfl, ?_⟩) ?_ ?_
   rotate_left
   ·
    intro w'
    go_simp
    with_reducible rfl
   rotate_left
   ·
    simp only [Act.put, List.setIfInBounds_toArray, List.set_cons_zero, List.set_cons_succ, i64_w, i32_w]
    rfl
   refine pure_ (i := 18) (N := some 63) (v := ?_) (a' := ?_) #[true, true, true, true, true, true, true, false, true, true, true, true, true, false, false, false, false, false, true, false, false, false, false, false, false, false, false, false, false] rfl rfl (any_of HT_.out (by kernel_rfl)) (fun _ _ _ h => h) (Or.inl ⟨by rfl, ?_⟩) ?_ ?_
   rotate_left
   ·
    intro w'
    go_simp
    with_reducible rfl
   rotate_left
   ·
    simp only [Act.put, List.setIfInBounds_toArray, List.set_cons_zero, List.set_cons_succ, i64_w, i32_w]
    rfl
   refine pure_ (i := 19) (N := some 64) (v := ?_) (a' := ?_) #[true, true, true, true, true, true, true, false, true, true, true, true, true, false, false, false, false, false, true, true, false, false, false, false, false, false, false, false, false] rfl rfl (any_of HT_.out (by kernel_rfl)) (fun _ _ _ h => h) (Or.inl ⟨by rfl, ?_⟩) ?_ ?_
   rotate_left
   ·
    intro w'
    go_simp
    with_reducible rfl
   rotate_left
   ·
    simp only [Act.put, List.setIfInBounds_toArray, List.set_cons_zero, List.set_cons_succ, i64_w, i32_w]
    rfl
   refine pure_ (i := 20) (N := some 65) (v := ?_) (a' := ?_) #[true, true, true, true, true, true, true, false, true, true, true, true, true, false, false, false, false, false, true, true, true, false, false, false, false, false, false, false, false] rfl rfl (any_of HT_.out (by kernel_rfl)) (fun _ _ _ h => h) (Or.inl ⟨by rfl, ?_⟩) ?_ ?_
   rotate_left
   ·
    intro w'
    go_simp
    with_reducible rfl
   rotate_left
   ·
    simp only [Act.put, List.setIfInBounds_toArray, List.set_cons_zero, List.set_cons_succ, i64_w, i32_w]
    rfl
   refine pure_ (i := 21) (N := some 66) (v := ?_) (a' := ?_) #[true, true, true, true, true, true, true, false, true, true, true, true, true, false, false, false, false, false, true, true, true, true, false, false, false, false, false, false, false] rfl rfl (any_of HT_.out (by kernel_rfl)) (fun _ _ _ h => h) (Or.inl ⟨by rfl, ?_⟩) ?_ ?_
   rotate_left
   ·
    intro w'
    go_simp
    with_reducible rfl
   rotate_left
   ·
    simp only [Act.put, List.setIfInBounds_toArray, List.set_cons_zero, List.set_cons_succ, i64_w, i32_w]
    rfl
   refine pure_ (i := 22) (N := some 67) (v := ?_) (a' := ?_) #[true, true, true, true, true, true, true, false, true, true, true, true, true, false, false, false, false, false, true, true, true, true, true, false, false, false, false, false, false] rfl rfl (any_of HT_.out (by kernel_rfl)) (fun _ _ _ h => h) (Or.inl ⟨by rfl, ?_⟩) ?_ ?_
   rotate_left
   ·
    intro w'
    go_simp
    with_reducible rfl
   rotate_left
   ·
    simp only [Act.put, List.setIfInBounds_toArray, List.set_cons_zero, List.set_cons_succ, i64_w, i32_w]
    rfl
   refine take_ (i := 7) (N := some 52) (v := ?_) (a' := ?_) #[true, true, true, true, true, true, true, true, true, true, true, true, true, false, false, false, false, false, true, true, true, true, true, false, false, false, false, false, false] rfl rfl (take_ofW HT_.out HW_.out (by kernel_rfl)) (fun _ _ _ h => h) (Or.inl ⟨by rfl, ?_⟩) hHeld ?_ ?_
   rotate_left
   ·
    rintro w' ⟨s0, s1, s2, s3, s4, s5, s6⟩
    go_simp
    with_reducible rfl
   rotate_left
   ·
    simp only [Act.put, List.setIfInBounds_toArray, List.set_cons_zero, List.set_cons_succ, i64_w, i32_w]
    rfl
   refine take_ (i := 13) (N := some 58) (v := ?_) (a' := ?_) #[true, true, true, true, true, true, true, true, true, true, true, true, true, true, false, false, false, false, true, true, true, true, true, false, false, false, false, false, false] rfl rfl (take_ofW HT_.out HW_.out (by kernel_rfl)) (fun _ _ _ h => h) (Or.inl ⟨by rfl, ?_⟩) hHeld ?_ ?_
   rotate_left
   ·
    rintro w' ⟨s0, s1, s2, s3, s4, s5, s6⟩
    go_simp
    with_reducible rfl
   rotate_left
   ·
    simp only [Act.put, List.setIfInBounds_toArray, List.set_cons_zero, List.set_cons_succ, i64_w, i32_w]
    rfl
   refine pure_ (i := 14) (N := some 59) (v := ?_) (a' := ?_) #[true, true, true, true, true, true, true, true, true, true, true, true, true, true, true, false, false, false, true, true, true, true, true, false, false, false, false, false, false] rfl rfl (any_of HT_.out (by kernel_rfl)) (fun _ _ _ h => h) (Or.inl ⟨by rfl, ?_⟩) ?_ ?_
   rotate_left
   ·
    intro w'
    go_simp
    with_reducible rfl
   rotate_left
   ·
    simp only [Act.put, List.setIfInBounds_toArray, List.set_cons_zero, List.set_cons_succ, i64_w, i32_w]
    rfl
   refine take_ (i := 15) (N := some 60) (v := ?_) (a' := ?_) #[true, true, true, true, true, true, true, true, true, true, true, true, true, true, true, true, false, false, true, true, true, true, true, false, false, false, false, false, false] rfl rfl (take_ofW HT_.out HW_.out (by kernel_rfl)) (fun _ _ _ h => h) (Or.inl ⟨by rfl, ?_⟩) hHeld ?_ ?_
   rotate_left
   ·
    rintro w' ⟨s0, s1, s2, s3, s4, s5, s6⟩
    go_simp
    with_reducible rfl
   rotate_left
   ·
    simp only [Act.put, List.setIfInBounds_toArray, List.set_cons_zero, List.set_cons_succ, i64_w, i32_w]
    rfl
   refine take_ (i := 17) (N := some 62) (v := ?_) (a' := ?_) #[true, true, true, true, true, true, true, true, true, true, true, true, true, true, true, true, false, true, true, true, true, true, true, false, false, false, false, false, false] rfl rfl (take_ofW HT_.out HW_.out (by kernel_rfl)) (fun _ _ _ h => h) (Or.inl ⟨by rfl, ?_⟩) hHeld ?_ ?_
   rotate_left
   ·
    rintro w' ⟨s0, s1, s2, s3, s4, s5, s6⟩
    go_simp
    with_reducible rfl
   rotate_left
   ·
    simp only [Act.put, List.setIfInBounds_toArray, List.set_cons_zero, List.set_cons_succ, i64_w, i32_w]
    rfl
   refine take_ (i := 23) (N := some 68) (v := ?_) (a' := ?_) #[true, true, true, true, true, true, true, true, true, true, true, true, true, true, true, true, false, true, true, true, true, true, true, true, false, false, false, false, false] rfl rfl (take_ofW HT_.out HW_.out (by kernel_rfl)) (fun _ _ _ h => h) (Or.inl ⟨by rfl, ?_⟩) hHeld ?_ ?_
   rotate_left
   ·
    rintro w' ⟨s0, s1, s2, s3, s4, s5, s6⟩
    go_simp
    with_reducible rfl
   rotate_left
   ·
    simp only [Act.put, List.setIfInBounds_toArray, List.set_cons_zero, List.set_cons_succ, i64_w, i32_w]
    rfl
   refine pure_ (i := 24) (N := some 69) (v := ?_) (a' := ?_) #[true, true, true, true, true, true, true, true, true, true, true, true, true, true, true, true, false, true, true, true, true, true, true, true, true, false, false, false, false] rfl rfl (any_of HT_.out (by kernel_rfl)) (fun _ _ _ h => h) (Or.inl ⟨by rfl, ?_⟩) ?_ ?_
   rotate_left
   ·
    intro w'
    go_simp
    with_reducible rfl
   rotate_left
   ·
    simp only [Act.put, List.setIfInBounds_toArray, List.set_cons_zero, List.set_cons_succ, i64_w, i32_w]
    rfl
   refine take_ (i := 25) (N := some 70) (v := ?_) (a' := ?_) #[true, true, true, true, true, true, true, true, true, true, true, true, true, true, true, true, false, true, true, true, true, true, true, true, true, true, false, false, false] rfl rfl (take_ofW HT_.out HW_.out (by kernel_rfl)) (fun _ _ _ h => h) (Or.inl ⟨by rfl, ?_⟩) hHeld ?_ ?_
   rotate_left
   ·
    rintro w' ⟨s0, s1, s2, s3, s4, s5, s6⟩
    go_simp
    with_reducible rfl
   rotate_left
   ·
    simp only [Act.put, List.setIfInBounds_toArray, List.set_cons_zero, List.set_cons_succ, i64_w, i32_w]
    rfl
   refine one_ (i := 16) (N := some 61) #[true, true, true, true, true, true, true, true, true, true, true, true, true, true, true, true, true, true, true, true, true, true, true, true, true, true, false, false, false] rfl rfl (one_of HT_.out (by kernel_rfl)) (by decide) (fun K hK => ?_)
   refine goes_ Tryd.func15 (by kernel_rfl) rfl #[.agg #[.int .i64 t747, .slice Ao24 t748.length co24], .slice Ao25 t751.length co25, .slice Ao26 t754.length co26, .int .i64 (rd (rd_L9 t761 x9_1) 0)] (by rfl) rfl rfl mP ?_
   with_reducible refine (impl_IslandFeed.calls k1 t747 _ _ t748 _ _ t751 _ _ t754 (rd (rd_L9 t761 x9_1) 0) t768 _ ?side1 ?side2 ?side3 ?side4 ?side5 ?side6 A36.out).mono ?_
   (case side1 => exact gC ((Kd.R_reads' HO_758001.out).2.2))
   (case side2 => exact (Kd.R_reads' HO_758001.out).2.1)
   (case side3 => exact gC ((Kd.R_reads' HO_4.out).2.2))
   (case side4 => exact (Kd.R_reads' HO_4.out).2.1)
   (case side5 => exact gC ((Kd.R_reads' HO_5.out).2.2))
   (case side6 => exact (Kd.R_reads' HO_5.out).2.1)
   rintro e w42 ⟨rfl, hb⟩
   have HS2_ := (hb.cell (World.block_lt_of_cell? _ _ (hHeld.2.2.1))).trans (hHeld.2.2.1)
   have HS3_ := (hb.cell (World.block_lt_of_cell? _ _ (hHeld.2.2.2.1))).trans (hHeld.2.2.2.1)
   have HS4_ := (hb.cell (World.block_lt_of_cell? _ _ (hHeld.2.2.2.2.1))).trans (hHeld.2.2.2.2.1)
   have HS5_ := (hb.cell (World.block_lt_of_cell? _ _ (hHeld.2.2.2.2.2.1))).trans (hHeld.2.2.2.2.2.1)
   have HS6_ := (hb.cell (World.block_lt_of_cell? _ _ (hHeld.2.2.2.2.2.2))).trans (hHeld.2.2.2.2.2.2)
   refine ⟨_, rfl, ?_⟩
   have n0_ := aM (Kd.R_below (gR (HO_4.out)) hb)
   have n1_ := aM (Kd.R_below (gR (HO_5.out)) hb)
   have n2_ := aM (Kd.S_below (gS (HO_8.out)) hb)
   have n3_ := aM (Kd.R_below (gR (HO_758001.out)) hb)
   have n4_ := aM (Kd.R_below (gR (HL765_0.out)) hb)
   have n5_ := aM (Kd.R_below (gR (HL766_0.out)) hb)
   have n6_ := aM (Kd.R_below (gR (HL769_0.out)) hb)
   have n7_ := aM (blk_below (g := gb757) (o := .cells #[.int .i64 t747, .slice Ao24 t748.length co24] 25 (0, 0)) (gB (BK757.out)) hb)
   have n8_ := aM (Kd.C_below (by repeat (first | (with_reducible exact HR765_0.out) | (with_reducible refine Kd.C_alloc ?_ _) | (with_reducible refine Kd.C_drewN ?_ _) | (with_reducible refine Kd.C_drew ?_) | exact HR765_0.out)) hb)
   have n9_ := aM (Kd.C_below (by repeat (first | (with_reducible exact HR766_0.out) | (with_reducible refine Kd.C_alloc ?_ _) | (with_reducible refine Kd.C_drewN ?_ _) | (with_reducible refine Kd.C_drew ?_) | exact HR766_0.out)) hb)
   have n10_ := aM (Kd.C_below (by repeat (first | (with_reducible exact HR769_0.out) | (with_reducible refine Kd.C_alloc ?_ _) | (with_reducible refine Kd.C_drewN ?_ _) | (with_reducible refine Kd.C_drew ?_) | exact HR769_0.out)) hb)
   have n11_ := aM (below_step (bl1 HB GE757) hb)
   clear HO_4
   clear HO_5
   clear HO_8
   clear HO_758001
   clear HL765_0
   clear HL766_0
   clear HL769_0
   clear BK757
   clear HR765_0
   clear HR766_0
   clear HR769_0
   clear HB
   have HO_4 := n0_
   have HO_5 := n1_
   have HO_8 := n2_
   have HO_758001 := n3_
   have HL765_0 := n4_
   have HL766_0 := n5_
   have HL769_0 := n6_
   have BK757 := n7_
   have HR765_0 := n8_
   have HR766_0 := n9_
   have HR769_0 := n10_
   have HB := n11_
   clear n0_ n1_ n2_ n3_ n4_ n5_ n6_ n7_ n8_ n9_ n10_ n11_
   (try clear hb)
   (try clear hb2)
   (try clear hk)
   (try clear hi)
   refine hK.out _ _ ⟨(blk_cell BK757.out 0).trans rfl, (blk_cell BK757.out 1).trans rfl, HS2_, HS3_, HS4_, HS5_, HS6_⟩ (fun hHeld => ?_)
   clear hK K
   refine norm_ (a' := ?_) ?_ ?_
   rotate_left
   ·
    show Act.put _ (some 61) _ = _
    simp only [Act.put, List.setIfInBounds_toArray, List.set_cons_zero, List.set_cons_succ, i64_w, i32_w]
    rfl
   refine one_ (i := 26) (N := some 71) #[true, true, true, true, true, true, true, true, true, true, true, true, true, true, true, true, true, true, true, true, true, true, true, true, true, true, true, false, false] rfl rfl (one_of HT_.out (by kernel_rfl)) (by decide) (fun K hK => ?_)
   refine goes_ Tryd.func28 (by kernel_rfl) rfl #[.agg #[.int .i64 t747, .slice Ao24 t748.length co24], .slice Ao25 t751.length co25, .slice Ao26 t754.length co26, .int .i64 (rd (rd_L9 t761 x9_1) 0)] (by rfl) rfl rfl mP ?_
   with_reducible refine (impl_IslandLoad.calls k1 t747 _ _ t748 _ _ t751 _ _ t754 (rd (rd_L9 t761 x9_1) 0) t771 _ ?side1 ?side2 ?side3 ?side4 ?side5 ?side6 A37.out).mono ?_
   (case side1 => exact gC ((Kd.R_reads' HO_758001.out).2.2))
   (case side2 => exact (Kd.R_reads' HO_758001.out).2.1)
   (case side3 => exact gC ((Kd.R_reads' HO_4.out).2.2))
   (case side4 => exact (Kd.R_reads' HO_4.out).2.1)
   (case side5 => exact gC ((Kd.R_reads' HO_5.out).2.2))
   (case side6 => exact (Kd.R_reads' HO_5.out).2.1)
   rintro e w43 ⟨rfl, hb⟩
   have HS2_ := (hb.cell (World.block_lt_of_cell? _ _ (hHeld.2.2.1))).trans (hHeld.2.2.1)
   have HS3_ := (hb.cell (World.block_lt_of_cell? _ _ (hHeld.2.2.2.1))).trans (hHeld.2.2.2.1)
   have HS4_ := (hb.cell (World.block_lt_of_cell? _ _ (hHeld.2.2.2.2.1))).trans (hHeld.2.2.2.2.1)
   have HS5_ := (hb.cell (World.block_lt_of_cell? _ _ (hHeld.2.2.2.2.2.1))).trans (hHeld.2.2.2.2.2.1)
   have HS6_ := (hb.cell (World.block_lt_of_cell? _ _ (hHeld.2.2.2.2.2.2))).trans (hHeld.2.2.2.2.2.2)
   refine ⟨_, rfl, ?_⟩
   have n0_ := aM (Kd.R_below (gR (HO_4.out)) hb)
   have n1_ := aM (Kd.R_below (gR (HO_5.out)) hb)
   have n2_ := aM (Kd.S_below (gS (HO_8.out)) hb)
   have n3_ := aM (Kd.R_below (gR (HO_758001.out)) hb)
   have n4_ := aM (Kd.R_below (gR (HL765_0.out)) hb)
   have n5_ := aM (Kd.R_below (gR (HL766_0.out)) hb)
   have n6_ := aM (Kd.R_below (gR (HL769_0.out)) hb)
   have n7_ := aM (blk_below (g := gb757) (o := .cells #[.int .i64 t747, .slice Ao24 t748.length co24] 25 (0, 0)) (gB (BK757.out)) hb)
   have n8_ := aM (Kd.C_below (by repeat (first | (with_reducible exact HR765_0.out) | (with_reducible refine Kd.C_alloc ?_ _) | (with_reducible refine Kd.C_drewN ?_ _) | (with_reducible refine Kd.C_drew ?_) | exact HR765_0.out)) hb)
   have n9_ := aM (Kd.C_below (by repeat (first | (with_reducible exact HR766_0.out) | (with_reducible refine Kd.C_alloc ?_ _) | (with_reducible refine Kd.C_drewN ?_ _) | (with_reducible refine Kd.C_drew ?_) | exact HR766_0.out)) hb)
   have n10_ := aM (Kd.C_below (by repeat (first | (with_reducible exact HR769_0.out) | (with_reducible refine Kd.C_alloc ?_ _) | (with_reducible refine Kd.C_drewN ?_ _) | (with_reducible refine Kd.C_drew ?_) | exact HR769_0.out)) hb)
   have n11_ := aM (below_step (bl1 HB GE757) hb)
   clear HO_4
   clear HO_5
   clear HO_8
   clear HO_758001
   clear HL765_0
   clear HL766_0
   clear HL769_0
   clear BK757
   clear HR765_0
   clear HR766_0
   clear HR769_0
   clear HB
   have HO_4 := n0_
   have HO_5 := n1_
   have HO_8 := n2_
   have HO_758001 := n3_
   have HL765_0 := n4_
   have HL766_0 := n5_
   have HL769_0 := n6_
   have BK757 := n7_
   have HR765_0 := n8_
   have HR766_0 := n9_
   have HR769_0 := n10_
   have HB := n11_
   clear n0_ n1_ n2_ n3_ n4_ n5_ n6_ n7_ n8_ n9_ n10_ n11_
   (try clear hb)
   (try clear hb2)
   (try clear hk)
   (try clear hi)
   refine hK.out _ _ ⟨(blk_cell BK757.out 0).trans rfl, (blk_cell BK757.out 1).trans rfl, HS2_, HS3_, HS4_, HS5_, HS6_⟩ (fun hHeld => ?_)
   clear hK K
   refine norm_ (a' := ?_) ?_ ?_
   rotate_left
   ·
    show Act.put _ (some 71) _ = _
    simp only [Act.put, List.setIfInBounds_toArray, List.set_cons_zero, List.set_cons_succ, i64_w, i32_w]
    rfl
   refine pure_ (i := 27) (N := some 72) (v := ?_) (a' := ?_) #[true, true, true, true, true, true, true, true, true, true, true, true, true, true, true, true, true, true, true, true, true, true, true, true, true, true, true, true, false] rfl rfl (any_of HT_.out (by kernel_rfl)) (fun _ _ _ h => h) (Or.inl ⟨by rfl, ?_⟩) ?_ ?_
   rotate_left
   ·
    intro w'
    go_simp
    with_reducible rfl
   rotate_left
   ·
    simp only [Act.put, List.setIfInBounds_toArray, List.set_cons_zero, List.set_cons_succ, i64_w, i32_w]
    rfl
   refine pure_ (i := 28) (N := some 73) (v := ?_) (a' := ?_) #[true, true, true, true, true, true, true, true, true, true, true, true, true, true, true, true, true, true, true, true, true, true, true, true, true, true, true, true, true] rfl rfl (any_of HT_.out (by kernel_rfl)) (fun _ _ _ h => h) (Or.inl ⟨by rfl, ?_⟩) ?_ ?_
   rotate_left
   ·
    intro w'
    go_simp
    with_reducible rfl
   rotate_left
   ·
    simp only [Act.put, List.setIfInBounds_toArray, List.set_cons_zero, List.set_cons_succ, i64_w, i32_w]
    rfl
   refine done_ (done_of HT_.out (by kernel_rfl)) ?_
   try go_wp2
   have n0_ := aM (Kd.R_drew HO_4.out)
   have n1_ := aM (Kd.R_drew HO_5.out)
   have n2_ := aM (Kd.S_drew HO_8.out)
   have n3_ := aM (Kd.R_drew HO_758001.out)
   have n4_ := aM (Kd.R_drew HL765_0.out)
   have n5_ := aM (Kd.R_drew HL766_0.out)
   have n6_ := aM (Kd.R_drew HL769_0.out)
   have n7_ := aM (blk_drew BK757.out)
   have n8_ := aM (Kd.C_drew HR765_0.out)
   have n9_ := aM (Kd.C_drew HR766_0.out)
   have n10_ := aM (Kd.C_drew HR769_0.out)
   have n11_ := aM (below_drew1 HB.out)
   clear HO_4
   clear HO_5
   clear HO_8
   clear HO_758001
   clear HL765_0
   clear HL766_0
   clear HL769_0
   clear BK757
   clear HR765_0
   clear HR766_0
   clear HR769_0
   clear HB
   have HO_4 := n0_
   have HO_5 := n1_
   have HO_8 := n2_
   have HO_758001 := n3_
   have HL765_0 := n4_
   have HL766_0 := n5_
   have HL769_0 := n6_
   have BK757 := n7_
   have HR765_0 := n8_
   have HR766_0 := n9_
   have HR769_0 := n10_
   have HB := n11_
   clear n0_ n1_ n2_ n3_ n4_ n5_ n6_ n7_ n8_ n9_ n10_ n11_
   have p772 : 0 ≤ (x9_1 : Int) := oD
   have q772 : x9_1 < (t761.length : Int) := oD
   obtain ⟨ad772, A772_0, c772_0, e772, hx772_0, hl772_0, hi772_0⟩ := at_L9 (Kd.S_reads' HO_8.out).2.2 x9_1 p772 q772
   obtain rfl : ad765 = ad772 := (by injection e772)
   obtain ⟨ce772, hce772, hMe772, hcc772⟩ := Kd.S_get HO_8.out [] x9_1 p772 (by first | exact q772 | exact oD | (have e_ := (Kd.S_reads' HO_8.out).1; omega))
   obtain ⟨ve772_0, rfl, ge772_0⟩ := hMe772
   have hv772_0 := hcc772 0 _ rfl
   rw [Nat.add_zero, show ((Kd.slice 3 (Kd.int .i64))).sz = 1 from rfl, Nat.mul_one] at hv772_0
   replace hv772_0 := Option.some.inj (hv772_0.symm.trans hx772_0)
   rw [hv772_0] at ge772_0
   have HL772_0 := aM (show Kd.R (Kd.int .i64) 3 _ _ _ _ (rd_L9 t761 x9_1) from ge772_0)
   clear hv772_0 ge772_0
   clear hcc772 hce772
   have HR772_0 := Aside0.mk hi772_0
   have HC772_0 := Aside0.mk hl772_0
   clear hi772_0 hl772_0
   replace p772 := eq_true p772
   replace q772 := eq_true q772
   have p773 : 0 ≤ (0 : Int) := (by omega)
   have q773 : 0 < ((rd_L9 t761 x9_1).length : Int) := oD
   obtain ⟨ad773, e773, hx773_0⟩ := Kd.at_int (by repeat (first | (with_reducible exact HR772_0.out) | (with_reducible refine Kd.C_alloc ?_ _) | (with_reducible refine Kd.C_drewN ?_ _) | (with_reducible refine Kd.C_drew ?_) | exact HR772_0.out)) 0 p773 q773
   cases e773
   have qi773 : (0 < (rd_L9 t761 x9_1).length) = True := eq_true (by omega)
   (try rw [show ((0 : Int)).toNat = 0 from rfl] at hx773_0)
   (try rw [Addr.add_zero'] at hx773_0)
   replace p773 := eq_true p773
   replace q773 := eq_true q773
   refine start_ (n := 13) (S := fun w' => w'.cell? ⟨gb757, 0, none⟩ = some (.int .i64 t747) ∧ w'.cell? ⟨gb757, 1, none⟩ = some (.slice Ao24 t748.length co24) ∧ w'.cell? (ad765.add (x9_1).toNat) = some (.slice (some ad773) (rd_L9 t761 x9_1).length c772_0) ∧ w'.cell? ad773 = some (.int .i64 (rd (rd_L9 t761 x9_1) 0))) (ds := []) #[false, false, false, false, false, false, false, false, false, false, false, false, false] (by kernel_rfl) rfl rfl ⟨(blk_cell BK757.out 0).trans rfl, (blk_cell BK757.out 1).trans rfl, hx772_0, hx773_0⟩ (fun hHeld => ?_); refine with_tabW laws_FnServedLoad.tab15 laws_FnServedLoad.bits15 (fun HT_ HW_ => ?_)
   generalize w43.drew = w44 at HO_4 HO_5 HO_8 HO_758001 HL765_0 HL766_0 HL769_0 BK757 HR765_0 HR766_0 HR769_0 HB HL772_0 HR772_0 hx772_0 hx773_0 hHeld ⊢
   refine pure_ (i := 0) (N := some 74) (v := ?_) (a' := ?_) #[true, false, false, false, false, false, false, false, false, false, false, false, false] rfl rfl (any_of HT_.out (by kernel_rfl)) (fun _ _ _ h => h) (Or.inl ⟨by rfl, ?_⟩) ?_ ?_
   rotate_left
   ·
    intro w'
    go_simp
    with_reducible rfl
   rotate_left
   ·
    simp only [Act.put, List.setIfInBounds_toArray, List.set_cons_zero, List.set_cons_succ, i64_w, i32_w]
    rfl
   refine pure_ (i := 2) (N := some 76) (v := ?_) (a' := ?_) #[true, false, true, false, false, false, false, false, false, false, false, false, false] rfl rfl (any_of HT_.out (by kernel_rfl)) (fun _ _ _ h => h) (Or.inl ⟨by rfl, ?_⟩) ?_ ?_
   rotate_left
   ·
    intro w'
    go_simp
    with_reducible rfl
   rotate_left
   ·
    simp only [Act.put, List.setIfInBounds_toArray, List.set_cons_zero, List.set_cons_succ, i64_w, i32_w]
    rfl
   refine pure_ (i := 3) (N := some 77) (v := ?_) (a' := ?_) #[true, false, true, true, false, false, false, false, false, false, false, false, false] rfl rfl (any_of HT_.out (by kernel_rfl)) (fun _ _ _ h => h) (Or.inl ⟨by rfl, ?_⟩) ?_ ?_
   rotate_left
   ·
    intro w'
    go_simp
    with_reducible rfl
   rotate_left
   ·
    simp only [Act.put, List.setIfInBounds_toArray, List.set_cons_zero, List.set_cons_succ, i64_w, i32_w]
    rfl
   refine pure_ (i := 4) (N := some 78) (v := ?_) (a' := ?_) #[true, false, true, true, true, false, false, false, false, false, false, false, false] rfl rfl (any_of HT_.out (by kernel_rfl)) (fun _ _ _ h => h) (Or.inl ⟨by rfl, ?_⟩) ?_ ?_
   rotate_left
   ·
    intro w'
    go_simp
    with_reducible rfl
   rotate_left
   ·
    simp only [Act.put, List.setIfInBounds_toArray, List.set_cons_zero, List.set_cons_succ, i64_w, i32_w]
    rfl
   refine pure_ (i := 5) (N := some 79) (v := ?_) (a' := ?_) #[true, false, true, true, true, true, false, false, false, false, false, false, false] rfl rfl (any_of HT_.out (by kernel_rfl)) (fun _ _ _ h => h) (Or.inl ⟨by rfl, ?_⟩) ?_ ?_
   rotate_left
   ·
    intro w'
    go_simp
    with_reducible rfl
   rotate_left
   ·
    simp only [Act.put, List.setIfInBounds_toArray, List.set_cons_zero, List.set_cons_succ, i64_w, i32_w]
    rfl
   refine pure_ (i := 6) (N := some 80) (v := ?_) (a' := ?_) #[true, false, true, true, true, true, true, false, false, false, false, false, false] rfl rfl (any_of HT_.out (by kernel_rfl)) (fun _ _ _ h => h) (Or.inl ⟨by rfl, ?_⟩) ?_ ?_
   rotate_left
   ·
    intro w'
    go_simp
    with_reducible rfl
   rotate_left
   ·
    simp only [Act.put, List.setIfInBounds_toArray, List.set_cons_zero, List.set_cons_succ, i64_w, i32_w]
    rfl
   refine take_ (i := 1) (N := some 75) (v := ?_) (a' := ?_) #[true, true, true, true, true, true, true, false, false, false, false, false, false] rfl rfl (take_ofW HT_.out HW_.out (by kernel_rfl)) (fun _ _ _ h => h) (Or.inl ⟨by rfl, ?_⟩) hHeld ?_ ?_
   rotate_left
   ·
    rintro w' ⟨s0, s1, s2, s3⟩
    go_simp
    with_reducible rfl
   rotate_left
   ·
    simp only [Act.put, List.setIfInBounds_toArray, List.set_cons_zero, List.set_cons_succ, i64_w, i32_w]
    rfl
   refine take_ (i := 7) (N := some 81) (v := ?_) (a' := ?_) #[true, true, true, true, true, true, true, true, false, false, false, false, false] rfl rfl (take_ofW HT_.out HW_.out (by kernel_rfl)) (fun _ _ _ h => h) (Or.inl ⟨by rfl, ?_⟩) hHeld ?_ ?_
   rotate_left
   ·
    rintro w' ⟨s0, s1, s2, s3⟩
    go_simp
    with_reducible rfl
   rotate_left
   ·
    simp only [Act.put, List.setIfInBounds_toArray, List.set_cons_zero, List.set_cons_succ, i64_w, i32_w]
    rfl
   refine pure_ (i := 8) (N := some 82) (v := ?_) (a' := ?_) #[true, true, true, true, true, true, true, true, true, false, false, false, false] rfl rfl (any_of HT_.out (by kernel_rfl)) (fun _ _ _ h => h) (Or.inl ⟨by rfl, ?_⟩) ?_ ?_
   rotate_left
   ·
    intro w'
    go_simp
    with_reducible rfl
   rotate_left
   ·
    simp only [Act.put, List.setIfInBounds_toArray, List.set_cons_zero, List.set_cons_succ, i64_w, i32_w]
    rfl
   refine take_ (i := 9) (N := some 83) (v := ?_) (a' := ?_) #[true, true, true, true, true, true, true, true, true, true, false, false, false] rfl rfl (take_ofW HT_.out HW_.out (by kernel_rfl)) (fun _ _ _ h => h) (Or.inl ⟨by rfl, ?_⟩) hHeld ?_ ?_
   rotate_left
   ·
    rintro w' ⟨s0, s1, s2, s3⟩
    go_simp
    with_reducible rfl
   rotate_left
   ·
    simp only [Act.put, List.setIfInBounds_toArray, List.set_cons_zero, List.set_cons_succ, i64_w, i32_w]
    rfl
   refine one_ (i := 10) (N := some 84) #[true, true, true, true, true, true, true, true, true, true, true, false, false] rfl rfl (one_of HT_.out (by kernel_rfl)) (by decide) (fun K hK => ?_)
   refine goes_ Tryd.func28 (by kernel_rfl) rfl #[.agg #[.int .i64 t747, .slice Ao24 t748.length co24], .slice Ao25 t751.length co25, .slice Ao26 t754.length co26, .int .i64 (rd (rd_L9 t761 x9_1) 0)] (by rfl) rfl rfl mP ?_
   with_reducible refine (impl_IslandLoad.calls k1 t747 _ _ t748 _ _ t751 _ _ t754 (rd (rd_L9 t761 x9_1) 0) t774 _ ?side1 ?side2 ?side3 ?side4 ?side5 ?side6 A39.out).mono ?_
   (case side1 => exact gC ((Kd.R_reads' HO_758001.out).2.2))
   (case side2 => exact (Kd.R_reads' HO_758001.out).2.1)
   (case side3 => exact gC ((Kd.R_reads' HO_4.out).2.2))
   (case side4 => exact (Kd.R_reads' HO_4.out).2.1)
   (case side5 => exact gC ((Kd.R_reads' HO_5.out).2.2))
   (case side6 => exact (Kd.R_reads' HO_5.out).2.1)
   rintro e w45 ⟨rfl, hb⟩
   have HS2_ := (hb.cell (World.block_lt_of_cell? _ _ (hHeld.2.2.1))).trans (hHeld.2.2.1)
   have HS3_ := (hb.cell (World.block_lt_of_cell? _ _ (hHeld.2.2.2))).trans (hHeld.2.2.2)
   refine ⟨_, rfl, ?_⟩
   have n0_ := aM (Kd.R_below (gR (HO_4.out)) hb)
   have n1_ := aM (Kd.R_below (gR (HO_5.out)) hb)
   have n2_ := aM (Kd.S_below (gS (HO_8.out)) hb)
   have n3_ := aM (Kd.R_below (gR (HO_758001.out)) hb)
   have n4_ := aM (Kd.R_below (gR (HL765_0.out)) hb)
   have n5_ := aM (Kd.R_below (gR (HL766_0.out)) hb)
   have n6_ := aM (Kd.R_below (gR (HL769_0.out)) hb)
   have n7_ := aM (Kd.R_below (gR (HL772_0.out)) hb)
   have n8_ := aM (blk_below (g := gb757) (o := .cells #[.int .i64 t747, .slice Ao24 t748.length co24] 25 (0, 0)) (gB (BK757.out)) hb)
   have n9_ := aM (Kd.C_below (by repeat (first | (with_reducible exact HR765_0.out) | (with_reducible refine Kd.C_alloc ?_ _) | (with_reducible refine Kd.C_drewN ?_ _) | (with_reducible refine Kd.C_drew ?_) | exact HR765_0.out)) hb)
   have n10_ := aM (Kd.C_below (by repeat (first | (with_reducible exact HR766_0.out) | (with_reducible refine Kd.C_alloc ?_ _) | (with_reducible refine Kd.C_drewN ?_ _) | (with_reducible refine Kd.C_drew ?_) | exact HR766_0.out)) hb)
   have n11_ := aM (Kd.C_below (by repeat (first | (with_reducible exact HR769_0.out) | (with_reducible refine Kd.C_alloc ?_ _) | (with_reducible refine Kd.C_drewN ?_ _) | (with_reducible refine Kd.C_drew ?_) | exact HR769_0.out)) hb)
   have n12_ := aM (Kd.C_below (by repeat (first | (with_reducible exact HR772_0.out) | (with_reducible refine Kd.C_alloc ?_ _) | (with_reducible refine Kd.C_drewN ?_ _) | (with_reducible refine Kd.C_drew ?_) | exact HR772_0.out)) hb)
   have n13_ := aM (below_step (bl1 HB GE757) hb)
   clear HO_4
   clear HO_5
   clear HO_8
   clear HO_758001
   clear HL765_0
   clear HL766_0
   clear HL769_0
   clear HL772_0
   clear BK757
   clear HR765_0
   clear HR766_0
   clear HR769_0
   clear HR772_0
   clear HB
   have HO_4 := n0_
   have HO_5 := n1_
   have HO_8 := n2_
   have HO_758001 := n3_
   have HL765_0 := n4_
   have HL766_0 := n5_
   have HL769_0 := n6_
   have HL772_0 := n7_
   have BK757 := n8_
   have HR765_0 := n9_
   have HR766_0 := n10_
   have HR769_0 := n11_
   have HR772_0 := n12_
   have HB := n13_
   clear n0_ n1_ n2_ n3_ n4_ n5_ n6_ n7_ n8_ n9_ n10_ n11_ n12_ n13_
   (try clear hb)
   (try clear hb2)
   (try clear hk)
   (try clear hi)
   refine hK.out _ _ ⟨(blk_cell BK757.out 0).trans rfl, (blk_cell BK757.out 1).trans rfl, HS2_, HS3_⟩ (fun hHeld => ?_)
   clear hK K
   refine norm_ (a' := ?_) ?_ ?_
   rotate_left
   ·
    show Act.put _ (some 84) _ = _
    simp only [Act.put, List.setIfInBounds_toArray, List.set_cons_zero, List.set_cons_succ, i64_w, i32_w]
    rfl
   refine pure_ (i := 11) (N := some 85) (v := ?_) (a' := ?_) #[true, true, true, true, true, true, true, true, true, true, true, true, false] rfl rfl (any_of HT_.out (by kernel_rfl)) (fun _ _ _ h => h) (Or.inl ⟨by rfl, ?_⟩) ?_ ?_
   rotate_left
   ·
    intro w'
    go_simp
    with_reducible rfl
   rotate_left
   ·
    simp only [Act.put, List.setIfInBounds_toArray, List.set_cons_zero, List.set_cons_succ, i64_w, i32_w]
    rfl
   refine pure_ (i := 12) (N := some 7) (v := ?_) (a' := ?_) #[true, true, true, true, true, true, true, true, true, true, true, true, true] rfl rfl (any_of HT_.out (by kernel_rfl)) (fun _ _ _ h => h) (Or.inl ⟨by rfl, ?_⟩) ?_ ?_
   rotate_left
   ·
    intro w'
    go_simp
    with_reducible rfl
   rotate_left
   ·
    simp only [Act.put, List.setIfInBounds_toArray, List.set_cons_zero, List.set_cons_succ, i64_w, i32_w]
    rfl
   refine done_ (done_of HT_.out (by kernel_rfl)) ?_
   try go_wp2
   go_roundg k1
   case measure => have := HK1.out; omega
   case rel => exact ⟨(wrap64 (x7_1 + t774)), (wrap64 (x9_1 + 1)), fS, fS, H', ⟨by have := HK1.out; omega⟩, ⟨gR (HO_4.out)⟩, ⟨gR (HO_5.out)⟩, ⟨gS (HO_8.out)⟩, ⟨gR (HO_758001.out)⟩, ⟨gB (BK757.out)⟩, ⟨bl1 HB GE757⟩⟩

end Go.Proofs.YtpgjgbjkfgbpaaaDoor.P

/- Contracts of Go functions of this seat's translation, written by this repo's wip/mk.py: it calls the kit's print.py with contracts typed by hand in place of functions that it does not take. Not trusted: Lean checks it. -/
import Derived.Test.YthkdkjmnnpcdhaaDoorP0
import Derived.Test.YthkdkjmnnpcdhaaDoorP3
import Derived.Test.YthkdkjmnnpcdhaaDoorP34
import Derived.Test.YthkdkjmnnpcdhaaDoorP29
import Derived.Test.YthkdkjmnnpcdhaaDoorP55
namespace Go.Proofs.YthkdkjmnnpcdhaaDoor.P
open Go.RowKit Go.Proofs.YthkdkjmnnpcdhaaDoorW.PrintWords Go.Proofs.YthkdkjmnnpcdhaaDoorW.PrintLast Go.Proofs.YthkdkjmnnpcdhaaDoorW.PrintMore
attribute [local go_sem] max2_int min2_int max_two min_two max_three min_three max_four min_four   -- for this text's walks alone
set_option linter.unusedVariables false
set_option linter.unusedSimpArgs false

/-! ### spec_DrawIslandNumbers: function 36 -/
def spec_DrawIslandNumbers.f (k : Nat) (l0 : List Int) : Option (Int × (List (S52)) × List Bool) := (spec_l20Open.f l0).bind fun bt681 => ((spec_l20Switched.f k bt681.1 bt681.2 6).bind fun bt684 => (some (bt684.1, bt684.2.1, bt684.2.2.1)))
theorem spec_DrawIslandNumbers.mono : ∀ a0 k, LeO (spec_DrawIslandNumbers.f k a0) (spec_DrawIslandNumbers.f (k + 1) a0) := by
 intro a0 k
 unfold spec_DrawIslandNumbers.f
 repeat' first
   | (with_reducible exact spec_l20Switched.mono _ _ _ _)
   | (with_reducible exact LeO.refl _)
   | (with_reducible exact LeO.none _)
   | (with_reducible refine LeO.ite ?_ ?_)
   | (with_reducible refine LeO.bind ?_ (fun _ => ?_))
   | exact spec_l20Switched.mono _ _ _ _
   | exact LeO.none _
   | refine LeO.ite ?_ ?_
   | refine LeO.bind ?_ (fun _ => ?_)
set_option maxHeartbeats 8000000 in
set_option maxRecDepth 100000 in
theorem spec_DrawIslandNumbers.calls (k : Nat) (A0 : Option Addr) (c0 : Nat) (l0 : List Int) (r1 : Int) (r2 : List (S52)) (r3 : List Bool) (w : World) (hr0 : Kd.C (Kd.int .u8) w A0 l0.length l0) (hc0 : l0.length ≤ c0) (h : spec_DrawIslandNumbers.f k l0 = some (r1, r2, r3)) :
  Calls Tryd.prog 36 #[.slice A0 l0.length c0] w fun e w' => ∃ v1_ v2_ : Value, e = .returned (.tuple #[.agg #[.int .i64 r1, v1_], v2_]) ∧ Kd.R k52 52 w' w.heap.size (fun _ => True) v1_ r2 ∧ Kd.R Kd.bool 4 w' w.heap.size (fun _ => True) v2_ r3 ∧ Below w.heap.size w w' := by
 have hu39 := Tryd.underlying39
 have HR0 := Aside0.mk hr0
 have HC0 := Aside0.mk hc0
 clear hr0 hc0
 have HB := Aside0.mk (Below.refl w.heap.size w)
 have H : ((spec_l20Open.f l0).bind fun bt681 => ((spec_l20Switched.f k bt681.1 bt681.2 6).bind fun bt684 => (some (bt684.1, bt684.2.1, bt684.2.2.1)))) = some (r1, r2, r3) := h
 clear h
 replace H := Option.bind_eq_some_iff.mp H
 obtain ⟨⟨t681, t682⟩, A20, H⟩ := H
 replace H : ((spec_l20Switched.f k t681 t682 6).bind fun bt684 => (some (bt684.1, bt684.2.1, bt684.2.2.1))) = some (r1, r2, r3) := H
 have A2 := Aside0.mk A20
 clear A20
 replace H := Option.bind_eq_some_iff.mp H
 obtain ⟨⟨t684, t685, t688, t691⟩, A30, H⟩ := H
 replace H : (some (t684, t685, t688)) = some (r1, r2, r3) := H
 have A3 := Aside0.mk A30
 clear A30
 simp only [Option.some.injEq, Prod.mk.injEq] at H
 obtain ⟨rfl, rfl, rfl⟩ := H
 go_enter Tryd.func36, Tryd.ntmps36
 go_wp2_with (first | ((with_reducible refine gate_dst (N := 2) rfl ?_); refine box_event ?hg (N := 2) ?hd (cs := #[.int .i64 0, .slice none 0 0]) (t := 39) ?hr ?_; (case hd => rfl); (case hg => rfl); (case hr => exact hR); intro gb680 hg w4 hbox hb; have n0_ := Aside0.mk (below_step (bl0 HB) hb); have n1_ := Aside0.mk (hbox); have n2_ := Aside0.mk ((by rw [hg]; exact (below_size (bl0 HB)) : w.heap.size ≤ gb680)); have n3_ := Aside0.mk ((by rw [hg]; exact (below_size (bl0 HB)) : w.heap.size ≤ gb680)); clear HB; have HB := n0_; have BK680 := n1_; have GW680 := n2_; have GE680 := n3_; clear n0_ n1_ n2_ n3_; clear hb hbox hg) | ((with_reducible refine gate_callee (f := 45) rfl ?_); refine goesL_ (some 5) rfl rfl Tryd.func45 (by kernel_rfl) rfl #[.slice A0 l0.length c0] rfl mP ?_; (with_reducible refine (spec_l20Open.calls _ _ l0 t681 t682 w _ ?side1 ?side2 ?side3 A2.out).mono ?_); (case side1 => repeat (first | (with_reducible first | exact HB.out | apply below_alloc | apply pw_below_drewN | apply below_drew1 | refine below_set ?_ GE680.out) | exact HB.out)); (case side2 => exact HR0.out); (case side3 => exact HC0.out); rintro e w5 ⟨g683, rfl, hi, hb, hb2⟩; refine ⟨_, rfl, ?_⟩; have n0_ := Aside0.mk (blk_below (g := gb680) (o := .cells #[.int .i64 0, .slice none 0 0] 39 (0, 0)) (gB (BK680.out)) hb2); have n1_ := Aside0.mk (hb); have n2_ := Aside0.mk (hi); have n3_ := Aside0.mk (IsS80.ne_blk hi (blk_below (g := gb680) (o := .cells #[.int .i64 0, .slice none 0 0] 39 (0, 0)) (gB (BK680.out)) hb2) (by decide)); have n4_ := Aside0.mk (Ne.symm (IsS80.ne_blk hi (blk_below (g := gb680) (o := .cells #[.int .i64 0, .slice none 0 0] 39 (0, 0)) (gB (BK680.out)) hb2) (by decide))); clear BK680; clear HB; have BK680 := n0_; have HB := n1_; have HI683 := n2_; have NB683_680 := n3_; have NB680_683 := n4_; clear n0_ n1_ n2_ n3_ n4_; (try clear hb); (try clear hb2); (try clear hk); (try clear hi)) | ((with_reducible refine gate_callee (f := 56) rfl ?_); refine goesL_ (some 6) rfl rfl Tryd.func56 (by kernel_rfl) rfl #[.pointer (some ⟨g683, 0, none⟩), .int .i64 6] rfl mP ?_; (with_reducible refine (spec_l20Switched.calls k g683 t681 t682 6 t684 t685 t688 t691 w _ ?side1 ?side2 A3.out).mono ?_); (case side1 => repeat (first | (with_reducible first | exact HI683.out | apply IsS80.alloc | apply IsS80.drewN | apply IsS80.drew | apply IsS80.set_1 | refine IsS80.far ?_ NB683_680.out _) | exact HI683.out)); (case side2 => repeat (first | (with_reducible first | exact HB.out | apply below_alloc | apply pw_below_drewN | apply below_drew1 | refine below_set ?_ (IsS80.ge HI683.out) | refine below_set ?_ GE680.out) | exact HB.out)); rintro e w6 ⟨v686, v689, rfl, ho0, ho1, hi, hb, hk⟩; refine ⟨_, rfl, ?_⟩; have n0_ := Aside0.mk (KeepBut.blk hk (g' := gb680) (o := .cells #[.int .i64 0, .slice none 0 0] 39 (0, 0)) (gB (BK680.out)) NB680_683.out (by simp)); have n1_ := Aside0.mk (Kd.R_lower ho0 (below_size (by repeat (first | (with_reducible first | exact HB.out | apply below_alloc | apply pw_below_drewN | apply below_drew1 | refine below_set ?_ (IsS80.ge HI683.out) | refine below_set ?_ GE680.out) | exact HB.out)))); have n2_ := Aside0.mk (Kd.R_lower ho1 (below_size (by repeat (first | (with_reducible first | exact HB.out | apply below_alloc | apply pw_below_drewN | apply below_drew1 | refine below_set ?_ (IsS80.ge HI683.out) | refine below_set ?_ GE680.out) | exact HB.out)))); have n3_ := Aside0.mk (hb); have n4_ := Aside0.mk (hi); clear BK680; clear HB; clear HI683; have BK680 := n0_; have HO687 := n1_; have HO690 := n2_; have HB := n3_; have HI683 := n4_; clear n0_ n1_ n2_ n3_ n4_; (try clear hb); (try clear hb2); (try clear hk); (try clear hi); (try clear ho0); (try clear ho1); have hnb7 := NB680_683.out; have hnc7 := NB683_680.out; have hcz8_0 : w6.cell? ⟨gb680, 0, none⟩ = some (.int .i64 0) := (blk_cell BK680.out 0).trans rfl; have hcz8_1 : w6.cell? ⟨gb680, 1, none⟩ = some (.slice none 0 0) := (blk_cell BK680.out 1).trans rfl; have hfz8_0 := blk_frozen BK680.out 0; have hfz8_1 := blk_frozen BK680.out 1; obtain ⟨Ao9, co9, eo9⟩ := Kd.R_slice HO687.out; subst eo9))
 refine bodyPost_ret (results_ct rfl _ _ gb680 39 #[.int .i64 t684, .slice Ao9 t685.length co9] (0, 0) _ rfl (by (with_reducible repeat (first | refine blk_drewN ?_ _ | refine blk_drew ?_ | refine blk_alloc ?_ _)); refine blk_put (cs := #[.int .i64 t684, .slice none 0 0]) ?_ 1 _ rfl; (with_reducible repeat (first | refine blk_drewN ?_ _ | refine blk_drew ?_ | refine blk_alloc ?_ _)); refine blk_put (cs := #[.int .i64 0, .slice none 0 0]) ?_ 0 _ rfl; (with_reducible repeat (first | refine blk_drewN ?_ _ | refine blk_drew ?_ | refine blk_alloc ?_ _)); exact BK680.out) Tryd.underlying39 rfl (by kernel_rfl)) rfl ?_
 exact ⟨_, _, fR, by (with_reducible repeat (first | apply Kd.R_alloc | apply Kd.R_drewN | apply Kd.R_drew)); exact Kd.R_mono (Kd.R_far (p := ⟨gb680, 1, none⟩) (Kd.R_far (p := ⟨gb680, 0, none⟩) (Kd.R_types HO687.out BK680.out (by decide)) (fun _ hk => hk.2) (.int .i64 t684)) (fun _ hk => hk.2) (.slice Ao9 t685.length co9)) (fun _ hk => trivial), by (with_reducible repeat (first | apply Kd.R_alloc | apply Kd.R_drewN | apply Kd.R_drew)); exact Kd.R_mono (Kd.R_far (p := ⟨gb680, 1, none⟩) (Kd.R_far (p := ⟨gb680, 0, none⟩) (Kd.R_types HO690.out BK680.out (by decide)) (fun _ hk => hk.2) (.int .i64 t684)) (fun _ hk => hk.2) (.slice Ao9 t685.length co9)) (fun _ hk => trivial), by repeat (first | (with_reducible first | exact HB.out | apply below_alloc | apply pw_below_drewN | apply below_drew1 | refine below_set ?_ (IsS80.ge HI683.out) | refine below_set ?_ GE680.out) | exact HB.out)⟩

end Go.Proofs.YthkdkjmnnpcdhaaDoor.P
namespace Go.Proofs.YthkdkjmnnpcdhaaDoor.P
open Go.RowKit Go.Proofs.YthkdkjmnnpcdhaaDoorW.PrintWords Go.Proofs.YthkdkjmnnpcdhaaDoorW.PrintLast Go.Proofs.YthkdkjmnnpcdhaaDoorW.PrintMore
attribute [local go_sem] max2_int min2_int max_two min_two max_three min_three max_four min_four   -- for this text's walks alone
set_option linter.unusedVariables false
set_option linter.unusedSimpArgs false

/-! ### laws_offOn: function 38 -/
def laws_offOn.f (k : Nat) (a0_0 : Int) (l0_1 : List (S52)) (l1 : List Bool) (a2 : Int) : Option (List Bool × List Bool) := (impl_SwitchLine.f k a0_0 l0_1 l1 a2 false).bind fun bt693 => ((impl_SwitchLine.f k a0_0 l0_1 l1 a2 true).bind fun bt697 => (some (bt693.1, bt697.1)))
theorem laws_offOn.mono : ∀ a0 a1 a2 a3 k, LeO (laws_offOn.f k a0 a1 a2 a3) (laws_offOn.f (k + 1) a0 a1 a2 a3) := by
 intro a0 a1 a2 a3 k
 unfold laws_offOn.f
 repeat' first
   | (with_reducible exact impl_SwitchLine.mono _ _ _ _ _ _)
   | (with_reducible exact LeO.refl _)
   | (with_reducible exact LeO.none _)
   | (with_reducible refine LeO.ite ?_ ?_)
   | (with_reducible refine LeO.bind ?_ (fun _ => ?_))
   | exact impl_SwitchLine.mono _ _ _ _ _ _
   | exact LeO.none _
   | refine LeO.ite ?_ ?_
   | refine LeO.bind ?_ (fun _ => ?_)
set_option maxHeartbeats 8000000 in
set_option maxRecDepth 100000 in
theorem laws_offOn.calls (k : Nat) (a0_0 : Int) (A0_1 : Option Addr) (c0_1 : Nat) (l0_1 : List (S52)) (A1 : Option Addr) (c1 : Nat) (l1 : List Bool) (a2 : Int) (r1 : List Bool) (r2 : List Bool) (w : World) (hr0_1 : Kd.C k52 w A0_1 l0_1.length l0_1) (hc0_1 : l0_1.length ≤ c0_1) (hr1 : Kd.C Kd.bool w A1 l1.length l1) (hc1 : l1.length ≤ c1) (h : laws_offOn.f k a0_0 l0_1 l1 a2 = some (r1, r2)) :
  Calls Tryd.prog 38 #[.agg #[.int .i64 a0_0, .slice A0_1 l0_1.length c0_1], .slice A1 l1.length c1, .int .i64 a2] w fun e w' => ∃ v0_ v1_ : Value, e = .returned (.tuple #[v0_, v1_]) ∧ Kd.R Kd.bool 4 w' w.heap.size (fun k_ => some k_ ≠ (v1_ : Value).ownBlock) v0_ r1 ∧ Kd.R Kd.bool 4 w' w.heap.size (fun k_ => some k_ ≠ (v0_ : Value).ownBlock) v1_ r2 ∧ Below w.heap.size w w' := by
 have hu39 := Tryd.underlying39
 have HR0_1 := Aside0.mk hr0_1
 have HC0_1 := Aside0.mk hc0_1
 clear hr0_1 hc0_1
 have HR1 := Aside0.mk hr1
 have HC1 := Aside0.mk hc1
 clear hr1 hc1
 have HB := Aside0.mk (Below.refl w.heap.size w)
 have H : ((impl_SwitchLine.f k a0_0 l0_1 l1 a2 false).bind fun bt693 => ((impl_SwitchLine.f k a0_0 l0_1 l1 a2 true).bind fun bt697 => (some (bt693.1, bt697.1)))) = some (r1, r2) := h
 clear h
 replace H := Option.bind_eq_some_iff.mp H
 obtain ⟨⟨t693, t696⟩, A40, H⟩ := H
 replace H : ((impl_SwitchLine.f k a0_0 l0_1 l1 a2 true).bind fun bt697 => (some (t693, bt697.1))) = some (r1, r2) := H
 have A4 := Aside0.mk A40
 clear A40
 replace H := Option.bind_eq_some_iff.mp H
 obtain ⟨⟨t697, t700⟩, A50, H⟩ := H
 replace H : (some (t693, t697)) = some (r1, r2) := H
 have A5 := Aside0.mk A50
 clear A50
 simp only [Option.some.injEq, Prod.mk.injEq] at H
 obtain ⟨rfl, rfl⟩ := H
 go_enter Tryd.func38, Tryd.ntmps38
 go_wp2_with (first | ((with_reducible refine gate_dst (N := 3) rfl ?_); refine box_event ?hg (N := 3) ?hd (cs := #[.int .i64 a0_0, .slice A0_1 l0_1.length c0_1]) (t := 39) ?hr ?_; (case hd => rfl); (case hg => rfl); (case hr => exact hR); intro gb692 hg w6 hbox hb; have n0_ := Aside0.mk (below_step (bl0 HB) hb); have n1_ := Aside0.mk (hbox); have n2_ := Aside0.mk ((by rw [hg]; exact (below_size (bl0 HB)) : w.heap.size ≤ gb692)); have n3_ := Aside0.mk ((by rw [hg]; exact (below_size (bl0 HB)) : w.heap.size ≤ gb692)); clear HB; have HB := n0_; have BK692 := n1_; have GW692 := n2_; have GE692 := n3_; clear n0_ n1_ n2_ n3_; clear hb hbox hg; have hcz7_0 : w6.cell? ⟨gb692, 0, none⟩ = some (.int .i64 a0_0) := (blk_cell BK692.out 0).trans rfl; have hcz7_1 : w6.cell? ⟨gb692, 1, none⟩ = some (.slice A0_1 l0_1.length c0_1) := (blk_cell BK692.out 1).trans rfl; have hfz7_0 := blk_frozen BK692.out 0; have hfz7_1 := blk_frozen BK692.out 1) | ((with_reducible refine gate_callee (f := 22) rfl ?_); refine goesL_ (some 16) rfl rfl Tryd.func22 (by kernel_rfl) rfl #[.agg #[.int .i64 a0_0, .slice A0_1 l0_1.length c0_1], .slice A1 l1.length c1, .int .i64 a2, .bool false] rfl mP ?_; (with_reducible refine (impl_SwitchLine.calls k a0_0 _ _ l0_1 _ _ l1 a2 false t693 t696 _ ?side1 ?side2 ?side3 ?side4 A4.out).mono ?_); (case side1 => exact gC ((Kd.C_below HR0_1.out HB.out))); (case side2 => exact HC0_1.out); (case side3 => exact gC ((Kd.C_below HR1.out HB.out))); (case side4 => exact HC1.out); rintro e w8 ⟨v694, rfl, ho0, hb⟩; refine ⟨_, rfl, ?_⟩; have n0_ := Aside0.mk (Kd.R_lower ho0 (below_size (bl1 HB GE692))); have n1_ := Aside0.mk (blk_below (g := gb692) (o := .cells #[.int .i64 a0_0, .slice A0_1 l0_1.length c0_1] 39 (0, 0)) (gB (BK692.out)) hb); have n2_ := Aside0.mk (below_step (bl1 HB GE692) hb); clear BK692; clear HB; have HO695 := n0_; have BK692 := n1_; have HB := n2_; clear n0_ n1_ n2_; (try clear hb); (try clear hb2); (try clear hk); (try clear hi); (try clear ho0); have hcz9_0 : w8.cell? ⟨gb692, 0, none⟩ = some (.int .i64 a0_0) := (blk_cell BK692.out 0).trans rfl; have hcz9_1 : w8.cell? ⟨gb692, 1, none⟩ = some (.slice A0_1 l0_1.length c0_1) := (blk_cell BK692.out 1).trans rfl; have hfz9_0 := blk_frozen BK692.out 0; have hfz9_1 := blk_frozen BK692.out 1) | ((with_reducible refine gate_callee (f := 22) rfl ?_); refine goesL_ (some 23) rfl rfl Tryd.func22 (by kernel_rfl) rfl #[.agg #[.int .i64 a0_0, .slice A0_1 l0_1.length c0_1], .slice A1 l1.length c1, .int .i64 a2, .bool true] rfl mP ?_; (with_reducible refine (impl_SwitchLine.calls k a0_0 _ _ l0_1 _ _ l1 a2 true t697 t700 _ ?side1 ?side2 ?side3 ?side4 A5.out).mono ?_); (case side1 => exact gC ((Kd.C_below HR0_1.out HB.out))); (case side2 => exact HC0_1.out); (case side3 => exact gC ((Kd.C_below HR1.out HB.out))); (case side4 => exact HC1.out); rintro e w10 ⟨v698, rfl, ho0, hb⟩; refine ⟨_, rfl, ?_⟩; have n0_ := Aside0.mk (Kd.R_elder' (gR (HO695.out)) (Kd.R_base ho0) hb); have n1_ := Aside0.mk (Kd.R_lower (Kd.R_new' ho0 (Kd.R_lt (gR (HO695.out)))) (below_size (bl1 HB GE692))); have n2_ := Aside0.mk (blk_below (g := gb692) (o := .cells #[.int .i64 a0_0, .slice A0_1 l0_1.length c0_1] 39 (0, 0)) (gB (BK692.out)) hb); have n3_ := Aside0.mk (below_step (bl1 HB GE692) hb); clear HO695; clear BK692; clear HB; have HO695 := n0_; have HO699 := n1_; have BK692 := n2_; have HB := n3_; clear n0_ n1_ n2_ n3_; (try clear hb); (try clear hb2); (try clear hk); (try clear hi); (try clear ho0)))
 go_ret2
 exact ⟨_, _, fR, by (with_reducible repeat (first | apply Kd.R_alloc | apply Kd.R_drewN | apply Kd.R_drew)); exact Kd.R_mono HO695.out (fun _ hk => hk.2), by (with_reducible repeat (first | apply Kd.R_alloc | apply Kd.R_drewN | apply Kd.R_drew)); exact Kd.R_mono HO699.out (fun _ hk => hk.2), bl1 HB GE692⟩

end Go.Proofs.YthkdkjmnnpcdhaaDoor.P
namespace Go.Proofs.YthkdkjmnnpcdhaaDoor.P
open Go.RowKit Go.Proofs.YthkdkjmnnpcdhaaDoorW.PrintWords Go.Proofs.YthkdkjmnnpcdhaaDoorW.PrintLast Go.Proofs.YthkdkjmnnpcdhaaDoorW.PrintMore
attribute [local go_sem] max2_int min2_int max_two min_two max_three min_three max_four min_four   -- for this text's walks alone
set_option linter.unusedVariables false
set_option linter.unusedSimpArgs false

/-! ### laws_islands: function 39 -/
def laws_islands.f (k : Nat) (a0_0 : Int) (l0_1 : List (S52)) (l1 : List Bool) : Option (Int) := (impl_IslandsOf.f k a0_0 l0_1 l1).bind fun t702 => (some (t702.length : Int))
theorem laws_islands.mono : ∀ a0 a1 a2 k, LeO (laws_islands.f k a0 a1 a2) (laws_islands.f (k + 1) a0 a1 a2) := by
 intro a0 a1 a2 k
 unfold laws_islands.f
 repeat' first
   | (with_reducible exact impl_IslandsOf.mono _ _ _ _)
   | (with_reducible exact LeO.refl _)
   | (with_reducible exact LeO.none _)
   | (with_reducible refine LeO.ite ?_ ?_)
   | (with_reducible refine LeO.bind ?_ (fun _ => ?_))
   | exact impl_IslandsOf.mono _ _ _ _
   | exact LeO.none _
   | refine LeO.ite ?_ ?_
   | refine LeO.bind ?_ (fun _ => ?_)
set_option maxHeartbeats 8000000 in
set_option maxRecDepth 100000 in
theorem laws_islands.calls (k : Nat) (a0_0 : Int) (A0_1 : Option Addr) (c0_1 : Nat) (l0_1 : List (S52)) (A1 : Option Addr) (c1 : Nat) (l1 : List Bool) (r : Int) (w : World) (hr0_1 : Kd.C k52 w A0_1 l0_1.length l0_1) (hc0_1 : l0_1.length ≤ c0_1) (hr1 : Kd.C Kd.bool w A1 l1.length l1) (hc1 : l1.length ≤ c1) (h : laws_islands.f k a0_0 l0_1 l1 = some r) :
  Calls Tryd.prog 39 #[.agg #[.int .i64 a0_0, .slice A0_1 l0_1.length c0_1], .slice A1 l1.length c1] w fun e w' => e = .returned (.int .i64 r) ∧ Below w.heap.size w w' := by
 have hu39 := Tryd.underlying39
 have HR0_1 := Aside0.mk hr0_1
 have HC0_1 := Aside0.mk hc0_1
 clear hr0_1 hc0_1
 have HR1 := Aside0.mk hr1
 have HC1 := Aside0.mk hc1
 clear hr1 hc1
 have HB := Aside0.mk (Below.refl w.heap.size w)
 have H : ((impl_IslandsOf.f k a0_0 l0_1 l1).bind fun t702 => (some (t702.length : Int))) = some r := h
 clear h
 replace H := Option.bind_eq_some_iff.mp H
 obtain ⟨t702, A30, H⟩ := H
 replace H : (some (t702.length : Int)) = some r := H
 have A3 := Aside0.mk A30
 clear A30
 obtain rfl := Option.some.inj H
 go_enter Tryd.func39, Tryd.ntmps39
 go_wp2_with (first | ((with_reducible refine gate_dst (N := 2) rfl ?_); refine box_event ?hg (N := 2) ?hd (cs := #[.int .i64 a0_0, .slice A0_1 l0_1.length c0_1]) (t := 39) ?hr ?_; (case hd => rfl); (case hg => rfl); (case hr => exact hR); intro gb701 hg w4 hbox hb; have n0_ := Aside0.mk (below_step (bl0 HB) hb); have n1_ := Aside0.mk (hbox); have n2_ := Aside0.mk ((by rw [hg]; exact (below_size (bl0 HB)) : w.heap.size ≤ gb701)); have n3_ := Aside0.mk ((by rw [hg]; exact (below_size (bl0 HB)) : w.heap.size ≤ gb701)); clear HB; have HB := n0_; have BK701 := n1_; have GW701 := n2_; have GE701 := n3_; clear n0_ n1_ n2_ n3_; clear hb hbox hg; have hcz5_0 : w4.cell? ⟨gb701, 0, none⟩ = some (.int .i64 a0_0) := (blk_cell BK701.out 0).trans rfl; have hcz5_1 : w4.cell? ⟨gb701, 1, none⟩ = some (.slice A0_1 l0_1.length c0_1) := (blk_cell BK701.out 1).trans rfl; have hfz5_0 := blk_frozen BK701.out 0; have hfz5_1 := blk_frozen BK701.out 1) | ((with_reducible refine gate_callee (f := 33) rfl ?_); refine goesL_ (some 7) rfl rfl Tryd.func33 (by kernel_rfl) rfl #[.agg #[.int .i64 a0_0, .slice A0_1 l0_1.length c0_1], .slice A1 l1.length c1] rfl mP ?_; (with_reducible refine (impl_IslandsOf.calls k a0_0 _ _ l0_1 _ _ l1 t702 _ ?side1 ?side2 ?side3 ?side4 A3.out).mono ?_); (case side1 => exact gC ((Kd.C_below HR0_1.out HB.out))); (case side2 => exact HC0_1.out); (case side3 => exact gC ((Kd.C_below HR1.out HB.out))); (case side4 => exact HC1.out); rintro e w6 ⟨v703, rfl, ho0, hb⟩; refine ⟨_, rfl, ?_⟩; have n0_ := Aside0.mk (Kd.S_lower ho0 (below_size (bl1 HB GE701))); have n1_ := Aside0.mk (blk_below (g := gb701) (o := .cells #[.int .i64 a0_0, .slice A0_1 l0_1.length c0_1] 39 (0, 0)) (gB (BK701.out)) hb); have n2_ := Aside0.mk (below_step (bl1 HB GE701) hb); clear BK701; clear HB; have HO704 := n0_; have BK701 := n1_; have HB := n2_; clear n0_ n1_ n2_; (try clear hb); (try clear hb2); (try clear hk); (try clear hi); (try clear ho0); obtain ⟨Ao7, co7, eo7⟩ := Kd.S_slice HO704.out; subst eo7))
 go_ret
 exact ⟨fR, bl1 HB GE701⟩

end Go.Proofs.YthkdkjmnnpcdhaaDoor.P

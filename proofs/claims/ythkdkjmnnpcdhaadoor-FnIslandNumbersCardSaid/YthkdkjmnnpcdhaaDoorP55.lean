/- Contracts of Go functions of this seat's translation, written by this repo's wip/mk.py: it calls the kit's print.py with contracts typed by hand in place of functions that it does not take. Not trusted: Lean checks it. -/
import Derived.Test.YthkdkjmnnpcdhaaDoorP0
import Derived.Test.YthkdkjmnnpcdhaaDoorP3
import Derived.Test.YthkdkjmnnpcdhaaDoorP34
import Derived.Test.YthkdkjmnnpcdhaaDoorP28
import Derived.Test.YthkdkjmnnpcdhaaDoorP38
import Derived.Test.YthkdkjmnnpcdhaaDoorP40
import Derived.Test.YthkdkjmnnpcdhaaDoorP49
import Derived.Test.YthkdkjmnnpcdhaaDoorP23
namespace Go.Proofs.YthkdkjmnnpcdhaaDoor.P
open Go.RowKit Go.Proofs.YthkdkjmnnpcdhaaDoorW.PrintWords Go.Proofs.YthkdkjmnnpcdhaaDoorW.PrintLast Go.Proofs.YthkdkjmnnpcdhaaDoorW.PrintMore
attribute [local go_sem] max2_int min2_int max_two min_two max_three min_three max_four min_four   -- for this text's walks alone
set_option linter.unusedVariables false
set_option linter.unusedSimpArgs false

/-! ### spec_DrawIslandsOf: function 32 -/
def spec_DrawIslandsOf.f (k : Nat) (l0 : List Int) : Option (Int × (List (S52)) × List Bool) := (spec_l20Open.f l0).bind fun bt600 => ((spec_l20Switched.f k bt600.1 bt600.2 6).bind fun bt603 => (some (bt603.1, bt603.2.1, bt603.2.2.1)))
theorem spec_DrawIslandsOf.mono : ∀ a0 k, LeO (spec_DrawIslandsOf.f k a0) (spec_DrawIslandsOf.f (k + 1) a0) := by
 intro a0 k
 unfold spec_DrawIslandsOf.f
 repeat' first
   | (with_reducible exact spec_l20Switched.mono _ _ _ _)
   | (with_reducible exact LeO.refl _)
   | (with_reducible exact LeO.none _)
   | (with_reducible refine LeO.ite ?_ ?_)
   | (with_reducible refine LeO.bind ?_ (fun _ => ?_))
   | exact spec_l20Switched.mono _ _ _ _
   | exact LeO.none _
   | refine LeO.ite ?_ ?_
   | refine LeO.bind ?_ (fun _ => ?_)
set_option maxHeartbeats 8000000 in
set_option maxRecDepth 100000 in
theorem spec_DrawIslandsOf.calls (k : Nat) (A0 : Option Addr) (c0 : Nat) (l0 : List Int) (r1 : Int) (r2 : List (S52)) (r3 : List Bool) (w : World) (hr0 : Kd.C (Kd.int .u8) w A0 l0.length l0) (hc0 : l0.length ≤ c0) (h : spec_DrawIslandsOf.f k l0 = some (r1, r2, r3)) :
  Calls Tryd.prog 32 #[.slice A0 l0.length c0] w fun e w' => ∃ v1_ v2_ : Value, e = .returned (.tuple #[.agg #[.int .i64 r1, v1_], v2_]) ∧ Kd.R k52 52 w' w.heap.size (fun _ => True) v1_ r2 ∧ Kd.R Kd.bool 4 w' w.heap.size (fun _ => True) v2_ r3 ∧ Below w.heap.size w w' := by
 have hu39 := Tryd.underlying39
 have HR0 := Aside0.mk hr0
 have HC0 := Aside0.mk hc0
 clear hr0 hc0
 have HB := Aside0.mk (Below.refl w.heap.size w)
 have H : ((spec_l20Open.f l0).bind fun bt600 => ((spec_l20Switched.f k bt600.1 bt600.2 6).bind fun bt603 => (some (bt603.1, bt603.2.1, bt603.2.2.1)))) = some (r1, r2, r3) := h
 clear h
 replace H := Option.bind_eq_some_iff.mp H
 obtain ⟨⟨t600, t601⟩, A20, H⟩ := H
 replace H : ((spec_l20Switched.f k t600 t601 6).bind fun bt603 => (some (bt603.1, bt603.2.1, bt603.2.2.1))) = some (r1, r2, r3) := H
 have A2 := Aside0.mk A20
 clear A20
 replace H := Option.bind_eq_some_iff.mp H
 obtain ⟨⟨t603, t604, t607, t610⟩, A30, H⟩ := H
 replace H : (some (t603, t604, t607)) = some (r1, r2, r3) := H
 have A3 := Aside0.mk A30
 clear A30
 simp only [Option.some.injEq, Prod.mk.injEq] at H
 obtain ⟨rfl, rfl, rfl⟩ := H
 go_enter Tryd.func32, Tryd.ntmps32
 go_wp2_with (first | ((with_reducible refine gate_dst (N := 2) rfl ?_); refine box_event ?hg (N := 2) ?hd (cs := #[.int .i64 0, .slice none 0 0]) (t := 39) ?hr ?_; (case hd => rfl); (case hg => rfl); (case hr => exact hR); intro gb599 hg w4 hbox hb; have n0_ := Aside0.mk (below_step (bl0 HB) hb); have n1_ := Aside0.mk (hbox); have n2_ := Aside0.mk ((by rw [hg]; exact (below_size (bl0 HB)) : w.heap.size ≤ gb599)); have n3_ := Aside0.mk ((by rw [hg]; exact (below_size (bl0 HB)) : w.heap.size ≤ gb599)); clear HB; have HB := n0_; have BK599 := n1_; have GW599 := n2_; have GE599 := n3_; clear n0_ n1_ n2_ n3_; clear hb hbox hg) | ((with_reducible refine gate_callee (f := 45) rfl ?_); refine goesL_ (some 5) rfl rfl Tryd.func45 (by kernel_rfl) rfl #[.slice A0 l0.length c0] rfl mP ?_; (with_reducible refine (spec_l20Open.calls _ _ l0 t600 t601 w _ ?side1 ?side2 ?side3 A2.out).mono ?_); (case side1 => repeat (first | (with_reducible first | exact HB.out | apply below_alloc | apply pw_below_drewN | apply below_drew1 | refine below_set ?_ GE599.out) | exact HB.out)); (case side2 => exact HR0.out); (case side3 => exact HC0.out); rintro e w5 ⟨g602, rfl, hi, hb, hb2⟩; refine ⟨_, rfl, ?_⟩; have n0_ := Aside0.mk (blk_below (g := gb599) (o := .cells #[.int .i64 0, .slice none 0 0] 39 (0, 0)) (gB (BK599.out)) hb2); have n1_ := Aside0.mk (hb); have n2_ := Aside0.mk (hi); have n3_ := Aside0.mk (IsS80.ne_blk hi (blk_below (g := gb599) (o := .cells #[.int .i64 0, .slice none 0 0] 39 (0, 0)) (gB (BK599.out)) hb2) (by decide)); have n4_ := Aside0.mk (Ne.symm (IsS80.ne_blk hi (blk_below (g := gb599) (o := .cells #[.int .i64 0, .slice none 0 0] 39 (0, 0)) (gB (BK599.out)) hb2) (by decide))); clear BK599; clear HB; have BK599 := n0_; have HB := n1_; have HI602 := n2_; have NB602_599 := n3_; have NB599_602 := n4_; clear n0_ n1_ n2_ n3_ n4_; (try clear hb); (try clear hb2); (try clear hk); (try clear hi)) | ((with_reducible refine gate_callee (f := 56) rfl ?_); refine goesL_ (some 6) rfl rfl Tryd.func56 (by kernel_rfl) rfl #[.pointer (some ⟨g602, 0, none⟩), .int .i64 6] rfl mP ?_; (with_reducible refine (spec_l20Switched.calls k g602 t600 t601 6 t603 t604 t607 t610 w _ ?side1 ?side2 A3.out).mono ?_); (case side1 => repeat (first | (with_reducible first | exact HI602.out | apply IsS80.alloc | apply IsS80.drewN | apply IsS80.drew | apply IsS80.set_1 | refine IsS80.far ?_ NB602_599.out _) | exact HI602.out)); (case side2 => repeat (first | (with_reducible first | exact HB.out | apply below_alloc | apply pw_below_drewN | apply below_drew1 | refine below_set ?_ (IsS80.ge HI602.out) | refine below_set ?_ GE599.out) | exact HB.out)); rintro e w6 ⟨v605, v608, rfl, ho0, ho1, hi, hb, hk⟩; refine ⟨_, rfl, ?_⟩; have n0_ := Aside0.mk (KeepBut.blk hk (g' := gb599) (o := .cells #[.int .i64 0, .slice none 0 0] 39 (0, 0)) (gB (BK599.out)) NB599_602.out (by simp)); have n1_ := Aside0.mk (Kd.R_lower ho0 (below_size (by repeat (first | (with_reducible first | exact HB.out | apply below_alloc | apply pw_below_drewN | apply below_drew1 | refine below_set ?_ (IsS80.ge HI602.out) | refine below_set ?_ GE599.out) | exact HB.out)))); have n2_ := Aside0.mk (Kd.R_lower ho1 (below_size (by repeat (first | (with_reducible first | exact HB.out | apply below_alloc | apply pw_below_drewN | apply below_drew1 | refine below_set ?_ (IsS80.ge HI602.out) | refine below_set ?_ GE599.out) | exact HB.out)))); have n3_ := Aside0.mk (hb); have n4_ := Aside0.mk (hi); clear BK599; clear HB; clear HI602; have BK599 := n0_; have HO606 := n1_; have HO609 := n2_; have HB := n3_; have HI602 := n4_; clear n0_ n1_ n2_ n3_ n4_; (try clear hb); (try clear hb2); (try clear hk); (try clear hi); (try clear ho0); (try clear ho1); have hnb7 := NB599_602.out; have hnc7 := NB602_599.out; have hcz8_0 : w6.cell? ⟨gb599, 0, none⟩ = some (.int .i64 0) := (blk_cell BK599.out 0).trans rfl; have hcz8_1 : w6.cell? ⟨gb599, 1, none⟩ = some (.slice none 0 0) := (blk_cell BK599.out 1).trans rfl; have hfz8_0 := blk_frozen BK599.out 0; have hfz8_1 := blk_frozen BK599.out 1; obtain ⟨Ao9, co9, eo9⟩ := Kd.R_slice HO606.out; subst eo9))
 refine bodyPost_ret (results_ct rfl _ _ gb599 39 #[.int .i64 t603, .slice Ao9 t604.length co9] (0, 0) _ rfl (by (with_reducible repeat (first | refine blk_drewN ?_ _ | refine blk_drew ?_ | refine blk_alloc ?_ _)); refine blk_put (cs := #[.int .i64 t603, .slice none 0 0]) ?_ 1 _ rfl; (with_reducible repeat (first | refine blk_drewN ?_ _ | refine blk_drew ?_ | refine blk_alloc ?_ _)); refine blk_put (cs := #[.int .i64 0, .slice none 0 0]) ?_ 0 _ rfl; (with_reducible repeat (first | refine blk_drewN ?_ _ | refine blk_drew ?_ | refine blk_alloc ?_ _)); exact BK599.out) Tryd.underlying39 rfl (by kernel_rfl)) rfl ?_
 exact ⟨_, _, fR, by (with_reducible repeat (first | apply Kd.R_alloc | apply Kd.R_drewN | apply Kd.R_drew)); exact Kd.R_mono (Kd.R_far (p := ⟨gb599, 1, none⟩) (Kd.R_far (p := ⟨gb599, 0, none⟩) (Kd.R_types HO606.out BK599.out (by decide)) (fun _ hk => hk.2) (.int .i64 t603)) (fun _ hk => hk.2) (.slice Ao9 t604.length co9)) (fun _ hk => trivial), by (with_reducible repeat (first | apply Kd.R_alloc | apply Kd.R_drewN | apply Kd.R_drew)); exact Kd.R_mono (Kd.R_far (p := ⟨gb599, 1, none⟩) (Kd.R_far (p := ⟨gb599, 0, none⟩) (Kd.R_types HO609.out BK599.out (by decide)) (fun _ hk => hk.2) (.int .i64 t603)) (fun _ hk => hk.2) (.slice Ao9 t604.length co9)) (fun _ hk => trivial), by repeat (first | (with_reducible first | exact HB.out | apply below_alloc | apply pw_below_drewN | apply below_drew1 | refine below_set ?_ (IsS80.ge HI602.out) | refine below_set ?_ GE599.out) | exact HB.out)⟩

end Go.Proofs.YthkdkjmnnpcdhaaDoor.P
namespace Go.Proofs.YthkdkjmnnpcdhaaDoor.P
open Go.RowKit Go.Proofs.YthkdkjmnnpcdhaaDoorW.PrintWords Go.Proofs.YthkdkjmnnpcdhaaDoorW.PrintLast Go.Proofs.YthkdkjmnnpcdhaaDoorW.PrintMore
attribute [local go_sem] max2_int min2_int max_two min_two max_three min_three max_four min_four   -- for this text's walks alone
set_option linter.unusedVariables false
set_option linter.unusedSimpArgs false

/-! ### impl_IslandsOf: function 33 -/
def impl_IslandsOf.l0 : Nat → List Int → List (List Int) → Int → Int → Option ((List (List Int)))
 | 0, _, _, _, _ => none
 | k + 1, x5, x6, x16, x17 => if x17 < x16 then ((impl_union_find.f k x5 x17).bind fun bt616 => (if bt616.1 = x17 then ((impl_union_members.f k bt616.2 x17).bind fun bt618 => (if x6.length < 5864062014805 then (impl_IslandsOf.l0 k bt618.2 (x6 ++ [bt618.1]) x16 (wrap64 (x17 + 1))) else (none))) else (impl_IslandsOf.l0 k bt616.2 x6 x16 (wrap64 (x17 + 1))))) else (some x6)
def impl_IslandsOf.f (k : Nat) (a0_0 : Int) (l0_1 : List (S52)) (l1 : List Bool) : Option ((List (List Int))) := (impl_StateValid.f k a0_0 l0_1 l1).bind fun t612 => (if t612 = true then ((impl_unionOf.f k a0_0 l0_1 l1).bind fun t613 => (impl_IslandsOf.l0 k t613 ([] : List (List Int)) a0_0 0)) else (some ([] : List (List Int))))
theorem impl_IslandsOf.mono_l : ∀ k, (∀ y0 y1 y2 y3, LeO (impl_IslandsOf.l0 k y0 y1 y2 y3) (impl_IslandsOf.l0 (k + 1) y0 y1 y2 y3))
 | 0 => fun _ _ _ _ r h => by simp [impl_IslandsOf.l0] at h
 | k + 1 => by
  have ih0 := impl_IslandsOf.mono_l k
  ·
   intro y0 y1 y2 y3
   unfold impl_IslandsOf.l0
   repeat' first
   | (with_reducible exact ih0 _ _ _ _)
   | (with_reducible exact impl_StateValid.mono _ _ _ _)
   | (with_reducible exact impl_unionOf.mono _ _ _ _)
   | (with_reducible exact impl_union_find.mono _ _ _)
   | (with_reducible exact impl_union_members.mono _ _ _)
   | (with_reducible exact LeO.refl _)
   | (with_reducible exact LeO.none _)
   | (with_reducible refine LeO.ite ?_ ?_)
   | (with_reducible refine LeO.bind ?_ (fun _ => ?_))
   | exact ih0 _ _ _ _
   | exact impl_StateValid.mono _ _ _ _
   | exact impl_unionOf.mono _ _ _ _
   | exact impl_union_find.mono _ _ _
   | exact impl_union_members.mono _ _ _
   | exact LeO.none _
   | refine LeO.ite ?_ ?_
   | refine LeO.bind ?_ (fun _ => ?_)
theorem impl_IslandsOf.mono : ∀ a0 a1 a2 k, LeO (impl_IslandsOf.f k a0 a1 a2) (impl_IslandsOf.f (k + 1) a0 a1 a2) := by
 intro a0 a1 a2 k
 have ih0 := impl_IslandsOf.mono_l k
 unfold impl_IslandsOf.f
 repeat' first
   | (with_reducible exact ih0 _ _ _ _)
   | (with_reducible exact impl_StateValid.mono _ _ _ _)
   | (with_reducible exact impl_unionOf.mono _ _ _ _)
   | (with_reducible exact impl_union_find.mono _ _ _)
   | (with_reducible exact impl_union_members.mono _ _ _)
   | (with_reducible exact LeO.refl _)
   | (with_reducible exact LeO.none _)
   | (with_reducible refine LeO.ite ?_ ?_)
   | (with_reducible refine LeO.bind ?_ (fun _ => ?_))
   | exact ih0 _ _ _ _
   | exact impl_StateValid.mono _ _ _ _
   | exact impl_unionOf.mono _ _ _ _
   | exact impl_union_find.mono _ _ _
   | exact impl_union_members.mono _ _ _
   | exact LeO.none _
   | refine LeO.ite ?_ ?_
   | refine LeO.bind ?_ (fun _ => ?_)
set_option maxHeartbeats 8000000 in
set_option maxRecDepth 100000 in
theorem impl_IslandsOf.calls (k : Nat) (a0_0 : Int) (A0_1 : Option Addr) (c0_1 : Nat) (l0_1 : List (S52)) (A1 : Option Addr) (c1 : Nat) (l1 : List Bool) (r : List (List Int)) (w : World) (hr0_1 : Kd.C k52 w A0_1 l0_1.length l0_1) (hc0_1 : l0_1.length ≤ c0_1) (hr1 : Kd.C Kd.bool w A1 l1.length l1) (hc1 : l1.length ≤ c1) (h : impl_IslandsOf.f k a0_0 l0_1 l1 = some r) :
  Calls Tryd.prog 33 #[.agg #[.int .i64 a0_0, .slice A0_1 l0_1.length c0_1], .slice A1 l1.length c1] w fun e w' => ∃ v0_ : Value, e = .returned (v0_) ∧ Kd.S (Kd.slice 3 (Kd.int .i64)) 24 w' w.heap.size (fun _ => True) v0_ r ∧ Below w.heap.size w w' := by
 have hu39 := Tryd.underlying39
 have HR0_1 := Aside0.mk hr0_1
 have HC0_1 := Aside0.mk hc0_1
 clear hr0_1 hc0_1
 have HR1 := Aside0.mk hr1
 have HC1 := Aside0.mk hc1
 clear hr1 hc1
 have HB := Aside0.mk (Below.refl w.heap.size w)
 have H : ((impl_StateValid.f k a0_0 l0_1 l1).bind fun t612 => (if t612 = true then ((impl_unionOf.f k a0_0 l0_1 l1).bind fun t613 => (impl_IslandsOf.l0 k t613 ([] : List (List Int)) a0_0 0)) else (some ([] : List (List Int))))) = some r := h
 clear h
 replace H := Option.bind_eq_some_iff.mp H
 obtain ⟨t612, A30, H⟩ := H
 replace H : (if t612 = true then ((impl_unionOf.f k a0_0 l0_1 l1).bind fun t613 => (impl_IslandsOf.l0 k t613 ([] : List (List Int)) a0_0 0)) else (some ([] : List (List Int)))) = some r := H
 have A3 := Aside0.mk A30
 clear A30
 by_cases c4 : t612 = true
 rotate_left
 ·
  replace c4 := Bool.eq_false_iff.mpr c4
  subst c4
  have H1 : (some ([] : List (List Int))) = some r := by rw [if_neg (show ¬ (false = true) by decide)] at H; exact H
  clear H
  have H := H1
  clear H1
  obtain rfl := Option.some.inj H
  go_enter Tryd.func33, Tryd.ntmps33
  go_wp2_with (first | ((with_reducible refine gate_dst (N := 2) rfl ?_); refine box_event ?hg (N := 2) ?hd (cs := #[.int .i64 a0_0, .slice A0_1 l0_1.length c0_1]) (t := 39) ?hr ?_; (case hd => rfl); (case hg => rfl); (case hr => exact hR); intro gb611 hg w24 hbox hb; have n0_ := Aside0.mk (below_step (bl0 HB) hb); have n1_ := Aside0.mk (hbox); have n2_ := Aside0.mk ((by rw [hg]; exact (below_size (bl0 HB)) : w.heap.size ≤ gb611)); have n3_ := Aside0.mk ((by rw [hg]; exact (below_size (bl0 HB)) : w.heap.size ≤ gb611)); clear HB; have HB := n0_; have BK611 := n1_; have GW611 := n2_; have GE611 := n3_; clear n0_ n1_ n2_ n3_; clear hb hbox hg; have hcz25_0 : w24.cell? ⟨gb611, 0, none⟩ = some (.int .i64 a0_0) := (blk_cell BK611.out 0).trans rfl; have hcz25_1 : w24.cell? ⟨gb611, 1, none⟩ = some (.slice A0_1 l0_1.length c0_1) := (blk_cell BK611.out 1).trans rfl; have hfz25_0 := blk_frozen BK611.out 0; have hfz25_1 := blk_frozen BK611.out 1) | ((with_reducible refine gate_callee (f := 54) rfl ?_); refine goesL_ (some 10) rfl rfl Tryd.func54 (by kernel_rfl) rfl #[.agg #[.int .i64 a0_0, .slice A0_1 l0_1.length c0_1], .slice A1 l1.length c1] rfl mP ?_; (with_reducible refine (impl_StateValid.calls k a0_0 _ _ l0_1 _ _ l1 false _ ?side1 ?side2 ?side3 ?side4 A3.out).mono ?_); (case side1 => exact gC ((Kd.C_below HR0_1.out HB.out))); (case side2 => exact HC0_1.out); (case side3 => exact gC ((Kd.C_below HR1.out HB.out))); (case side4 => exact HC1.out); rintro e w26 ⟨rfl, hb⟩; refine ⟨_, rfl, ?_⟩; have n0_ := Aside0.mk (blk_below (g := gb611) (o := .cells #[.int .i64 a0_0, .slice A0_1 l0_1.length c0_1] 39 (0, 0)) (gB (BK611.out)) hb); have n1_ := Aside0.mk (below_step (bl1 HB GE611) hb); clear BK611; clear HB; have BK611 := n0_; have HB := n1_; clear n0_ n1_; (try clear hb); (try clear hb2); (try clear hk); (try clear hi)))
  go_ret
  exact ⟨_, fR, by first | exact Kd.S_nil _ _ _ _ _ | exact Kd.N_nil _ _ _ _ _ | exact Kd.V_nil _ _ _ _ _ | exact Kd.Q_nil _ _ _ _ _ | exact Kd.R_nil _ _ _ _ _, bl1 HB GE611⟩
 subst c4
 have H1 : ((impl_unionOf.f k a0_0 l0_1 l1).bind fun t613 => (impl_IslandsOf.l0 k t613 ([] : List (List Int)) a0_0 0)) = some r := by rw [if_pos rfl] at H; exact H
 clear H
 have H := H1
 clear H1
 replace H := Option.bind_eq_some_iff.mp H
 obtain ⟨t613, A50, H⟩ := H
 replace H : (impl_IslandsOf.l0 k t613 ([] : List (List Int)) a0_0 0) = some r := H
 have A5 := Aside0.mk A50
 clear A50
 have H' := Aside0.mk H
 clear H
 go_enter Tryd.func33, Tryd.ntmps33
 go_wp2_with (first | ((with_reducible refine gate_dst (N := 2) rfl ?_); refine box_event ?hg (N := 2) ?hd (cs := #[.int .i64 a0_0, .slice A0_1 l0_1.length c0_1]) (t := 39) ?hr ?_; (case hd => rfl); (case hg => rfl); (case hr => exact hR); intro gb611 hg w6 hbox hb; have n0_ := Aside0.mk (below_step (bl0 HB) hb); have n1_ := Aside0.mk (hbox); have n2_ := Aside0.mk ((by rw [hg]; exact (below_size (bl0 HB)) : w.heap.size ≤ gb611)); have n3_ := Aside0.mk ((by rw [hg]; exact (below_size (bl0 HB)) : w.heap.size ≤ gb611)); clear HB; have HB := n0_; have BK611 := n1_; have GW611 := n2_; have GE611 := n3_; clear n0_ n1_ n2_ n3_; clear hb hbox hg; have hcz7_0 : w6.cell? ⟨gb611, 0, none⟩ = some (.int .i64 a0_0) := (blk_cell BK611.out 0).trans rfl; have hcz7_1 : w6.cell? ⟨gb611, 1, none⟩ = some (.slice A0_1 l0_1.length c0_1) := (blk_cell BK611.out 1).trans rfl; have hfz7_0 := blk_frozen BK611.out 0; have hfz7_1 := blk_frozen BK611.out 1) | ((with_reducible refine gate_callee (f := 54) rfl ?_); refine goesL_ (some 10) rfl rfl Tryd.func54 (by kernel_rfl) rfl #[.agg #[.int .i64 a0_0, .slice A0_1 l0_1.length c0_1], .slice A1 l1.length c1] rfl mP ?_; (with_reducible refine (impl_StateValid.calls k a0_0 _ _ l0_1 _ _ l1 true _ ?side1 ?side2 ?side3 ?side4 A3.out).mono ?_); (case side1 => exact gC ((Kd.C_below HR0_1.out HB.out))); (case side2 => exact HC0_1.out); (case side3 => exact gC ((Kd.C_below HR1.out HB.out))); (case side4 => exact HC1.out); rintro e w8 ⟨rfl, hb⟩; refine ⟨_, rfl, ?_⟩; have n0_ := Aside0.mk (blk_below (g := gb611) (o := .cells #[.int .i64 a0_0, .slice A0_1 l0_1.length c0_1] 39 (0, 0)) (gB (BK611.out)) hb); have n1_ := Aside0.mk (below_step (bl1 HB GE611) hb); clear BK611; clear HB; have BK611 := n0_; have HB := n1_; clear n0_ n1_; (try clear hb); (try clear hb2); (try clear hk); (try clear hi); have hcz9_0 : w8.cell? ⟨gb611, 0, none⟩ = some (.int .i64 a0_0) := (blk_cell BK611.out 0).trans rfl; have hcz9_1 : w8.cell? ⟨gb611, 1, none⟩ = some (.slice A0_1 l0_1.length c0_1) := (blk_cell BK611.out 1).trans rfl; have hfz9_0 := blk_frozen BK611.out 0; have hfz9_1 := blk_frozen BK611.out 1) | ((with_reducible refine gate_callee (f := 58) rfl ?_); refine goesL_ (some 14) rfl rfl Tryd.func58 (by kernel_rfl) rfl #[.agg #[.int .i64 a0_0, .slice A0_1 l0_1.length c0_1], .slice A1 l1.length c1] rfl mP ?_; (with_reducible refine (impl_unionOf.calls k a0_0 _ _ l0_1 _ _ l1 t613 _ ?side1 ?side2 ?side3 ?side4 A5.out).mono ?_); (case side1 => exact gC ((Kd.C_below HR0_1.out HB.out))); (case side2 => exact HC0_1.out); (case side3 => exact gC ((Kd.C_below HR1.out HB.out))); (case side4 => exact HC1.out); rintro e w10 ⟨v614, rfl, ho0, hb⟩; refine ⟨_, rfl, ?_⟩; have n0_ := Aside0.mk (Kd.R_lower ho0 (below_size (bl1 HB GE611))); have n1_ := Aside0.mk (blk_below (g := gb611) (o := .cells #[.int .i64 a0_0, .slice A0_1 l0_1.length c0_1] 39 (0, 0)) (gB (BK611.out)) hb); have n2_ := Aside0.mk (below_step (bl1 HB GE611) hb); clear BK611; clear HB; have HO615 := n0_; have BK611 := n1_; have HB := n2_; clear n0_ n1_ n2_; (try clear hb); (try clear hb2); (try clear hk); (try clear hi); (try clear ho0); have hcz11_0 : w10.cell? ⟨gb611, 0, none⟩ = some (.int .i64 a0_0) := (blk_cell BK611.out 0).trans rfl; have hcz11_1 : w10.cell? ⟨gb611, 1, none⟩ = some (.slice A0_1 l0_1.length c0_1) := (blk_cell BK611.out 1).trans rfl; have hfz11_0 := blk_frozen BK611.out 0; have hfz11_1 := blk_frozen BK611.out 1))
 go_loopg [6, 17] k (fun kq v6 v17 w' => ∃ (x5_1 : List Int) (x6_1 : List (List Int)) (x17_1 : Int), v17 = .int .i64 x17_1 ∧ Aside0 (impl_IslandsOf.l0 kq x5_1 x6_1 a0_0 x17_1 = some r) ∧ Aside0 (kq ≤ k) ∧ Aside0 (Kd.R (Kd.int .i64) 3 w' w.heap.size (fun _ => True) v614 x5_1) ∧ Aside0 (Kd.S (Kd.slice 3 (Kd.int .i64)) 24 w' w.heap.size (fun k_ => some k_ ≠ (v614 : Value).ownBlock) v6 x6_1) ∧ Aside0 (w'.heap[gb611]? = some (.cells #[.int .i64 a0_0, (.slice A0_1 l0_1.length c0_1)] 39 (0, 0))) ∧ Aside0 (Below w.heap.size w w'))
 case atStart => exact ⟨(t613), (([] : List (List Int))), (0), fS, H', ⟨Nat.le_refl _⟩, ⟨gR (HO615.out)⟩, ⟨by first | exact Kd.S_nil _ _ _ _ _ | exact Kd.N_nil _ _ _ _ _ | exact Kd.V_nil _ _ _ _ _ | exact Kd.Q_nil _ _ _ _ _ | exact Kd.R_nil _ _ _ _ _⟩, ⟨gB (BK611.out)⟩, ⟨bl1 HB GE611⟩⟩
 case round =>
  clear H'
  try clear c1
  try clear p2
  try clear c3
  try clear c4
  try clear c5
  try clear hcz11_0
  try clear hcz11_1
  try clear hcz7_0
  try clear hcz7_1
  try clear hcz9_0
  try clear hcz9_1
  try clear hfz11_0
  try clear hfz11_1
  try clear hfz7_0
  try clear hfz7_1
  try clear hfz9_0
  try clear hfz9_1
  obtain ⟨x5_1, x6_1, x17_1, rfl, HA, HK1, HO_5, HO_6, BK611, HB⟩ := hrel
  cases gk with
  | zero => exact absurd HA.out (by simp [impl_IslandsOf.l0])
  | succ k1 =>
   have H := HA.out
   clear HA
   simp only [impl_IslandsOf.l0] at H
   by_cases c12 : x17_1 < a0_0
   rotate_left
   ·
    rw [if_neg c12] at H
    have c12b0 : decide (x17_1 < a0_0) = false := decide_eq_false c12
    clear c12
    obtain rfl := Option.some.inj H
    go_wp2
    go_ret
    exact ⟨_, fR, by (with_reducible repeat (first | apply Kd.S_alloc | apply Kd.S_drewN | apply Kd.S_drew)); exact Kd.S_mono HO_6.out (fun _ hk => trivial), bl1 HB GE611⟩
   rw [if_pos c12] at H
   have c12b0 : decide (x17_1 < a0_0) = true := decide_eq_true c12
   clear c12
   replace H := Option.bind_eq_some_iff.mp H
   obtain ⟨⟨t616, t617⟩, A130, H⟩ := H
   replace H : (if t616 = x17_1 then ((impl_union_members.f k1 t617 x17_1).bind fun bt618 => (if x6_1.length < 5864062014805 then (impl_IslandsOf.l0 k1 bt618.2 (x6_1 ++ [bt618.1]) a0_0 (wrap64 (x17_1 + 1))) else (none))) else (impl_IslandsOf.l0 k1 t617 x6_1 a0_0 (wrap64 (x17_1 + 1)))) = some r := H
   have A13 := Aside0.mk A130
   clear A130
   by_cases c14 : t616 = x17_1
   rotate_left
   ·
    rw [if_neg c14] at H
    have c14b0 : (t616 == x17_1) = false := beq_eq_false_iff_ne.mpr c14
    have c14b1 : (t616 != x17_1) = true := bne_iff_ne.mpr c14
    have H' := Aside0.mk H
    clear H
    obtain ⟨Ao22, co22, eo22⟩ := Kd.R_slice HO_5.out
    subst eo22
    go_wp2_with (first | ((with_reducible refine gate_callee (f := 61) rfl ?_); refine goesL_ (some 22) rfl rfl Tryd.func61 (by kernel_rfl) rfl #[.slice Ao22 x5_1.length co22, .int .i64 x17_1] rfl mP ?_; (with_reducible refine (impl_union_find.calls k1 (fun k_ => some k_ = (.slice Ao22 x5_1.length co22 : Value).ownBlock) (.slice Ao22 x5_1.length co22) x5_1 x17_1 t616 t617 w _ ?side1 ?side2 A13.out).mono ?_); (case side1 => repeat (first | (with_reducible first | exact HB.out | apply below_alloc | apply pw_below_drewN | apply below_drew1 | refine below_set ?_ GE611.out) | exact HB.out)); (case side2 => exact Kd.R_tight rfl HO_5.out); rintro e w23 ⟨rfl, hy0, hb, hkp⟩; refine ⟨_, rfl, ?_⟩; have n0_ := Aside0.mk (Kd.R_reok rfl hy0 (fun k_ e_ => HO_5.out.1 k_ e_)); have n1_ := Aside0.mk (Kd.S_mono (ok' := fun k_ => some k_ ≠ (.slice Ao22 x5_1.length co22 : Value).ownBlock) (Kd.S_keptB (HO_6.out) hkp (fun k_ hk_ hs_ => (hk_) hs_)) (fun k_ hk_ => hk_.1)); have n2_ := Aside0.mk (blk_kept (gB (BK611.out)) hkp (fun hs_ => (fun e_ => (Kd.R_ne HO_5.out BK611.out (by decide)) e_) hs_)); have n3_ := Aside0.mk (hb); clear HO_5; clear HO_6; clear BK611; clear HB; have HO_5 := n0_; have HO_6 := n1_; have BK611 := n2_; have HB := n3_; clear n0_ n1_ n2_ n3_; (try clear hb); (try clear hkp); (try clear hy0)))
    go_roundg k1
    case measure => have := HK1.out; omega
    case rel => exact ⟨(t617), (x6_1), (wrap64 (x17_1 + 1)), fS, H', ⟨by have := HK1.out; omega⟩, ⟨gR (HO_5.out)⟩, ⟨gS (HO_6.out)⟩, ⟨gB (BK611.out)⟩, ⟨bl1 HB GE611⟩⟩
   rw [if_pos c14] at H
   have c14b0 : (t616 == x17_1) = true := beq_iff_eq.mpr c14
   have c14b1 : (t616 != x17_1) = false := bne_eq_false_iff_eq.mpr c14
   clear c14
   replace H := Option.bind_eq_some_iff.mp H
   obtain ⟨⟨t618, t621⟩, A150, H⟩ := H
   replace H : (if x6_1.length < 5864062014805 then (impl_IslandsOf.l0 k1 t621 (x6_1 ++ [t618]) a0_0 (wrap64 (x17_1 + 1))) else (none)) = some r := H
   have A15 := Aside0.mk A150
   clear A150
   by_cases c16 : x6_1.length < 5864062014805
   rotate_left
   ·
    rw [if_neg c16] at H
    exact absurd H (by simp)
   rw [if_pos c16] at H
   have LMc16 := Aside0.mk c16
   clear c16
   obtain ⟨y622, hy622⟩ : ∃ y_ : List (List Int), y_ = (x6_1 ++ [t618]) := ⟨_, rfl⟩
   replace H : (impl_IslandsOf.l0 k1 t621 y622 a0_0 (wrap64 (x17_1 + 1))) = some r := by first | (rw [hy622]; with_reducible exact H) | (have H2_ := (Option.bind_some _ _).symm.trans H; rw [hy622]; with_reducible exact H2_) | (have H2_ := (Option.bind_some _ _).symm.trans H; with_reducible exact H2_) | with_reducible exact H | (rw [hy622]; exact H) | exact H
   have Ny622 := Aside0.mk hy622
   clear hy622
   have H' := Aside0.mk H
   clear H
   obtain ⟨Ao17, co17, eo17⟩ := Kd.R_slice HO_5.out
   subst eo17
   go_wp2_with (first | ((with_reducible refine gate_callee (f := 61) rfl ?_); refine goesL_ (some 22) rfl rfl Tryd.func61 (by kernel_rfl) rfl #[.slice Ao17 x5_1.length co17, .int .i64 x17_1] rfl mP ?_; (with_reducible refine (impl_union_find.calls k1 (fun k_ => some k_ = (.slice Ao17 x5_1.length co17 : Value).ownBlock) (.slice Ao17 x5_1.length co17) x5_1 x17_1 t616 t617 w _ ?side1 ?side2 A13.out).mono ?_); (case side1 => repeat (first | (with_reducible first | exact HB.out | apply below_alloc | apply pw_below_drewN | apply below_drew1 | refine below_set ?_ GE611.out) | exact HB.out)); (case side2 => exact Kd.R_tight rfl HO_5.out); rintro e w18 ⟨rfl, hy0, hb, hkp⟩; refine ⟨_, rfl, ?_⟩; have n0_ := Aside0.mk (Kd.R_reok rfl hy0 (fun k_ e_ => HO_5.out.1 k_ e_)); have n1_ := Aside0.mk (Kd.S_mono (ok' := fun k_ => some k_ ≠ (.slice Ao17 x5_1.length co17 : Value).ownBlock) (Kd.S_keptB (HO_6.out) hkp (fun k_ hk_ hs_ => (hk_) hs_)) (fun k_ hk_ => hk_.1)); have n2_ := Aside0.mk (blk_kept (gB (BK611.out)) hkp (fun hs_ => (fun e_ => (Kd.R_ne HO_5.out BK611.out (by decide)) e_) hs_)); have n3_ := Aside0.mk (hb); clear HO_5; clear HO_6; clear BK611; clear HB; have HO_5 := n0_; have HO_6 := n1_; have BK611 := n2_; have HB := n3_; clear n0_ n1_ n2_ n3_; (try clear hb); (try clear hkp); (try clear hy0)) | ((with_reducible refine gate_callee (f := 62) rfl ?_); refine goesL_ (some 28) rfl rfl Tryd.func62 (by kernel_rfl) rfl #[.slice Ao17 x5_1.length co17, .int .i64 x17_1] rfl mP ?_; (with_reducible refine (impl_union_members.calls k1 (fun k_ => some k_ = (.slice Ao17 x5_1.length co17 : Value).ownBlock) (.slice Ao17 x5_1.length co17) t617 x17_1 t618 t621 w _ ?side1 ?side2 A15.out).mono ?_); (case side1 => repeat (first | (with_reducible first | exact HB.out | apply below_alloc | apply pw_below_drewN | apply below_drew1 | refine below_set ?_ GE611.out) | exact HB.out)); (case side2 => exact Kd.R_tight rfl HO_5.out); rintro e w19 ⟨v619, rfl, ho0, hy0, hb, hkp⟩; refine ⟨_, rfl, ?_⟩; have n0_ := Aside0.mk (Kd.R_reok rfl hy0 (fun k_ e_ => HO_5.out.1 k_ e_)); have n1_ := Aside0.mk (Kd.S_mono (ok' := fun k_ => some k_ ≠ (.slice Ao17 x5_1.length co17 : Value).ownBlock ∧ some k_ ≠ (v619 : Value).ownBlock) (Kd.S_keptB (HO_6.out) hkp (fun k_ hk_ hs_ => (hk_) hs_)) (fun k_ hk_ => ⟨hk_.1, fun e_ => Or.elim (ho0.1 k_ e_.symm).1 (fun hs_ => hk_.2.1 hs_) (fun hn_ => Nat.not_le.2 hk_.2.2 hn_)⟩)); have n2_ := Aside0.mk (blk_kept (gB (BK611.out)) hkp (fun hs_ => (fun e_ => (Kd.R_ne HO_5.out BK611.out (by decide)) e_) hs_)); have n3_ := Aside0.mk (Kd.R_mono (ok' := fun k_ => some k_ ≠ (.slice Ao17 x5_1.length co17 : Value).ownBlock) ho0 (fun k_ hk_ => hk_.2)); have n4_ := Aside0.mk (hb); clear HO_5; clear HO_6; clear BK611; clear HB; have HO_5 := n0_; have HO_6 := n1_; have BK611 := n2_; have HO620 := n3_; have HB := n4_; clear n0_ n1_ n2_ n3_ n4_; (try clear hb); (try clear hkp); (try clear ho0); (try clear hy0); obtain ⟨Ao21, co21, eo21⟩ := Kd.R_slice HO620.out; subst eo21) | ((with_reducible refine gate_builtin (b := .append) (xs := #[.tmp 25, .tmp 29]) rfl ?_); at_builtin; refine Kd.S_append (Kd.slice 3 (Kd.int .i64)) (w0 := w) w.heap.size rfl (.tmp 25) (.tmp 29) 55 24 (.slice none 0 0) 24 rfl Tryd.underlying55 info24 rfl (by decide) (by omega) u6 x6_1 t618 [.slice Ao21 t618.length co21] (fun k_ => some k_ ≠ (.slice Ao17 x5_1.length co17 : Value).ownBlock) (fun k_ => some k_ = (.slice Ao21 t618.length co21 : Value).ownBlock) rfl rfl ?aP (fun k_ hk_ => ((Kd.R_mono (ok' := fun k_ => ((fun k_ => some k_ ≠ (.slice Ao17 x5_1.length co17 : Value).ownBlock)) k_ ∧ some k_ ≠ (u6 : Value).ownBlock) (Kd.R_apart' (HO620.out) (Kd.S_typed HO_6.out) (by decide)) (fun k_ hk => ⟨hk.1, hk.2⟩))).1 k_ hk_.symm) ?aF ?aO ?aB ?aS ?aL ?_; (case aP => exact Kd.M_row (Kd.R_mono (Kd.R_tight rfl (Kd.R_mono (ok' := fun k_ => ((fun k_ => some k_ ≠ (.slice Ao17 x5_1.length co17 : Value).ownBlock)) k_ ∧ some k_ ≠ (u6 : Value).ownBlock) (Kd.R_apart' (HO620.out) (Kd.S_typed HO_6.out) (by decide)) (fun k_ hk => ⟨hk.1, hk.2⟩))) (fun _ h_ => h_))); (case aB => exact (bl1 HB GE611)); (case aF => exact (fun k_ hk => Kd.fresh' (Kd.R_lt (gR (HO_5.out))) k_ hk)); (case aO => exact (by (with_reducible repeat (first | apply Kd.S_alloc | apply Kd.S_drewN | apply Kd.S_drew)); exact Kd.S_mono HO_6.out (fun k_ hk => ⟨hk.1, fun e_ => hk.2 e_⟩))); (case aS => exact (below_size (bl1 HB GE611))); (case aL => have := LMc16.out; omega); intro v623 w20 ho hb hg hat; rw [← Ny622.out] at ho; have n0_ := Aside0.mk (Kd.R_over' (gR (HO_5.out)) (Kd.S_typed (gS (HO_6.out))) (by decide) hg); have n1_ := Aside0.mk (blk_grown (g := gb611) (o := .cells #[.int .i64 a0_0, .slice A0_1 l0_1.length c0_1] 39 (0, 0)) (gB (BK611.out)) hg (Kd.S_ne HO_6.out BK611.out (by decide))); have n2_ := Aside0.mk (hb); have n3_ := Aside0.mk (ho); clear HO_5; clear BK611; clear HB; clear HO_6; clear HO620; have HO_5 := n0_; have BK611 := n1_; have HB := n2_; have HO624 := n3_; clear n0_ n1_ n2_ n3_; clear ho hb hg hat))
   go_roundg k1
   case measure => have := HK1.out; omega
   case rel => exact ⟨(t621), (y622), (wrap64 (x17_1 + 1)), fS, H', ⟨by have := HK1.out; omega⟩, ⟨gR (HO_5.out)⟩, ⟨gS (HO624.out)⟩, ⟨gB (BK611.out)⟩, ⟨bl1 HB GE611⟩⟩

end Go.Proofs.YthkdkjmnnpcdhaaDoor.P
namespace Go.Proofs.YthkdkjmnnpcdhaaDoor.P
open Go.RowKit Go.Proofs.YthkdkjmnnpcdhaaDoorW.PrintWords Go.Proofs.YthkdkjmnnpcdhaaDoorW.PrintLast Go.Proofs.YthkdkjmnnpcdhaaDoorW.PrintMore
attribute [local go_sem] max2_int min2_int max_two min_two max_three min_three max_four min_four   -- for this text's walks alone
set_option linter.unusedVariables false
set_option linter.unusedSimpArgs false

/-! ### laws_sameLists: function 34 -/
def laws_sameLists.l0 : Nat → List (List Int) → List (List Int) → Int → Option (Bool)
 | 0, _, _, _ => none
 | k + 1, x0, x1, x5 => if x5 < (x0.length : Int) then (if 0 ≤ x5 then (if x5 < (x1.length : Int) then ((laws_sameInts.f k (rd_L5 x0 x5) (rd_L5 x1 x5)).bind fun t627 => (if t627 = true then (laws_sameLists.l0 k x0 x1 (wrap64 (x5 + 1))) else (some false))) else (none)) else (none)) else (some true)
def laws_sameLists.f (k : Nat) (l0 : List (List Int)) (l1 : List (List Int)) : Option (Bool) := if (l0.length : Int) = (l1.length : Int) then (laws_sameLists.l0 k l0 l1 0) else (some false)
theorem laws_sameLists.mono_l : ∀ k, (∀ y0 y1 y2, LeO (laws_sameLists.l0 k y0 y1 y2) (laws_sameLists.l0 (k + 1) y0 y1 y2))
 | 0 => fun _ _ _ r h => by simp [laws_sameLists.l0] at h
 | k + 1 => by
  have ih0 := laws_sameLists.mono_l k
  ·
   intro y0 y1 y2
   unfold laws_sameLists.l0
   repeat' first
   | (with_reducible exact ih0 _ _ _)
   | (with_reducible exact laws_sameInts.mono _ _ _)
   | (with_reducible exact LeO.refl _)
   | (with_reducible exact LeO.none _)
   | (with_reducible refine LeO.ite ?_ ?_)
   | (with_reducible refine LeO.bind ?_ (fun _ => ?_))
   | exact ih0 _ _ _
   | exact laws_sameInts.mono _ _ _
   | exact LeO.none _
   | refine LeO.ite ?_ ?_
   | refine LeO.bind ?_ (fun _ => ?_)
theorem laws_sameLists.mono : ∀ a0 a1 k, LeO (laws_sameLists.f k a0 a1) (laws_sameLists.f (k + 1) a0 a1) := by
 intro a0 a1 k
 have ih0 := laws_sameLists.mono_l k
 unfold laws_sameLists.f
 repeat' first
   | (with_reducible exact ih0 _ _ _)
   | (with_reducible exact laws_sameInts.mono _ _ _)
   | (with_reducible exact LeO.refl _)
   | (with_reducible exact LeO.none _)
   | (with_reducible refine LeO.ite ?_ ?_)
   | (with_reducible refine LeO.bind ?_ (fun _ => ?_))
   | exact ih0 _ _ _
   | exact laws_sameInts.mono _ _ _
   | exact LeO.none _
   | refine LeO.ite ?_ ?_
   | refine LeO.bind ?_ (fun _ => ?_)
set_option maxHeartbeats 8000000 in
set_option maxRecDepth 100000 in
theorem laws_sameLists.calls (k : Nat) (A0 : Option Addr) (c0 : Nat) (l0 : List (List Int)) (A1 : Option Addr) (c1 : Nat) (l1 : List (List Int)) (r : Bool) (w : World) (hr0 : Kd.C (Kd.slice 3 (Kd.int .i64)) w A0 l0.length l0) (hc0 : l0.length ≤ c0) (hr1 : Kd.C (Kd.slice 3 (Kd.int .i64)) w A1 l1.length l1) (hc1 : l1.length ≤ c1) (h : laws_sameLists.f k l0 l1 = some r) :
  Calls Tryd.prog 34 #[.slice A0 l0.length c0, .slice A1 l1.length c1] w fun e w' => e = .returned (.bool r) ∧ Drawn0 w w' := by
 have HR0 := Aside0.mk hr0
 have HC0 := Aside0.mk hc0
 clear hr0 hc0
 have HR1 := Aside0.mk hr1
 have HC1 := Aside0.mk hc1
 clear hr1 hc1
 have H : (if (l0.length : Int) = (l1.length : Int) then (laws_sameLists.l0 k l0 l1 0) else (some false)) = some r := h
 clear h
 by_cases c3 : (l0.length : Int) = (l1.length : Int)
 rotate_left
 ·
  rw [if_neg c3] at H
  have c3b0 : ((l0.length : Int) == (l1.length : Int)) = false := beq_eq_false_iff_ne.mpr c3
  have c3b1 : ((l0.length : Int) != (l1.length : Int)) = true := bne_iff_ne.mpr c3
  have c3b2 : (l0.length == l1.length) = false := by first | simpa using c3 | (simp at c3 ⊢; omega)
  obtain rfl := Option.some.inj H
  go_enter Tryd.func34, Tryd.ntmps34
  go_wp2
  repeat (go_quiet (fail); try go_wp2)
  go_ret
  exact ⟨by first | rfl | (simp; done) | (simp [*]; done), by repeat (first | exact Drawn0.refl _ | apply Drawn0.step)⟩
 rw [if_pos c3] at H
 have c3b0 : ((l0.length : Int) == (l1.length : Int)) = true := beq_iff_eq.mpr c3
 have c3b1 : ((l0.length : Int) != (l1.length : Int)) = false := bne_eq_false_iff_eq.mpr c3
 have c3b2 : (l0.length == l1.length) = true := by first | simpa using c3 | (simp at c3 ⊢; omega)
 clear c3
 have H' := Aside0.mk H
 clear H
 go_enter Tryd.func34, Tryd.ntmps34
 go_wp2
 repeat (go_quiet (fail); try go_wp2)
 go_loopg [5] k (fun kq v5 w' => ∃ (x5_1 : Int), v5 = .int .i64 x5_1 ∧ Aside0 (laws_sameLists.l0 kq l0 l1 x5_1 = some r) ∧ Aside0 (kq ≤ k) ∧ Drawn0 w w')
 case atStart => exact ⟨(0), fS, H', ⟨Nat.le_refl _⟩, by repeat (first | exact Drawn0.refl _ | apply Drawn0.step)⟩
 case round =>
  clear H'
  try clear c1
  try clear p2
  try clear c3
  try clear c3b0
  try clear c3b1
  try clear c3b2
  obtain ⟨x5_1, rfl, HA, HK1, ⟨m1, rfl⟩⟩ := hrel
  cases gk with
  | zero => exact absurd HA.out (by simp [laws_sameLists.l0])
  | succ k1 =>
   have H := HA.out
   clear HA
   simp only [laws_sameLists.l0] at H
   by_cases c4 : x5_1 < (l0.length : Int)
   rotate_left
   ·
    rw [if_neg c4] at H
    have c4b0 : decide (x5_1 < (l0.length : Int)) = false := decide_eq_false c4
    clear c4
    obtain rfl := Option.some.inj H
    go_wp2
    repeat (go_quiet (fail); try go_wp2)
    go_ret
    exact ⟨by first | rfl | (simp; done) | (simp [*]; done), by repeat (first | exact Drawn0.refl _ | apply Drawn0.step)⟩
   rw [if_pos c4] at H
   have c4b0 : decide (x5_1 < (l0.length : Int)) = true := decide_eq_true c4
   clear c4
   by_cases c5 : 0 ≤ x5_1
   rotate_left
   ·
    rw [if_neg c5] at H
    exact absurd H (by simp)
   rw [if_pos c5] at H
   have c5b0 : decide (0 ≤ x5_1) = true := decide_eq_true c5
   clear c5
   by_cases c6 : x5_1 < (l1.length : Int)
   rotate_left
   ·
    rw [if_neg c6] at H
    exact absurd H (by simp)
   rw [if_pos c6] at H
   have c6b0 : decide (x5_1 < (l1.length : Int)) = true := decide_eq_true c6
   clear c6
   replace H := Option.bind_eq_some_iff.mp H
   obtain ⟨t627, A70, H⟩ := H
   replace H : (if t627 = true then (laws_sameLists.l0 k1 l0 l1 (wrap64 (x5_1 + 1))) else (some false)) = some r := H
   have A7 := Aside0.mk A70
   clear A70
   by_cases c8 : t627 = true
   rotate_left
   ·
    replace c8 := Bool.eq_false_iff.mpr c8
    subst c8
    have H1 : (some false) = some r := by rw [if_neg (show ¬ (false = true) by decide)] at H; exact H
    clear H
    have H := H1
    clear H1
    obtain rfl := Option.some.inj H
    have p625 : 0 ≤ (x5_1 : Int) := oD
    have q625 : x5_1 < (l0.length : Int) := oD
    obtain ⟨ad625, A625_0, c625_0, e625, hx625_0, hl625_0, hi625_0⟩ := at_L5 HR0.out x5_1 p625 q625
    cases e625
    have HR625_0 := Aside0.mk hi625_0
    have HC625_0 := Aside0.mk hl625_0
    clear hi625_0 hl625_0
    replace p625 := eq_true p625
    replace q625 := eq_true q625
    have p626 : 0 ≤ (x5_1 : Int) := oD
    have q626 : x5_1 < (l1.length : Int) := oD
    obtain ⟨ad626, A626_0, c626_0, e626, hx626_0, hl626_0, hi626_0⟩ := at_L5 HR1.out x5_1 p626 q626
    cases e626
    have HR626_0 := Aside0.mk hi626_0
    have HC626_0 := Aside0.mk hl626_0
    clear hi626_0 hl626_0
    replace p626 := eq_true p626
    replace q626 := eq_true q626
    go_wp2_with (first | (go_at_call 18; (with_reducible refine (laws_sameInts.calls k1 _ _ (rd_L5 l0 x5_1) _ _ (rd_L5 l1 x5_1) false _ ?side1 ?side2 ?side3 ?side4 A7.out).mono ?_); (case side1 => exact gC (HR625_0.out)); (case side2 => exact HC625_0.out); (case side3 => exact gC (HR626_0.out)); (case side4 => exact HC626_0.out); rintro e w' ⟨rfl, ⟨nd, rfl⟩⟩; (try first | exact ⟨rfl, _, World.drewN_drewN _ _ _⟩ | exact ⟨rfl, _, Eq.trans (World.drewN_drewN _ _ _) (congrArg (World.drewN _) (Nat.add_assoc _ _ _))⟩)))
    repeat (go_quiet (first | (go_at_call 18; (with_reducible refine (laws_sameInts.calls k1 _ _ (rd_L5 l0 x5_1) _ _ (rd_L5 l1 x5_1) false _ ?side1 ?side2 ?side3 ?side4 A7.out).mono ?_); (case side1 => exact gC (HR625_0.out)); (case side2 => exact HC625_0.out); (case side3 => exact gC (HR626_0.out)); (case side4 => exact HC626_0.out); rintro e w' ⟨rfl, ⟨nd, rfl⟩⟩; (try first | exact ⟨rfl, _, World.drewN_drewN _ _ _⟩ | exact ⟨rfl, _, Eq.trans (World.drewN_drewN _ _ _) (congrArg (World.drewN _) (Nat.add_assoc _ _ _))⟩))); try go_wp2_with (first | (go_at_call 18; (with_reducible refine (laws_sameInts.calls k1 _ _ (rd_L5 l0 x5_1) _ _ (rd_L5 l1 x5_1) false _ ?side1 ?side2 ?side3 ?side4 A7.out).mono ?_); (case side1 => exact gC (HR625_0.out)); (case side2 => exact HC625_0.out); (case side3 => exact gC (HR626_0.out)); (case side4 => exact HC626_0.out); rintro e w' ⟨rfl, ⟨nd, rfl⟩⟩; (try first | exact ⟨rfl, _, World.drewN_drewN _ _ _⟩ | exact ⟨rfl, _, Eq.trans (World.drewN_drewN _ _ _) (congrArg (World.drewN _) (Nat.add_assoc _ _ _))⟩))))
    go_ret
    exact ⟨by first | rfl | (simp; done) | (simp [*]; done), by repeat (first | exact Drawn0.refl _ | apply Drawn0.step)⟩
   subst c8
   have H1 : (laws_sameLists.l0 k1 l0 l1 (wrap64 (x5_1 + 1))) = some r := by rw [if_pos rfl] at H; exact H
   clear H
   have H := H1
   clear H1
   have H' := Aside0.mk H
   clear H
   have p625 : 0 ≤ (x5_1 : Int) := oD
   have q625 : x5_1 < (l0.length : Int) := oD
   obtain ⟨ad625, A625_0, c625_0, e625, hx625_0, hl625_0, hi625_0⟩ := at_L5 HR0.out x5_1 p625 q625
   cases e625
   have HR625_0 := Aside0.mk hi625_0
   have HC625_0 := Aside0.mk hl625_0
   clear hi625_0 hl625_0
   replace p625 := eq_true p625
   replace q625 := eq_true q625
   have p626 : 0 ≤ (x5_1 : Int) := oD
   have q626 : x5_1 < (l1.length : Int) := oD
   obtain ⟨ad626, A626_0, c626_0, e626, hx626_0, hl626_0, hi626_0⟩ := at_L5 HR1.out x5_1 p626 q626
   cases e626
   have HR626_0 := Aside0.mk hi626_0
   have HC626_0 := Aside0.mk hl626_0
   clear hi626_0 hl626_0
   replace p626 := eq_true p626
   replace q626 := eq_true q626
   go_wp2_with (first | (go_at_call 18; (with_reducible refine (laws_sameInts.calls k1 _ _ (rd_L5 l0 x5_1) _ _ (rd_L5 l1 x5_1) true _ ?side1 ?side2 ?side3 ?side4 A7.out).mono ?_); (case side1 => exact gC (HR625_0.out)); (case side2 => exact HC625_0.out); (case side3 => exact gC (HR626_0.out)); (case side4 => exact HC626_0.out); rintro e w' ⟨rfl, ⟨nd, rfl⟩⟩; (try first | exact ⟨rfl, _, World.drewN_drewN _ _ _⟩ | exact ⟨rfl, _, Eq.trans (World.drewN_drewN _ _ _) (congrArg (World.drewN _) (Nat.add_assoc _ _ _))⟩)))
   repeat (go_quiet (first | (go_at_call 18; (with_reducible refine (laws_sameInts.calls k1 _ _ (rd_L5 l0 x5_1) _ _ (rd_L5 l1 x5_1) true _ ?side1 ?side2 ?side3 ?side4 A7.out).mono ?_); (case side1 => exact gC (HR625_0.out)); (case side2 => exact HC625_0.out); (case side3 => exact gC (HR626_0.out)); (case side4 => exact HC626_0.out); rintro e w' ⟨rfl, ⟨nd, rfl⟩⟩; (try first | exact ⟨rfl, _, World.drewN_drewN _ _ _⟩ | exact ⟨rfl, _, Eq.trans (World.drewN_drewN _ _ _) (congrArg (World.drewN _) (Nat.add_assoc _ _ _))⟩))); try go_wp2_with (first | (go_at_call 18; (with_reducible refine (laws_sameInts.calls k1 _ _ (rd_L5 l0 x5_1) _ _ (rd_L5 l1 x5_1) true _ ?side1 ?side2 ?side3 ?side4 A7.out).mono ?_); (case side1 => exact gC (HR625_0.out)); (case side2 => exact HC625_0.out); (case side3 => exact gC (HR626_0.out)); (case side4 => exact HC626_0.out); rintro e w' ⟨rfl, ⟨nd, rfl⟩⟩; (try first | exact ⟨rfl, _, World.drewN_drewN _ _ _⟩ | exact ⟨rfl, _, Eq.trans (World.drewN_drewN _ _ _) (congrArg (World.drewN _) (Nat.add_assoc _ _ _))⟩))))
   go_roundg k1
   case measure => have := HK1.out; omega
   case rel => exact ⟨(wrap64 (x5_1 + 1)), fS, H', ⟨by have := HK1.out; omega⟩, by repeat (first | exact Drawn0.refl _ | apply Drawn0.step)⟩

end Go.Proofs.YthkdkjmnnpcdhaaDoor.P

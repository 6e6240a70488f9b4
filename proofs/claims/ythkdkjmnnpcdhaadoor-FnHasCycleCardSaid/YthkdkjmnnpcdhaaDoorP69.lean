/- Contracts of Go functions of this seat's translation, written by this repo's wip/mk.py: it calls the kit's print.py with contracts typed by hand in place of functions that it does not take. Not trusted: Lean checks it. -/
import Derived.Test.YthkdkjmnnpcdhaaDoorP0
import Derived.Test.YthkdkjmnnpcdhaaDoorP19
import Derived.Test.YthkdkjmnnpcdhaaDoorP32
import Derived.Test.YthkdkjmnnpcdhaaDoorP61
import Derived.Test.YthkdkjmnnpcdhaaDoorP63
import Derived.Test.YthkdkjmnnpcdhaaDoorP65
import Derived.Test.YthkdkjmnnpcdhaaDoorP68
namespace Go.Proofs.YthkdkjmnnpcdhaaDoor.P
open Go.RowKit Go.Proofs.YthkdkjmnnpcdhaaDoorW.PrintWords Go.Proofs.YthkdkjmnnpcdhaaDoorW.PrintLast Go.Proofs.YthkdkjmnnpcdhaaDoorW.PrintMore
attribute [local go_sem] max2_int min2_int max_two min_two max_three min_three max_four min_four   -- for this text's walks alone
set_option linter.unusedVariables false
set_option linter.unusedSimpArgs false

/-! ### laws_FnHasCycle: function 10 -/
def laws_FnHasCycle.f (k : Nat) (l0 : List Int) : Option (Bool) := if (l0.length : Int) > 1048576 then (some true) else ((spec_DrawHasCycle.f k l0).bind fun bt784 => ((impl_HasCycle.f k bt784.1 bt784.2.1 bt784.2.2).bind fun t792 => ((spec_HasCycle.f k bt784.1 bt784.2.1 bt784.2.2).bind fun t793 => (if (t792 != t793) = true then (none) else ((spec_StateValid.f k bt784.1 bt784.2.1 bt784.2.2).bind fun t794 => (if t794 = true then ((laws_count.f k bt784.2.2).bind fun t795 => ((laws_islands.f k bt784.1 bt784.2.1 bt784.2.2).bind fun t796 => (some (t792 == (decide (t795 > (wrap64 (bt784.1 - t796)))))))) else (if t792 = true then (none) else ((laws_alive.f k).bind fun t797 => (some t797)))))))))
theorem laws_FnHasCycle.mono : ∀ a0 k, LeO (laws_FnHasCycle.f k a0) (laws_FnHasCycle.f (k + 1) a0) := by
 intro a0 k
 unfold laws_FnHasCycle.f
 repeat' first
   | (with_reducible exact impl_HasCycle.mono _ _ _ _)
   | (with_reducible exact laws_alive.mono _)
   | (with_reducible exact laws_count.mono _ _)
   | (with_reducible exact laws_islands.mono _ _ _ _)
   | (with_reducible exact spec_DrawHasCycle.mono _ _)
   | (with_reducible exact spec_HasCycle.mono _ _ _ _)
   | (with_reducible exact spec_StateValid.mono _ _ _ _)
   | (with_reducible exact LeO.refl _)
   | (with_reducible exact LeO.none _)
   | (with_reducible refine LeO.ite ?_ ?_)
   | (with_reducible refine LeO.bind ?_ (fun _ => ?_))
   | exact impl_HasCycle.mono _ _ _ _
   | exact laws_alive.mono _
   | exact laws_count.mono _ _
   | exact laws_islands.mono _ _ _ _
   | exact spec_DrawHasCycle.mono _ _
   | exact spec_HasCycle.mono _ _ _ _
   | exact spec_StateValid.mono _ _ _ _
   | exact LeO.none _
   | refine LeO.ite ?_ ?_
   | refine LeO.bind ?_ (fun _ => ?_)
def laws_FnHasCycle.T9 : Bool × List (List Nat × List Nat) := (true, [([], []), ([], []), ([1], [1]), ([], []), ([3], [3]), ([], []), ([], []), ([5, 6, 2], [5, 6]), ([4, 7], [4, 7]), ([2, 8], [2, 8]), ([0, 9], [0, 9]), ([10, 7, 0, 1, 2, 3, 4, 5, 6, 7, 8, 9, 10], [10])])
def laws_FnHasCycle.B9 : List Nat := [0, 0, 2, 0, 8, 0, 0, 102, 254, 510, 1023, 2047]
theorem laws_FnHasCycle.tab9 : rtab .any (opsOf Tryd.f10 9) = laws_FnHasCycle.T9 := by kernel_rfl
theorem laws_FnHasCycle.bits9 : waitsOk laws_FnHasCycle.T9.2 laws_FnHasCycle.B9 = true := by kernel_rfl
set_option maxHeartbeats 8000000 in
set_option maxRecDepth 100000 in
theorem laws_FnHasCycle.calls (k : Nat) (A0 : Option Addr) (c0 : Nat) (l0 : List Int) (r : Bool) (w : World) (hr0 : Kd.C (Kd.int .u8) w A0 l0.length l0) (hc0 : l0.length ≤ c0) (h : laws_FnHasCycle.f k l0 = some r) :
  Calls Tryd.prog 10 #[.slice A0 l0.length c0] w fun e w' => e = .returned (.bool r) ∧ Below w.heap.size w w' := by
 have hu39 := Tryd.underlying39
 have HR0 := Aside0.mk hr0
 have HC0 := Aside0.mk hc0
 clear hr0 hc0
 have HB := Aside0.mk (Below.refl w.heap.size w)
 have H : (if (l0.length : Int) > 1048576 then (some true) else ((spec_DrawHasCycle.f k l0).bind fun bt784 => ((impl_HasCycle.f k bt784.1 bt784.2.1 bt784.2.2).bind fun t792 => ((spec_HasCycle.f k bt784.1 bt784.2.1 bt784.2.2).bind fun t793 => (if (t792 != t793) = true then (none) else ((spec_StateValid.f k bt784.1 bt784.2.1 bt784.2.2).bind fun t794 => (if t794 = true then ((laws_count.f k bt784.2.2).bind fun t795 => ((laws_islands.f k bt784.1 bt784.2.1 bt784.2.2).bind fun t796 => (some (t792 == (decide (t795 > (wrap64 (bt784.1 - t796)))))))) else (if t792 = true then (none) else ((laws_alive.f k).bind fun t797 => (some t797)))))))))) = some r := h
 clear h
 by_cases c2 : (l0.length : Int) > 1048576
 ·
  rw [if_pos c2] at H
  have c2b0 : decide (1048576 < (l0.length : Int)) = true := decide_eq_true c2
  have c2b1 : decide (1048576 < l0.length) = true := decide_eq_true (by omega)
  clear c2
  obtain rfl := Option.some.inj H
  go_enter Tryd.func10, Tryd.ntmps10
  go_wp2
  go_ret
  exact ⟨by first | rfl | (simp [errW_none, errW_some] <;> rfl) | (simp [*, errW_none, errW_some] <;> rfl), by repeat (first | (with_reducible first | exact HB.out | apply below_alloc | apply pw_below_drewN | apply below_drew1) | exact HB.out)⟩
 ·
  rw [if_neg c2] at H
  have c2b0 : decide (1048576 < (l0.length : Int)) = false := decide_eq_false c2
  have c2b1 : decide (1048576 < l0.length) = false := decide_eq_false (by omega)
  clear c2
  replace H := Option.bind_eq_some_iff.mp H
  obtain ⟨⟨t784, t785, t788⟩, A30, H⟩ := H
  replace H : ((impl_HasCycle.f k t784 t785 t788).bind fun t792 => ((spec_HasCycle.f k t784 t785 t788).bind fun t793 => (if (t792 != t793) = true then (none) else ((spec_StateValid.f k t784 t785 t788).bind fun t794 => (if t794 = true then ((laws_count.f k t788).bind fun t795 => ((laws_islands.f k t784 t785 t788).bind fun t796 => (some (t792 == (decide (t795 > (wrap64 (t784 - t796)))))))) else (if t792 = true then (none) else ((laws_alive.f k).bind fun t797 => (some t797)))))))) = some r := H
  have A3 := Aside0.mk A30
  clear A30
  replace H := Option.bind_eq_some_iff.mp H
  obtain ⟨t792, A40, H⟩ := H
  replace H : ((spec_HasCycle.f k t784 t785 t788).bind fun t793 => (if (t792 != t793) = true then (none) else ((spec_StateValid.f k t784 t785 t788).bind fun t794 => (if t794 = true then ((laws_count.f k t788).bind fun t795 => ((laws_islands.f k t784 t785 t788).bind fun t796 => (some (t792 == (decide (t795 > (wrap64 (t784 - t796)))))))) else (if t792 = true then (none) else ((laws_alive.f k).bind fun t797 => (some t797))))))) = some r := H
  have A4 := Aside0.mk A40
  clear A40
  replace H := Option.bind_eq_some_iff.mp H
  obtain ⟨t793, A50, H⟩ := H
  replace H : (if (t792 != t793) = true then (none) else ((spec_StateValid.f k t784 t785 t788).bind fun t794 => (if t794 = true then ((laws_count.f k t788).bind fun t795 => ((laws_islands.f k t784 t785 t788).bind fun t796 => (some (t792 == (decide (t795 > (wrap64 (t784 - t796)))))))) else (if t792 = true then (none) else ((laws_alive.f k).bind fun t797 => (some t797)))))) = some r := H
  have A5 := Aside0.mk A50
  clear A50
  by_cases c6 : (t792 != t793) = true
  ·
   rw [if_pos c6] at H
   exact absurd H (by simp)
  ·
   rw [if_neg c6] at H
   have c6b0 : (t792 != t793) = false := by simpa using c6
   (try (have c6b1 : decide (t792 = t793) = true := by simpa using c6))
   (try (have c6b2 : (t792 == t793) = true := by simpa using c6))
   clear c6
   replace H := Option.bind_eq_some_iff.mp H
   obtain ⟨t794, A70, H⟩ := H
   replace H : (if t794 = true then ((laws_count.f k t788).bind fun t795 => ((laws_islands.f k t784 t785 t788).bind fun t796 => (some (t792 == (decide (t795 > (wrap64 (t784 - t796)))))))) else (if t792 = true then (none) else ((laws_alive.f k).bind fun t797 => (some t797)))) = some r := H
   have A7 := Aside0.mk A70
   clear A70
   by_cases c8 : t794 = true
   ·
    subst c8
    have H1 : ((laws_count.f k t788).bind fun t795 => ((laws_islands.f k t784 t785 t788).bind fun t796 => (some (t792 == (decide (t795 > (wrap64 (t784 - t796)))))))) = some r := by rw [if_pos rfl] at H; exact H
    clear H
    have H := H1
    clear H1
    replace H := Option.bind_eq_some_iff.mp H
    obtain ⟨t795, A90, H⟩ := H
    replace H : ((laws_islands.f k t784 t785 t788).bind fun t796 => (some (t792 == (decide (t795 > (wrap64 (t784 - t796))))))) = some r := H
    have A9 := Aside0.mk A90
    clear A90
    replace H := Option.bind_eq_some_iff.mp H
    obtain ⟨t796, A100, H⟩ := H
    replace H : (some (t792 == (decide (t795 > (wrap64 (t784 - t796)))))) = some r := H
    have A10 := Aside0.mk A100
    clear A100
    obtain rfl := Option.some.inj H
    go_enter Tryd.func10, Tryd.ntmps10
    try go_wp2_with (first | ((with_reducible refine gate_callee (f := 40) rfl ?_); refine goesL_ (some 11) rfl rfl Tryd.func40 (by kernel_rfl) rfl #[.slice A0 l0.length c0] rfl (by (try simp only [List.map_toArray, List.map_cons, List.map_nil]); first | done | rfl | (simp only [List.length_drop, List.length_take]; rfl)) ?_; (with_reducible refine (spec_DrawHasCycle.calls k _ _ l0 t784 t785 t788 _ ?side1 ?side2 A3.out).mono ?_); (case side1 => repeat (first | exact HR0.out | (with_reducible refine Kd.C_alloc ?_ _) | (with_reducible refine Kd.C_drewN ?_ _) | (with_reducible refine Kd.C_drew ?_))); (case side2 => exact HC0.out); rintro e w11 ⟨v786, v789, rfl, ho0, ho1, hb⟩; refine ⟨_, rfl, ?_⟩; have n0_ := Aside0.mk (Kd.R_lower ho0 (below_size (by repeat (first | (with_reducible first | exact HB.out | apply below_alloc | apply pw_below_drewN | apply below_drew1) | exact HB.out)))); have n1_ := Aside0.mk (Kd.R_lower ho1 (below_size (by repeat (first | (with_reducible first | exact HB.out | apply below_alloc | apply pw_below_drewN | apply below_drew1) | exact HB.out)))); have n2_ := Aside0.mk (below_step (by repeat (first | (with_reducible first | exact HB.out | apply below_alloc | apply pw_below_drewN | apply below_drew1) | exact HB.out)) hb); clear HB; have HO787 := n0_; have HO790 := n1_; have HB := n2_; clear n0_ n1_ n2_; (try clear hb); (try clear hb2); (try clear hk); (try clear hi); (try clear ho0); (try clear ho1)) | ((with_reducible refine gate_dst (N := 3) rfl ?_); refine box_event ?hg (N := 3) ?hd (cs := #[.int .i64 0, .slice none 0 0]) (t := 39) ?hr ?_; (case hd => rfl); (case hg => rfl); (case hr => first | (go_simp; done) | (go_simp; rfl)); intro gb791 hg w12 hbox hb; have n0_ := Aside0.mk (Kd.R_below (by (with_reducible repeat (first | apply Kd.R_alloc | apply Kd.R_drewN | apply Kd.R_drew)); exact HO787.out) hb); have n1_ := Aside0.mk (Kd.R_below (by (with_reducible repeat (first | apply Kd.R_alloc | apply Kd.R_drewN | apply Kd.R_drew)); exact HO790.out) hb); have n2_ := Aside0.mk (below_step (by repeat (first | (with_reducible first | exact HB.out | apply below_alloc | apply pw_below_drewN | apply below_drew1) | exact HB.out)) hb); have n3_ := Aside0.mk (hbox); have n4_ := Aside0.mk ((by rw [hg]; exact (below_size (by repeat (first | (with_reducible first | exact HB.out | apply below_alloc | apply pw_below_drewN | apply below_drew1) | exact HB.out))) : w.heap.size ≤ gb791)); have n5_ := Aside0.mk ((by rw [hg]; exact (below_size (by repeat (first | (with_reducible first | exact HB.out | apply below_alloc | apply pw_below_drewN | apply below_drew1) | exact HB.out))) : w.heap.size ≤ gb791)); clear HO787; clear HO790; clear HB; have HO787 := n0_; have HO790 := n1_; have HB := n2_; have BK791 := n3_; have GW791 := n4_; have GE791 := n5_; clear n0_ n1_ n2_ n3_ n4_ n5_; clear hb hbox hg; have hcz13_0 : w12.cell? ⟨gb791, 0, none⟩ = some (.int .i64 0) := (blk_cell BK791.out 0).trans rfl; have hcz13_1 : w12.cell? ⟨gb791, 1, none⟩ = some (.slice none 0 0) := (blk_cell BK791.out 1).trans rfl; have hfz13_0 := blk_frozen BK791.out 0; have hfz13_1 := blk_frozen BK791.out 1; obtain ⟨Ao14, co14, eo14⟩ := Kd.R_slice HO787.out; subst eo14; obtain ⟨Ao15, co15, eo15⟩ := Kd.R_slice HO790.out; subst eo15) | ((with_reducible refine gate_callee (f := 41) rfl ?_); refine goesL_ (some 16) rfl rfl Tryd.func41 (by kernel_rfl) rfl #[.agg #[.int .i64 t784, .slice Ao14 t785.length co14], .slice Ao15 t788.length co15] rfl (by (try simp only [List.map_toArray, List.map_cons, List.map_nil]); first | done | rfl | (simp only [List.length_drop, List.length_take]; rfl)) ?_; (with_reducible refine (impl_HasCycle.calls k t784 _ _ t785 _ _ t788 t792 _ ?side1 ?side2 ?side3 ?side4 A4.out).mono ?_); (case side1 => refine (Kd.R_reads' (e := 52) (base := w.heap.size) (ok := fun k_ => True) (n := t785.length) (c := co14) ?_).2.2; exact (by (with_reducible repeat (first | apply Kd.R_alloc | apply Kd.R_drewN | apply Kd.R_drew)); exact (Kd.R_mono (Kd.R_far (p := ⟨gb791, 1, none⟩) (Kd.R_far (p := ⟨gb791, 0, none⟩) (Kd.R_types HO787.out BK791.out (by decide)) (fun _ hk => hk.2) (.int .i64 t784)) (fun _ hk => hk.2) (.slice Ao14 t785.length co14)) (fun _ h_ => h_.1)))); (case side2 => exact (Kd.R_reads' HO787.out).2.1); (case side3 => refine (Kd.R_reads' (e := 4) (base := w.heap.size) (ok := fun k_ => True) (n := t788.length) (c := co15) ?_).2.2; exact (by (with_reducible repeat (first | apply Kd.R_alloc | apply Kd.R_drewN | apply Kd.R_drew)); exact (Kd.R_mono (Kd.R_far (p := ⟨gb791, 1, none⟩) (Kd.R_far (p := ⟨gb791, 0, none⟩) (Kd.R_types HO790.out BK791.out (by decide)) (fun _ hk => hk.2) (.int .i64 t784)) (fun _ hk => hk.2) (.slice Ao14 t785.length co14)) (fun _ h_ => h_.1)))); (case side4 => exact (Kd.R_reads' HO790.out).2.1); rintro e w16 ⟨rfl, hb⟩; refine ⟨_, rfl, ?_⟩; have n0_ := Aside0.mk (Kd.R_below (by (with_reducible repeat (first | apply Kd.R_alloc | apply Kd.R_drewN | apply Kd.R_drew)); exact (Kd.R_mono (Kd.R_far (p := ⟨gb791, 1, none⟩) (Kd.R_far (p := ⟨gb791, 0, none⟩) (Kd.R_types HO787.out BK791.out (by decide)) (fun _ hk => hk.2) (.int .i64 t784)) (fun _ hk => hk.2) (.slice Ao14 t785.length co14)) (fun _ h_ => h_.1))) hb); have n1_ := Aside0.mk (Kd.R_below (by (with_reducible repeat (first | apply Kd.R_alloc | apply Kd.R_drewN | apply Kd.R_drew)); exact (Kd.R_mono (Kd.R_far (p := ⟨gb791, 1, none⟩) (Kd.R_far (p := ⟨gb791, 0, none⟩) (Kd.R_types HO790.out BK791.out (by decide)) (fun _ hk => hk.2) (.int .i64 t784)) (fun _ hk => hk.2) (.slice Ao14 t785.length co14)) (fun _ h_ => h_.1))) hb); have n2_ := Aside0.mk (blk_below (g := gb791) (o := .cells #[.int .i64 t784, .slice Ao14 t785.length co14] 39 (0, 0)) (by (with_reducible repeat (first | refine blk_drewN ?_ _ | refine blk_drew ?_ | refine blk_alloc ?_ _)); refine blk_put (cs := #[.int .i64 t784, .slice none 0 0]) ?_ 1 _ rfl; (with_reducible repeat (first | refine blk_drewN ?_ _ | refine blk_drew ?_ | refine blk_alloc ?_ _)); refine blk_put (cs := #[.int .i64 0, .slice none 0 0]) ?_ 0 _ rfl; (with_reducible repeat (first | refine blk_drewN ?_ _ | refine blk_drew ?_ | refine blk_alloc ?_ _)); exact BK791.out) hb); have n3_ := Aside0.mk (below_step (by repeat (first | (with_reducible first | exact HB.out | apply below_alloc | apply pw_below_drewN | apply below_drew1 | refine below_set ?_ GE791.out) | exact HB.out)) hb); clear HO787; clear HO790; clear BK791; clear HB; have HO787 := n0_; have HO790 := n1_; have BK791 := n2_; have HB := n3_; clear n0_ n1_ n2_ n3_; (try clear hb); (try clear hb2); (try clear hk); (try clear hi); have hcz17_0 : w16.cell? ⟨gb791, 0, none⟩ = some (.int .i64 t784) := (blk_cell BK791.out 0).trans rfl; have hcz17_1 : w16.cell? ⟨gb791, 1, none⟩ = some (.slice Ao14 t785.length co14) := (blk_cell BK791.out 1).trans rfl; have hfz17_0 := blk_frozen BK791.out 0; have hfz17_1 := blk_frozen BK791.out 1) | ((with_reducible refine gate_callee (f := 42) rfl ?_); refine goesL_ (some 20) rfl rfl Tryd.func42 (by kernel_rfl) rfl #[.agg #[.int .i64 t784, .slice Ao14 t785.length co14], .slice Ao15 t788.length co15] rfl (by (try simp only [List.map_toArray, List.map_cons, List.map_nil]); first | done | rfl | (simp only [List.length_drop, List.length_take]; rfl)) ?_; (with_reducible refine (spec_HasCycle.calls k t784 _ _ t785 _ _ t788 t793 _ ?side1 ?side2 ?side3 ?side4 A5.out).mono ?_); (case side1 => repeat (first | exact (Kd.R_reads' HO787.out).2.2 | (with_reducible refine Kd.C_alloc ?_ _) | (with_reducible refine Kd.C_drewN ?_ _) | (with_reducible refine Kd.C_drew ?_))); (case side2 => exact (Kd.R_reads' HO787.out).2.1); (case side3 => repeat (first | exact (Kd.R_reads' HO790.out).2.2 | (with_reducible refine Kd.C_alloc ?_ _) | (with_reducible refine Kd.C_drewN ?_ _) | (with_reducible refine Kd.C_drew ?_))); (case side4 => exact (Kd.R_reads' HO790.out).2.1); rintro e w18 ⟨rfl, hb⟩; refine ⟨_, rfl, ?_⟩; have n0_ := Aside0.mk (Kd.R_below (by (with_reducible repeat (first | apply Kd.R_alloc | apply Kd.R_drewN | apply Kd.R_drew)); exact HO787.out) hb); have n1_ := Aside0.mk (Kd.R_below (by (with_reducible repeat (first | apply Kd.R_alloc | apply Kd.R_drewN | apply Kd.R_drew)); exact HO790.out) hb); have n2_ := Aside0.mk (blk_below (g := gb791) (o := .cells #[.int .i64 t784, .slice Ao14 t785.length co14] 39 (0, 0)) (by (with_reducible repeat (first | refine blk_drewN ?_ _ | refine blk_drew ?_ | refine blk_alloc ?_ _)); exact BK791.out) hb); have n3_ := Aside0.mk (below_step (by repeat (first | (with_reducible first | exact HB.out | apply below_alloc | apply pw_below_drewN | apply below_drew1 | refine below_set ?_ GE791.out) | exact HB.out)) hb); clear HO787; clear HO790; clear BK791; clear HB; have HO787 := n0_; have HO790 := n1_; have BK791 := n2_; have HB := n3_; clear n0_ n1_ n2_ n3_; (try clear hb); (try clear hb2); (try clear hk); (try clear hi); have hcz19_0 : w18.cell? ⟨gb791, 0, none⟩ = some (.int .i64 t784) := (blk_cell BK791.out 0).trans rfl; have hcz19_1 : w18.cell? ⟨gb791, 1, none⟩ = some (.slice Ao14 t785.length co14) := (blk_cell BK791.out 1).trans rfl; have hfz19_0 := blk_frozen BK791.out 0; have hfz19_1 := blk_frozen BK791.out 1) | ((with_reducible refine gate_callee (f := 43) rfl ?_); refine goesL_ (some 24) rfl rfl Tryd.func43 (by kernel_rfl) rfl #[.agg #[.int .i64 t784, .slice Ao14 t785.length co14], .slice Ao15 t788.length co15] rfl (by (try simp only [List.map_toArray, List.map_cons, List.map_nil]); first | done | rfl | (simp only [List.length_drop, List.length_take]; rfl)) ?_; (with_reducible refine (spec_StateValid.calls k t784 _ _ t785 _ _ t788 true _ ?side1 ?side2 ?side3 ?side4 A7.out).mono ?_); (case side1 => repeat (first | exact (Kd.R_reads' HO787.out).2.2 | (with_reducible refine Kd.C_alloc ?_ _) | (with_reducible refine Kd.C_drewN ?_ _) | (with_reducible refine Kd.C_drew ?_))); (case side2 => exact (Kd.R_reads' HO787.out).2.1); (case side3 => repeat (first | exact (Kd.R_reads' HO790.out).2.2 | (with_reducible refine Kd.C_alloc ?_ _) | (with_reducible refine Kd.C_drewN ?_ _) | (with_reducible refine Kd.C_drew ?_))); (case side4 => exact (Kd.R_reads' HO790.out).2.1); rintro e w20 ⟨rfl, hb⟩; refine ⟨_, rfl, ?_⟩; have n0_ := Aside0.mk (Kd.R_below (by (with_reducible repeat (first | apply Kd.R_alloc | apply Kd.R_drewN | apply Kd.R_drew)); exact HO787.out) hb); have n1_ := Aside0.mk (Kd.R_below (by (with_reducible repeat (first | apply Kd.R_alloc | apply Kd.R_drewN | apply Kd.R_drew)); exact HO790.out) hb); have n2_ := Aside0.mk (blk_below (g := gb791) (o := .cells #[.int .i64 t784, .slice Ao14 t785.length co14] 39 (0, 0)) (by (with_reducible repeat (first | refine blk_drewN ?_ _ | refine blk_drew ?_ | refine blk_alloc ?_ _)); exact BK791.out) hb); have n3_ := Aside0.mk (below_step (by repeat (first | (with_reducible first | exact HB.out | apply below_alloc | apply pw_below_drewN | apply below_drew1 | refine below_set ?_ GE791.out) | exact HB.out)) hb); clear HO787; clear HO790; clear BK791; clear HB; have HO787 := n0_; have HO790 := n1_; have BK791 := n2_; have HB := n3_; clear n0_ n1_ n2_ n3_; (try clear hb); (try clear hb2); (try clear hk); (try clear hi)))
    have n0_ := Aside0.mk (Kd.R_drew HO787.out)
    have n1_ := Aside0.mk (Kd.R_drew HO790.out)
    have n2_ := Aside0.mk (blk_drew BK791.out)
    have n3_ := Aside0.mk (below_drew1 HB.out)
    clear HO787
    clear HO790
    clear BK791
    clear HB
    have HO787 := n0_
    have HO790 := n1_
    have BK791 := n2_
    have HB := n3_
    clear n0_ n1_ n2_ n3_
    refine start_ (n := 12) (S := fun w' => w'.cell? ⟨gb791, 0, none⟩ = some (.int .i64 t784) ∧ w'.cell? ⟨gb791, 1, none⟩ = some (.slice Ao14 t785.length co14)) (ds := []) #[false, false, false, false, false, false, false, false, false, false, false, false] (by kernel_rfl) rfl rfl ⟨(blk_cell BK791.out 0).trans rfl, (blk_cell BK791.out 1).trans rfl⟩ (fun hHeld => ?_); refine with_tabW laws_FnHasCycle.tab9 laws_FnHasCycle.bits9 (fun HT_ HW_ => ?_)
    generalize w20.drew = w21 at HO787 HO790 BK791 HB hHeld ⊢
    refine pure_ (i := 0) (N := some 31) (v := ?_) (a' := ?_) #[true, false, false, false, false, false, false, false, false, false, false, false] rfl rfl (any_of HT_.out (by kernel_rfl)) (fun _ _ _ h => h) (Or.inl ⟨by rfl, ?_⟩) ?_ ?_
    rotate_left
    ·
     intro w'
     go_simp
     with_reducible rfl
    rotate_left
    ·
     simp only [Act.put, List.setIfInBounds_toArray, List.set_cons_zero, List.set_cons_succ, i64_w, i32_w]
     rfl
    refine pure_ (i := 1) (N := some 32) (v := ?_) (a' := ?_) #[true, true, false, false, false, false, false, false, false, false, false, false] rfl rfl (any_of HT_.out (by kernel_rfl)) (fun _ _ _ h => h) (Or.inl ⟨by rfl, ?_⟩) ?_ ?_
    rotate_left
    ·
     intro w'
     go_simp
     with_reducible rfl
    rotate_left
    ·
     simp only [Act.put, List.setIfInBounds_toArray, List.set_cons_zero, List.set_cons_succ, i64_w, i32_w]
     rfl
    refine pure_ (i := 3) (N := some 34) (v := ?_) (a' := ?_) #[true, true, false, true, false, false, false, false, false, false, false, false] rfl rfl (any_of HT_.out (by kernel_rfl)) (fun _ _ _ h => h) (Or.inl ⟨by rfl, ?_⟩) ?_ ?_
    rotate_left
    ·
     intro w'
     go_simp
     with_reducible rfl
    rotate_left
    ·
     simp only [Act.put, List.setIfInBounds_toArray, List.set_cons_zero, List.set_cons_succ, i64_w, i32_w]
     rfl
    refine pure_ (i := 6) (N := some 37) (v := ?_) (a' := ?_) #[true, true, false, true, false, false, true, false, false, false, false, false] rfl rfl (any_of HT_.out (by kernel_rfl)) (fun _ _ _ h => h) (Or.inl ⟨by rfl, ?_⟩) ?_ ?_
    rotate_left
    ·
     intro w'
     go_simp
     with_reducible rfl
    rotate_left
    ·
     simp only [Act.put, List.setIfInBounds_toArray, List.set_cons_zero, List.set_cons_succ, i64_w, i32_w]
     rfl
    refine take_ (i := 4) (N := some 35) (v := ?_) (a' := ?_) #[true, true, false, true, true, false, true, false, false, false, false, false] rfl rfl (take_ofW HT_.out HW_.out (by kernel_rfl)) (fun _ _ _ h => h) (Or.inl ⟨by rfl, ?_⟩) hHeld ?_ ?_
    rotate_left
    ·
     rintro w' ⟨s0, s1⟩
     go_simp
     with_reducible rfl
    rotate_left
    ·
     simp only [Act.put, List.setIfInBounds_toArray, List.set_cons_zero, List.set_cons_succ, i64_w, i32_w]
     rfl
    refine take_ (i := 5) (N := some 36) (v := ?_) (a' := ?_) #[true, true, false, true, true, true, true, false, false, false, false, false] rfl rfl (take_ofW HT_.out HW_.out (by kernel_rfl)) (fun _ _ _ h => h) (Or.inl ⟨by rfl, ?_⟩) hHeld ?_ ?_
    rotate_left
    ·
     rintro w' ⟨s0, s1⟩
     go_simp
     with_reducible rfl
    rotate_left
    ·
     simp only [Act.put, List.setIfInBounds_toArray, List.set_cons_zero, List.set_cons_succ, i64_w, i32_w]
     rfl
    refine one_ (i := 2) (N := some 33) #[true, true, true, true, true, true, true, false, false, false, false, false] rfl rfl (one_of HT_.out (by kernel_rfl)) (by decide) (fun K hK => ?_)
    refine goes_ Tryd.func44 (by kernel_rfl) rfl #[.slice Ao15 t788.length co15] (by rfl) rfl rfl (by (try simp only [List.map_toArray, List.map_cons, List.map_nil]); first | done | rfl | (simp only [List.length_drop, List.length_take]; rfl)) ?_
    with_reducible refine (laws_count.calls k _ _ t788 t795 _ ?side1 ?side2 A9.out).mono ?_
    (case side1 => repeat (first | exact (Kd.R_reads' HO790.out).2.2 | (with_reducible refine Kd.C_alloc ?_ _) | (with_reducible refine Kd.C_drewN ?_ _) | (with_reducible refine Kd.C_drew ?_)))
    (case side2 => exact (Kd.R_reads' HO790.out).2.1)
    rintro e w' ⟨rfl, ⟨nd, rfl⟩⟩
    refine ⟨_, rfl, ?_⟩
    refine hK.out _ _ ⟨(blk_cell BK791.out 0).trans rfl, (blk_cell BK791.out 1).trans rfl⟩ (fun hHeld => ?_)
    clear hK K
    refine norm_ (a' := ?_) ?_ ?_
    rotate_left
    ·
     show Act.put _ (some 33) _ = _
     simp only [Act.put, List.setIfInBounds_toArray, List.set_cons_zero, List.set_cons_succ, i64_w, i32_w]
     rfl
    refine one_ (i := 7) (N := some 38) #[true, true, true, true, true, true, true, true, false, false, false, false] rfl rfl (one_of HT_.out (by kernel_rfl)) (by decide) (fun K hK => ?_)
    refine goes_ Tryd.func39 (by kernel_rfl) rfl #[.agg #[.int .i64 t784, .slice Ao14 t785.length co14], .slice Ao15 t788.length co15] (by rfl) rfl rfl (by (try simp only [List.map_toArray, List.map_cons, List.map_nil]); first | done | rfl | (simp only [List.length_drop, List.length_take]; rfl)) ?_
    with_reducible refine (laws_islands.calls k t784 _ _ t785 _ _ t788 t796 _ ?side1 ?side2 ?side3 ?side4 A10.out).mono ?_
    (case side1 => repeat (first | exact (Kd.R_reads' HO787.out).2.2 | (with_reducible refine Kd.C_alloc ?_ _) | (with_reducible refine Kd.C_drewN ?_ _) | (with_reducible refine Kd.C_drew ?_)))
    (case side2 => exact (Kd.R_reads' HO787.out).2.1)
    (case side3 => repeat (first | exact (Kd.R_reads' HO790.out).2.2 | (with_reducible refine Kd.C_alloc ?_ _) | (with_reducible refine Kd.C_drewN ?_ _) | (with_reducible refine Kd.C_drew ?_)))
    (case side4 => exact (Kd.R_reads' HO790.out).2.1)
    rintro e w22 ⟨rfl, hb⟩
    refine ⟨_, rfl, ?_⟩
    have n0_ := Aside0.mk (Kd.R_below (by (with_reducible repeat (first | apply Kd.R_alloc | apply Kd.R_drewN | apply Kd.R_drew)); exact HO787.out) hb)
    have n1_ := Aside0.mk (Kd.R_below (by (with_reducible repeat (first | apply Kd.R_alloc | apply Kd.R_drewN | apply Kd.R_drew)); exact HO790.out) hb)
    have n2_ := Aside0.mk (blk_below (g := gb791) (o := .cells #[.int .i64 t784, .slice Ao14 t785.length co14] 39 (0, 0)) (by (with_reducible repeat (first | refine blk_drewN ?_ _ | refine blk_drew ?_ | refine blk_alloc ?_ _)); exact BK791.out) hb)
    have n3_ := Aside0.mk (below_step (by repeat (first | (with_reducible first | exact HB.out | apply below_alloc | apply pw_below_drewN | apply below_drew1 | refine below_set ?_ GE791.out) | exact HB.out)) hb)
    clear HO787
    clear HO790
    clear BK791
    clear HB
    have HO787 := n0_
    have HO790 := n1_
    have BK791 := n2_
    have HB := n3_
    clear n0_ n1_ n2_ n3_
    (try clear hb)
    (try clear hb2)
    (try clear hk)
    (try clear hi)
    refine hK.out _ _ ⟨(blk_cell BK791.out 0).trans rfl, (blk_cell BK791.out 1).trans rfl⟩ (fun hHeld => ?_)
    clear hK K
    refine norm_ (a' := ?_) ?_ ?_
    rotate_left
    ·
     show Act.put _ (some 38) _ = _
     simp only [Act.put, List.setIfInBounds_toArray, List.set_cons_zero, List.set_cons_succ, i64_w, i32_w]
     rfl
    refine pure_ (i := 8) (N := some 39) (v := ?_) (a' := ?_) #[true, true, true, true, true, true, true, true, true, false, false, false] rfl rfl (any_of HT_.out (by kernel_rfl)) (fun _ _ _ h => h) (Or.inl ⟨by rfl, ?_⟩) ?_ ?_
    rotate_left
    ·
     intro w'
     go_simp
     with_reducible rfl
    rotate_left
    ·
     simp only [Act.put, List.setIfInBounds_toArray, List.set_cons_zero, List.set_cons_succ, i64_w, i32_w]
     rfl
    refine pure_ (i := 9) (N := some 40) (v := ?_) (a' := ?_) #[true, true, true, true, true, true, true, true, true, true, false, false] rfl rfl (any_of HT_.out (by kernel_rfl)) (fun _ _ _ h => h) (Or.inl ⟨by rfl, ?_⟩) ?_ ?_
    rotate_left
    ·
     intro w'
     go_simp
     with_reducible rfl
    rotate_left
    ·
     simp only [Act.put, List.setIfInBounds_toArray, List.set_cons_zero, List.set_cons_succ, i64_w, i32_w]
     rfl
    refine pure_ (i := 10) (N := some 41) (v := ?_) (a' := ?_) #[true, true, true, true, true, true, true, true, true, true, true, false] rfl rfl (any_of HT_.out (by kernel_rfl)) (fun _ _ _ h => h) (Or.inl ⟨by rfl, ?_⟩) ?_ ?_
    rotate_left
    ·
     intro w'
     go_simp
     with_reducible rfl
    rotate_left
    ·
     simp only [Act.put, List.setIfInBounds_toArray, List.set_cons_zero, List.set_cons_succ, i64_w, i32_w]
     rfl
    refine pure_ (i := 11) (N := some 2) (v := ?_) (a' := ?_) #[true, true, true, true, true, true, true, true, true, true, true, true] rfl rfl (any_of HT_.out (by kernel_rfl)) (fun _ _ _ h => h) (Or.inl ⟨by rfl, ?_⟩) ?_ ?_
    rotate_left
    ·
     intro w'
     go_simp
     with_reducible rfl
    rotate_left
    ·
     simp only [Act.put, List.setIfInBounds_toArray, List.set_cons_zero, List.set_cons_succ, i64_w, i32_w]
     rfl
    refine done_ (done_of HT_.out (by kernel_rfl)) ?_
    try go_wp2
    go_ret
    exact ⟨by first | rfl | (simp [errW_none, errW_some] <;> rfl) | (simp [*, errW_none, errW_some] <;> rfl), by repeat (first | (with_reducible first | exact HB.out | apply below_alloc | apply pw_below_drewN | apply below_drew1 | refine below_set ?_ GE791.out) | exact HB.out)⟩
   ·
    replace c8 := Bool.eq_false_iff.mpr c8
    subst c8
    have H1 : (if t792 = true then (none) else ((laws_alive.f k).bind fun t797 => (some t797))) = some r := by rw [if_neg (show ¬ (false = true) by decide)] at H; exact H
    clear H
    have H := H1
    clear H1
    by_cases c23 : t792 = true
    ·
     subst c23
     have H1 : (none) = some r := by rw [if_pos rfl] at H; exact H
     clear H
     have H := H1
     clear H1
     exact absurd H (by simp)
    ·
     replace c23 := Bool.eq_false_iff.mpr c23
     subst c23
     have H1 : ((laws_alive.f k).bind fun t797 => (some t797)) = some r := by rw [if_neg (show ¬ (false = true) by decide)] at H; exact H
     clear H
     have H := H1
     clear H1
     replace H := Option.bind_eq_some_iff.mp H
     obtain ⟨t797, A240, H⟩ := H
     replace H : (some t797) = some r := H
     have A24 := Aside0.mk A240
     clear A240
     obtain rfl := Option.some.inj H
     go_enter Tryd.func10, Tryd.ntmps10
     go_wp2_with (first | ((with_reducible refine gate_callee (f := 40) rfl ?_); refine goesL_ (some 11) rfl rfl Tryd.func40 (by kernel_rfl) rfl #[.slice A0 l0.length c0] rfl (by (try simp only [List.map_toArray, List.map_cons, List.map_nil]); first | done | rfl | (simp only [List.length_drop, List.length_take]; rfl)) ?_; (with_reducible refine (spec_DrawHasCycle.calls k _ _ l0 t784 t785 t788 _ ?side1 ?side2 A3.out).mono ?_); (case side1 => repeat (first | exact HR0.out | (with_reducible refine Kd.C_alloc ?_ _) | (with_reducible refine Kd.C_drewN ?_ _) | (with_reducible refine Kd.C_drew ?_))); (case side2 => exact HC0.out); rintro e w25 ⟨v786, v789, rfl, ho0, ho1, hb⟩; refine ⟨_, rfl, ?_⟩; have n0_ := Aside0.mk (Kd.R_lower ho0 (below_size (by repeat (first | (with_reducible first | exact HB.out | apply below_alloc | apply pw_below_drewN | apply below_drew1) | exact HB.out)))); have n1_ := Aside0.mk (Kd.R_lower ho1 (below_size (by repeat (first | (with_reducible first | exact HB.out | apply below_alloc | apply pw_below_drewN | apply below_drew1) | exact HB.out)))); have n2_ := Aside0.mk (below_step (by repeat (first | (with_reducible first | exact HB.out | apply below_alloc | apply pw_below_drewN | apply below_drew1) | exact HB.out)) hb); clear HB; have HO787 := n0_; have HO790 := n1_; have HB := n2_; clear n0_ n1_ n2_; (try clear hb); (try clear hb2); (try clear hk); (try clear hi); (try clear ho0); (try clear ho1)) | ((with_reducible refine gate_dst (N := 3) rfl ?_); refine box_event ?hg (N := 3) ?hd (cs := #[.int .i64 0, .slice none 0 0]) (t := 39) ?hr ?_; (case hd => rfl); (case hg => rfl); (case hr => first | (go_simp; done) | (go_simp; rfl)); intro gb791 hg w26 hbox hb; have n0_ := Aside0.mk (Kd.R_below (by (with_reducible repeat (first | apply Kd.R_alloc | apply Kd.R_drewN | apply Kd.R_drew)); exact HO787.out) hb); have n1_ := Aside0.mk (Kd.R_below (by (with_reducible repeat (first | apply Kd.R_alloc | apply Kd.R_drewN | apply Kd.R_drew)); exact HO790.out) hb); have n2_ := Aside0.mk (below_step (by repeat (first | (with_reducible first | exact HB.out | apply below_alloc | apply pw_below_drewN | apply below_drew1) | exact HB.out)) hb); have n3_ := Aside0.mk (hbox); have n4_ := Aside0.mk ((by rw [hg]; exact (below_size (by repeat (first | (with_reducible first | exact HB.out | apply below_alloc | apply pw_below_drewN | apply below_drew1) | exact HB.out))) : w.heap.size ≤ gb791)); have n5_ := Aside0.mk ((by rw [hg]; exact (below_size (by repeat (first | (with_reducible first | exact HB.out | apply below_alloc | apply pw_below_drewN | apply below_drew1) | exact HB.out))) : w.heap.size ≤ gb791)); clear HO787; clear HO790; clear HB; have HO787 := n0_; have HO790 := n1_; have HB := n2_; have BK791 := n3_; have GW791 := n4_; have GE791 := n5_; clear n0_ n1_ n2_ n3_ n4_ n5_; clear hb hbox hg; have hcz27_0 : w26.cell? ⟨gb791, 0, none⟩ = some (.int .i64 0) := (blk_cell BK791.out 0).trans rfl; have hcz27_1 : w26.cell? ⟨gb791, 1, none⟩ = some (.slice none 0 0) := (blk_cell BK791.out 1).trans rfl; have hfz27_0 := blk_frozen BK791.out 0; have hfz27_1 := blk_frozen BK791.out 1; obtain ⟨Ao28, co28, eo28⟩ := Kd.R_slice HO787.out; subst eo28; obtain ⟨Ao29, co29, eo29⟩ := Kd.R_slice HO790.out; subst eo29) | ((with_reducible refine gate_callee (f := 41) rfl ?_); refine goesL_ (some 16) rfl rfl Tryd.func41 (by kernel_rfl) rfl #[.agg #[.int .i64 t784, .slice Ao28 t785.length co28], .slice Ao29 t788.length co29] rfl (by (try simp only [List.map_toArray, List.map_cons, List.map_nil]); first | done | rfl | (simp only [List.length_drop, List.length_take]; rfl)) ?_; (with_reducible refine (impl_HasCycle.calls k t784 _ _ t785 _ _ t788 false _ ?side1 ?side2 ?side3 ?side4 A4.out).mono ?_); (case side1 => refine (Kd.R_reads' (e := 52) (base := w.heap.size) (ok := fun k_ => True) (n := t785.length) (c := co28) ?_).2.2; exact (by (with_reducible repeat (first | apply Kd.R_alloc | apply Kd.R_drewN | apply Kd.R_drew)); exact (Kd.R_mono (Kd.R_far (p := ⟨gb791, 1, none⟩) (Kd.R_far (p := ⟨gb791, 0, none⟩) (Kd.R_types HO787.out BK791.out (by decide)) (fun _ hk => hk.2) (.int .i64 t784)) (fun _ hk => hk.2) (.slice Ao28 t785.length co28)) (fun _ h_ => h_.1)))); (case side2 => exact (Kd.R_reads' HO787.out).2.1); (case side3 => refine (Kd.R_reads' (e := 4) (base := w.heap.size) (ok := fun k_ => True) (n := t788.length) (c := co29) ?_).2.2; exact (by (with_reducible repeat (first | apply Kd.R_alloc | apply Kd.R_drewN | apply Kd.R_drew)); exact (Kd.R_mono (Kd.R_far (p := ⟨gb791, 1, none⟩) (Kd.R_far (p := ⟨gb791, 0, none⟩) (Kd.R_types HO790.out BK791.out (by decide)) (fun _ hk => hk.2) (.int .i64 t784)) (fun _ hk => hk.2) (.slice Ao28 t785.length co28)) (fun _ h_ => h_.1)))); (case side4 => exact (Kd.R_reads' HO790.out).2.1); rintro e w30 ⟨rfl, hb⟩; refine ⟨_, rfl, ?_⟩; have n0_ := Aside0.mk (Kd.R_below (by (with_reducible repeat (first | apply Kd.R_alloc | apply Kd.R_drewN | apply Kd.R_drew)); exact (Kd.R_mono (Kd.R_far (p := ⟨gb791, 1, none⟩) (Kd.R_far (p := ⟨gb791, 0, none⟩) (Kd.R_types HO787.out BK791.out (by decide)) (fun _ hk => hk.2) (.int .i64 t784)) (fun _ hk => hk.2) (.slice Ao28 t785.length co28)) (fun _ h_ => h_.1))) hb); have n1_ := Aside0.mk (Kd.R_below (by (with_reducible repeat (first | apply Kd.R_alloc | apply Kd.R_drewN | apply Kd.R_drew)); exact (Kd.R_mono (Kd.R_far (p := ⟨gb791, 1, none⟩) (Kd.R_far (p := ⟨gb791, 0, none⟩) (Kd.R_types HO790.out BK791.out (by decide)) (fun _ hk => hk.2) (.int .i64 t784)) (fun _ hk => hk.2) (.slice Ao28 t785.length co28)) (fun _ h_ => h_.1))) hb); have n2_ := Aside0.mk (blk_below (g := gb791) (o := .cells #[.int .i64 t784, .slice Ao28 t785.length co28] 39 (0, 0)) (by (with_reducible repeat (first | refine blk_drewN ?_ _ | refine blk_drew ?_ | refine blk_alloc ?_ _)); refine blk_put (cs := #[.int .i64 t784, .slice none 0 0]) ?_ 1 _ rfl; (with_reducible repeat (first | refine blk_drewN ?_ _ | refine blk_drew ?_ | refine blk_alloc ?_ _)); refine blk_put (cs := #[.int .i64 0, .slice none 0 0]) ?_ 0 _ rfl; (with_reducible repeat (first | refine blk_drewN ?_ _ | refine blk_drew ?_ | refine blk_alloc ?_ _)); exact BK791.out) hb); have n3_ := Aside0.mk (below_step (by repeat (first | (with_reducible first | exact HB.out | apply below_alloc | apply pw_below_drewN | apply below_drew1 | refine below_set ?_ GE791.out) | exact HB.out)) hb); clear HO787; clear HO790; clear BK791; clear HB; have HO787 := n0_; have HO790 := n1_; have BK791 := n2_; have HB := n3_; clear n0_ n1_ n2_ n3_; (try clear hb); (try clear hb2); (try clear hk); (try clear hi); have hcz31_0 : w30.cell? ⟨gb791, 0, none⟩ = some (.int .i64 t784) := (blk_cell BK791.out 0).trans rfl; have hcz31_1 : w30.cell? ⟨gb791, 1, none⟩ = some (.slice Ao28 t785.length co28) := (blk_cell BK791.out 1).trans rfl; have hfz31_0 := blk_frozen BK791.out 0; have hfz31_1 := blk_frozen BK791.out 1) | ((with_reducible refine gate_callee (f := 42) rfl ?_); refine goesL_ (some 20) rfl rfl Tryd.func42 (by kernel_rfl) rfl #[.agg #[.int .i64 t784, .slice Ao28 t785.length co28], .slice Ao29 t788.length co29] rfl (by (try simp only [List.map_toArray, List.map_cons, List.map_nil]); first | done | rfl | (simp only [List.length_drop, List.length_take]; rfl)) ?_; (with_reducible refine (spec_HasCycle.calls k t784 _ _ t785 _ _ t788 t793 _ ?side1 ?side2 ?side3 ?side4 A5.out).mono ?_); (case side1 => repeat (first | exact (Kd.R_reads' HO787.out).2.2 | (with_reducible refine Kd.C_alloc ?_ _) | (with_reducible refine Kd.C_drewN ?_ _) | (with_reducible refine Kd.C_drew ?_))); (case side2 => exact (Kd.R_reads' HO787.out).2.1); (case side3 => repeat (first | exact (Kd.R_reads' HO790.out).2.2 | (with_reducible refine Kd.C_alloc ?_ _) | (with_reducible refine Kd.C_drewN ?_ _) | (with_reducible refine Kd.C_drew ?_))); (case side4 => exact (Kd.R_reads' HO790.out).2.1); rintro e w32 ⟨rfl, hb⟩; refine ⟨_, rfl, ?_⟩; have n0_ := Aside0.mk (Kd.R_below (by (with_reducible repeat (first | apply Kd.R_alloc | apply Kd.R_drewN | apply Kd.R_drew)); exact HO787.out) hb); have n1_ := Aside0.mk (Kd.R_below (by (with_reducible repeat (first | apply Kd.R_alloc | apply Kd.R_drewN | apply Kd.R_drew)); exact HO790.out) hb); have n2_ := Aside0.mk (blk_below (g := gb791) (o := .cells #[.int .i64 t784, .slice Ao28 t785.length co28] 39 (0, 0)) (by (with_reducible repeat (first | refine blk_drewN ?_ _ | refine blk_drew ?_ | refine blk_alloc ?_ _)); exact BK791.out) hb); have n3_ := Aside0.mk (below_step (by repeat (first | (with_reducible first | exact HB.out | apply below_alloc | apply pw_below_drewN | apply below_drew1 | refine below_set ?_ GE791.out) | exact HB.out)) hb); clear HO787; clear HO790; clear BK791; clear HB; have HO787 := n0_; have HO790 := n1_; have BK791 := n2_; have HB := n3_; clear n0_ n1_ n2_ n3_; (try clear hb); (try clear hb2); (try clear hk); (try clear hi); have hcz33_0 : w32.cell? ⟨gb791, 0, none⟩ = some (.int .i64 t784) := (blk_cell BK791.out 0).trans rfl; have hcz33_1 : w32.cell? ⟨gb791, 1, none⟩ = some (.slice Ao28 t785.length co28) := (blk_cell BK791.out 1).trans rfl; have hfz33_0 := blk_frozen BK791.out 0; have hfz33_1 := blk_frozen BK791.out 1) | ((with_reducible refine gate_callee (f := 43) rfl ?_); refine goesL_ (some 24) rfl rfl Tryd.func43 (by kernel_rfl) rfl #[.agg #[.int .i64 t784, .slice Ao28 t785.length co28], .slice Ao29 t788.length co29] rfl (by (try simp only [List.map_toArray, List.map_cons, List.map_nil]); first | done | rfl | (simp only [List.length_drop, List.length_take]; rfl)) ?_; (with_reducible refine (spec_StateValid.calls k t784 _ _ t785 _ _ t788 false _ ?side1 ?side2 ?side3 ?side4 A7.out).mono ?_); (case side1 => repeat (first | exact (Kd.R_reads' HO787.out).2.2 | (with_reducible refine Kd.C_alloc ?_ _) | (with_reducible refine Kd.C_drewN ?_ _) | (with_reducible refine Kd.C_drew ?_))); (case side2 => exact (Kd.R_reads' HO787.out).2.1); (case side3 => repeat (first | exact (Kd.R_reads' HO790.out).2.2 | (with_reducible refine Kd.C_alloc ?_ _) | (with_reducible refine Kd.C_drewN ?_ _) | (with_reducible refine Kd.C_drew ?_))); (case side4 => exact (Kd.R_reads' HO790.out).2.1); rintro e w34 ⟨rfl, hb⟩; refine ⟨_, rfl, ?_⟩; have n0_ := Aside0.mk (Kd.R_below (by (with_reducible repeat (first | apply Kd.R_alloc | apply Kd.R_drewN | apply Kd.R_drew)); exact HO787.out) hb); have n1_ := Aside0.mk (Kd.R_below (by (with_reducible repeat (first | apply Kd.R_alloc | apply Kd.R_drewN | apply Kd.R_drew)); exact HO790.out) hb); have n2_ := Aside0.mk (blk_below (g := gb791) (o := .cells #[.int .i64 t784, .slice Ao28 t785.length co28] 39 (0, 0)) (by (with_reducible repeat (first | refine blk_drewN ?_ _ | refine blk_drew ?_ | refine blk_alloc ?_ _)); exact BK791.out) hb); have n3_ := Aside0.mk (below_step (by repeat (first | (with_reducible first | exact HB.out | apply below_alloc | apply pw_below_drewN | apply below_drew1 | refine below_set ?_ GE791.out) | exact HB.out)) hb); clear HO787; clear HO790; clear BK791; clear HB; have HO787 := n0_; have HO790 := n1_; have BK791 := n2_; have HB := n3_; clear n0_ n1_ n2_ n3_; (try clear hb); (try clear hb2); (try clear hk); (try clear hi)) | (go_at_call 15; (with_reducible refine (laws_alive.calls k  t797 _ A24.out).mono ?_); rintro e w35 ⟨rfl, hb⟩; have n0_ := Aside0.mk (Kd.R_below (by (with_reducible repeat (first | apply Kd.R_alloc | apply Kd.R_drewN | apply Kd.R_drew)); exact HO787.out) hb); have n1_ := Aside0.mk (Kd.R_below (by (with_reducible repeat (first | apply Kd.R_alloc | apply Kd.R_drewN | apply Kd.R_drew)); exact HO790.out) hb); have n2_ := Aside0.mk (blk_below (g := gb791) (o := .cells #[.int .i64 t784, .slice Ao28 t785.length co28] 39 (0, 0)) (by (with_reducible repeat (first | refine blk_drewN ?_ _ | refine blk_drew ?_ | refine blk_alloc ?_ _)); exact BK791.out) hb); have n3_ := Aside0.mk (below_step (by repeat (first | (with_reducible first | exact HB.out | apply below_alloc | apply pw_below_drewN | apply below_drew1 | refine below_set ?_ GE791.out) | exact HB.out)) hb); clear HO787; clear HO790; clear BK791; clear HB; have HO787 := n0_; have HO790 := n1_; have BK791 := n2_; have HB := n3_; clear n0_ n1_ n2_ n3_; (try clear hb); (try clear hb2); (try clear hk); (try clear hi)))
     go_ret
     exact ⟨by first | rfl | (simp [errW_none, errW_some] <;> rfl) | (simp [*, errW_none, errW_some] <;> rfl), by repeat (first | (with_reducible first | exact HB.out | apply below_alloc | apply pw_below_drewN | apply below_drew1 | refine below_set ?_ GE791.out) | exact HB.out)⟩

end Go.Proofs.YthkdkjmnnpcdhaaDoor.P

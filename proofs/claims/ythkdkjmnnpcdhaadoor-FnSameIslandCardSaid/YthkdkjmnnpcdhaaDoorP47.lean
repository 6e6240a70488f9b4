/- Contracts of Go functions of this seat's translation, written by this repo's wip/mk.py: it calls the kit's print.py with contracts typed by hand in place of functions that it does not take. Not trusted: Lean checks it. -/
import Derived.Test.YthkdkjmnnpcdhaaDoorP0
import Derived.Test.YthkdkjmnnpcdhaaDoorP19
import Derived.Test.YthkdkjmnnpcdhaaDoorP35
import Derived.Test.YthkdkjmnnpcdhaaDoorP41
import Derived.Test.YthkdkjmnnpcdhaaDoorP45
import Derived.Test.YthkdkjmnnpcdhaaDoorP46
namespace Go.Proofs.YthkdkjmnnpcdhaaDoor.P
open Go.RowKit Go.Proofs.YthkdkjmnnpcdhaaDoorW.PrintWords Go.Proofs.YthkdkjmnnpcdhaaDoorW.PrintLast Go.Proofs.YthkdkjmnnpcdhaaDoorW.PrintMore
attribute [local go_sem] max2_int min2_int max_two min_two max_three min_three max_four min_four   -- for this text's walks alone
set_option linter.unusedVariables false
set_option linter.unusedSimpArgs false

/-! ### laws_FnSameIsland: function 6 -/
mutual
def laws_FnSameIsland.j0 : Nat → List Bool → Int → Int → Bool → Bool → Int → List (S52) → Option (Bool)
 | 0, _, _, _, _, _, _, _ => none
 | k + 1, x4, x5, x6, x7, x39, x527000, x527001 => if x39 = true then (none) else ((impl_IslandNumbers.f k x527000 x527001 x4).bind fun t530 => (if (t530.length : Int) = x527000 then (if x5 < 0 then (laws_FnSameIsland.j1 k x4 x5 x6 x7 t530 true x527000 x527001) else (if x5 ≥ x527000 then (laws_FnSameIsland.j1 k x4 x5 x6 x7 t530 true x527000 x527001) else (if x6 < 0 then (laws_FnSameIsland.j1 k x4 x5 x6 x7 t530 true x527000 x527001) else (laws_FnSameIsland.j1 k x4 x5 x6 x7 t530 (decide (x6 ≥ x527000)) x527000 x527001)))) else (laws_FnSameIsland.j1 k x4 x5 x6 x7 t530 true x527000 x527001)))
def laws_FnSameIsland.j1 : Nat → List Bool → Int → Int → Bool → List Int → Bool → Int → List (S52) → Option (Bool)
 | 0, _, _, _, _, _, _, _, _ => none
 | k + 1, x4, x5, x6, x7, x8, x67, x527000, x527001 => if x67 = true then (if x7 = true then (none) else ((laws_alive.f k).bind fun t533 => (some t533))) else (if 0 ≤ x5 then (if x5 < (x8.length : Int) then (if 0 ≤ x6 then (if x6 < (x8.length : Int) then (if (x7 == ((rd x8 x5) == (rd x8 x6))) = true then ((impl_SameIsland.f k x527000 x527001 x4 x5 x5).bind fun t536 => (some t536)) else (none)) else (none)) else (none)) else (none)) else (none))
end
def laws_FnSameIsland.f (k : Nat) (l0 : List Int) : Option (Bool) := if (l0.length : Int) > 1048576 then (some true) else ((spec_DrawSameIsland.f k l0).bind fun bt517 => ((impl_SameIsland.f k bt517.1 bt517.2.1 bt517.2.2.1 bt517.2.2.2.1 bt517.2.2.2.2).bind fun t527 => ((spec_SameIsland.f k bt517.1 bt517.2.1 bt517.2.2.1 bt517.2.2.2.1 bt517.2.2.2.2).bind fun t528 => (if (t527 != t528) = true then (laws_FnSameIsland.j0 k bt517.2.2.1 bt517.2.2.2.1 bt517.2.2.2.2 t527 true bt517.1 bt517.2.1) else ((impl_SameIsland.f k bt517.1 bt517.2.1 bt517.2.2.1 bt517.2.2.2.2 bt517.2.2.2.1).bind fun t529 => (laws_FnSameIsland.j0 k bt517.2.2.1 bt517.2.2.2.1 bt517.2.2.2.2 t527 (t527 != t529) bt517.1 bt517.2.1))))))
theorem laws_FnSameIsland.mono_l : ∀ k, (∀ y0 y1 y2 y3 y4 y5 y6, LeO (laws_FnSameIsland.j0 k y0 y1 y2 y3 y4 y5 y6) (laws_FnSameIsland.j0 (k + 1) y0 y1 y2 y3 y4 y5 y6)) ∧ (∀ y0 y1 y2 y3 y4 y5 y6 y7, LeO (laws_FnSameIsland.j1 k y0 y1 y2 y3 y4 y5 y6 y7) (laws_FnSameIsland.j1 (k + 1) y0 y1 y2 y3 y4 y5 y6 y7))
 | 0 => ⟨fun _ _ _ _ _ _ _ r h => by simp [laws_FnSameIsland.j0] at h, fun _ _ _ _ _ _ _ _ r h => by simp [laws_FnSameIsland.j1] at h⟩
 | k + 1 => by
  obtain ⟨ih0, ih1⟩ := laws_FnSameIsland.mono_l k
  refine ⟨?_, ?_⟩
  ·
   intro y0 y1 y2 y3 y4 y5 y6
   unfold laws_FnSameIsland.j0
   repeat' first
   | (with_reducible exact ih0 _ _ _ _ _ _ _)
   | (with_reducible exact ih1 _ _ _ _ _ _ _ _)
   | (with_reducible exact impl_IslandNumbers.mono _ _ _ _)
   | (with_reducible exact impl_SameIsland.mono _ _ _ _ _ _)
   | (with_reducible exact laws_alive.mono _)
   | (with_reducible exact spec_DrawSameIsland.mono _ _)
   | (with_reducible exact spec_SameIsland.mono _ _ _ _ _ _)
   | (with_reducible exact LeO.refl _)
   | (with_reducible exact LeO.none _)
   | (with_reducible refine LeO.ite ?_ ?_)
   | (with_reducible refine LeO.bind ?_ (fun _ => ?_))
   | exact ih0 _ _ _ _ _ _ _
   | exact ih1 _ _ _ _ _ _ _ _
   | exact impl_IslandNumbers.mono _ _ _ _
   | exact impl_SameIsland.mono _ _ _ _ _ _
   | exact laws_alive.mono _
   | exact spec_DrawSameIsland.mono _ _
   | exact spec_SameIsland.mono _ _ _ _ _ _
   | exact LeO.none _
   | refine LeO.ite ?_ ?_
   | refine LeO.bind ?_ (fun _ => ?_)
  ·
   intro y0 y1 y2 y3 y4 y5 y6 y7
   unfold laws_FnSameIsland.j1
   repeat' first
   | (with_reducible exact ih0 _ _ _ _ _ _ _)
   | (with_reducible exact ih1 _ _ _ _ _ _ _ _)
   | (with_reducible exact impl_IslandNumbers.mono _ _ _ _)
   | (with_reducible exact impl_SameIsland.mono _ _ _ _ _ _)
   | (with_reducible exact laws_alive.mono _)
   | (with_reducible exact spec_DrawSameIsland.mono _ _)
   | (with_reducible exact spec_SameIsland.mono _ _ _ _ _ _)
   | (with_reducible exact LeO.refl _)
   | (with_reducible exact LeO.none _)
   | (with_reducible refine LeO.ite ?_ ?_)
   | (with_reducible refine LeO.bind ?_ (fun _ => ?_))
   | exact ih0 _ _ _ _ _ _ _
   | exact ih1 _ _ _ _ _ _ _ _
   | exact impl_IslandNumbers.mono _ _ _ _
   | exact impl_SameIsland.mono _ _ _ _ _ _
   | exact laws_alive.mono _
   | exact spec_DrawSameIsland.mono _ _
   | exact spec_SameIsland.mono _ _ _ _ _ _
   | exact LeO.none _
   | refine LeO.ite ?_ ?_
   | refine LeO.bind ?_ (fun _ => ?_)
theorem laws_FnSameIsland.mono : ∀ a0 k, LeO (laws_FnSameIsland.f k a0) (laws_FnSameIsland.f (k + 1) a0) := by
 intro a0 k
 obtain ⟨ih0, ih1⟩ := laws_FnSameIsland.mono_l k
 unfold laws_FnSameIsland.f
 repeat' first
   | (with_reducible exact ih0 _ _ _ _ _ _ _)
   | (with_reducible exact ih1 _ _ _ _ _ _ _ _)
   | (with_reducible exact impl_IslandNumbers.mono _ _ _ _)
   | (with_reducible exact impl_SameIsland.mono _ _ _ _ _ _)
   | (with_reducible exact laws_alive.mono _)
   | (with_reducible exact spec_DrawSameIsland.mono _ _)
   | (with_reducible exact spec_SameIsland.mono _ _ _ _ _ _)
   | (with_reducible exact LeO.refl _)
   | (with_reducible exact LeO.none _)
   | (with_reducible refine LeO.ite ?_ ?_)
   | (with_reducible refine LeO.bind ?_ (fun _ => ?_))
   | exact ih0 _ _ _ _ _ _ _
   | exact ih1 _ _ _ _ _ _ _ _
   | exact impl_IslandNumbers.mono _ _ _ _
   | exact impl_SameIsland.mono _ _ _ _ _ _
   | exact laws_alive.mono _
   | exact spec_DrawSameIsland.mono _ _
   | exact spec_SameIsland.mono _ _ _ _ _ _
   | exact LeO.none _
   | refine LeO.ite ?_ ?_
   | refine LeO.bind ?_ (fun _ => ?_)
def laws_FnSameIsland.T10 : Bool × List (List Nat × List Nat) := (true, [([], []), ([], []), ([], []), ([1, 2], [1, 2]), ([3], [3]), ([], []), ([], []), ([5, 6], [5, 6]), ([7], [7]), ([4, 8], [4, 8]), ([0, 9], [0, 9]), ([10], [10]), ([11], [11]), ([11], [11]), ([11], [11]), ([11], [11]), ([12, 13, 14, 15, 11, 11], [11, 12, 13, 14, 15]), ([11, 16], [11, 16]), ([17, 16, 0, 1, 2, 3, 4, 5, 6, 7, 8, 9, 10, 11, 12, 13, 14, 15, 16, 17], [17])])
def laws_FnSameIsland.B10 : List Nat := [0, 0, 0, 6, 14, 0, 0, 96, 224, 510, 1023, 2047, 4095, 4095, 4095, 4095, 65535, 131071, 262143]
theorem laws_FnSameIsland.tab10 : rtab .any (opsOf Tryd.f6 10) = laws_FnSameIsland.T10 := by kernel_rfl
theorem laws_FnSameIsland.bits10 : waitsOk laws_FnSameIsland.T10.2 laws_FnSameIsland.B10 = true := by kernel_rfl
set_option maxHeartbeats 8000000 in
set_option maxRecDepth 100000 in
theorem laws_FnSameIsland.calls (k : Nat) (A0 : Option Addr) (c0 : Nat) (l0 : List Int) (r : Bool) (w : World) (hr0 : Kd.C (Kd.int .u8) w A0 l0.length l0) (hc0 : l0.length ≤ c0) (h : laws_FnSameIsland.f k l0 = some r) :
  Calls Tryd.prog 6 #[.slice A0 l0.length c0] w fun e w' => e = .returned (.bool r) ∧ Below w.heap.size w w' := by
 have hu39 := Tryd.underlying39
 have HR0 := Aside0.mk hr0
 have HC0 := Aside0.mk hc0
 clear hr0 hc0
 have HB := Aside0.mk (Below.refl w.heap.size w)
 have H : (if (l0.length : Int) > 1048576 then (some true) else ((spec_DrawSameIsland.f k l0).bind fun bt517 => ((impl_SameIsland.f k bt517.1 bt517.2.1 bt517.2.2.1 bt517.2.2.2.1 bt517.2.2.2.2).bind fun t527 => ((spec_SameIsland.f k bt517.1 bt517.2.1 bt517.2.2.1 bt517.2.2.2.1 bt517.2.2.2.2).bind fun t528 => (if (t527 != t528) = true then (laws_FnSameIsland.j0 k bt517.2.2.1 bt517.2.2.2.1 bt517.2.2.2.2 t527 true bt517.1 bt517.2.1) else ((impl_SameIsland.f k bt517.1 bt517.2.1 bt517.2.2.1 bt517.2.2.2.2 bt517.2.2.2.1).bind fun t529 => (laws_FnSameIsland.j0 k bt517.2.2.1 bt517.2.2.2.1 bt517.2.2.2.2 t527 (t527 != t529) bt517.1 bt517.2.1))))))) = some r := h
 clear h
 by_cases c2 : (l0.length : Int) > 1048576
 ·
  rw [if_pos c2] at H
  have c2b0 : decide (1048576 < (l0.length : Int)) = true := decide_eq_true c2
  have c2b1 : decide (1048576 < l0.length) = true := decide_eq_true (by omega)
  clear c2
  obtain rfl := Option.some.inj H
  go_enter Tryd.func6, Tryd.ntmps6
  go_wp2
  go_ret
  exact ⟨by first | rfl | (simp [errW_none, errW_some] <;> rfl) | (simp [*, errW_none, errW_some] <;> rfl), by repeat (first | (with_reducible first | exact HB.out | apply below_alloc | apply pw_below_drewN | apply below_drew1) | exact HB.out)⟩
 ·
  rw [if_neg c2] at H
  have c2b0 : decide (1048576 < (l0.length : Int)) = false := decide_eq_false c2
  have c2b1 : decide (1048576 < l0.length) = false := decide_eq_false (by omega)
  clear c2
  replace H := Option.bind_eq_some_iff.mp H
  obtain ⟨⟨t517, t518, t521, t524, t525⟩, A30, H⟩ := H
  replace H : ((impl_SameIsland.f k t517 t518 t521 t524 t525).bind fun t527 => ((spec_SameIsland.f k t517 t518 t521 t524 t525).bind fun t528 => (if (t527 != t528) = true then (laws_FnSameIsland.j0 k t521 t524 t525 t527 true t517 t518) else ((impl_SameIsland.f k t517 t518 t521 t525 t524).bind fun t529 => (laws_FnSameIsland.j0 k t521 t524 t525 t527 (t527 != t529) t517 t518))))) = some r := H
  have A3 := Aside0.mk A30
  clear A30
  replace H := Option.bind_eq_some_iff.mp H
  obtain ⟨t527, A40, H⟩ := H
  replace H : ((spec_SameIsland.f k t517 t518 t521 t524 t525).bind fun t528 => (if (t527 != t528) = true then (laws_FnSameIsland.j0 k t521 t524 t525 t527 true t517 t518) else ((impl_SameIsland.f k t517 t518 t521 t525 t524).bind fun t529 => (laws_FnSameIsland.j0 k t521 t524 t525 t527 (t527 != t529) t517 t518)))) = some r := H
  have A4 := Aside0.mk A40
  clear A40
  have HC5 := Aside0.mk H
  clear H
  go_enter Tryd.func6, Tryd.ntmps6
  go_upto_region 5 with (first | ((with_reducible refine gate_callee (f := 24) rfl ?_); refine goesL_ (some 14) rfl rfl Tryd.func24 (by kernel_rfl) rfl #[.slice A0 l0.length c0] rfl (by (try simp only [List.map_toArray, List.map_cons, List.map_nil]); first | done | rfl | (simp only [List.length_drop, List.length_take]; rfl)) ?_; (with_reducible refine (spec_DrawSameIsland.calls k _ _ l0 t517 t518 t521 t524 t525 _ ?side1 ?side2 A3.out).mono ?_); (case side1 => repeat (first | exact HR0.out | (with_reducible refine Kd.C_alloc ?_ _) | (with_reducible refine Kd.C_drewN ?_ _) | (with_reducible refine Kd.C_drew ?_))); (case side2 => exact HC0.out); rintro e w6 ⟨v519, v522, rfl, ho0, ho1, hb⟩; refine ⟨_, rfl, ?_⟩; have n0_ := Aside0.mk (Kd.R_lower ho0 (below_size (by repeat (first | (with_reducible first | exact HB.out | apply below_alloc | apply pw_below_drewN | apply below_drew1) | exact HB.out)))); have n1_ := Aside0.mk (Kd.R_lower ho1 (below_size (by repeat (first | (with_reducible first | exact HB.out | apply below_alloc | apply pw_below_drewN | apply below_drew1) | exact HB.out)))); have n2_ := Aside0.mk (below_step (by repeat (first | (with_reducible first | exact HB.out | apply below_alloc | apply pw_below_drewN | apply below_drew1) | exact HB.out)) hb); clear HB; have HO520 := n0_; have HO523 := n1_; have HB := n2_; clear n0_ n1_ n2_; (try clear hb); (try clear hb2); (try clear hk); (try clear hi); (try clear ho0); (try clear ho1)) | ((with_reducible refine gate_dst (N := 3) rfl ?_); refine box_event ?hg (N := 3) ?hd (cs := #[.int .i64 0, .slice none 0 0]) (t := 39) ?hr ?_; (case hd => rfl); (case hg => rfl); (case hr => first | (go_simp; done) | (go_simp; rfl)); intro gb526 hg w7 hbox hb; have n0_ := Aside0.mk (Kd.R_below (by (with_reducible repeat (first | apply Kd.R_alloc | apply Kd.R_drewN | apply Kd.R_drew)); exact HO520.out) hb); have n1_ := Aside0.mk (Kd.R_below (by (with_reducible repeat (first | apply Kd.R_alloc | apply Kd.R_drewN | apply Kd.R_drew)); exact HO523.out) hb); have n2_ := Aside0.mk (below_step (by repeat (first | (with_reducible first | exact HB.out | apply below_alloc | apply pw_below_drewN | apply below_drew1) | exact HB.out)) hb); have n3_ := Aside0.mk (hbox); have n4_ := Aside0.mk ((by rw [hg]; exact (below_size (by repeat (first | (with_reducible first | exact HB.out | apply below_alloc | apply pw_below_drewN | apply below_drew1) | exact HB.out))) : w.heap.size ≤ gb526)); have n5_ := Aside0.mk ((by rw [hg]; exact (below_size (by repeat (first | (with_reducible first | exact HB.out | apply below_alloc | apply pw_below_drewN | apply below_drew1) | exact HB.out))) : w.heap.size ≤ gb526)); clear HO520; clear HO523; clear HB; have HO520 := n0_; have HO523 := n1_; have HB := n2_; have BK526 := n3_; have GW526 := n4_; have GE526 := n5_; clear n0_ n1_ n2_ n3_ n4_ n5_; clear hb hbox hg; have hcz8_0 : w7.cell? ⟨gb526, 0, none⟩ = some (.int .i64 0) := (blk_cell BK526.out 0).trans rfl; have hcz8_1 : w7.cell? ⟨gb526, 1, none⟩ = some (.slice none 0 0) := (blk_cell BK526.out 1).trans rfl; have hfz8_0 := blk_frozen BK526.out 0; have hfz8_1 := blk_frozen BK526.out 1; obtain ⟨Ao9, co9, eo9⟩ := Kd.R_slice HO520.out; subst eo9; obtain ⟨Ao10, co10, eo10⟩ := Kd.R_slice HO523.out; subst eo10) | ((with_reducible refine gate_callee (f := 25) rfl ?_); refine goesL_ (some 23) rfl rfl Tryd.func25 (by kernel_rfl) rfl #[.agg #[.int .i64 t517, .slice Ao9 t518.length co9], .slice Ao10 t521.length co10, .int .i64 t524, .int .i64 t525] rfl (by (try simp only [List.map_toArray, List.map_cons, List.map_nil]); first | done | rfl | (simp only [List.length_drop, List.length_take]; rfl)) ?_; (with_reducible refine (impl_SameIsland.calls k t517 _ _ t518 _ _ t521 t524 t525 t527 _ ?side1 ?side2 ?side3 ?side4 A4.out).mono ?_); (case side1 => refine (Kd.R_reads' (e := 52) (base := w.heap.size) (ok := fun k_ => True) (n := t518.length) (c := co9) ?_).2.2; exact (by (with_reducible repeat (first | apply Kd.R_alloc | apply Kd.R_drewN | apply Kd.R_drew)); exact (Kd.R_mono (Kd.R_far (p := ⟨gb526, 1, none⟩) (Kd.R_far (p := ⟨gb526, 0, none⟩) (Kd.R_types HO520.out BK526.out (by decide)) (fun _ hk => hk.2) (.int .i64 t517)) (fun _ hk => hk.2) (.slice Ao9 t518.length co9)) (fun _ h_ => h_.1)))); (case side2 => exact (Kd.R_reads' HO520.out).2.1); (case side3 => refine (Kd.R_reads' (e := 4) (base := w.heap.size) (ok := fun k_ => True) (n := t521.length) (c := co10) ?_).2.2; exact (by (with_reducible repeat (first | apply Kd.R_alloc | apply Kd.R_drewN | apply Kd.R_drew)); exact (Kd.R_mono (Kd.R_far (p := ⟨gb526, 1, none⟩) (Kd.R_far (p := ⟨gb526, 0, none⟩) (Kd.R_types HO523.out BK526.out (by decide)) (fun _ hk => hk.2) (.int .i64 t517)) (fun _ hk => hk.2) (.slice Ao9 t518.length co9)) (fun _ h_ => h_.1)))); (case side4 => exact (Kd.R_reads' HO523.out).2.1); rintro e w11 ⟨rfl, hb⟩; refine ⟨_, rfl, ?_⟩; have n0_ := Aside0.mk (Kd.R_below (by (with_reducible repeat (first | apply Kd.R_alloc | apply Kd.R_drewN | apply Kd.R_drew)); exact (Kd.R_mono (Kd.R_far (p := ⟨gb526, 1, none⟩) (Kd.R_far (p := ⟨gb526, 0, none⟩) (Kd.R_types HO520.out BK526.out (by decide)) (fun _ hk => hk.2) (.int .i64 t517)) (fun _ hk => hk.2) (.slice Ao9 t518.length co9)) (fun _ h_ => h_.1))) hb); have n1_ := Aside0.mk (Kd.R_below (by (with_reducible repeat (first | apply Kd.R_alloc | apply Kd.R_drewN | apply Kd.R_drew)); exact (Kd.R_mono (Kd.R_far (p := ⟨gb526, 1, none⟩) (Kd.R_far (p := ⟨gb526, 0, none⟩) (Kd.R_types HO523.out BK526.out (by decide)) (fun _ hk => hk.2) (.int .i64 t517)) (fun _ hk => hk.2) (.slice Ao9 t518.length co9)) (fun _ h_ => h_.1))) hb); have n2_ := Aside0.mk (blk_below (g := gb526) (o := .cells #[.int .i64 t517, .slice Ao9 t518.length co9] 39 (0, 0)) (by (with_reducible repeat (first | refine blk_drewN ?_ _ | refine blk_drew ?_ | refine blk_alloc ?_ _)); refine blk_put (cs := #[.int .i64 t517, .slice none 0 0]) ?_ 1 _ rfl; (with_reducible repeat (first | refine blk_drewN ?_ _ | refine blk_drew ?_ | refine blk_alloc ?_ _)); refine blk_put (cs := #[.int .i64 0, .slice none 0 0]) ?_ 0 _ rfl; (with_reducible repeat (first | refine blk_drewN ?_ _ | refine blk_drew ?_ | refine blk_alloc ?_ _)); exact BK526.out) hb); have n3_ := Aside0.mk (below_step (by repeat (first | (with_reducible first | exact HB.out | apply below_alloc | apply pw_below_drewN | apply below_drew1 | refine below_set ?_ GE526.out) | exact HB.out)) hb); clear HO520; clear HO523; clear BK526; clear HB; have HO520 := n0_; have HO523 := n1_; have BK526 := n2_; have HB := n3_; clear n0_ n1_ n2_ n3_; (try clear hb); (try clear hb2); (try clear hk); (try clear hi)))
  (try simp only [Act.put, List.setIfInBounds_toArray, List.set_cons_zero, List.set_cons_succ])
  go_cut [39] (fun v39 wc => ∃ (kq : Nat) (x39_4 : Bool), v39 = .bool x39_4 ∧ Aside0 (laws_FnSameIsland.j0 kq t521 t524 t525 t527 x39_4 t517 t518 = some r) ∧ Aside0 (kq ≤ k) ∧ Aside0 (Kd.R Kd.bool 4 wc w.heap.size (fun _ => True) (.slice Ao10 t521.length co10) t521) ∧ Aside0 (Kd.R k52 52 wc w.heap.size (fun _ => True) (.slice Ao9 t518.length co9) t518) ∧ Aside0 (wc.heap[gb526]? = some (.cells #[.int .i64 t517, (.slice Ao9 t518.length co9)] 39 (0, 0))) ∧ Aside0 (Below w.heap.size w wc))
  case first =>
   have H := HC5.out
   clear HC5
   replace H := Option.bind_eq_some_iff.mp H
   obtain ⟨t528, A120, H⟩ := H
   replace H : (if (t527 != t528) = true then (laws_FnSameIsland.j0 k t521 t524 t525 t527 true t517 t518) else ((impl_SameIsland.f k t517 t518 t521 t525 t524).bind fun t529 => (laws_FnSameIsland.j0 k t521 t524 t525 t527 (t527 != t529) t517 t518))) = some r := H
   have A12 := Aside0.mk A120
   clear A120
   by_cases c13 : (t527 != t528) = true
   ·
    rw [if_pos c13] at H
    have c13b0 : (t527 != t528) = true := c13
    (try (have c13b1 : decide (t527 = t528) = false := by simpa using c13))
    (try (have c13b2 : (t527 == t528) = false := by simpa using c13))
    (try (have c13b3 : ¬ (t527 = t528) := by simpa using c13))
    clear c13
    (first | rw [c13b0] | (simp only [i64_w, i32_w]; rw [c13b0]) | skip)
    have H' := Aside0.mk H
    clear H
    have hcz14_0 : w11.cell? ⟨gb526, 0, none⟩ = some (.int .i64 t517) := (blk_cell BK526.out 0).trans rfl
    have hcz14_1 : w11.cell? ⟨gb526, 1, none⟩ = some (.slice Ao9 t518.length co9) := (blk_cell BK526.out 1).trans rfl
    have hfz14_0 := blk_frozen BK526.out 0
    have hfz14_1 := blk_frozen BK526.out 1
    go_wp2_with (first | ((with_reducible refine gate_callee (f := 26) rfl ?_); refine goesL_ (some 29) rfl rfl Tryd.func26 (by kernel_rfl) rfl #[.agg #[.int .i64 t517, .slice Ao9 t518.length co9], .slice Ao10 t521.length co10, .int .i64 t524, .int .i64 t525] rfl (by (try simp only [List.map_toArray, List.map_cons, List.map_nil]); first | done | rfl | (simp only [List.length_drop, List.length_take]; rfl)) ?_; (with_reducible refine (spec_SameIsland.calls k t517 _ _ t518 _ _ t521 t524 t525 t528 _ ?side1 ?side2 ?side3 ?side4 A12.out).mono ?_); (case side1 => repeat (first | exact (Kd.R_reads' HO520.out).2.2 | (with_reducible refine Kd.C_alloc ?_ _) | (with_reducible refine Kd.C_drewN ?_ _) | (with_reducible refine Kd.C_drew ?_))); (case side2 => exact (Kd.R_reads' HO520.out).2.1); (case side3 => repeat (first | exact (Kd.R_reads' HO523.out).2.2 | (with_reducible refine Kd.C_alloc ?_ _) | (with_reducible refine Kd.C_drewN ?_ _) | (with_reducible refine Kd.C_drew ?_))); (case side4 => exact (Kd.R_reads' HO523.out).2.1); rintro e w15 ⟨rfl, hb⟩; refine ⟨_, rfl, ?_⟩; have n0_ := Aside0.mk (Kd.R_below (by (with_reducible repeat (first | apply Kd.R_alloc | apply Kd.R_drewN | apply Kd.R_drew)); exact HO520.out) hb); have n1_ := Aside0.mk (Kd.R_below (by (with_reducible repeat (first | apply Kd.R_alloc | apply Kd.R_drewN | apply Kd.R_drew)); exact HO523.out) hb); have n2_ := Aside0.mk (blk_below (g := gb526) (o := .cells #[.int .i64 t517, .slice Ao9 t518.length co9] 39 (0, 0)) (by (with_reducible repeat (first | refine blk_drewN ?_ _ | refine blk_drew ?_ | refine blk_alloc ?_ _)); exact BK526.out) hb); have n3_ := Aside0.mk (below_step (by repeat (first | (with_reducible first | exact HB.out | apply below_alloc | apply pw_below_drewN | apply below_drew1 | refine below_set ?_ GE526.out) | exact HB.out)) hb); clear HO520; clear HO523; clear BK526; clear HB; have HO520 := n0_; have HO523 := n1_; have BK526 := n2_; have HB := n3_; clear n0_ n1_ n2_ n3_; (try clear hb); (try clear hb2); (try clear hk); (try clear hi)))
    go_meet
    case rel => exact ⟨_, (true), (by first | rfl | (simp; done) | (simp [*]; done)), H', ⟨by first | omega | exact Nat.le_refl _⟩, ⟨by (with_reducible repeat (first | apply Kd.R_alloc | apply Kd.R_drewN | apply Kd.R_drew)); exact HO523.out⟩, ⟨by (with_reducible repeat (first | apply Kd.R_alloc | apply Kd.R_drewN | apply Kd.R_drew)); exact HO520.out⟩, ⟨by (with_reducible repeat (first | refine blk_drewN ?_ _ | refine blk_drew ?_ | refine blk_alloc ?_ _)); exact BK526.out⟩, ⟨by repeat (first | (with_reducible first | exact HB.out | apply below_alloc | apply pw_below_drewN | apply below_drew1 | refine below_set ?_ GE526.out) | exact HB.out)⟩⟩
   ·
    rw [if_neg c13] at H
    have c13b0 : (t527 != t528) = false := by simpa using c13
    (try (have c13b1 : decide (t527 = t528) = true := by simpa using c13))
    (try (have c13b2 : (t527 == t528) = true := by simpa using c13))
    clear c13
    (first | rw [c13b0] | (simp only [i64_w, i32_w]; rw [c13b0]) | skip)
    replace H := Option.bind_eq_some_iff.mp H
    obtain ⟨t529, A160, H⟩ := H
    replace H : (laws_FnSameIsland.j0 k t521 t524 t525 t527 (t527 != t529) t517 t518) = some r := H
    have A16 := Aside0.mk A160
    clear A160
    have H' := Aside0.mk H
    clear H
    have hcz17_0 : w11.cell? ⟨gb526, 0, none⟩ = some (.int .i64 t517) := (blk_cell BK526.out 0).trans rfl
    have hcz17_1 : w11.cell? ⟨gb526, 1, none⟩ = some (.slice Ao9 t518.length co9) := (blk_cell BK526.out 1).trans rfl
    have hfz17_0 := blk_frozen BK526.out 0
    have hfz17_1 := blk_frozen BK526.out 1
    go_wp2_with (first | ((with_reducible refine gate_callee (f := 26) rfl ?_); refine goesL_ (some 29) rfl rfl Tryd.func26 (by kernel_rfl) rfl #[.agg #[.int .i64 t517, .slice Ao9 t518.length co9], .slice Ao10 t521.length co10, .int .i64 t524, .int .i64 t525] rfl (by (try simp only [List.map_toArray, List.map_cons, List.map_nil]); first | done | rfl | (simp only [List.length_drop, List.length_take]; rfl)) ?_; (with_reducible refine (spec_SameIsland.calls k t517 _ _ t518 _ _ t521 t524 t525 t528 _ ?side1 ?side2 ?side3 ?side4 A12.out).mono ?_); (case side1 => repeat (first | exact (Kd.R_reads' HO520.out).2.2 | (with_reducible refine Kd.C_alloc ?_ _) | (with_reducible refine Kd.C_drewN ?_ _) | (with_reducible refine Kd.C_drew ?_))); (case side2 => exact (Kd.R_reads' HO520.out).2.1); (case side3 => repeat (first | exact (Kd.R_reads' HO523.out).2.2 | (with_reducible refine Kd.C_alloc ?_ _) | (with_reducible refine Kd.C_drewN ?_ _) | (with_reducible refine Kd.C_drew ?_))); (case side4 => exact (Kd.R_reads' HO523.out).2.1); rintro e w18 ⟨rfl, hb⟩; refine ⟨_, rfl, ?_⟩; have n0_ := Aside0.mk (Kd.R_below (by (with_reducible repeat (first | apply Kd.R_alloc | apply Kd.R_drewN | apply Kd.R_drew)); exact HO520.out) hb); have n1_ := Aside0.mk (Kd.R_below (by (with_reducible repeat (first | apply Kd.R_alloc | apply Kd.R_drewN | apply Kd.R_drew)); exact HO523.out) hb); have n2_ := Aside0.mk (blk_below (g := gb526) (o := .cells #[.int .i64 t517, .slice Ao9 t518.length co9] 39 (0, 0)) (by (with_reducible repeat (first | refine blk_drewN ?_ _ | refine blk_drew ?_ | refine blk_alloc ?_ _)); exact BK526.out) hb); have n3_ := Aside0.mk (below_step (by repeat (first | (with_reducible first | exact HB.out | apply below_alloc | apply pw_below_drewN | apply below_drew1 | refine below_set ?_ GE526.out) | exact HB.out)) hb); clear HO520; clear HO523; clear BK526; clear HB; have HO520 := n0_; have HO523 := n1_; have BK526 := n2_; have HB := n3_; clear n0_ n1_ n2_ n3_; (try clear hb); (try clear hb2); (try clear hk); (try clear hi); have hcz19_0 : w18.cell? ⟨gb526, 0, none⟩ = some (.int .i64 t517) := (blk_cell BK526.out 0).trans rfl; have hcz19_1 : w18.cell? ⟨gb526, 1, none⟩ = some (.slice Ao9 t518.length co9) := (blk_cell BK526.out 1).trans rfl; have hfz19_0 := blk_frozen BK526.out 0; have hfz19_1 := blk_frozen BK526.out 1) | (go_at_call 25; (with_reducible refine (impl_SameIsland.calls k t517 _ _ t518 _ _ t521 t525 t524 t529 _ ?side1 ?side2 ?side3 ?side4 A16.out).mono ?_); (case side1 => repeat (first | exact (Kd.R_reads' HO520.out).2.2 | (with_reducible refine Kd.C_alloc ?_ _) | (with_reducible refine Kd.C_drewN ?_ _) | (with_reducible refine Kd.C_drew ?_))); (case side2 => exact (Kd.R_reads' HO520.out).2.1); (case side3 => repeat (first | exact (Kd.R_reads' HO523.out).2.2 | (with_reducible refine Kd.C_alloc ?_ _) | (with_reducible refine Kd.C_drewN ?_ _) | (with_reducible refine Kd.C_drew ?_))); (case side4 => exact (Kd.R_reads' HO523.out).2.1); rintro e w20 ⟨rfl, hb⟩; have n0_ := Aside0.mk (Kd.R_below (by (with_reducible repeat (first | apply Kd.R_alloc | apply Kd.R_drewN | apply Kd.R_drew)); exact HO520.out) hb); have n1_ := Aside0.mk (Kd.R_below (by (with_reducible repeat (first | apply Kd.R_alloc | apply Kd.R_drewN | apply Kd.R_drew)); exact HO523.out) hb); have n2_ := Aside0.mk (blk_below (g := gb526) (o := .cells #[.int .i64 t517, .slice Ao9 t518.length co9] 39 (0, 0)) (by (with_reducible repeat (first | refine blk_drewN ?_ _ | refine blk_drew ?_ | refine blk_alloc ?_ _)); exact BK526.out) hb); have n3_ := Aside0.mk (below_step (by repeat (first | (with_reducible first | exact HB.out | apply below_alloc | apply pw_below_drewN | apply below_drew1 | refine below_set ?_ GE526.out) | exact HB.out)) hb); clear HO520; clear HO523; clear BK526; clear HB; have HO520 := n0_; have HO523 := n1_; have BK526 := n2_; have HB := n3_; clear n0_ n1_ n2_ n3_; (try clear hb); (try clear hb2); (try clear hk); (try clear hi)))
    go_meet
    case rel => exact ⟨_, ((t527 != t529)), (by first | rfl | (simp; done) | (simp [*]; done)), H', ⟨by first | omega | exact Nat.le_refl _⟩, ⟨by (with_reducible repeat (first | apply Kd.R_alloc | apply Kd.R_drewN | apply Kd.R_drew)); exact HO523.out⟩, ⟨by (with_reducible repeat (first | apply Kd.R_alloc | apply Kd.R_drewN | apply Kd.R_drew)); exact HO520.out⟩, ⟨by (with_reducible repeat (first | refine blk_drewN ?_ _ | refine blk_drew ?_ | refine blk_alloc ?_ _)); exact BK526.out⟩, ⟨by repeat (first | (with_reducible first | exact HB.out | apply below_alloc | apply pw_below_drewN | apply below_drew1 | refine below_set ?_ GE526.out) | exact HB.out)⟩⟩
  case rest =>
   clear HC5
   try clear c1
   try clear c2
   try clear c2b0
   try clear c2b1
   try clear p2
   try clear c6
   try clear c13
   try clear c13b0
   try clear c13b1
   try clear c13b2
   try clear hcz14_0
   try clear hcz14_1
   try clear hcz17_0
   try clear hcz17_1
   try clear hcz19_0
   try clear hcz19_1
   try clear hcz8_0
   try clear hcz8_1
   try clear hfz14_0
   try clear hfz14_1
   try clear hfz17_0
   try clear hfz17_1
   try clear hfz19_0
   try clear hfz19_1
   try clear hfz8_0
   try clear hfz8_1
   obtain ⟨kq, x39_4, rfl, HA, HJ4, HO_4, HO_527001, BK526, HB⟩ := hcut
   cases kq with
   | zero => exact absurd HA.out (by simp [laws_FnSameIsland.j0])
   | succ kj4 =>
    have H := HA.out
    clear HA
    simp only [laws_FnSameIsland.j0] at H
    by_cases c21 : x39_4 = true
    ·
     subst c21
     have H1 : (none) = some r := by rw [if_pos rfl] at H; exact H
     clear H
     have H := H1
     clear H1
     exact absurd H (by simp)
    ·
     replace c21 := Bool.eq_false_iff.mpr c21
     subst c21
     have H1 : ((impl_IslandNumbers.f kj4 t517 t518 t521).bind fun t530 => (if (t530.length : Int) = t517 then (if t524 < 0 then (laws_FnSameIsland.j1 kj4 t521 t524 t525 t527 t530 true t517 t518) else (if t524 ≥ t517 then (laws_FnSameIsland.j1 kj4 t521 t524 t525 t527 t530 true t517 t518) else (if t525 < 0 then (laws_FnSameIsland.j1 kj4 t521 t524 t525 t527 t530 true t517 t518) else (laws_FnSameIsland.j1 kj4 t521 t524 t525 t527 t530 (decide (t525 ≥ t517)) t517 t518)))) else (laws_FnSameIsland.j1 kj4 t521 t524 t525 t527 t530 true t517 t518))) = some r := by rw [if_neg (show ¬ (false = true) by decide)] at H; exact H
     clear H
     have H := H1
     clear H1
     replace H := Option.bind_eq_some_iff.mp H
     obtain ⟨t530, A220, H⟩ := H
     replace H : (if (t530.length : Int) = t517 then (if t524 < 0 then (laws_FnSameIsland.j1 kj4 t521 t524 t525 t527 t530 true t517 t518) else (if t524 ≥ t517 then (laws_FnSameIsland.j1 kj4 t521 t524 t525 t527 t530 true t517 t518) else (if t525 < 0 then (laws_FnSameIsland.j1 kj4 t521 t524 t525 t527 t530 true t517 t518) else (laws_FnSameIsland.j1 kj4 t521 t524 t525 t527 t530 (decide (t525 ≥ t517)) t517 t518)))) else (laws_FnSameIsland.j1 kj4 t521 t524 t525 t527 t530 true t517 t518)) = some r := H
     have A22 := Aside0.mk A220
     clear A220
     have HC23 := Aside0.mk H
     clear H
     have hcz24_0 : wc.cell? ⟨gb526, 0, none⟩ = some (.int .i64 t517) := (blk_cell BK526.out 0).trans rfl
     have hcz24_1 : wc.cell? ⟨gb526, 1, none⟩ = some (.slice Ao9 t518.length co9) := (blk_cell BK526.out 1).trans rfl
     have hfz24_0 := blk_frozen BK526.out 0
     have hfz24_1 := blk_frozen BK526.out 1
     go_upto_region 8 with (first | ((with_reducible refine gate_callee (f := 27) rfl ?_); refine goesL_ (some 42) rfl rfl Tryd.func27 (by kernel_rfl) rfl #[.agg #[.int .i64 t517, .slice Ao9 t518.length co9], .slice Ao10 t521.length co10] rfl (by (try simp only [List.map_toArray, List.map_cons, List.map_nil]); first | done | rfl | (simp only [List.length_drop, List.length_take]; rfl)) ?_; (with_reducible refine (impl_IslandNumbers.calls kj4 t517 _ _ t518 _ _ t521 t530 _ ?side1 ?side2 ?side3 ?side4 A22.out).mono ?_); (case side1 => repeat (first | exact (Kd.R_reads' HO_527001.out).2.2 | (with_reducible refine Kd.C_alloc ?_ _) | (with_reducible refine Kd.C_drewN ?_ _) | (with_reducible refine Kd.C_drew ?_))); (case side2 => exact (Kd.R_reads' HO_527001.out).2.1); (case side3 => repeat (first | exact (Kd.R_reads' HO_4.out).2.2 | (with_reducible refine Kd.C_alloc ?_ _) | (with_reducible refine Kd.C_drewN ?_ _) | (with_reducible refine Kd.C_drew ?_))); (case side4 => exact (Kd.R_reads' HO_4.out).2.1); rintro e w25 ⟨v531, rfl, ho0, hb⟩; refine ⟨_, rfl, ?_⟩; have n0_ := Aside0.mk (Kd.R_below (by (with_reducible repeat (first | apply Kd.R_alloc | apply Kd.R_drewN | apply Kd.R_drew)); exact HO_4.out) hb); have n1_ := Aside0.mk (Kd.R_below (by (with_reducible repeat (first | apply Kd.R_alloc | apply Kd.R_drewN | apply Kd.R_drew)); exact HO_527001.out) hb); have n2_ := Aside0.mk (Kd.R_lower ho0 (below_size (by repeat (first | (with_reducible first | exact HB.out | apply below_alloc | apply pw_below_drewN | apply below_drew1 | refine below_set ?_ GE526.out) | exact HB.out)))); have n3_ := Aside0.mk (blk_below (g := gb526) (o := .cells #[.int .i64 t517, .slice Ao9 t518.length co9] 39 (0, 0)) (by (with_reducible repeat (first | refine blk_drewN ?_ _ | refine blk_drew ?_ | refine blk_alloc ?_ _)); exact BK526.out) hb); have n4_ := Aside0.mk (below_step (by repeat (first | (with_reducible first | exact HB.out | apply below_alloc | apply pw_below_drewN | apply below_drew1 | refine below_set ?_ GE526.out) | exact HB.out)) hb); clear HO_4; clear HO_527001; clear BK526; clear HB; have HO_4 := n0_; have HO_527001 := n1_; have HO532 := n2_; have BK526 := n3_; have HB := n4_; clear n0_ n1_ n2_ n3_ n4_; (try clear hb); (try clear hb2); (try clear hk); (try clear hi); (try clear ho0)))
     (try simp only [Act.put, List.setIfInBounds_toArray, List.set_cons_zero, List.set_cons_succ])
     go_cut [67] (fun v67 wc => ∃ (kq : Nat) (x67_22 : Bool), v67 = .bool x67_22 ∧ Aside0 (laws_FnSameIsland.j1 kq t521 t524 t525 t527 t530 x67_22 t517 t518 = some r) ∧ Aside0 (kq ≤ kj4) ∧ Aside0 (Kd.R Kd.bool 4 wc w.heap.size (fun _ => True) (.slice Ao10 t521.length co10) t521) ∧ Aside0 (Kd.R (Kd.int .i64) 3 wc w.heap.size (fun _ => True) v531 t530) ∧ Aside0 (Kd.R k52 52 wc w.heap.size (fun _ => True) (.slice Ao9 t518.length co9) t518) ∧ Aside0 (wc.heap[gb526]? = some (.cells #[.int .i64 t517, (.slice Ao9 t518.length co9)] 39 (0, 0))) ∧ Aside0 (Below w.heap.size w wc))
     case first =>
      have H := HC23.out
      clear HC23
      by_cases c26 : (t530.length : Int) = t517
      ·
       rw [if_pos c26] at H
       have c26b0 : ((t530.length : Int) == t517) = true := beq_iff_eq.mpr c26
       have c26b1 : ((t530.length : Int) != t517) = false := bne_eq_false_iff_eq.mpr c26
       clear c26
       (first | rw [c26b0] | (simp only [i64_w, i32_w]; rw [c26b0]) | skip)
       by_cases c27 : t524 < 0
       ·
        rw [if_pos c27] at H
        have c27b0 : decide (t524 < 0) = true := decide_eq_true c27
        clear c27
        have H' := Aside0.mk H
        clear H
        obtain ⟨Ao28, co28, eo28⟩ := Kd.R_slice HO532.out
        subst eo28
        have hcz29_0 : w25.cell? ⟨gb526, 0, none⟩ = some (.int .i64 t517) := (blk_cell BK526.out 0).trans rfl
        have hcz29_1 : w25.cell? ⟨gb526, 1, none⟩ = some (.slice Ao9 t518.length co9) := (blk_cell BK526.out 1).trans rfl
        have hfz29_0 := blk_frozen BK526.out 0
        have hfz29_1 := blk_frozen BK526.out 1
        go_wp2
        go_meet
        case rel => exact ⟨_, (true), (by first | rfl | (simp; done) | (simp [*]; done)), H', ⟨by have := HJ4.out; first | omega | exact Nat.le_refl _⟩, ⟨by (with_reducible repeat (first | apply Kd.R_alloc | apply Kd.R_drewN | apply Kd.R_drew)); exact HO_4.out⟩, ⟨by (with_reducible repeat (first | apply Kd.R_alloc | apply Kd.R_drewN | apply Kd.R_drew)); exact HO532.out⟩, ⟨by (with_reducible repeat (first | apply Kd.R_alloc | apply Kd.R_drewN | apply Kd.R_drew)); exact HO_527001.out⟩, ⟨by (with_reducible repeat (first | refine blk_drewN ?_ _ | refine blk_drew ?_ | refine blk_alloc ?_ _)); exact BK526.out⟩, ⟨by repeat (first | (with_reducible first | exact HB.out | apply below_alloc | apply pw_below_drewN | apply below_drew1 | refine below_set ?_ GE526.out) | exact HB.out)⟩⟩
       ·
        rw [if_neg c27] at H
        have c27b0 : decide (t524 < 0) = false := decide_eq_false c27
        clear c27
        by_cases c30 : t524 ≥ t517
        ·
         rw [if_pos c30] at H
         have c30b0 : decide (t517 ≤ t524) = true := decide_eq_true c30
         clear c30
         have H' := Aside0.mk H
         clear H
         obtain ⟨Ao31, co31, eo31⟩ := Kd.R_slice HO532.out
         subst eo31
         have hcz32_0 : w25.cell? ⟨gb526, 0, none⟩ = some (.int .i64 t517) := (blk_cell BK526.out 0).trans rfl
         have hcz32_1 : w25.cell? ⟨gb526, 1, none⟩ = some (.slice Ao9 t518.length co9) := (blk_cell BK526.out 1).trans rfl
         have hfz32_0 := blk_frozen BK526.out 0
         have hfz32_1 := blk_frozen BK526.out 1
         go_wp2
         go_meet
         case rel => exact ⟨_, (true), (by first | rfl | (simp; done) | (simp [*]; done)), H', ⟨by have := HJ4.out; first | omega | exact Nat.le_refl _⟩, ⟨by (with_reducible repeat (first | apply Kd.R_alloc | apply Kd.R_drewN | apply Kd.R_drew)); exact HO_4.out⟩, ⟨by (with_reducible repeat (first | apply Kd.R_alloc | apply Kd.R_drewN | apply Kd.R_drew)); exact HO532.out⟩, ⟨by (with_reducible repeat (first | apply Kd.R_alloc | apply Kd.R_drewN | apply Kd.R_drew)); exact HO_527001.out⟩, ⟨by (with_reducible repeat (first | refine blk_drewN ?_ _ | refine blk_drew ?_ | refine blk_alloc ?_ _)); exact BK526.out⟩, ⟨by repeat (first | (with_reducible first | exact HB.out | apply below_alloc | apply pw_below_drewN | apply below_drew1 | refine below_set ?_ GE526.out) | exact HB.out)⟩⟩
        ·
         rw [if_neg c30] at H
         have c30b0 : decide (t517 ≤ t524) = false := decide_eq_false c30
         clear c30
         by_cases c33 : t525 < 0
         ·
          rw [if_pos c33] at H
          have c33b0 : decide (t525 < 0) = true := decide_eq_true c33
          clear c33
          have H' := Aside0.mk H
          clear H
          obtain ⟨Ao34, co34, eo34⟩ := Kd.R_slice HO532.out
          subst eo34
          have hcz35_0 : w25.cell? ⟨gb526, 0, none⟩ = some (.int .i64 t517) := (blk_cell BK526.out 0).trans rfl
          have hcz35_1 : w25.cell? ⟨gb526, 1, none⟩ = some (.slice Ao9 t518.length co9) := (blk_cell BK526.out 1).trans rfl
          have hfz35_0 := blk_frozen BK526.out 0
          have hfz35_1 := blk_frozen BK526.out 1
          go_wp2
          go_meet
          case rel => exact ⟨_, (true), (by first | rfl | (simp; done) | (simp [*]; done)), H', ⟨by have := HJ4.out; first | omega | exact Nat.le_refl _⟩, ⟨by (with_reducible repeat (first | apply Kd.R_alloc | apply Kd.R_drewN | apply Kd.R_drew)); exact HO_4.out⟩, ⟨by (with_reducible repeat (first | apply Kd.R_alloc | apply Kd.R_drewN | apply Kd.R_drew)); exact HO532.out⟩, ⟨by (with_reducible repeat (first | apply Kd.R_alloc | apply Kd.R_drewN | apply Kd.R_drew)); exact HO_527001.out⟩, ⟨by (with_reducible repeat (first | refine blk_drewN ?_ _ | refine blk_drew ?_ | refine blk_alloc ?_ _)); exact BK526.out⟩, ⟨by repeat (first | (with_reducible first | exact HB.out | apply below_alloc | apply pw_below_drewN | apply below_drew1 | refine below_set ?_ GE526.out) | exact HB.out)⟩⟩
         ·
          rw [if_neg c33] at H
          have c33b0 : decide (t525 < 0) = false := decide_eq_false c33
          clear c33
          have H' := Aside0.mk H
          clear H
          obtain ⟨Ao36, co36, eo36⟩ := Kd.R_slice HO532.out
          subst eo36
          have hcz37_0 : w25.cell? ⟨gb526, 0, none⟩ = some (.int .i64 t517) := (blk_cell BK526.out 0).trans rfl
          have hcz37_1 : w25.cell? ⟨gb526, 1, none⟩ = some (.slice Ao9 t518.length co9) := (blk_cell BK526.out 1).trans rfl
          have hfz37_0 := blk_frozen BK526.out 0
          have hfz37_1 := blk_frozen BK526.out 1
          go_wp2
          go_meet
          case rel => exact ⟨_, (decide (t525 ≥ t517)), (by first | rfl | (simp; done) | (simp [*]; done)), H', ⟨by have := HJ4.out; first | omega | exact Nat.le_refl _⟩, ⟨by (with_reducible repeat (first | apply Kd.R_alloc | apply Kd.R_drewN | apply Kd.R_drew)); exact HO_4.out⟩, ⟨by (with_reducible repeat (first | apply Kd.R_alloc | apply Kd.R_drewN | apply Kd.R_drew)); exact HO532.out⟩, ⟨by (with_reducible repeat (first | apply Kd.R_alloc | apply Kd.R_drewN | apply Kd.R_drew)); exact HO_527001.out⟩, ⟨by (with_reducible repeat (first | refine blk_drewN ?_ _ | refine blk_drew ?_ | refine blk_alloc ?_ _)); exact BK526.out⟩, ⟨by repeat (first | (with_reducible first | exact HB.out | apply below_alloc | apply pw_below_drewN | apply below_drew1 | refine below_set ?_ GE526.out) | exact HB.out)⟩⟩
      ·
       rw [if_neg c26] at H
       have c26b0 : ((t530.length : Int) == t517) = false := beq_eq_false_iff_ne.mpr c26
       have c26b1 : ((t530.length : Int) != t517) = true := bne_iff_ne.mpr c26
       (first | rw [c26b0] | (simp only [i64_w, i32_w]; rw [c26b0]) | skip)
       have H' := Aside0.mk H
       clear H
       obtain ⟨Ao38, co38, eo38⟩ := Kd.R_slice HO532.out
       subst eo38
       have hcz39_0 : w25.cell? ⟨gb526, 0, none⟩ = some (.int .i64 t517) := (blk_cell BK526.out 0).trans rfl
       have hcz39_1 : w25.cell? ⟨gb526, 1, none⟩ = some (.slice Ao9 t518.length co9) := (blk_cell BK526.out 1).trans rfl
       have hfz39_0 := blk_frozen BK526.out 0
       have hfz39_1 := blk_frozen BK526.out 1
       go_wp2
       go_meet
       case rel => exact ⟨_, (true), (by first | rfl | (simp; done) | (simp [*]; done)), H', ⟨by have := HJ4.out; first | omega | exact Nat.le_refl _⟩, ⟨by (with_reducible repeat (first | apply Kd.R_alloc | apply Kd.R_drewN | apply Kd.R_drew)); exact HO_4.out⟩, ⟨by (with_reducible repeat (first | apply Kd.R_alloc | apply Kd.R_drewN | apply Kd.R_drew)); exact HO532.out⟩, ⟨by (with_reducible repeat (first | apply Kd.R_alloc | apply Kd.R_drewN | apply Kd.R_drew)); exact HO_527001.out⟩, ⟨by (with_reducible repeat (first | refine blk_drewN ?_ _ | refine blk_drew ?_ | refine blk_alloc ?_ _)); exact BK526.out⟩, ⟨by repeat (first | (with_reducible first | exact HB.out | apply below_alloc | apply pw_below_drewN | apply below_drew1 | refine below_set ?_ GE526.out) | exact HB.out)⟩⟩
     case rest =>
      clear HC23
      try clear c1
      try clear c2
      try clear c2b0
      try clear c2b1
      try clear p2
      try clear c3
      try clear c6
      try clear c13
      try clear c13b0
      try clear c13b1
      try clear c13b2
      try clear c21
      try clear c24
      try clear c25
      try clear c26
      try clear c26b0
      try clear c26b1
      try clear c27
      try clear c27b0
      try clear c30
      try clear c30b0
      try clear c33
      try clear c33b0
      try clear hcz14_0
      try clear hcz14_1
      try clear hcz17_0
      try clear hcz17_1
      try clear hcz19_0
      try clear hcz19_1
      try clear hcz24_0
      try clear hcz24_1
      try clear hcz29_0
      try clear hcz29_1
      try clear hcz32_0
      try clear hcz32_1
      try clear hcz35_0
      try clear hcz35_1
      try clear hcz37_0
      try clear hcz37_1
      try clear hcz39_0
      try clear hcz39_1
      try clear hcz8_0
      try clear hcz8_1
      try clear hfz14_0
      try clear hfz14_1
      try clear hfz17_0
      try clear hfz17_1
      try clear hfz19_0
      try clear hfz19_1
      try clear hfz24_0
      try clear hfz24_1
      try clear hfz29_0
      try clear hfz29_1
      try clear hfz32_0
      try clear hfz32_1
      try clear hfz35_0
      try clear hfz35_1
      try clear hfz37_0
      try clear hfz37_1
      try clear hfz39_0
      try clear hfz39_1
      try clear hfz8_0
      try clear hfz8_1
      try clear p2
      obtain ⟨kq, x67_22, rfl, HA, HJ22, HO_4, HO_8, HO_527001, BK526, HB⟩ := hcut
      cases kq with
      | zero => exact absurd HA.out (by simp [laws_FnSameIsland.j1])
      | succ kj22 =>
       have H := HA.out
       clear HA
       simp only [laws_FnSameIsland.j1] at H
       by_cases c40 : x67_22 = true
       ·
        subst c40
        have H1 : (if t527 = true then (none) else ((laws_alive.f kj22).bind fun t533 => (some t533))) = some r := by rw [if_pos rfl] at H; exact H
        clear H
        have H := H1
        clear H1
        by_cases c41 : t527 = true
        ·
         subst c41
         have H1 : (none) = some r := by rw [if_pos rfl] at H; exact H
         clear H
         have H := H1
         clear H1
         exact absurd H (by simp)
        ·
         replace c41 := Bool.eq_false_iff.mpr c41
         subst c41
         have H1 : ((laws_alive.f kj22).bind fun t533 => (some t533)) = some r := by rw [if_neg (show ¬ (false = true) by decide)] at H; exact H
         clear H
         have H := H1
         clear H1
         replace H := Option.bind_eq_some_iff.mp H
         obtain ⟨t533, A420, H⟩ := H
         replace H : (some t533) = some r := H
         have A42 := Aside0.mk A420
         clear A420
         obtain rfl := Option.some.inj H
         go_wp2_with (first | (go_at_call 15; (with_reducible refine (laws_alive.calls kj22  t533 _ A42.out).mono ?_); rintro e w43 ⟨rfl, hb⟩; have n0_ := Aside0.mk (Kd.R_below (by (with_reducible repeat (first | apply Kd.R_alloc | apply Kd.R_drewN | apply Kd.R_drew)); exact HO_4.out) hb); have n1_ := Aside0.mk (Kd.R_below (by (with_reducible repeat (first | apply Kd.R_alloc | apply Kd.R_drewN | apply Kd.R_drew)); exact HO_8.out) hb); have n2_ := Aside0.mk (Kd.R_below (by (with_reducible repeat (first | apply Kd.R_alloc | apply Kd.R_drewN | apply Kd.R_drew)); exact HO_527001.out) hb); have n3_ := Aside0.mk (blk_below (g := gb526) (o := .cells #[.int .i64 t517, .slice Ao9 t518.length co9] 39 (0, 0)) (by (with_reducible repeat (first | refine blk_drewN ?_ _ | refine blk_drew ?_ | refine blk_alloc ?_ _)); exact BK526.out) hb); have n4_ := Aside0.mk (below_step (by repeat (first | (with_reducible first | exact HB.out | apply below_alloc | apply pw_below_drewN | apply below_drew1 | refine below_set ?_ GE526.out) | exact HB.out)) hb); clear HO_4; clear HO_8; clear HO_527001; clear BK526; clear HB; have HO_4 := n0_; have HO_8 := n1_; have HO_527001 := n2_; have BK526 := n3_; have HB := n4_; clear n0_ n1_ n2_ n3_ n4_; (try clear hb); (try clear hb2); (try clear hk); (try clear hi)))
         go_ret
         exact ⟨by first | rfl | (simp [errW_none, errW_some] <;> rfl) | (simp [*, errW_none, errW_some] <;> rfl), by repeat (first | (with_reducible first | exact HB.out | apply below_alloc | apply pw_below_drewN | apply below_drew1 | refine below_set ?_ GE526.out) | exact HB.out)⟩
       ·
        replace c40 := Bool.eq_false_iff.mpr c40
        subst c40
        have H1 : (if 0 ≤ t524 then (if t524 < (t530.length : Int) then (if 0 ≤ t525 then (if t525 < (t530.length : Int) then (if (t527 == ((rd t530 t524) == (rd t530 t525))) = true then ((impl_SameIsland.f kj22 t517 t518 t521 t524 t524).bind fun t536 => (some t536)) else (none)) else (none)) else (none)) else (none)) else (none)) = some r := by rw [if_neg (show ¬ (false = true) by decide)] at H; exact H
        clear H
        have H := H1
        clear H1
        by_cases c44 : 0 ≤ t524
        ·
         rw [if_pos c44] at H
         have c44b0 : decide (0 ≤ t524) = true := decide_eq_true c44
         clear c44
         by_cases c45 : t524 < (t530.length : Int)
         ·
          rw [if_pos c45] at H
          have c45b0 : decide (t524 < (t530.length : Int)) = true := decide_eq_true c45
          clear c45
          by_cases c46 : 0 ≤ t525
          ·
           rw [if_pos c46] at H
           have c46b0 : decide (0 ≤ t525) = true := decide_eq_true c46
           clear c46
           by_cases c47 : t525 < (t530.length : Int)
           ·
            rw [if_pos c47] at H
            have c47b0 : decide (t525 < (t530.length : Int)) = true := decide_eq_true c47
            clear c47
            by_cases c48 : (t527 == ((rd t530 t524) == (rd t530 t525))) = true
            ·
             rw [if_pos c48] at H
             have c48b0 : (t527 == ((rd t530 t524) == (rd t530 t525))) = true := c48
             (try (have c48b1 : decide (t527 = ((rd t530 t524) == (rd t530 t525))) = true := by simpa using c48))
             (try (have c48b2 : (t527 == ((rd t530 t524) == (rd t530 t525))) = true := by simpa using c48))
             clear c48
             replace H := Option.bind_eq_some_iff.mp H
             obtain ⟨t536, A490, H⟩ := H
             replace H : (some t536) = some r := H
             have A49 := Aside0.mk A490
             clear A490
             obtain rfl := Option.some.inj H
             try go_wp2
             have n0_ := Aside0.mk (Kd.R_drew HO_4.out)
             have n1_ := Aside0.mk (Kd.R_drew HO_8.out)
             have n2_ := Aside0.mk (Kd.R_drew HO_527001.out)
             have n3_ := Aside0.mk (blk_drew BK526.out)
             have n4_ := Aside0.mk (below_drew1 HB.out)
             clear HO_4
             clear HO_8
             clear HO_527001
             clear BK526
             clear HB
             have HO_4 := n0_
             have HO_8 := n1_
             have HO_527001 := n2_
             have BK526 := n3_
             have HB := n4_
             clear n0_ n1_ n2_ n3_ n4_
             obtain ⟨Ao51, co51, eo51⟩ := Kd.R_slice HO_8.out
             (first | subst eo51 | (injection eo51 with f1_ f2_ f3_; have f4_ := f1_.symm; have f5_ := f3_.symm; clear f1_ f2_ f3_; subst f4_; subst f5_))
             have p534 : 0 ≤ (t524 : Int) := of_decide_eq_true (by first | (with_reducible assumption) | assumption)
             have q534 : t524 < (t530.length : Int) := of_decide_eq_true (by first | (with_reducible assumption) | assumption)
             obtain ⟨ad534, e534, hx534_0⟩ := Kd.at_int (Kd.R_reads' HO_8.out).2.2 t524 p534 q534
             cases e534
             replace p534 := eq_true p534
             replace q534 := eq_true q534
             have p535 : 0 ≤ (t525 : Int) := of_decide_eq_true (by first | (with_reducible assumption) | assumption)
             have q535 : t525 < (t530.length : Int) := of_decide_eq_true (by first | (with_reducible assumption) | assumption)
             obtain ⟨ad535, e535, hx535_0⟩ := Kd.at_int (Kd.R_reads' HO_8.out).2.2 t525 p535 q535
             obtain rfl : ad534 = ad535 := (by injection e535)
             replace p535 := eq_true p535
             replace q535 := eq_true q535
             refine start_ (n := 19) (S := fun w' => w'.cell? ⟨gb526, 0, none⟩ = some (.int .i64 t517) ∧ w'.cell? ⟨gb526, 1, none⟩ = some (.slice Ao9 t518.length co9) ∧ w'.cell? (ad534.add (t524).toNat) = some (.int .i64 (rd t530 t524)) ∧ w'.cell? (ad534.add (t525).toNat) = some (.int .i64 (rd t530 t525))) (ds := []) #[false, false, false, false, false, false, false, false, false, false, false, false, false, false, false, false, false, false, false] (by kernel_rfl) rfl rfl ⟨(blk_cell BK526.out 0).trans rfl, (blk_cell BK526.out 1).trans rfl, hx534_0, hx535_0⟩ (fun hHeld => ?_); refine with_tabW laws_FnSameIsland.tab10 laws_FnSameIsland.bits10 (fun HT_ HW_ => ?_)
             generalize wc.drew = w50 at HO_4 HO_8 HO_527001 BK526 HB hx534_0 hx535_0 hHeld ⊢
             refine pure_ (i := 0) (N := some 73) (v := ?_) (a' := ?_) #[true, false, false, false, false, false, false, false, false, false, false, false, false, false, false, false, false, false, false] rfl rfl (any_of HT_.out (by kernel_rfl)) (fun _ _ _ h => h) (Or.inl ⟨by rfl, ?_⟩) ?_ ?_
             rotate_left
             ·
              intro w'
              go_simp
              with_reducible rfl
             rotate_left
             ·
              simp only [Act.put, List.setIfInBounds_toArray, List.set_cons_zero, List.set_cons_succ, i64_w, i32_w]
              rfl
             refine pure_ (i := 1) (N := some 74) (v := ?_) (a' := ?_) #[true, true, false, false, false, false, false, false, false, false, false, false, false, false, false, false, false, false, false] rfl rfl (any_of HT_.out (by kernel_rfl)) (fun _ _ _ h => h) (Or.inl ⟨by rfl, ?_⟩) ?_ ?_
             rotate_left
             ·
              intro w'
              go_simp
              with_reducible rfl
             rotate_left
             ·
              simp only [Act.put, List.setIfInBounds_toArray, List.set_cons_zero, List.set_cons_succ, i64_w, i32_w]
              rfl
             refine pure_ (i := 2) (N := some 75) (v := ?_) (a' := ?_) #[true, true, true, false, false, false, false, false, false, false, false, false, false, false, false, false, false, false, false] rfl rfl (any_of HT_.out (by kernel_rfl)) (fun _ _ _ h => h) (Or.inl ⟨by rfl, ?_⟩) ?_ ?_
             rotate_left
             ·
              intro w'
              go_simp
              with_reducible rfl
             rotate_left
             ·
              simp only [Act.put, List.setIfInBounds_toArray, List.set_cons_zero, List.set_cons_succ, i64_w, i32_w]
              rfl
             refine pure_ (i := 3) (N := some 76) (v := ?_) (a' := ?_) #[true, true, true, true, false, false, false, false, false, false, false, false, false, false, false, false, false, false, false] rfl rfl (any_of HT_.out (by kernel_rfl)) (fun _ _ _ h => h) (Or.inl ⟨by rfl, ?_⟩) ?_ ?_
             rotate_left
             ·
              intro w'
              go_simp
              with_reducible rfl
             rotate_left
             ·
              simp only [Act.put, List.setIfInBounds_toArray, List.set_cons_zero, List.set_cons_succ, i64_w, i32_w]
              rfl
             refine pure_ (i := 5) (N := some 78) (v := ?_) (a' := ?_) #[true, true, true, true, false, true, false, false, false, false, false, false, false, false, false, false, false, false, false] rfl rfl (any_of HT_.out (by kernel_rfl)) (fun _ _ _ h => h) (Or.inl ⟨by rfl, ?_⟩) ?_ ?_
             rotate_left
             ·
              intro w'
              go_simp
              with_reducible rfl
             rotate_left
             ·
              simp only [Act.put, List.setIfInBounds_toArray, List.set_cons_zero, List.set_cons_succ, i64_w, i32_w]
              rfl
             refine pure_ (i := 6) (N := some 79) (v := ?_) (a' := ?_) #[true, true, true, true, false, true, true, false, false, false, false, false, false, false, false, false, false, false, false] rfl rfl (any_of HT_.out (by kernel_rfl)) (fun _ _ _ h => h) (Or.inl ⟨by rfl, ?_⟩) ?_ ?_
             rotate_left
             ·
              intro w'
              go_simp
              with_reducible rfl
             rotate_left
             ·
              simp only [Act.put, List.setIfInBounds_toArray, List.set_cons_zero, List.set_cons_succ, i64_w, i32_w]
              rfl
             refine pure_ (i := 7) (N := some 80) (v := ?_) (a' := ?_) #[true, true, true, true, false, true, true, true, false, false, false, false, false, false, false, false, false, false, false] rfl rfl (any_of HT_.out (by kernel_rfl)) (fun _ _ _ h => h) (Or.inl ⟨by rfl, ?_⟩) ?_ ?_
             rotate_left
             ·
              intro w'
              go_simp
              with_reducible rfl
             rotate_left
             ·
              simp only [Act.put, List.setIfInBounds_toArray, List.set_cons_zero, List.set_cons_succ, i64_w, i32_w]
              rfl
             refine take_ (i := 4) (N := some 77) (v := ?_) (a' := ?_) #[true, true, true, true, true, true, true, true, false, false, false, false, false, false, false, false, false, false, false] rfl rfl (take_ofW HT_.out HW_.out (by kernel_rfl)) (fun _ _ _ h => h) (Or.inl ⟨by rfl, ?_⟩) hHeld ?_ ?_
             rotate_left
             ·
              rintro w' ⟨s0, s1, s2, s3⟩
              go_simp
              with_reducible rfl
             rotate_left
             ·
              simp only [Act.put, List.setIfInBounds_toArray, List.set_cons_zero, List.set_cons_succ, i64_w, i32_w]
              rfl
             refine take_ (i := 8) (N := some 81) (v := ?_) (a' := ?_) #[true, true, true, true, true, true, true, true, true, false, false, false, false, false, false, false, false, false, false] rfl rfl (take_ofW HT_.out HW_.out (by kernel_rfl)) (fun _ _ _ h => h) (Or.inl ⟨by rfl, ?_⟩) hHeld ?_ ?_
             rotate_left
             ·
              rintro w' ⟨s0, s1, s2, s3⟩
              go_simp
              with_reducible rfl
             rotate_left
             ·
              simp only [Act.put, List.setIfInBounds_toArray, List.set_cons_zero, List.set_cons_succ, i64_w, i32_w]
              rfl
             refine pure_ (i := 9) (N := some 82) (v := ?_) (a' := ?_) #[true, true, true, true, true, true, true, true, true, true, false, false, false, false, false, false, false, false, false] rfl rfl (any_of HT_.out (by kernel_rfl)) (fun _ _ _ h => h) (Or.inl ⟨by rfl, ?_⟩) ?_ ?_
             rotate_left
             ·
              intro w'
              go_simp
              with_reducible rfl
             rotate_left
             ·
              simp only [Act.put, List.setIfInBounds_toArray, List.set_cons_zero, List.set_cons_succ, i64_w, i32_w]
              rfl
             refine pure_ (i := 10) (N := some 83) (v := ?_) (a' := ?_) #[true, true, true, true, true, true, true, true, true, true, true, false, false, false, false, false, false, false, false] rfl rfl (any_of HT_.out (by kernel_rfl)) (fun _ _ _ h => h) (Or.inl ⟨by rfl, ?_⟩) ?_ ?_
             rotate_left
             ·
              intro w'
              go_simp
              with_reducible rfl
             rotate_left
             ·
              simp only [Act.put, List.setIfInBounds_toArray, List.set_cons_zero, List.set_cons_succ, i64_w, i32_w]
              rfl
             refine pure_ (i := 11) (N := some 84) (v := ?_) (a' := ?_) #[true, true, true, true, true, true, true, true, true, true, true, true, false, false, false, false, false, false, false] rfl rfl (any_of HT_.out (by kernel_rfl)) (fun _ _ _ h => h) (Or.inl ⟨by rfl, ?_⟩) ?_ ?_
             rotate_left
             ·
              intro w'
              go_simp
              with_reducible rfl
             rotate_left
             ·
              simp only [Act.put, List.setIfInBounds_toArray, List.set_cons_zero, List.set_cons_succ, i64_w, i32_w]
              rfl
             refine pure_ (i := 13) (N := some 86) (v := ?_) (a' := ?_) #[true, true, true, true, true, true, true, true, true, true, true, true, false, true, false, false, false, false, false] rfl rfl (any_of HT_.out (by kernel_rfl)) (fun _ _ _ h => h) (Or.inl ⟨by rfl, ?_⟩) ?_ ?_
             rotate_left
             ·
              intro w'
              go_simp
              with_reducible rfl
             rotate_left
             ·
              simp only [Act.put, List.setIfInBounds_toArray, List.set_cons_zero, List.set_cons_succ, i64_w, i32_w]
              rfl
             refine pure_ (i := 14) (N := some 87) (v := ?_) (a' := ?_) #[true, true, true, true, true, true, true, true, true, true, true, true, false, true, true, false, false, false, false] rfl rfl (any_of HT_.out (by kernel_rfl)) (fun _ _ _ h => h) (Or.inl ⟨by rfl, ?_⟩) ?_ ?_
             rotate_left
             ·
              intro w'
              go_simp
              with_reducible rfl
             rotate_left
             ·
              simp only [Act.put, List.setIfInBounds_toArray, List.set_cons_zero, List.set_cons_succ, i64_w, i32_w]
              rfl
             refine pure_ (i := 15) (N := some 88) (v := ?_) (a' := ?_) #[true, true, true, true, true, true, true, true, true, true, true, true, false, true, true, true, false, false, false] rfl rfl (any_of HT_.out (by kernel_rfl)) (fun _ _ _ h => h) (Or.inl ⟨by rfl, ?_⟩) ?_ ?_
             rotate_left
             ·
              intro w'
              go_simp
              with_reducible rfl
             rotate_left
             ·
              simp only [Act.put, List.setIfInBounds_toArray, List.set_cons_zero, List.set_cons_succ, i64_w, i32_w]
              rfl
             refine take_ (i := 12) (N := some 85) (v := ?_) (a' := ?_) #[true, true, true, true, true, true, true, true, true, true, true, true, true, true, true, true, false, false, false] rfl rfl (take_ofW HT_.out HW_.out (by kernel_rfl)) (fun _ _ _ h => h) (Or.inl ⟨by rfl, ?_⟩) hHeld ?_ ?_
             rotate_left
             ·
              rintro w' ⟨s0, s1, s2, s3⟩
              go_simp
              with_reducible rfl
             rotate_left
             ·
              simp only [Act.put, List.setIfInBounds_toArray, List.set_cons_zero, List.set_cons_succ, i64_w, i32_w]
              rfl
             refine one_ (i := 16) (N := some 89) #[true, true, true, true, true, true, true, true, true, true, true, true, true, true, true, true, true, false, false] rfl rfl (one_of HT_.out (by kernel_rfl)) (by decide) (fun K hK => ?_)
             refine goes_ Tryd.func25 (by kernel_rfl) rfl #[.agg #[.int .i64 t517, .slice Ao9 t518.length co9], .slice Ao10 t521.length co10, .int .i64 t524, .int .i64 t524] (by rfl) rfl rfl (by (try simp only [List.map_toArray, List.map_cons, List.map_nil]); first | done | rfl | (simp only [List.length_drop, List.length_take]; rfl)) ?_
             with_reducible refine (impl_SameIsland.calls kj22 t517 _ _ t518 _ _ t521 t524 t524 t536 _ ?side1 ?side2 ?side3 ?side4 A49.out).mono ?_
             (case side1 => repeat (first | exact (Kd.R_reads' HO_527001.out).2.2 | (with_reducible refine Kd.C_alloc ?_ _) | (with_reducible refine Kd.C_drewN ?_ _) | (with_reducible refine Kd.C_drew ?_)))
             (case side2 => exact (Kd.R_reads' HO_527001.out).2.1)
             (case side3 => repeat (first | exact (Kd.R_reads' HO_4.out).2.2 | (with_reducible refine Kd.C_alloc ?_ _) | (with_reducible refine Kd.C_drewN ?_ _) | (with_reducible refine Kd.C_drew ?_)))
             (case side4 => exact (Kd.R_reads' HO_4.out).2.1)
             rintro e w52 ⟨rfl, hb⟩
             have HS2_ := (hb.cell (World.block_lt_of_cell? _ _ (hHeld.2.2.1))).trans (hHeld.2.2.1)
             have HS3_ := (hb.cell (World.block_lt_of_cell? _ _ (hHeld.2.2.2))).trans (hHeld.2.2.2)
             refine ⟨_, rfl, ?_⟩
             have n0_ := Aside0.mk (Kd.R_below (by (with_reducible repeat (first | apply Kd.R_alloc | apply Kd.R_drewN | apply Kd.R_drew)); exact HO_4.out) hb)
             have n1_ := Aside0.mk (Kd.R_below (by (with_reducible repeat (first | apply Kd.R_alloc | apply Kd.R_drewN | apply Kd.R_drew)); exact HO_8.out) hb)
             have n2_ := Aside0.mk (Kd.R_below (by (with_reducible repeat (first | apply Kd.R_alloc | apply Kd.R_drewN | apply Kd.R_drew)); exact HO_527001.out) hb)
             have n3_ := Aside0.mk (blk_below (g := gb526) (o := .cells #[.int .i64 t517, .slice Ao9 t518.length co9] 39 (0, 0)) (by (with_reducible repeat (first | refine blk_drewN ?_ _ | refine blk_drew ?_ | refine blk_alloc ?_ _)); exact BK526.out) hb)
             have n4_ := Aside0.mk (below_step (by repeat (first | (with_reducible first | exact HB.out | apply below_alloc | apply pw_below_drewN | apply below_drew1 | refine below_set ?_ GE526.out) | exact HB.out)) hb)
             clear HO_4
             clear HO_8
             clear HO_527001
             clear BK526
             clear HB
             have HO_4 := n0_
             have HO_8 := n1_
             have HO_527001 := n2_
             have BK526 := n3_
             have HB := n4_
             clear n0_ n1_ n2_ n3_ n4_
             (try clear hb)
             (try clear hb2)
             (try clear hk)
             (try clear hi)
             refine hK.out _ _ ⟨(blk_cell BK526.out 0).trans rfl, (blk_cell BK526.out 1).trans rfl, HS2_, HS3_⟩ (fun hHeld => ?_)
             clear hK K
             refine norm_ (a' := ?_) ?_ ?_
             rotate_left
             ·
              show Act.put _ (some 89) _ = _
              simp only [Act.put, List.setIfInBounds_toArray, List.set_cons_zero, List.set_cons_succ, i64_w, i32_w]
              rfl
             refine pure_ (i := 17) (N := some 90) (v := ?_) (a' := ?_) #[true, true, true, true, true, true, true, true, true, true, true, true, true, true, true, true, true, true, false] rfl rfl (any_of HT_.out (by kernel_rfl)) (fun _ _ _ h => h) (Or.inl ⟨by rfl, ?_⟩) ?_ ?_
             rotate_left
             ·
              intro w'
              go_simp
              with_reducible rfl
             rotate_left
             ·
              simp only [Act.put, List.setIfInBounds_toArray, List.set_cons_zero, List.set_cons_succ, i64_w, i32_w]
              rfl
             refine pure_ (i := 18) (N := some 2) (v := ?_) (a' := ?_) #[true, true, true, true, true, true, true, true, true, true, true, true, true, true, true, true, true, true, true] rfl rfl (any_of HT_.out (by kernel_rfl)) (fun _ _ _ h => h) (Or.inl ⟨by rfl, ?_⟩) ?_ ?_
             rotate_left
             ·
              intro w'
              go_simp
              with_reducible rfl
             rotate_left
             ·
              simp only [Act.put, List.setIfInBounds_toArray, List.set_cons_zero, List.set_cons_succ, i64_w, i32_w]
              rfl
             refine done_ (done_of HT_.out (by kernel_rfl)) ?_
             try go_wp2
             go_ret
             exact ⟨by first | rfl | (simp [errW_none, errW_some] <;> rfl) | (simp [*, errW_none, errW_some] <;> rfl), by repeat (first | (with_reducible first | exact HB.out | apply below_alloc | apply pw_below_drewN | apply below_drew1 | refine below_set ?_ GE526.out) | exact HB.out)⟩
            ·
             rw [if_neg c48] at H
             have c48b0 : (t527 == ((rd t530 t524) == (rd t530 t525))) = false := by simpa using c48
             (try (have c48b1 : decide (t527 = ((rd t530 t524) == (rd t530 t525))) = false := by simpa using c48))
             (try (have c48b2 : (t527 == ((rd t530 t524) == (rd t530 t525))) = false := by simpa using c48))
             (try (have c48b3 : ¬ (t527 = ((rd t530 t524) == (rd t530 t525))) := by simpa using c48))
             clear c48
             exact absurd H (by simp)
           ·
            rw [if_neg c47] at H
            exact absurd H (by simp)
          ·
           rw [if_neg c46] at H
           exact absurd H (by simp)
         ·
          rw [if_neg c45] at H
          exact absurd H (by simp)
        ·
         rw [if_neg c44] at H
         exact absurd H (by simp)

end Go.Proofs.YthkdkjmnnpcdhaaDoor.P

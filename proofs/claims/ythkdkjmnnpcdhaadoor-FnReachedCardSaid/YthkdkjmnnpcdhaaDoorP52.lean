/- Contracts of Go functions of this seat's translation, written by this repo's wip/mk.py: it calls the kit's print.py with contracts typed by hand in place of functions that it does not take. Not trusted: Lean checks it. -/
import Derived.Test.YthkdkjmnnpcdhaaDoorP0
import Derived.Test.YthkdkjmnnpcdhaaDoorP19
import Derived.Test.YthkdkjmnnpcdhaaDoorP23
import Derived.Test.YthkdkjmnnpcdhaaDoorP25
import Derived.Test.YthkdkjmnnpcdhaaDoorP45
import Derived.Test.YthkdkjmnnpcdhaaDoorP48
import Derived.Test.YthkdkjmnnpcdhaaDoorP51
namespace Go.Proofs.YthkdkjmnnpcdhaaDoor.P
open Go.RowKit Go.Proofs.YthkdkjmnnpcdhaaDoorW.PrintWords Go.Proofs.YthkdkjmnnpcdhaaDoorW.PrintLast Go.Proofs.YthkdkjmnnpcdhaaDoorW.PrintMore
attribute [local go_sem] max2_int min2_int max_two min_two max_three min_three max_four min_four   -- for this text's walks alone
set_option linter.unusedVariables false
set_option linter.unusedSimpArgs false

/-! ### laws_FnReached: function 7 -/
mutual
def laws_FnReached.l0 : Nat → List Bool → Int → List Int → Int → Int → List (S52) → Option (Bool)
 | 0, _, _, _, _, _, _ => none
 | k + 1, x4, x5, x6, x7, x579000, x579001 => if x7 < (x6.length : Int) then (if 0 ≤ x7 then ((impl_Reached.f k x579000 x579001 x4 (rd x6 x7)).bind fun t588 => ((laws_sameInts.f k t588 x6).bind fun t591 => (if t591 = true then (laws_FnReached.l0 k x4 x5 x6 (wrap64 (x7 + 1)) x579000 x579001) else (none)))) else (none)) else (laws_FnReached.l1 k x4 x5 x6 0 x579000 x579001)
def laws_FnReached.l1 : Nat → List Bool → Int → List Int → Int → Int → List (S52) → Option (Bool)
 | 0, _, _, _, _, _, _ => none
 | k + 1, x4, x5, x6, x8, x579000, x579001 => if x8 < (x579001.length : Int) then (if 0 ≤ x8 then (if x8 < (x4.length : Int) then (if rdOf false x4 x8 = true then ((laws_hasInt.f k x6 ((rd_T52 x579001 x8).f0)).bind fun t596 => ((laws_hasInt.f k x6 ((rd_T52 x579001 x8).f1)).bind fun t598 => (if (t596 != t598) = true then (none) else (laws_FnReached.l1 k x4 x5 x6 (wrap64 (x8 + 1)) x579000 x579001)))) else (laws_FnReached.l1 k x4 x5 x6 (wrap64 (x8 + 1)) x579000 x579001)) else (none)) else (none)) else ((laws_hasInt.f k x6 x5).bind fun t592 => (if t592 = true then ((laws_ascend.f k x6).bind fun t593 => (some t593)) else (none)))
end
def laws_FnReached.f (k : Nat) (l0 : List Int) : Option (Bool) := if (l0.length : Int) > 1048576 then (some true) else ((spec_DrawReached.f k l0).bind fun bt570 => ((impl_Reached.f k bt570.1 bt570.2.1 bt570.2.2.1 bt570.2.2.2).bind fun t579 => ((spec_Reached.f k bt570.1 bt570.2.1 bt570.2.2.1 bt570.2.2.2).bind fun t582 => ((laws_sameInts.f k t579 t582).bind fun t585 => (if t585 = true then (if (t579.length : Int) = 0 then ((laws_alive.f k).bind fun t586 => (some t586)) else (laws_FnReached.l0 k bt570.2.2.1 bt570.2.2.2 t579 0 bt570.1 bt570.2.1)) else (none))))))
theorem laws_FnReached.mono_l : ∀ k, (∀ y0 y1 y2 y3 y4 y5, LeO (laws_FnReached.l0 k y0 y1 y2 y3 y4 y5) (laws_FnReached.l0 (k + 1) y0 y1 y2 y3 y4 y5)) ∧ (∀ y0 y1 y2 y3 y4 y5, LeO (laws_FnReached.l1 k y0 y1 y2 y3 y4 y5) (laws_FnReached.l1 (k + 1) y0 y1 y2 y3 y4 y5))
 | 0 => ⟨fun _ _ _ _ _ _ r h => by simp [laws_FnReached.l0] at h, fun _ _ _ _ _ _ r h => by simp [laws_FnReached.l1] at h⟩
 | k + 1 => by
  obtain ⟨ih0, ih1⟩ := laws_FnReached.mono_l k
  refine ⟨?_, ?_⟩
  ·
   intro y0 y1 y2 y3 y4 y5
   unfold laws_FnReached.l0
   repeat' first
   | (with_reducible exact ih0 _ _ _ _ _ _)
   | (with_reducible exact ih1 _ _ _ _ _ _)
   | (with_reducible exact impl_Reached.mono _ _ _ _ _)
   | (with_reducible exact laws_alive.mono _)
   | (with_reducible exact laws_ascend.mono _ _)
   | (with_reducible exact laws_hasInt.mono _ _ _)
   | (with_reducible exact laws_sameInts.mono _ _ _)
   | (with_reducible exact spec_DrawReached.mono _ _)
   | (with_reducible exact spec_Reached.mono _ _ _ _ _)
   | (with_reducible exact LeO.refl _)
   | (with_reducible exact LeO.none _)
   | (with_reducible refine LeO.ite ?_ ?_)
   | (with_reducible refine LeO.bind ?_ (fun _ => ?_))
   | exact ih0 _ _ _ _ _ _
   | exact ih1 _ _ _ _ _ _
   | exact impl_Reached.mono _ _ _ _ _
   | exact laws_alive.mono _
   | exact laws_ascend.mono _ _
   | exact laws_hasInt.mono _ _ _
   | exact laws_sameInts.mono _ _ _
   | exact spec_DrawReached.mono _ _
   | exact spec_Reached.mono _ _ _ _ _
   | exact LeO.none _
   | refine LeO.ite ?_ ?_
   | refine LeO.bind ?_ (fun _ => ?_)
  ·
   intro y0 y1 y2 y3 y4 y5
   unfold laws_FnReached.l1
   repeat' first
   | (with_reducible exact ih0 _ _ _ _ _ _)
   | (with_reducible exact ih1 _ _ _ _ _ _)
   | (with_reducible exact impl_Reached.mono _ _ _ _ _)
   | (with_reducible exact laws_alive.mono _)
   | (with_reducible exact laws_ascend.mono _ _)
   | (with_reducible exact laws_hasInt.mono _ _ _)
   | (with_reducible exact laws_sameInts.mono _ _ _)
   | (with_reducible exact spec_DrawReached.mono _ _)
   | (with_reducible exact spec_Reached.mono _ _ _ _ _)
   | (with_reducible exact LeO.refl _)
   | (with_reducible exact LeO.none _)
   | (with_reducible refine LeO.ite ?_ ?_)
   | (with_reducible refine LeO.bind ?_ (fun _ => ?_))
   | exact ih0 _ _ _ _ _ _
   | exact ih1 _ _ _ _ _ _
   | exact impl_Reached.mono _ _ _ _ _
   | exact laws_alive.mono _
   | exact laws_ascend.mono _ _
   | exact laws_hasInt.mono _ _ _
   | exact laws_sameInts.mono _ _ _
   | exact spec_DrawReached.mono _ _
   | exact spec_Reached.mono _ _ _ _ _
   | exact LeO.none _
   | refine LeO.ite ?_ ?_
   | refine LeO.bind ?_ (fun _ => ?_)
theorem laws_FnReached.mono : ∀ a0 k, LeO (laws_FnReached.f k a0) (laws_FnReached.f (k + 1) a0) := by
 intro a0 k
 obtain ⟨ih0, ih1⟩ := laws_FnReached.mono_l k
 unfold laws_FnReached.f
 repeat' first
   | (with_reducible exact ih0 _ _ _ _ _ _)
   | (with_reducible exact ih1 _ _ _ _ _ _)
   | (with_reducible exact impl_Reached.mono _ _ _ _ _)
   | (with_reducible exact laws_alive.mono _)
   | (with_reducible exact laws_ascend.mono _ _)
   | (with_reducible exact laws_hasInt.mono _ _ _)
   | (with_reducible exact laws_sameInts.mono _ _ _)
   | (with_reducible exact spec_DrawReached.mono _ _)
   | (with_reducible exact spec_Reached.mono _ _ _ _ _)
   | (with_reducible exact LeO.refl _)
   | (with_reducible exact LeO.none _)
   | (with_reducible refine LeO.ite ?_ ?_)
   | (with_reducible refine LeO.bind ?_ (fun _ => ?_))
   | exact ih0 _ _ _ _ _ _
   | exact ih1 _ _ _ _ _ _
   | exact impl_Reached.mono _ _ _ _ _
   | exact laws_alive.mono _
   | exact laws_ascend.mono _ _
   | exact laws_hasInt.mono _ _ _
   | exact laws_sameInts.mono _ _ _
   | exact spec_DrawReached.mono _ _
   | exact spec_Reached.mono _ _ _ _ _
   | exact LeO.none _
   | refine LeO.ite ?_ ?_
   | refine LeO.bind ?_ (fun _ => ?_)
def laws_FnReached.T12 : Bool × List (List Nat × List Nat) := (true, [([], []), ([], []), ([], []), ([], []), ([2, 3], [2, 3]), ([4], [4]), ([0, 1, 5], [0, 1, 5]), ([], []), ([6, 7, 6], [6, 7]), ([8], [8])])
def laws_FnReached.B12 : List Nat := [0, 0, 0, 0, 12, 28, 63, 0, 255, 511]
theorem laws_FnReached.tab12 : rtab .any (opsOf Tryd.f7 12) = laws_FnReached.T12 := by kernel_rfl
theorem laws_FnReached.bits12 : waitsOk laws_FnReached.T12.2 laws_FnReached.B12 = true := by kernel_rfl
def laws_FnReached.T17 : Bool × List (List Nat × List Nat) := (true, [([], []), ([], []), ([0, 1], [0, 1]), ([2], [2]), ([3], [3]), ([4], [4]), ([4], [4]), ([6, 4], [4, 6]), ([4], [4]), ([7, 8, 4], [4, 7, 8]), ([9, 4], [4, 9]), ([10, 4], [4, 10]), ([5, 11, 4, 4], [4, 5, 11]), ([4], [4]), ([4], [4]), ([14, 4], [4, 14]), ([4], [4]), ([15, 16, 4], [4, 15, 16]), ([17, 4], [4, 17]), ([18, 4], [4, 18]), ([13, 19, 12, 4], [4, 13, 19]), ([12, 20, 4], [4, 12, 20]), ([4, 21], [4, 21])])
def laws_FnReached.B17 : List Nat := [0, 0, 3, 7, 15, 31, 31, 95, 31, 479, 991, 2015, 4095, 31, 31, 16415, 31, 114719, 245791, 507935, 1048575, 2097151, 4194303]
theorem laws_FnReached.tab17 : rtab .any (opsOf Tryd.f7 17) = laws_FnReached.T17 := by kernel_rfl
theorem laws_FnReached.bits17 : waitsOk laws_FnReached.T17.2 laws_FnReached.B17 = true := by kernel_rfl
set_option maxHeartbeats 8000000 in
set_option maxRecDepth 100000 in
theorem laws_FnReached.calls (k : Nat) (A0 : Option Addr) (c0 : Nat) (l0 : List Int) (r : Bool) (w : World) (hr0 : Kd.C (Kd.int .u8) w A0 l0.length l0) (hc0 : l0.length ≤ c0) (h : laws_FnReached.f k l0 = some r) :
  Calls Tryd.prog 7 #[.slice A0 l0.length c0] w fun e w' => e = .returned (.bool r) ∧ Below w.heap.size w w' := by
 have hu39 := Tryd.underlying39
 have HR0 := Aside0.mk hr0
 have HC0 := Aside0.mk hc0
 clear hr0 hc0
 have HB := Aside0.mk (Below.refl w.heap.size w)
 have H : (if (l0.length : Int) > 1048576 then (some true) else ((spec_DrawReached.f k l0).bind fun bt570 => ((impl_Reached.f k bt570.1 bt570.2.1 bt570.2.2.1 bt570.2.2.2).bind fun t579 => ((spec_Reached.f k bt570.1 bt570.2.1 bt570.2.2.1 bt570.2.2.2).bind fun t582 => ((laws_sameInts.f k t579 t582).bind fun t585 => (if t585 = true then (if (t579.length : Int) = 0 then ((laws_alive.f k).bind fun t586 => (some t586)) else (laws_FnReached.l0 k bt570.2.2.1 bt570.2.2.2 t579 0 bt570.1 bt570.2.1)) else (none))))))) = some r := h
 clear h
 by_cases c2 : (l0.length : Int) > 1048576
 ·
  rw [if_pos c2] at H
  have c2b0 : decide (1048576 < (l0.length : Int)) = true := decide_eq_true c2
  have c2b1 : decide (1048576 < l0.length) = true := decide_eq_true (by omega)
  clear c2
  obtain rfl := Option.some.inj H
  go_enter Tryd.func7, Tryd.ntmps7
  go_wp2
  go_ret
  exact ⟨by first | rfl | (simp [errW_none, errW_some] <;> rfl) | (simp [*, errW_none, errW_some] <;> rfl), by repeat (first | (with_reducible first | exact HB.out | apply below_alloc | apply pw_below_drewN | apply below_drew1) | exact HB.out)⟩
 ·
  rw [if_neg c2] at H
  have c2b0 : decide (1048576 < (l0.length : Int)) = false := decide_eq_false c2
  have c2b1 : decide (1048576 < l0.length) = false := decide_eq_false (by omega)
  clear c2
  replace H := Option.bind_eq_some_iff.mp H
  obtain ⟨⟨t570, t571, t574, t577⟩, A30, H⟩ := H
  replace H : ((impl_Reached.f k t570 t571 t574 t577).bind fun t579 => ((spec_Reached.f k t570 t571 t574 t577).bind fun t582 => ((laws_sameInts.f k t579 t582).bind fun t585 => (if t585 = true then (if (t579.length : Int) = 0 then ((laws_alive.f k).bind fun t586 => (some t586)) else (laws_FnReached.l0 k t574 t577 t579 0 t570 t571)) else (none))))) = some r := H
  have A3 := Aside0.mk A30
  clear A30
  replace H := Option.bind_eq_some_iff.mp H
  obtain ⟨t579, A40, H⟩ := H
  replace H : ((spec_Reached.f k t570 t571 t574 t577).bind fun t582 => ((laws_sameInts.f k t579 t582).bind fun t585 => (if t585 = true then (if (t579.length : Int) = 0 then ((laws_alive.f k).bind fun t586 => (some t586)) else (laws_FnReached.l0 k t574 t577 t579 0 t570 t571)) else (none)))) = some r := H
  have A4 := Aside0.mk A40
  clear A40
  replace H := Option.bind_eq_some_iff.mp H
  obtain ⟨t582, A50, H⟩ := H
  replace H : ((laws_sameInts.f k t579 t582).bind fun t585 => (if t585 = true then (if (t579.length : Int) = 0 then ((laws_alive.f k).bind fun t586 => (some t586)) else (laws_FnReached.l0 k t574 t577 t579 0 t570 t571)) else (none))) = some r := H
  have A5 := Aside0.mk A50
  clear A50
  replace H := Option.bind_eq_some_iff.mp H
  obtain ⟨t585, A60, H⟩ := H
  replace H : (if t585 = true then (if (t579.length : Int) = 0 then ((laws_alive.f k).bind fun t586 => (some t586)) else (laws_FnReached.l0 k t574 t577 t579 0 t570 t571)) else (none)) = some r := H
  have A6 := Aside0.mk A60
  clear A60
  by_cases c7 : t585 = true
  ·
   subst c7
   have H1 : (if (t579.length : Int) = 0 then ((laws_alive.f k).bind fun t586 => (some t586)) else (laws_FnReached.l0 k t574 t577 t579 0 t570 t571)) = some r := by rw [if_pos rfl] at H; exact H
   clear H
   have H := H1
   clear H1
   by_cases c8 : (t579.length : Int) = 0
   ·
    rw [if_pos c8] at H
    have c8b0 : ((t579.length : Int) == 0) = true := beq_iff_eq.mpr c8
    have c8b1 : ((t579.length : Int) != 0) = false := bne_eq_false_iff_eq.mpr c8
    clear c8
    replace H := Option.bind_eq_some_iff.mp H
    obtain ⟨t586, A90, H⟩ := H
    replace H : (some t586) = some r := H
    have A9 := Aside0.mk A90
    clear A90
    obtain rfl := Option.some.inj H
    go_enter Tryd.func7, Tryd.ntmps7
    go_wp2_with (first | ((with_reducible refine gate_callee (f := 28) rfl ?_); refine goesL_ (some 14) rfl rfl Tryd.func28 (by kernel_rfl) rfl #[.slice A0 l0.length c0] rfl (by (try simp only [List.map_toArray, List.map_cons, List.map_nil]); first | done | rfl | (simp only [List.length_drop, List.length_take]; rfl)) ?_; (with_reducible refine (spec_DrawReached.calls k _ _ l0 t570 t571 t574 t577 _ ?side1 ?side2 A3.out).mono ?_); (case side1 => repeat (first | exact HR0.out | (with_reducible refine Kd.C_alloc ?_ _) | (with_reducible refine Kd.C_drewN ?_ _) | (with_reducible refine Kd.C_drew ?_))); (case side2 => exact HC0.out); rintro e w10 ⟨v572, v575, rfl, ho0, ho1, hb⟩; refine ⟨_, rfl, ?_⟩; have n0_ := Aside0.mk (Kd.R_lower ho0 (below_size (by repeat (first | (with_reducible first | exact HB.out | apply below_alloc | apply pw_below_drewN | apply below_drew1) | exact HB.out)))); have n1_ := Aside0.mk (Kd.R_lower ho1 (below_size (by repeat (first | (with_reducible first | exact HB.out | apply below_alloc | apply pw_below_drewN | apply below_drew1) | exact HB.out)))); have n2_ := Aside0.mk (below_step (by repeat (first | (with_reducible first | exact HB.out | apply below_alloc | apply pw_below_drewN | apply below_drew1) | exact HB.out)) hb); clear HB; have HO573 := n0_; have HO576 := n1_; have HB := n2_; clear n0_ n1_ n2_; (try clear hb); (try clear hb2); (try clear hk); (try clear hi); (try clear ho0); (try clear ho1)) | ((with_reducible refine gate_dst (N := 3) rfl ?_); refine box_event ?hg (N := 3) ?hd (cs := #[.int .i64 0, .slice none 0 0]) (t := 39) ?hr ?_; (case hd => rfl); (case hg => rfl); (case hr => first | (go_simp; done) | (go_simp; rfl)); intro gb578 hg w11 hbox hb; have n0_ := Aside0.mk (Kd.R_below (by (with_reducible repeat (first | apply Kd.R_alloc | apply Kd.R_drewN | apply Kd.R_drew)); exact HO573.out) hb); have n1_ := Aside0.mk (Kd.R_below (by (with_reducible repeat (first | apply Kd.R_alloc | apply Kd.R_drewN | apply Kd.R_drew)); exact HO576.out) hb); have n2_ := Aside0.mk (below_step (by repeat (first | (with_reducible first | exact HB.out | apply below_alloc | apply pw_below_drewN | apply below_drew1) | exact HB.out)) hb); have n3_ := Aside0.mk (hbox); have n4_ := Aside0.mk ((by rw [hg]; exact (below_size (by repeat (first | (with_reducible first | exact HB.out | apply below_alloc | apply pw_below_drewN | apply below_drew1) | exact HB.out))) : w.heap.size ≤ gb578)); have n5_ := Aside0.mk ((by rw [hg]; exact (below_size (by repeat (first | (with_reducible first | exact HB.out | apply below_alloc | apply pw_below_drewN | apply below_drew1) | exact HB.out))) : w.heap.size ≤ gb578)); clear HO573; clear HO576; clear HB; have HO573 := n0_; have HO576 := n1_; have HB := n2_; have BK578 := n3_; have GW578 := n4_; have GE578 := n5_; clear n0_ n1_ n2_ n3_ n4_ n5_; clear hb hbox hg; have hcz12_0 : w11.cell? ⟨gb578, 0, none⟩ = some (.int .i64 0) := (blk_cell BK578.out 0).trans rfl; have hcz12_1 : w11.cell? ⟨gb578, 1, none⟩ = some (.slice none 0 0) := (blk_cell BK578.out 1).trans rfl; have hfz12_0 := blk_frozen BK578.out 0; have hfz12_1 := blk_frozen BK578.out 1; obtain ⟨Ao13, co13, eo13⟩ := Kd.R_slice HO573.out; subst eo13; obtain ⟨Ao14, co14, eo14⟩ := Kd.R_slice HO576.out; subst eo14) | ((with_reducible refine gate_callee (f := 29) rfl ?_); refine goesL_ (some 21) rfl rfl Tryd.func29 (by kernel_rfl) rfl #[.agg #[.int .i64 t570, .slice Ao13 t571.length co13], .slice Ao14 t574.length co14, .int .i64 t577] rfl (by (try simp only [List.map_toArray, List.map_cons, List.map_nil]); first | done | rfl | (simp only [List.length_drop, List.length_take]; rfl)) ?_; (with_reducible refine (impl_Reached.calls k t570 _ _ t571 _ _ t574 t577 t579 _ ?side1 ?side2 ?side3 ?side4 A4.out).mono ?_); (case side1 => refine (Kd.R_reads' (e := 52) (base := w.heap.size) (ok := fun k_ => True) (n := t571.length) (c := co13) ?_).2.2; exact (by (with_reducible repeat (first | apply Kd.R_alloc | apply Kd.R_drewN | apply Kd.R_drew)); exact (Kd.R_mono (Kd.R_far (p := ⟨gb578, 1, none⟩) (Kd.R_far (p := ⟨gb578, 0, none⟩) (Kd.R_types HO573.out BK578.out (by decide)) (fun _ hk => hk.2) (.int .i64 t570)) (fun _ hk => hk.2) (.slice Ao13 t571.length co13)) (fun _ h_ => h_.1)))); (case side2 => exact (Kd.R_reads' HO573.out).2.1); (case side3 => refine (Kd.R_reads' (e := 4) (base := w.heap.size) (ok := fun k_ => True) (n := t574.length) (c := co14) ?_).2.2; exact (by (with_reducible repeat (first | apply Kd.R_alloc | apply Kd.R_drewN | apply Kd.R_drew)); exact (Kd.R_mono (Kd.R_far (p := ⟨gb578, 1, none⟩) (Kd.R_far (p := ⟨gb578, 0, none⟩) (Kd.R_types HO576.out BK578.out (by decide)) (fun _ hk => hk.2) (.int .i64 t570)) (fun _ hk => hk.2) (.slice Ao13 t571.length co13)) (fun _ h_ => h_.1)))); (case side4 => exact (Kd.R_reads' HO576.out).2.1); rintro e w15 ⟨v580, rfl, ho0, hb⟩; refine ⟨_, rfl, ?_⟩; have n0_ := Aside0.mk (Kd.R_below (by (with_reducible repeat (first | apply Kd.R_alloc | apply Kd.R_drewN | apply Kd.R_drew)); exact (Kd.R_mono (Kd.R_far (p := ⟨gb578, 1, none⟩) (Kd.R_far (p := ⟨gb578, 0, none⟩) (Kd.R_types HO573.out BK578.out (by decide)) (fun _ hk => hk.2) (.int .i64 t570)) (fun _ hk => hk.2) (.slice Ao13 t571.length co13)) (fun _ h_ => h_.1))) hb); have n1_ := Aside0.mk (Kd.R_below (by (with_reducible repeat (first | apply Kd.R_alloc | apply Kd.R_drewN | apply Kd.R_drew)); exact (Kd.R_mono (Kd.R_far (p := ⟨gb578, 1, none⟩) (Kd.R_far (p := ⟨gb578, 0, none⟩) (Kd.R_types HO576.out BK578.out (by decide)) (fun _ hk => hk.2) (.int .i64 t570)) (fun _ hk => hk.2) (.slice Ao13 t571.length co13)) (fun _ h_ => h_.1))) hb); have n2_ := Aside0.mk (Kd.R_lower ho0 (below_size (by repeat (first | (with_reducible first | exact HB.out | apply below_alloc | apply pw_below_drewN | apply below_drew1 | refine below_set ?_ GE578.out) | exact HB.out)))); have n3_ := Aside0.mk (blk_below (g := gb578) (o := .cells #[.int .i64 t570, .slice Ao13 t571.length co13] 39 (0, 0)) (by (with_reducible repeat (first | refine blk_drewN ?_ _ | refine blk_drew ?_ | refine blk_alloc ?_ _)); refine blk_put (cs := #[.int .i64 t570, .slice none 0 0]) ?_ 1 _ rfl; (with_reducible repeat (first | refine blk_drewN ?_ _ | refine blk_drew ?_ | refine blk_alloc ?_ _)); refine blk_put (cs := #[.int .i64 0, .slice none 0 0]) ?_ 0 _ rfl; (with_reducible repeat (first | refine blk_drewN ?_ _ | refine blk_drew ?_ | refine blk_alloc ?_ _)); exact BK578.out) hb); have n4_ := Aside0.mk (below_step (by repeat (first | (with_reducible first | exact HB.out | apply below_alloc | apply pw_below_drewN | apply below_drew1 | refine below_set ?_ GE578.out) | exact HB.out)) hb); clear HO573; clear HO576; clear BK578; clear HB; have HO573 := n0_; have HO576 := n1_; have HO581 := n2_; have BK578 := n3_; have HB := n4_; clear n0_ n1_ n2_ n3_ n4_; (try clear hb); (try clear hb2); (try clear hk); (try clear hi); (try clear ho0); have hcz16_0 : w15.cell? ⟨gb578, 0, none⟩ = some (.int .i64 t570) := (blk_cell BK578.out 0).trans rfl; have hcz16_1 : w15.cell? ⟨gb578, 1, none⟩ = some (.slice Ao13 t571.length co13) := (blk_cell BK578.out 1).trans rfl; have hfz16_0 := blk_frozen BK578.out 0; have hfz16_1 := blk_frozen BK578.out 1) | ((with_reducible refine gate_callee (f := 30) rfl ?_); refine goesL_ (some 26) rfl rfl Tryd.func30 (by kernel_rfl) rfl #[.agg #[.int .i64 t570, .slice Ao13 t571.length co13], .slice Ao14 t574.length co14, .int .i64 t577] rfl (by (try simp only [List.map_toArray, List.map_cons, List.map_nil]); first | done | rfl | (simp only [List.length_drop, List.length_take]; rfl)) ?_; (with_reducible refine (spec_Reached.calls k t570 _ _ t571 _ _ t574 t577 t582 _ ?side1 ?side2 ?side3 ?side4 A5.out).mono ?_); (case side1 => repeat (first | exact (Kd.R_reads' HO573.out).2.2 | (with_reducible refine Kd.C_alloc ?_ _) | (with_reducible refine Kd.C_drewN ?_ _) | (with_reducible refine Kd.C_drew ?_))); (case side2 => exact (Kd.R_reads' HO573.out).2.1); (case side3 => repeat (first | exact (Kd.R_reads' HO576.out).2.2 | (with_reducible refine Kd.C_alloc ?_ _) | (with_reducible refine Kd.C_drewN ?_ _) | (with_reducible refine Kd.C_drew ?_))); (case side4 => exact (Kd.R_reads' HO576.out).2.1); rintro e w17 ⟨v583, rfl, ho0, hb⟩; refine ⟨_, rfl, ?_⟩; have n0_ := Aside0.mk (Kd.R_below (by (with_reducible repeat (first | apply Kd.R_alloc | apply Kd.R_drewN | apply Kd.R_drew)); exact HO573.out) hb); have n1_ := Aside0.mk (Kd.R_below (by (with_reducible repeat (first | apply Kd.R_alloc | apply Kd.R_drewN | apply Kd.R_drew)); exact HO576.out) hb); have n2_ := Aside0.mk (Kd.R_elder' (by (with_reducible repeat (first | apply Kd.R_alloc | apply Kd.R_drewN | apply Kd.R_drew)); exact HO581.out) (Kd.R_base ho0) hb); have n3_ := Aside0.mk (Kd.R_lower (Kd.R_new' ho0 (Kd.R_lt (by (with_reducible repeat (first | apply Kd.R_alloc | apply Kd.R_drewN | apply Kd.R_drew)); exact HO581.out))) (below_size (by repeat (first | (with_reducible first | exact HB.out | apply below_alloc | apply pw_below_drewN | apply below_drew1 | refine below_set ?_ GE578.out) | exact HB.out)))); have n4_ := Aside0.mk (blk_below (g := gb578) (o := .cells #[.int .i64 t570, .slice Ao13 t571.length co13] 39 (0, 0)) (by (with_reducible repeat (first | refine blk_drewN ?_ _ | refine blk_drew ?_ | refine blk_alloc ?_ _)); exact BK578.out) hb); have n5_ := Aside0.mk (below_step (by repeat (first | (with_reducible first | exact HB.out | apply below_alloc | apply pw_below_drewN | apply below_drew1 | refine below_set ?_ GE578.out) | exact HB.out)) hb); clear HO573; clear HO576; clear HO581; clear BK578; clear HB; have HO573 := n0_; have HO576 := n1_; have HO581 := n2_; have HO584 := n3_; have BK578 := n4_; have HB := n5_; clear n0_ n1_ n2_ n3_ n4_ n5_; (try clear hb); (try clear hb2); (try clear hk); (try clear hi); (try clear ho0); obtain ⟨Ao18, co18, eo18⟩ := Kd.R_slice HO581.out; subst eo18; obtain ⟨Ao19, co19, eo19⟩ := Kd.R_slice HO584.out; subst eo19) | ((with_reducible refine gate_callee (f := 18) rfl ?_); refine goesL_ (some 27) rfl rfl Tryd.func18 (by kernel_rfl) rfl #[.slice Ao18 t579.length co18, .slice Ao19 t582.length co19] rfl (by (try simp only [List.map_toArray, List.map_cons, List.map_nil]); first | done | rfl | (simp only [List.length_drop, List.length_take]; rfl)) ?_; (with_reducible refine (laws_sameInts.calls k _ _ t579 _ _ t582 true _ ?side1 ?side2 ?side3 ?side4 A6.out).mono ?_); (case side1 => repeat (first | exact (Kd.R_reads' HO581.out).2.2 | (with_reducible refine Kd.C_alloc ?_ _) | (with_reducible refine Kd.C_drewN ?_ _) | (with_reducible refine Kd.C_drew ?_))); (case side2 => exact (Kd.R_reads' HO581.out).2.1); (case side3 => repeat (first | exact (Kd.R_reads' HO584.out).2.2 | (with_reducible refine Kd.C_alloc ?_ _) | (with_reducible refine Kd.C_drewN ?_ _) | (with_reducible refine Kd.C_drew ?_))); (case side4 => exact (Kd.R_reads' HO584.out).2.1); rintro e w' ⟨rfl, ⟨nd, rfl⟩⟩; refine ⟨_, rfl, ?_⟩) | ((with_reducible refine gate_callee (f := 15) rfl ?_); refine goesL_ (some 32) rfl rfl Tryd.func15 (by kernel_rfl) rfl #[] rfl (by (try simp only [List.map_toArray, List.map_cons, List.map_nil]); first | done | rfl | (simp only [List.length_drop, List.length_take]; rfl)) ?_; (with_reducible refine (laws_alive.calls k  t586 _ A9.out).mono ?_); rintro e w20 ⟨rfl, hb⟩; refine ⟨_, rfl, ?_⟩; have n0_ := Aside0.mk (Kd.R_below (by (with_reducible repeat (first | apply Kd.R_alloc | apply Kd.R_drewN | apply Kd.R_drew)); exact HO573.out) hb); have n1_ := Aside0.mk (Kd.R_below (by (with_reducible repeat (first | apply Kd.R_alloc | apply Kd.R_drewN | apply Kd.R_drew)); exact HO576.out) hb); have n2_ := Aside0.mk (Kd.R_below (by (with_reducible repeat (first | apply Kd.R_alloc | apply Kd.R_drewN | apply Kd.R_drew)); exact HO581.out) hb); have n3_ := Aside0.mk (Kd.R_below (by (with_reducible repeat (first | apply Kd.R_alloc | apply Kd.R_drewN | apply Kd.R_drew)); exact HO584.out) hb); have n4_ := Aside0.mk (blk_below (g := gb578) (o := .cells #[.int .i64 t570, .slice Ao13 t571.length co13] 39 (0, 0)) (by (with_reducible repeat (first | refine blk_drewN ?_ _ | refine blk_drew ?_ | refine blk_alloc ?_ _)); exact BK578.out) hb); have n5_ := Aside0.mk (below_step (by repeat (first | (with_reducible first | exact HB.out | apply below_alloc | apply pw_below_drewN | apply below_drew1 | refine below_set ?_ GE578.out) | exact HB.out)) hb); clear HO573; clear HO576; clear HO581; clear HO584; clear BK578; clear HB; have HO573 := n0_; have HO576 := n1_; have HO581 := n2_; have HO584 := n3_; have BK578 := n4_; have HB := n5_; clear n0_ n1_ n2_ n3_ n4_ n5_; (try clear hb); (try clear hb2); (try clear hk); (try clear hi)))
    go_ret
    exact ⟨by first | rfl | (simp [errW_none, errW_some] <;> rfl) | (simp [*, errW_none, errW_some] <;> rfl), by repeat (first | (with_reducible first | exact HB.out | apply below_alloc | apply pw_below_drewN | apply below_drew1 | refine below_set ?_ GE578.out) | exact HB.out)⟩
   ·
    rw [if_neg c8] at H
    have c8b0 : ((t579.length : Int) == 0) = false := beq_eq_false_iff_ne.mpr c8
    have c8b1 : ((t579.length : Int) != 0) = true := bne_iff_ne.mpr c8
    have c8b2 : ¬ (t579 = []) := fun h_ => c8 (by rw [h_]; rfl)
    have H' := Aside0.mk H
    clear H
    go_enter Tryd.func7, Tryd.ntmps7
    go_wp2_with (first | ((with_reducible refine gate_callee (f := 28) rfl ?_); refine goesL_ (some 14) rfl rfl Tryd.func28 (by kernel_rfl) rfl #[.slice A0 l0.length c0] rfl (by (try simp only [List.map_toArray, List.map_cons, List.map_nil]); first | done | rfl | (simp only [List.length_drop, List.length_take]; rfl)) ?_; (with_reducible refine (spec_DrawReached.calls k _ _ l0 t570 t571 t574 t577 _ ?side1 ?side2 A3.out).mono ?_); (case side1 => repeat (first | exact HR0.out | (with_reducible refine Kd.C_alloc ?_ _) | (with_reducible refine Kd.C_drewN ?_ _) | (with_reducible refine Kd.C_drew ?_))); (case side2 => exact HC0.out); rintro e w21 ⟨v572, v575, rfl, ho0, ho1, hb⟩; refine ⟨_, rfl, ?_⟩; have n0_ := Aside0.mk (Kd.R_lower ho0 (below_size (by repeat (first | (with_reducible first | exact HB.out | apply below_alloc | apply pw_below_drewN | apply below_drew1) | exact HB.out)))); have n1_ := Aside0.mk (Kd.R_lower ho1 (below_size (by repeat (first | (with_reducible first | exact HB.out | apply below_alloc | apply pw_below_drewN | apply below_drew1) | exact HB.out)))); have n2_ := Aside0.mk (below_step (by repeat (first | (with_reducible first | exact HB.out | apply below_alloc | apply pw_below_drewN | apply below_drew1) | exact HB.out)) hb); clear HB; have HO573 := n0_; have HO576 := n1_; have HB := n2_; clear n0_ n1_ n2_; (try clear hb); (try clear hb2); (try clear hk); (try clear hi); (try clear ho0); (try clear ho1)) | ((with_reducible refine gate_dst (N := 3) rfl ?_); refine box_event ?hg (N := 3) ?hd (cs := #[.int .i64 0, .slice none 0 0]) (t := 39) ?hr ?_; (case hd => rfl); (case hg => rfl); (case hr => first | (go_simp; done) | (go_simp; rfl)); intro gb578 hg w22 hbox hb; have n0_ := Aside0.mk (Kd.R_below (by (with_reducible repeat (first | apply Kd.R_alloc | apply Kd.R_drewN | apply Kd.R_drew)); exact HO573.out) hb); have n1_ := Aside0.mk (Kd.R_below (by (with_reducible repeat (first | apply Kd.R_alloc | apply Kd.R_drewN | apply Kd.R_drew)); exact HO576.out) hb); have n2_ := Aside0.mk (below_step (by repeat (first | (with_reducible first | exact HB.out | apply below_alloc | apply pw_below_drewN | apply below_drew1) | exact HB.out)) hb); have n3_ := Aside0.mk (hbox); have n4_ := Aside0.mk ((by rw [hg]; exact (below_size (by repeat (first | (with_reducible first | exact HB.out | apply below_alloc | apply pw_below_drewN | apply below_drew1) | exact HB.out))) : w.heap.size ≤ gb578)); have n5_ := Aside0.mk ((by rw [hg]; exact (below_size (by repeat (first | (with_reducible first | exact HB.out | apply below_alloc | apply pw_below_drewN | apply below_drew1) | exact HB.out))) : w.heap.size ≤ gb578)); clear HO573; clear HO576; clear HB; have HO573 := n0_; have HO576 := n1_; have HB := n2_; have BK578 := n3_; have GW578 := n4_; have GE578 := n5_; clear n0_ n1_ n2_ n3_ n4_ n5_; clear hb hbox hg; have hcz23_0 : w22.cell? ⟨gb578, 0, none⟩ = some (.int .i64 0) := (blk_cell BK578.out 0).trans rfl; have hcz23_1 : w22.cell? ⟨gb578, 1, none⟩ = some (.slice none 0 0) := (blk_cell BK578.out 1).trans rfl; have hfz23_0 := blk_frozen BK578.out 0; have hfz23_1 := blk_frozen BK578.out 1; obtain ⟨Ao24, co24, eo24⟩ := Kd.R_slice HO573.out; subst eo24; obtain ⟨Ao25, co25, eo25⟩ := Kd.R_slice HO576.out; subst eo25) | ((with_reducible refine gate_callee (f := 29) rfl ?_); refine goesL_ (some 21) rfl rfl Tryd.func29 (by kernel_rfl) rfl #[.agg #[.int .i64 t570, .slice Ao24 t571.length co24], .slice Ao25 t574.length co25, .int .i64 t577] rfl (by (try simp only [List.map_toArray, List.map_cons, List.map_nil]); first | done | rfl | (simp only [List.length_drop, List.length_take]; rfl)) ?_; (with_reducible refine (impl_Reached.calls k t570 _ _ t571 _ _ t574 t577 t579 _ ?side1 ?side2 ?side3 ?side4 A4.out).mono ?_); (case side1 => refine (Kd.R_reads' (e := 52) (base := w.heap.size) (ok := fun k_ => True) (n := t571.length) (c := co24) ?_).2.2; exact (by (with_reducible repeat (first | apply Kd.R_alloc | apply Kd.R_drewN | apply Kd.R_drew)); exact (Kd.R_mono (Kd.R_far (p := ⟨gb578, 1, none⟩) (Kd.R_far (p := ⟨gb578, 0, none⟩) (Kd.R_types HO573.out BK578.out (by decide)) (fun _ hk => hk.2) (.int .i64 t570)) (fun _ hk => hk.2) (.slice Ao24 t571.length co24)) (fun _ h_ => h_.1)))); (case side2 => exact (Kd.R_reads' HO573.out).2.1); (case side3 => refine (Kd.R_reads' (e := 4) (base := w.heap.size) (ok := fun k_ => True) (n := t574.length) (c := co25) ?_).2.2; exact (by (with_reducible repeat (first | apply Kd.R_alloc | apply Kd.R_drewN | apply Kd.R_drew)); exact (Kd.R_mono (Kd.R_far (p := ⟨gb578, 1, none⟩) (Kd.R_far (p := ⟨gb578, 0, none⟩) (Kd.R_types HO576.out BK578.out (by decide)) (fun _ hk => hk.2) (.int .i64 t570)) (fun _ hk => hk.2) (.slice Ao24 t571.length co24)) (fun _ h_ => h_.1)))); (case side4 => exact (Kd.R_reads' HO576.out).2.1); rintro e w26 ⟨v580, rfl, ho0, hb⟩; refine ⟨_, rfl, ?_⟩; have n0_ := Aside0.mk (Kd.R_below (by (with_reducible repeat (first | apply Kd.R_alloc | apply Kd.R_drewN | apply Kd.R_drew)); exact (Kd.R_mono (Kd.R_far (p := ⟨gb578, 1, none⟩) (Kd.R_far (p := ⟨gb578, 0, none⟩) (Kd.R_types HO573.out BK578.out (by decide)) (fun _ hk => hk.2) (.int .i64 t570)) (fun _ hk => hk.2) (.slice Ao24 t571.length co24)) (fun _ h_ => h_.1))) hb); have n1_ := Aside0.mk (Kd.R_below (by (with_reducible repeat (first | apply Kd.R_alloc | apply Kd.R_drewN | apply Kd.R_drew)); exact (Kd.R_mono (Kd.R_far (p := ⟨gb578, 1, none⟩) (Kd.R_far (p := ⟨gb578, 0, none⟩) (Kd.R_types HO576.out BK578.out (by decide)) (fun _ hk => hk.2) (.int .i64 t570)) (fun _ hk => hk.2) (.slice Ao24 t571.length co24)) (fun _ h_ => h_.1))) hb); have n2_ := Aside0.mk (Kd.R_lower ho0 (below_size (by repeat (first | (with_reducible first | exact HB.out | apply below_alloc | apply pw_below_drewN | apply below_drew1 | refine below_set ?_ GE578.out) | exact HB.out)))); have n3_ := Aside0.mk (blk_below (g := gb578) (o := .cells #[.int .i64 t570, .slice Ao24 t571.length co24] 39 (0, 0)) (by (with_reducible repeat (first | refine blk_drewN ?_ _ | refine blk_drew ?_ | refine blk_alloc ?_ _)); refine blk_put (cs := #[.int .i64 t570, .slice none 0 0]) ?_ 1 _ rfl; (with_reducible repeat (first | refine blk_drewN ?_ _ | refine blk_drew ?_ | refine blk_alloc ?_ _)); refine blk_put (cs := #[.int .i64 0, .slice none 0 0]) ?_ 0 _ rfl; (with_reducible repeat (first | refine blk_drewN ?_ _ | refine blk_drew ?_ | refine blk_alloc ?_ _)); exact BK578.out) hb); have n4_ := Aside0.mk (below_step (by repeat (first | (with_reducible first | exact HB.out | apply below_alloc | apply pw_below_drewN | apply below_drew1 | refine below_set ?_ GE578.out) | exact HB.out)) hb); clear HO573; clear HO576; clear BK578; clear HB; have HO573 := n0_; have HO576 := n1_; have HO581 := n2_; have BK578 := n3_; have HB := n4_; clear n0_ n1_ n2_ n3_ n4_; (try clear hb); (try clear hb2); (try clear hk); (try clear hi); (try clear ho0); have hcz27_0 : w26.cell? ⟨gb578, 0, none⟩ = some (.int .i64 t570) := (blk_cell BK578.out 0).trans rfl; have hcz27_1 : w26.cell? ⟨gb578, 1, none⟩ = some (.slice Ao24 t571.length co24) := (blk_cell BK578.out 1).trans rfl; have hfz27_0 := blk_frozen BK578.out 0; have hfz27_1 := blk_frozen BK578.out 1) | ((with_reducible refine gate_callee (f := 30) rfl ?_); refine goesL_ (some 26) rfl rfl Tryd.func30 (by kernel_rfl) rfl #[.agg #[.int .i64 t570, .slice Ao24 t571.length co24], .slice Ao25 t574.length co25, .int .i64 t577] rfl (by (try simp only [List.map_toArray, List.map_cons, List.map_nil]); first | done | rfl | (simp only [List.length_drop, List.length_take]; rfl)) ?_; (with_reducible refine (spec_Reached.calls k t570 _ _ t571 _ _ t574 t577 t582 _ ?side1 ?side2 ?side3 ?side4 A5.out).mono ?_); (case side1 => repeat (first | exact (Kd.R_reads' HO573.out).2.2 | (with_reducible refine Kd.C_alloc ?_ _) | (with_reducible refine Kd.C_drewN ?_ _) | (with_reducible refine Kd.C_drew ?_))); (case side2 => exact (Kd.R_reads' HO573.out).2.1); (case side3 => repeat (first | exact (Kd.R_reads' HO576.out).2.2 | (with_reducible refine Kd.C_alloc ?_ _) | (with_reducible refine Kd.C_drewN ?_ _) | (with_reducible refine Kd.C_drew ?_))); (case side4 => exact (Kd.R_reads' HO576.out).2.1); rintro e w28 ⟨v583, rfl, ho0, hb⟩; refine ⟨_, rfl, ?_⟩; have n0_ := Aside0.mk (Kd.R_below (by (with_reducible repeat (first | apply Kd.R_alloc | apply Kd.R_drewN | apply Kd.R_drew)); exact HO573.out) hb); have n1_ := Aside0.mk (Kd.R_below (by (with_reducible repeat (first | apply Kd.R_alloc | apply Kd.R_drewN | apply Kd.R_drew)); exact HO576.out) hb); have n2_ := Aside0.mk (Kd.R_elder' (by (with_reducible repeat (first | apply Kd.R_alloc | apply Kd.R_drewN | apply Kd.R_drew)); exact HO581.out) (Kd.R_base ho0) hb); have n3_ := Aside0.mk (Kd.R_lower (Kd.R_new' ho0 (Kd.R_lt (by (with_reducible repeat (first | apply Kd.R_alloc | apply Kd.R_drewN | apply Kd.R_drew)); exact HO581.out))) (below_size (by repeat (first | (with_reducible first | exact HB.out | apply below_alloc | apply pw_below_drewN | apply below_drew1 | refine below_set ?_ GE578.out) | exact HB.out)))); have n4_ := Aside0.mk (blk_below (g := gb578) (o := .cells #[.int .i64 t570, .slice Ao24 t571.length co24] 39 (0, 0)) (by (with_reducible repeat (first | refine blk_drewN ?_ _ | refine blk_drew ?_ | refine blk_alloc ?_ _)); exact BK578.out) hb); have n5_ := Aside0.mk (below_step (by repeat (first | (with_reducible first | exact HB.out | apply below_alloc | apply pw_below_drewN | apply below_drew1 | refine below_set ?_ GE578.out) | exact HB.out)) hb); clear HO573; clear HO576; clear HO581; clear BK578; clear HB; have HO573 := n0_; have HO576 := n1_; have HO581 := n2_; have HO584 := n3_; have BK578 := n4_; have HB := n5_; clear n0_ n1_ n2_ n3_ n4_ n5_; (try clear hb); (try clear hb2); (try clear hk); (try clear hi); (try clear ho0); obtain ⟨Ao29, co29, eo29⟩ := Kd.R_slice HO581.out; subst eo29; obtain ⟨Ao30, co30, eo30⟩ := Kd.R_slice HO584.out; subst eo30) | ((with_reducible refine gate_callee (f := 18) rfl ?_); refine goesL_ (some 27) rfl rfl Tryd.func18 (by kernel_rfl) rfl #[.slice Ao29 t579.length co29, .slice Ao30 t582.length co30] rfl (by (try simp only [List.map_toArray, List.map_cons, List.map_nil]); first | done | rfl | (simp only [List.length_drop, List.length_take]; rfl)) ?_; (with_reducible refine (laws_sameInts.calls k _ _ t579 _ _ t582 true _ ?side1 ?side2 ?side3 ?side4 A6.out).mono ?_); (case side1 => repeat (first | exact (Kd.R_reads' HO581.out).2.2 | (with_reducible refine Kd.C_alloc ?_ _) | (with_reducible refine Kd.C_drewN ?_ _) | (with_reducible refine Kd.C_drew ?_))); (case side2 => exact (Kd.R_reads' HO581.out).2.1); (case side3 => repeat (first | exact (Kd.R_reads' HO584.out).2.2 | (with_reducible refine Kd.C_alloc ?_ _) | (with_reducible refine Kd.C_drewN ?_ _) | (with_reducible refine Kd.C_drew ?_))); (case side4 => exact (Kd.R_reads' HO584.out).2.1); rintro e w' ⟨rfl, ⟨nd, rfl⟩⟩; refine ⟨_, rfl, ?_⟩))
    go_loopg [7] k (fun kq v7 w' => ∃ (x7_1 : Int), v7 = .int .i64 x7_1 ∧ Aside0 (laws_FnReached.l0 kq t574 t577 t579 x7_1 t570 t571 = some r) ∧ Aside0 (kq ≤ k) ∧ Aside0 (Kd.R Kd.bool 4 w' w.heap.size (fun _ => True) (.slice Ao25 t574.length co25) t574) ∧ Aside0 (Kd.R (Kd.int .i64) 3 w' w.heap.size (fun _ => True) (.slice Ao29 t579.length co29) t579) ∧ Aside0 (Kd.R k52 52 w' w.heap.size (fun _ => True) (.slice Ao24 t571.length co24) t571) ∧ Aside0 (w'.heap[gb578]? = some (.cells #[.int .i64 t570, (.slice Ao24 t571.length co24)] 39 (0, 0))) ∧ Aside0 (Below w.heap.size w w'))
    case atStart => exact ⟨(0), (by first | rfl | (simp; done) | (simp [*]; done)), H', ⟨Nat.le_refl _⟩, ⟨by (with_reducible repeat (first | apply Kd.R_alloc | apply Kd.R_drewN | apply Kd.R_drew)); exact HO576.out⟩, ⟨by (with_reducible repeat (first | apply Kd.R_alloc | apply Kd.R_drewN | apply Kd.R_drew)); exact Kd.R_mono HO581.out (fun _ hk => trivial)⟩, ⟨by (with_reducible repeat (first | apply Kd.R_alloc | apply Kd.R_drewN | apply Kd.R_drew)); exact HO573.out⟩, ⟨by (with_reducible repeat (first | refine blk_drewN ?_ _ | refine blk_drew ?_ | refine blk_alloc ?_ _)); exact BK578.out⟩, ⟨by repeat (first | (with_reducible first | exact HB.out | apply below_alloc | apply pw_below_drewN | apply below_drew1 | refine below_set ?_ GE578.out) | exact HB.out)⟩⟩
    case round =>
     clear H'
     try clear c1
     try clear c2
     try clear c2b0
     try clear c2b1
     try clear p2
     try clear c3
     try clear c7
     try clear c8
     try clear c8b0
     try clear c8b1
     try clear c8b2
     try clear c15
     try clear c18
     try clear c28
     try clear c29
     try clear c30
     try clear hcz12_0
     try clear hcz12_1
     try clear hcz16_0
     try clear hcz16_1
     try clear hcz23_0
     try clear hcz23_1
     try clear hcz27_0
     try clear hcz27_1
     try clear hfz12_0
     try clear hfz12_1
     try clear hfz16_0
     try clear hfz16_1
     try clear hfz23_0
     try clear hfz23_1
     try clear hfz27_0
     try clear hfz27_1
     obtain ⟨x7_1, rfl, HA, HK1, HO_4, HO_6, HO_579001, BK578, HB⟩ := hrel
     cases gk with
     | zero => exact absurd HA.out (by simp [laws_FnReached.l0])
     | succ k1 =>
      have H := HA.out
      clear HA
      simp only [laws_FnReached.l0] at H
      by_cases c31 : x7_1 < (t579.length : Int)
      ·
       rw [if_pos c31] at H
       have c31b0 : decide (x7_1 < (t579.length : Int)) = true := decide_eq_true c31
       clear c31
       by_cases c32 : 0 ≤ x7_1
       ·
        rw [if_pos c32] at H
        have c32b0 : decide (0 ≤ x7_1) = true := decide_eq_true c32
        clear c32
        replace H := Option.bind_eq_some_iff.mp H
        obtain ⟨t588, A330, H⟩ := H
        replace H : ((laws_sameInts.f k1 t588 t579).bind fun t591 => (if t591 = true then (laws_FnReached.l0 k1 t574 t577 t579 (wrap64 (x7_1 + 1)) t570 t571) else (none))) = some r := H
        have A33 := Aside0.mk A330
        clear A330
        replace H := Option.bind_eq_some_iff.mp H
        obtain ⟨t591, A340, H⟩ := H
        replace H : (if t591 = true then (laws_FnReached.l0 k1 t574 t577 t579 (wrap64 (x7_1 + 1)) t570 t571) else (none)) = some r := H
        have A34 := Aside0.mk A340
        clear A340
        by_cases c35 : t591 = true
        ·
         subst c35
         have H1 : (laws_FnReached.l0 k1 t574 t577 t579 (wrap64 (x7_1 + 1)) t570 t571) = some r := by rw [if_pos rfl] at H; exact H
         clear H
         have H := H1
         clear H1
         have H' := Aside0.mk H
         clear H
         try go_wp2
         have n0_ := Aside0.mk (Kd.R_drew HO_4.out)
         have n1_ := Aside0.mk (Kd.R_drew HO_6.out)
         have n2_ := Aside0.mk (Kd.R_drew HO_579001.out)
         have n3_ := Aside0.mk (blk_drew BK578.out)
         have n4_ := Aside0.mk (below_drew1 HB.out)
         clear HO_4
         clear HO_6
         clear HO_579001
         clear BK578
         clear HB
         have HO_4 := n0_
         have HO_6 := n1_
         have HO_579001 := n2_
         have BK578 := n3_
         have HB := n4_
         clear n0_ n1_ n2_ n3_ n4_
         have p587 : 0 ≤ (x7_1 : Int) := of_decide_eq_true (by first | (with_reducible assumption) | assumption)
         have q587 : x7_1 < (t579.length : Int) := of_decide_eq_true (by first | (with_reducible assumption) | assumption)
         obtain ⟨ad587, e587, hx587_0⟩ := Kd.at_int (Kd.R_reads' HO_6.out).2.2 x7_1 p587 q587
         cases e587
         replace p587 := eq_true p587
         replace q587 := eq_true q587
         refine start_ (n := 10) (S := fun w' => w'.cell? ⟨gb578, 0, none⟩ = some (.int .i64 t570) ∧ w'.cell? ⟨gb578, 1, none⟩ = some (.slice Ao24 t571.length co24) ∧ w'.cell? (ad587.add (x7_1).toNat) = some (.int .i64 (rd t579 x7_1))) (ds := []) #[false, false, false, false, false, false, false, false, false, false] (by kernel_rfl) rfl rfl ⟨(blk_cell BK578.out 0).trans rfl, (blk_cell BK578.out 1).trans rfl, hx587_0⟩ (fun hHeld => ?_); refine with_tabW laws_FnReached.tab12 laws_FnReached.bits12 (fun HT_ HW_ => ?_)
         generalize wr.drew = w36 at HO_4 HO_6 HO_579001 BK578 HB hx587_0 hHeld ⊢
         refine pure_ (i := 1) (N := some 40) (v := ?_) (a' := ?_) #[false, true, false, false, false, false, false, false, false, false] rfl rfl (any_of HT_.out (by kernel_rfl)) (fun _ _ _ h => h) (Or.inl ⟨by rfl, ?_⟩) ?_ ?_
         rotate_left
         ·
          intro w'
          go_simp
          with_reducible rfl
         rotate_left
         ·
          simp only [Act.put, List.setIfInBounds_toArray, List.set_cons_zero, List.set_cons_succ, i64_w, i32_w]
          rfl
         refine pure_ (i := 2) (N := some 41) (v := ?_) (a' := ?_) #[false, true, true, false, false, false, false, false, false, false] rfl rfl (any_of HT_.out (by kernel_rfl)) (fun _ _ _ h => h) (Or.inl ⟨by rfl, ?_⟩) ?_ ?_
         rotate_left
         ·
          intro w'
          go_simp
          with_reducible rfl
         rotate_left
         ·
          simp only [Act.put, List.setIfInBounds_toArray, List.set_cons_zero, List.set_cons_succ, i64_w, i32_w]
          rfl
         refine pure_ (i := 3) (N := some 42) (v := ?_) (a' := ?_) #[false, true, true, true, false, false, false, false, false, false] rfl rfl (any_of HT_.out (by kernel_rfl)) (fun _ _ _ h => h) (Or.inl ⟨by rfl, ?_⟩) ?_ ?_
         rotate_left
         ·
          intro w'
          go_simp
          with_reducible rfl
         rotate_left
         ·
          simp only [Act.put, List.setIfInBounds_toArray, List.set_cons_zero, List.set_cons_succ, i64_w, i32_w]
          rfl
         refine pure_ (i := 4) (N := some 43) (v := ?_) (a' := ?_) #[false, true, true, true, true, false, false, false, false, false] rfl rfl (any_of HT_.out (by kernel_rfl)) (fun _ _ _ h => h) (Or.inl ⟨by rfl, ?_⟩) ?_ ?_
         rotate_left
         ·
          intro w'
          go_simp
          with_reducible rfl
         rotate_left
         ·
          simp only [Act.put, List.setIfInBounds_toArray, List.set_cons_zero, List.set_cons_succ, i64_w, i32_w]
          rfl
         refine pure_ (i := 7) (N := some 46) (v := ?_) (a' := ?_) #[false, true, true, true, true, false, false, true, false, false] rfl rfl (any_of HT_.out (by kernel_rfl)) (fun _ _ _ h => h) (Or.inl ⟨by rfl, ?_⟩) ?_ ?_
         rotate_left
         ·
          intro w'
          go_simp
          with_reducible rfl
         rotate_left
         ·
          simp only [Act.put, List.setIfInBounds_toArray, List.set_cons_zero, List.set_cons_succ, i64_w, i32_w]
          rfl
         refine take_ (i := 0) (N := some 39) (v := ?_) (a' := ?_) #[true, true, true, true, true, false, false, true, false, false] rfl rfl (take_ofW HT_.out HW_.out (by kernel_rfl)) (fun _ _ _ h => h) (Or.inl ⟨by rfl, ?_⟩) hHeld ?_ ?_
         rotate_left
         ·
          rintro w' ⟨s0, s1, s2⟩
          go_simp
          with_reducible rfl
         rotate_left
         ·
          simp only [Act.put, List.setIfInBounds_toArray, List.set_cons_zero, List.set_cons_succ, i64_w, i32_w]
          rfl
         refine take_ (i := 5) (N := some 44) (v := ?_) (a' := ?_) #[true, true, true, true, true, true, false, true, false, false] rfl rfl (take_ofW HT_.out HW_.out (by kernel_rfl)) (fun _ _ _ h => h) (Or.inl ⟨by rfl, ?_⟩) hHeld ?_ ?_
         rotate_left
         ·
          rintro w' ⟨s0, s1, s2⟩
          go_simp
          with_reducible rfl
         rotate_left
         ·
          simp only [Act.put, List.setIfInBounds_toArray, List.set_cons_zero, List.set_cons_succ, i64_w, i32_w]
          rfl
         refine one_ (i := 6) (N := some 45) #[true, true, true, true, true, true, true, true, false, false] rfl rfl (one_of HT_.out (by kernel_rfl)) (by decide) (fun K hK => ?_)
         refine goes_ Tryd.func29 (by kernel_rfl) rfl #[.agg #[.int .i64 t570, .slice Ao24 t571.length co24], .slice Ao25 t574.length co25, .int .i64 (rd t579 x7_1)] (by rfl) rfl rfl (by (try simp only [List.map_toArray, List.map_cons, List.map_nil]); first | done | rfl | (simp only [List.length_drop, List.length_take]; rfl)) ?_
         with_reducible refine (impl_Reached.calls k1 t570 _ _ t571 _ _ t574 (rd t579 x7_1) t588 _ ?side1 ?side2 ?side3 ?side4 A33.out).mono ?_
         (case side1 => repeat (first | exact (Kd.R_reads' HO_579001.out).2.2 | (with_reducible refine Kd.C_alloc ?_ _) | (with_reducible refine Kd.C_drewN ?_ _) | (with_reducible refine Kd.C_drew ?_)))
         (case side2 => exact (Kd.R_reads' HO_579001.out).2.1)
         (case side3 => repeat (first | exact (Kd.R_reads' HO_4.out).2.2 | (with_reducible refine Kd.C_alloc ?_ _) | (with_reducible refine Kd.C_drewN ?_ _) | (with_reducible refine Kd.C_drew ?_)))
         (case side4 => exact (Kd.R_reads' HO_4.out).2.1)
         rintro e w37 ⟨v589, rfl, ho0, hb⟩
         have HS2_ := (hb.cell (World.block_lt_of_cell? _ _ (hHeld.2.2))).trans (hHeld.2.2)
         refine ⟨_, rfl, ?_⟩
         have n0_ := Aside0.mk (Kd.R_below (by (with_reducible repeat (first | apply Kd.R_alloc | apply Kd.R_drewN | apply Kd.R_drew)); exact HO_4.out) hb)
         have n1_ := Aside0.mk (Kd.R_elder' (by (with_reducible repeat (first | apply Kd.R_alloc | apply Kd.R_drewN | apply Kd.R_drew)); exact HO_6.out) (Kd.R_base ho0) hb)
         have n2_ := Aside0.mk (Kd.R_below (by (with_reducible repeat (first | apply Kd.R_alloc | apply Kd.R_drewN | apply Kd.R_drew)); exact HO_579001.out) hb)
         have n3_ := Aside0.mk (Kd.R_lower (Kd.R_new' ho0 (Kd.R_lt (by (with_reducible repeat (first | apply Kd.R_alloc | apply Kd.R_drewN | apply Kd.R_drew)); exact HO_6.out))) (below_size (by repeat (first | (with_reducible first | exact HB.out | apply below_alloc | apply pw_below_drewN | apply below_drew1 | refine below_set ?_ GE578.out) | exact HB.out))))
         have n4_ := Aside0.mk (blk_below (g := gb578) (o := .cells #[.int .i64 t570, .slice Ao24 t571.length co24] 39 (0, 0)) (by (with_reducible repeat (first | refine blk_drewN ?_ _ | refine blk_drew ?_ | refine blk_alloc ?_ _)); exact BK578.out) hb)
         have n5_ := Aside0.mk (below_step (by repeat (first | (with_reducible first | exact HB.out | apply below_alloc | apply pw_below_drewN | apply below_drew1 | refine below_set ?_ GE578.out) | exact HB.out)) hb)
         clear HO_4
         clear HO_6
         clear HO_579001
         clear BK578
         clear HB
         have HO_4 := n0_
         have HO_6 := n1_
         have HO_579001 := n2_
         have HO590 := n3_
         have BK578 := n4_
         have HB := n5_
         clear n0_ n1_ n2_ n3_ n4_ n5_
         (try clear hb)
         (try clear hb2)
         (try clear hk)
         (try clear hi)
         (try clear ho0)
         obtain ⟨Ao38, co38, eo38⟩ := Kd.R_slice HO590.out
         (first | subst eo38 | (injection eo38 with f1_ f2_ f3_; have f4_ := f1_.symm; have f5_ := f3_.symm; clear f1_ f2_ f3_; subst f4_; subst f5_))
         refine hK.out _ _ ⟨(blk_cell BK578.out 0).trans rfl, (blk_cell BK578.out 1).trans rfl, HS2_⟩ (fun hHeld => ?_)
         clear hK K
         refine norm_ (a' := ?_) ?_ ?_
         rotate_left
         ·
          show Act.put _ (some 45) _ = _
          simp only [Act.put, List.setIfInBounds_toArray, List.set_cons_zero, List.set_cons_succ, i64_w, i32_w]
          rfl
         refine one_ (i := 8) (N := some 47) #[true, true, true, true, true, true, true, true, true, false] rfl rfl (one_of HT_.out (by kernel_rfl)) (by decide) (fun K hK => ?_)
         refine goes_ Tryd.func18 (by kernel_rfl) rfl #[.slice Ao38 t588.length co38, .slice (some ad587) t579.length co29] (by rfl) rfl rfl (by (try simp only [List.map_toArray, List.map_cons, List.map_nil]); first | done | rfl | (simp only [List.length_drop, List.length_take]; rfl)) ?_
         with_reducible refine (laws_sameInts.calls k1 _ _ t588 _ _ t579 true _ ?side1 ?side2 ?side3 ?side4 A34.out).mono ?_
         (case side1 => repeat (first | exact (Kd.R_reads' HO590.out).2.2 | (with_reducible refine Kd.C_alloc ?_ _) | (with_reducible refine Kd.C_drewN ?_ _) | (with_reducible refine Kd.C_drew ?_)))
         (case side2 => exact (Kd.R_reads' HO590.out).2.1)
         (case side3 => repeat (first | exact (Kd.R_reads' HO_6.out).2.2 | (with_reducible refine Kd.C_alloc ?_ _) | (with_reducible refine Kd.C_drewN ?_ _) | (with_reducible refine Kd.C_drew ?_)))
         (case side4 => exact (Kd.R_reads' HO_6.out).2.1)
         rintro e w' ⟨rfl, ⟨nd, rfl⟩⟩
         refine ⟨_, rfl, ?_⟩
         refine hK.out _ _ ⟨(blk_cell BK578.out 0).trans rfl, (blk_cell BK578.out 1).trans rfl, hHeld.2.2⟩ (fun hHeld => ?_)
         clear hK K
         refine norm_ (a' := ?_) ?_ ?_
         rotate_left
         ·
          show Act.put _ (some 47) _ = _
          simp only [Act.put, List.setIfInBounds_toArray, List.set_cons_zero, List.set_cons_succ, i64_w, i32_w]
          rfl
         refine pure_ (i := 9) (N := some 48) (v := ?_) (a' := ?_) #[true, true, true, true, true, true, true, true, true, true] rfl rfl (any_of HT_.out (by kernel_rfl)) (fun _ _ _ h => h) (Or.inl ⟨by rfl, ?_⟩) ?_ ?_
         rotate_left
         ·
          intro w'
          go_simp
          with_reducible rfl
         rotate_left
         ·
          simp only [Act.put, List.setIfInBounds_toArray, List.set_cons_zero, List.set_cons_succ, i64_w, i32_w]
          rfl
         refine done_ (done_of HT_.out (by kernel_rfl)) ?_
         try go_wp2
         go_roundg k1
         case measure => have := HK1.out; omega
         case rel => exact ⟨(wrap64 (x7_1 + 1)), (by first | rfl | (simp; done) | (simp [*]; done)), H', ⟨by have := HK1.out; omega⟩, ⟨by (with_reducible repeat (first | apply Kd.R_alloc | apply Kd.R_drewN | apply Kd.R_drew)); exact HO_4.out⟩, ⟨by (with_reducible repeat (first | apply Kd.R_alloc | apply Kd.R_drewN | apply Kd.R_drew)); exact Kd.R_mono HO_6.out (fun _ hk => trivial)⟩, ⟨by (with_reducible repeat (first | apply Kd.R_alloc | apply Kd.R_drewN | apply Kd.R_drew)); exact HO_579001.out⟩, ⟨by (with_reducible repeat (first | refine blk_drewN ?_ _ | refine blk_drew ?_ | refine blk_alloc ?_ _)); exact BK578.out⟩, ⟨by repeat (first | (with_reducible first | exact HB.out | apply below_alloc | apply pw_below_drewN | apply below_drew1 | refine below_set ?_ GE578.out) | exact HB.out)⟩⟩
        ·
         replace c35 := Bool.eq_false_iff.mpr c35
         subst c35
         have H1 : (none) = some r := by rw [if_neg (show ¬ (false = true) by decide)] at H; exact H
         clear H
         have H := H1
         clear H1
         exact absurd H (by simp)
       ·
        rw [if_neg c32] at H
        exact absurd H (by simp)
      ·
       rw [if_neg c31] at H
       have c31b0 : decide (x7_1 < (t579.length : Int)) = false := decide_eq_false c31
       clear c31
       have H' := Aside0.mk H
       clear H
       go_wp2
       go_loopg [8] k1 (fun kq v8 w' => ∃ (x8_2 : Int), v8 = .int .i64 x8_2 ∧ Aside0 (laws_FnReached.l1 kq t574 t577 t579 x8_2 t570 t571 = some r) ∧ Aside0 (kq ≤ k1) ∧ Aside0 (Kd.R Kd.bool 4 w' w.heap.size (fun _ => True) (.slice Ao25 t574.length co25) t574) ∧ Aside0 (Kd.R (Kd.int .i64) 3 w' w.heap.size (fun _ => True) (.slice Ao29 t579.length co29) t579) ∧ Aside0 (Kd.R k52 52 w' w.heap.size (fun _ => True) (.slice Ao24 t571.length co24) t571) ∧ Aside0 (w'.heap[gb578]? = some (.cells #[.int .i64 t570, (.slice Ao24 t571.length co24)] 39 (0, 0))) ∧ Aside0 (Below w.heap.size w w'))
       case atStart => exact ⟨(0), (by first | rfl | (simp; done) | (simp [*]; done)), H', ⟨Nat.le_refl _⟩, ⟨by (with_reducible repeat (first | apply Kd.R_alloc | apply Kd.R_drewN | apply Kd.R_drew)); exact HO_4.out⟩, ⟨by (with_reducible repeat (first | apply Kd.R_alloc | apply Kd.R_drewN | apply Kd.R_drew)); exact HO_6.out⟩, ⟨by (with_reducible repeat (first | apply Kd.R_alloc | apply Kd.R_drewN | apply Kd.R_drew)); exact HO_579001.out⟩, ⟨by (with_reducible repeat (first | refine blk_drewN ?_ _ | refine blk_drew ?_ | refine blk_alloc ?_ _)); exact BK578.out⟩, ⟨by repeat (first | (with_reducible first | exact HB.out | apply below_alloc | apply pw_below_drewN | apply below_drew1 | refine below_set ?_ GE578.out) | exact HB.out)⟩⟩
       case round =>
        clear H'
        try clear c1
        try clear c2
        try clear c2b0
        try clear c2b1
        try clear p2
        try clear c3
        try clear p5
        try clear q5
        try clear hx5
        try clear p6
        try clear c7
        try clear c8
        try clear c8b0
        try clear c8b1
        try clear c8b2
        try clear c15
        try clear c18
        try clear c28
        try clear c29
        try clear c30
        try clear c31
        try clear c31b0
        try clear c32
        try clear c32b0
        try clear c35
        try clear hcz12_0
        try clear hcz12_1
        try clear hcz16_0
        try clear hcz16_1
        try clear hcz23_0
        try clear hcz23_1
        try clear hcz27_0
        try clear hcz27_1
        try clear hfz12_0
        try clear hfz12_1
        try clear hfz16_0
        try clear hfz16_1
        try clear hfz23_0
        try clear hfz23_1
        try clear hfz27_0
        try clear hfz27_1
        try clear hx587_0
        try clear p2
        try clear p587
        try clear q587
        obtain ⟨x8_2, rfl, HA, HK2, HO_4, HO_6, HO_579001, BK578, HB⟩ := hrel
        cases gk with
        | zero => exact absurd HA.out (by simp [laws_FnReached.l1])
        | succ k2 =>
         have H := HA.out
         clear HA
         simp only [laws_FnReached.l1] at H
         by_cases c39 : x8_2 < (t571.length : Int)
         ·
          rw [if_pos c39] at H
          have c39b0 : decide (x8_2 < (t571.length : Int)) = true := decide_eq_true c39
          clear c39
          by_cases c40 : 0 ≤ x8_2
          ·
           rw [if_pos c40] at H
           have c40b0 : decide (0 ≤ x8_2) = true := decide_eq_true c40
           clear c40
           by_cases c41 : x8_2 < (t574.length : Int)
           ·
            rw [if_pos c41] at H
            have c41b0 : decide (x8_2 < (t574.length : Int)) = true := decide_eq_true c41
            clear c41
            obtain ⟨bq42, hbq42⟩ : ∃ b_ : Bool, b_ = (rdOf false t574 x8_2) := ⟨_, rfl⟩
            replace H : (if bq42 = true then ((laws_hasInt.f k2 t579 ((rd_T52 t571 x8_2).f0)).bind fun t596 => ((laws_hasInt.f k2 t579 ((rd_T52 t571 x8_2).f1)).bind fun t598 => (if (t596 != t598) = true then (none) else (laws_FnReached.l1 k2 t574 t577 t579 (wrap64 (x8_2 + 1)) t570 t571)))) else (laws_FnReached.l1 k2 t574 t577 t579 (wrap64 (x8_2 + 1)) t570 t571)) = some r := by rw [← hbq42] at H; exact H
            have Nbq42 := Aside0.mk hbq42
            clear hbq42
            by_cases c43 : bq42 = true
            ·
             subst c43
             have H1 : ((laws_hasInt.f k2 t579 ((rd_T52 t571 x8_2).f0)).bind fun t596 => ((laws_hasInt.f k2 t579 ((rd_T52 t571 x8_2).f1)).bind fun t598 => (if (t596 != t598) = true then (none) else (laws_FnReached.l1 k2 t574 t577 t579 (wrap64 (x8_2 + 1)) t570 t571)))) = some r := by rw [if_pos rfl] at H; exact H
             clear H
             have H := H1
             clear H1
             replace H := Option.bind_eq_some_iff.mp H
             obtain ⟨t596, A440, H⟩ := H
             replace H : ((laws_hasInt.f k2 t579 ((rd_T52 t571 x8_2).f1)).bind fun t598 => (if (t596 != t598) = true then (none) else (laws_FnReached.l1 k2 t574 t577 t579 (wrap64 (x8_2 + 1)) t570 t571))) = some r := H
             have A44 := Aside0.mk A440
             clear A440
             replace H := Option.bind_eq_some_iff.mp H
             obtain ⟨t598, A450, H⟩ := H
             replace H : (if (t596 != t598) = true then (none) else (laws_FnReached.l1 k2 t574 t577 t579 (wrap64 (x8_2 + 1)) t570 t571)) = some r := H
             have A45 := Aside0.mk A450
             clear A450
             by_cases c46 : (t596 != t598) = true
             ·
              rw [if_pos c46] at H
              exact absurd H (by simp)
             ·
              rw [if_neg c46] at H
              have c46b0 : (t596 != t598) = false := by simpa using c46
              (try (have c46b1 : decide (t596 = t598) = true := by simpa using c46))
              (try (have c46b2 : (t596 == t598) = true := by simpa using c46))
              clear c46
              have H' := Aside0.mk H
              clear H
              have hcz47_0 : wr.cell? ⟨gb578, 0, none⟩ = some (.int .i64 t570) := (blk_cell BK578.out 0).trans rfl
              have hcz47_1 : wr.cell? ⟨gb578, 1, none⟩ = some (.slice Ao24 t571.length co24) := (blk_cell BK578.out 1).trans rfl
              have hfz47_0 := blk_frozen BK578.out 0
              have hfz47_1 := blk_frozen BK578.out 1
              try go_wp2
              have n0_ := Aside0.mk (Kd.R_drew HO_4.out)
              have n1_ := Aside0.mk (Kd.R_drew HO_6.out)
              have n2_ := Aside0.mk (Kd.R_drew HO_579001.out)
              have n3_ := Aside0.mk (blk_drew BK578.out)
              have n4_ := Aside0.mk (below_drew1 HB.out)
              clear HO_4
              clear HO_6
              clear HO_579001
              clear BK578
              clear HB
              have HO_4 := n0_
              have HO_6 := n1_
              have HO_579001 := n2_
              have BK578 := n3_
              have HB := n4_
              clear n0_ n1_ n2_ n3_ n4_
              have p594 : 0 ≤ (x8_2 : Int) := of_decide_eq_true (by first | (with_reducible assumption) | assumption)
              have q594 : x8_2 < (t574.length : Int) := of_decide_eq_true (by first | (with_reducible assumption) | assumption)
              obtain ⟨ad594, e594, hx594_0⟩ := Kd.at_bool (Kd.R_reads' HO_4.out).2.2 x8_2 p594 q594
              (try rw [← Nbq42.out] at hx594_0)
              cases e594
              replace p594 := eq_true p594
              replace q594 := eq_true q594
              have p595 : 0 ≤ (x8_2 : Int) := of_decide_eq_true (by first | (with_reducible assumption) | assumption)
              have q595 : x8_2 < (t571.length : Int) := of_decide_eq_true (by first | (with_reducible assumption) | assumption)
              obtain ⟨ad595, e595, hx595_0, hx595_1, hx595_2⟩ := at_T52 (Kd.R_reads' HO_579001.out).2.2 x8_2 p595 q595
              cases e595
              replace p595 := eq_true p595
              replace q595 := eq_true q595
              have p597 : 0 ≤ (x8_2 : Int) := of_decide_eq_true (by first | (with_reducible assumption) | assumption)
              have q597 : x8_2 < (t571.length : Int) := of_decide_eq_true (by first | (with_reducible assumption) | assumption)
              obtain ⟨ad597, e597, hx597_0, hx597_1, hx597_2⟩ := at_T52 (Kd.R_reads' HO_579001.out).2.2 x8_2 p597 q597
              obtain rfl : ad595 = ad597 := (by injection e597)
              replace p597 := eq_true p597
              replace q597 := eq_true q597
              refine start_ (n := 23) (S := fun w' => w'.cell? ⟨gb578, 0, none⟩ = some (.int .i64 t570) ∧ w'.cell? ⟨gb578, 1, none⟩ = some (.slice (some ad595) t571.length co24) ∧ w'.cell? (ad594.add (x8_2).toNat) = some (.bool true) ∧ w'.cell? (ad595.add ((x8_2).toNat * 3)) = some (.int .i64 ((rd_T52 t571 x8_2).f0)) ∧ w'.cell? ⟨(ad595.add ((x8_2).toNat * 3)).block, (ad595.add ((x8_2).toNat * 3)).off + 1, none⟩ = some (.int .i64 ((rd_T52 t571 x8_2).f1)) ∧ w'.cell? ⟨(ad595.add ((x8_2).toNat * 3)).block, (ad595.add ((x8_2).toNat * 3)).off + 2, none⟩ = some (.int .i64 ((rd_T52 t571 x8_2).f2)) ∧ w'.cell? (ad595.add ((x8_2).toNat * 3)) = some (.int .i64 ((rd_T52 t571 x8_2).f0)) ∧ w'.cell? ⟨(ad595.add ((x8_2).toNat * 3)).block, (ad595.add ((x8_2).toNat * 3)).off + 1, none⟩ = some (.int .i64 ((rd_T52 t571 x8_2).f1)) ∧ w'.cell? ⟨(ad595.add ((x8_2).toNat * 3)).block, (ad595.add ((x8_2).toNat * 3)).off + 2, none⟩ = some (.int .i64 ((rd_T52 t571 x8_2).f2))) (ds := []) #[false, false, false, false, false, false, false, false, false, false, false, false, false, false, false, false, false, false, false, false, false, false, false] (by kernel_rfl) rfl rfl ⟨(blk_cell BK578.out 0).trans rfl, (blk_cell BK578.out 1).trans rfl, hx594_0, hx595_0, hx595_1, hx595_2, hx597_0, hx597_1, hx597_2⟩ (fun hHeld => ?_); refine with_tabW laws_FnReached.tab17 laws_FnReached.bits17 (fun HT_ HW_ => ?_)
              generalize wr.drew = w48 at HO_4 HO_6 HO_579001 BK578 HB hx594_0 hx595_0 hx595_1 hx595_2 hx597_0 hx597_1 hx597_2 hHeld ⊢
              refine pure_ (i := 0) (N := some 56) (v := ?_) (a' := ?_) #[true, false, false, false, false, false, false, false, false, false, false, false, false, false, false, false, false, false, false, false, false, false, false] rfl rfl (any_of HT_.out (by kernel_rfl)) (fun _ _ _ h => h) (Or.inl ⟨by rfl, ?_⟩) ?_ ?_
              rotate_left
              ·
               intro w'
               go_simp
               with_reducible rfl
              rotate_left
              ·
               simp only [Act.put, List.setIfInBounds_toArray, List.set_cons_zero, List.set_cons_succ, i64_w, i32_w]
               rfl
              refine pure_ (i := 1) (N := some 57) (v := ?_) (a' := ?_) #[true, true, false, false, false, false, false, false, false, false, false, false, false, false, false, false, false, false, false, false, false, false, false] rfl rfl (any_of HT_.out (by kernel_rfl)) (fun _ _ _ h => h) (Or.inl ⟨by rfl, ?_⟩) ?_ ?_
              rotate_left
              ·
               intro w'
               go_simp
               with_reducible rfl
              rotate_left
              ·
               simp only [Act.put, List.setIfInBounds_toArray, List.set_cons_zero, List.set_cons_succ, i64_w, i32_w]
               rfl
              refine pure_ (i := 2) (N := some 58) (v := ?_) (a' := ?_) #[true, true, true, false, false, false, false, false, false, false, false, false, false, false, false, false, false, false, false, false, false, false, false] rfl rfl (any_of HT_.out (by kernel_rfl)) (fun _ _ _ h => h) (Or.inl ⟨by rfl, ?_⟩) ?_ ?_
              rotate_left
              ·
               intro w'
               go_simp
               with_reducible rfl
              rotate_left
              ·
               simp only [Act.put, List.setIfInBounds_toArray, List.set_cons_zero, List.set_cons_succ, i64_w, i32_w]
               rfl
              refine take_ (i := 3) (N := some 59) (v := ?_) (a' := ?_) #[true, true, true, true, false, false, false, false, false, false, false, false, false, false, false, false, false, false, false, false, false, false, false] rfl rfl (take_ofW HT_.out HW_.out (by kernel_rfl)) (fun _ _ _ h => h) (Or.inl ⟨by rfl, ?_⟩) hHeld ?_ ?_
              rotate_left
              ·
               rintro w' ⟨s0, s1, s2, s3, s4, s5, s6, s7, s8⟩
               go_simp
               with_reducible rfl
              rotate_left
              ·
               simp only [Act.put, List.setIfInBounds_toArray, List.set_cons_zero, List.set_cons_succ, i64_w, i32_w]
               rfl
              refine pure_ (i := 4) (N := some 60) (v := ?_) (a' := ?_) #[true, true, true, true, true, false, false, false, false, false, false, false, false, false, false, false, false, false, false, false, false, false, false] rfl rfl (any_of HT_.out (by kernel_rfl)) (fun _ _ _ h => h) (Or.inl ⟨by rfl, ?_⟩) ?_ ?_
              rotate_left
              ·
               intro w'
               go_simp
               with_reducible rfl
              rotate_left
              ·
               simp only [Act.put, List.setIfInBounds_toArray, List.set_cons_zero, List.set_cons_succ, i64_w, i32_w]
               rfl
              refine pure_ (i := 5) (N := some 61) (v := ?_) (a' := ?_) #[true, true, true, true, true, true, false, false, false, false, false, false, false, false, false, false, false, false, false, false, false, false, false] rfl rfl (any_of HT_.out (by kernel_rfl)) (fun _ _ _ h => h) (Or.inl ⟨by rfl, ?_⟩) ?_ ?_
              rotate_left
              ·
               intro w'
               go_simp
               with_reducible rfl
              rotate_left
              ·
               simp only [Act.put, List.setIfInBounds_toArray, List.set_cons_zero, List.set_cons_succ, i64_w, i32_w]
               rfl
              refine pure_ (i := 6) (N := some 62) (v := ?_) (a' := ?_) #[true, true, true, true, true, true, true, false, false, false, false, false, false, false, false, false, false, false, false, false, false, false, false] rfl rfl (any_of HT_.out (by kernel_rfl)) (fun _ _ _ h => h) (Or.inl ⟨by rfl, ?_⟩) ?_ ?_
              rotate_left
              ·
               intro w'
               go_simp
               with_reducible rfl
              rotate_left
              ·
               simp only [Act.put, List.setIfInBounds_toArray, List.set_cons_zero, List.set_cons_succ, i64_w, i32_w]
               rfl
              refine pure_ (i := 8) (N := some 64) (v := ?_) (a' := ?_) #[true, true, true, true, true, true, true, false, true, false, false, false, false, false, false, false, false, false, false, false, false, false, false] rfl rfl (any_of HT_.out (by kernel_rfl)) (fun _ _ _ h => h) (Or.inl ⟨by rfl, ?_⟩) ?_ ?_
              rotate_left
              ·
               intro w'
               go_simp
               with_reducible rfl
              rotate_left
              ·
               simp only [Act.put, List.setIfInBounds_toArray, List.set_cons_zero, List.set_cons_succ, i64_w, i32_w]
               rfl
              refine pure_ (i := 13) (N := some 69) (v := ?_) (a' := ?_) #[true, true, true, true, true, true, true, false, true, false, false, false, false, true, false, false, false, false, false, false, false, false, false] rfl rfl (any_of HT_.out (by kernel_rfl)) (fun _ _ _ h => h) (Or.inl ⟨by rfl, ?_⟩) ?_ ?_
              rotate_left
              ·
               intro w'
               go_simp
               with_reducible rfl
              rotate_left
              ·
               simp only [Act.put, List.setIfInBounds_toArray, List.set_cons_zero, List.set_cons_succ, i64_w, i32_w]
               rfl
              refine pure_ (i := 14) (N := some 70) (v := ?_) (a' := ?_) #[true, true, true, true, true, true, true, false, true, false, false, false, false, true, true, false, false, false, false, false, false, false, false] rfl rfl (any_of HT_.out (by kernel_rfl)) (fun _ _ _ h => h) (Or.inl ⟨by rfl, ?_⟩) ?_ ?_
              rotate_left
              ·
               intro w'
               go_simp
               with_reducible rfl
              rotate_left
              ·
               simp only [Act.put, List.setIfInBounds_toArray, List.set_cons_zero, List.set_cons_succ, i64_w, i32_w]
               rfl
              refine pure_ (i := 16) (N := some 72) (v := ?_) (a' := ?_) #[true, true, true, true, true, true, true, false, true, false, false, false, false, true, true, false, true, false, false, false, false, false, false] rfl rfl (any_of HT_.out (by kernel_rfl)) (fun _ _ _ h => h) (Or.inl ⟨by rfl, ?_⟩) ?_ ?_
              rotate_left
              ·
               intro w'
               go_simp
               with_reducible rfl
              rotate_left
              ·
               simp only [Act.put, List.setIfInBounds_toArray, List.set_cons_zero, List.set_cons_succ, i64_w, i32_w]
               rfl
              refine take_ (i := 7) (N := some 63) (v := ?_) (a' := ?_) #[true, true, true, true, true, true, true, true, true, false, false, false, false, true, true, false, true, false, false, false, false, false, false] rfl rfl (take_ofW HT_.out HW_.out (by kernel_rfl)) (fun _ _ _ h => h) (Or.inl ⟨by rfl, ?_⟩) hHeld ?_ ?_
              rotate_left
              ·
               rintro w' ⟨s0, s1, s2, s3, s4, s5, s6, s7, s8⟩
               go_simp
               with_reducible rfl
              rotate_left
              ·
               simp only [Act.put, List.setIfInBounds_toArray, List.set_cons_zero, List.set_cons_succ, i64_w, i32_w]
               rfl
              refine pure_ (i := 9) (N := some 65) (v := ?_) (a' := ?_) #[true, true, true, true, true, true, true, true, true, true, false, false, false, true, true, false, true, false, false, false, false, false, false] rfl rfl (any_of HT_.out (by kernel_rfl)) (fun _ _ _ h => h) (Or.inl ⟨by rfl, ?_⟩) ?_ ?_
              rotate_left
              ·
               intro w'
               go_simp
               with_reducible rfl
              rotate_left
              ·
               simp only [Act.put, List.setIfInBounds_toArray, List.set_cons_zero, List.set_cons_succ, i64_w, i32_w]
               rfl
              refine pure_ (i := 10) (N := some 66) (v := ?_) (a' := ?_) #[true, true, true, true, true, true, true, true, true, true, true, false, false, true, true, false, true, false, false, false, false, false, false] rfl rfl (any_of HT_.out (by kernel_rfl)) (fun _ _ _ h => h) (Or.inl ⟨by rfl, ?_⟩) ?_ ?_
              rotate_left
              ·
               intro w'
               go_simp
               with_reducible rfl
              rotate_left
              ·
               simp only [Act.put, List.setIfInBounds_toArray, List.set_cons_zero, List.set_cons_succ, i64_w, i32_w]
               rfl
              refine take_ (i := 11) (N := some 67) (v := ?_) (a' := ?_) #[true, true, true, true, true, true, true, true, true, true, true, true, false, true, true, false, true, false, false, false, false, false, false] rfl rfl (take_ofW HT_.out HW_.out (by kernel_rfl)) (fun _ _ _ h => h) (Or.inl ⟨by rfl, ?_⟩) hHeld ?_ ?_
              rotate_left
              ·
               rintro w' ⟨s0, s1, s2, s3, s4, s5, s6, s7, s8⟩
               go_simp
               with_reducible rfl
              rotate_left
              ·
               simp only [Act.put, List.setIfInBounds_toArray, List.set_cons_zero, List.set_cons_succ, i64_w, i32_w]
               rfl
              refine take_ (i := 15) (N := some 71) (v := ?_) (a' := ?_) #[true, true, true, true, true, true, true, true, true, true, true, true, false, true, true, true, true, false, false, false, false, false, false] rfl rfl (take_ofW HT_.out HW_.out (by kernel_rfl)) (fun _ _ _ h => h) (Or.inl ⟨by rfl, ?_⟩) hHeld ?_ ?_
              rotate_left
              ·
               rintro w' ⟨s0, s1, s2, s3, s4, s5, s6, s7, s8⟩
               go_simp
               with_reducible rfl
              rotate_left
              ·
               simp only [Act.put, List.setIfInBounds_toArray, List.set_cons_zero, List.set_cons_succ, i64_w, i32_w]
               rfl
              refine pure_ (i := 17) (N := some 73) (v := ?_) (a' := ?_) #[true, true, true, true, true, true, true, true, true, true, true, true, false, true, true, true, true, true, false, false, false, false, false] rfl rfl (any_of HT_.out (by kernel_rfl)) (fun _ _ _ h => h) (Or.inl ⟨by rfl, ?_⟩) ?_ ?_
              rotate_left
              ·
               intro w'
               go_simp
               with_reducible rfl
              rotate_left
              ·
               simp only [Act.put, List.setIfInBounds_toArray, List.set_cons_zero, List.set_cons_succ, i64_w, i32_w]
               rfl
              refine pure_ (i := 18) (N := some 74) (v := ?_) (a' := ?_) #[true, true, true, true, true, true, true, true, true, true, true, true, false, true, true, true, true, true, true, false, false, false, false] rfl rfl (any_of HT_.out (by kernel_rfl)) (fun _ _ _ h => h) (Or.inl ⟨by rfl, ?_⟩) ?_ ?_
              rotate_left
              ·
               intro w'
               go_simp
               with_reducible rfl
              rotate_left
              ·
               simp only [Act.put, List.setIfInBounds_toArray, List.set_cons_zero, List.set_cons_succ, i64_w, i32_w]
               rfl
              refine take_ (i := 19) (N := some 75) (v := ?_) (a' := ?_) #[true, true, true, true, true, true, true, true, true, true, true, true, false, true, true, true, true, true, true, true, false, false, false] rfl rfl (take_ofW HT_.out HW_.out (by kernel_rfl)) (fun _ _ _ h => h) (Or.inl ⟨by rfl, ?_⟩) hHeld ?_ ?_
              rotate_left
              ·
               rintro w' ⟨s0, s1, s2, s3, s4, s5, s6, s7, s8⟩
               go_simp
               with_reducible rfl
              rotate_left
              ·
               simp only [Act.put, List.setIfInBounds_toArray, List.set_cons_zero, List.set_cons_succ, i64_w, i32_w]
               rfl
              refine one_ (i := 12) (N := some 68) #[true, true, true, true, true, true, true, true, true, true, true, true, true, true, true, true, true, true, true, true, false, false, false] rfl rfl (one_of HT_.out (by kernel_rfl)) (by decide) (fun K hK => ?_)
              refine goes_ Tryd.func31 (by kernel_rfl) rfl #[.slice Ao29 t579.length co29, .int .i64 ((rd_T52 t571 x8_2).f0)] (by rfl) rfl rfl (by (try simp only [List.map_toArray, List.map_cons, List.map_nil]); first | done | rfl | (simp only [List.length_drop, List.length_take]; rfl)) ?_
              with_reducible refine (laws_hasInt.calls k2 _ _ t579 ((rd_T52 t571 x8_2).f0) t596 _ ?side1 ?side2 A44.out).mono ?_
              (case side1 => repeat (first | exact (Kd.R_reads' HO_6.out).2.2 | (with_reducible refine Kd.C_alloc ?_ _) | (with_reducible refine Kd.C_drewN ?_ _) | (with_reducible refine Kd.C_drew ?_)))
              (case side2 => exact (Kd.R_reads' HO_6.out).2.1)
              rintro e w' ⟨rfl, ⟨nd, rfl⟩⟩
              refine ⟨_, rfl, ?_⟩
              refine hK.out _ _ ⟨(blk_cell BK578.out 0).trans rfl, (blk_cell BK578.out 1).trans rfl, hHeld.2.2.1, hHeld.2.2.2.1, hHeld.2.2.2.2.1, hHeld.2.2.2.2.2.1, hHeld.2.2.2.2.2.2.1, hHeld.2.2.2.2.2.2.2.1, hHeld.2.2.2.2.2.2.2.2⟩ (fun hHeld => ?_)
              clear hK K
              refine norm_ (a' := ?_) ?_ ?_
              rotate_left
              ·
               show Act.put _ (some 68) _ = _
               simp only [Act.put, List.setIfInBounds_toArray, List.set_cons_zero, List.set_cons_succ, i64_w, i32_w]
               rfl
              refine one_ (i := 20) (N := some 76) #[true, true, true, true, true, true, true, true, true, true, true, true, true, true, true, true, true, true, true, true, true, false, false] rfl rfl (one_of HT_.out (by kernel_rfl)) (by decide) (fun K hK => ?_)
              refine goes_ Tryd.func31 (by kernel_rfl) rfl #[.slice Ao29 t579.length co29, .int .i64 ((rd_T52 t571 x8_2).f1)] (by rfl) rfl rfl (by (try simp only [List.map_toArray, List.map_cons, List.map_nil]); first | done | rfl | (simp only [List.length_drop, List.length_take]; rfl)) ?_
              with_reducible refine (laws_hasInt.calls k2 _ _ t579 ((rd_T52 t571 x8_2).f1) t598 _ ?side1 ?side2 A45.out).mono ?_
              (case side1 => repeat (first | exact (Kd.R_reads' HO_6.out).2.2 | (with_reducible refine Kd.C_alloc ?_ _) | (with_reducible refine Kd.C_drewN ?_ _) | (with_reducible refine Kd.C_drew ?_)))
              (case side2 => exact (Kd.R_reads' HO_6.out).2.1)
              rintro e w' ⟨rfl, ⟨nd, rfl⟩⟩
              refine ⟨_, rfl, ?_⟩
              refine hK.out _ _ ⟨(blk_cell BK578.out 0).trans rfl, (blk_cell BK578.out 1).trans rfl, hHeld.2.2.1, hHeld.2.2.2.1, hHeld.2.2.2.2.1, hHeld.2.2.2.2.2.1, hHeld.2.2.2.2.2.2.1, hHeld.2.2.2.2.2.2.2.1, hHeld.2.2.2.2.2.2.2.2⟩ (fun hHeld => ?_)
              clear hK K
              refine norm_ (a' := ?_) ?_ ?_
              rotate_left
              ·
               show Act.put _ (some 76) _ = _
               simp only [Act.put, List.setIfInBounds_toArray, List.set_cons_zero, List.set_cons_succ, i64_w, i32_w]
               rfl
              refine pure_ (i := 21) (N := some 77) (v := ?_) (a' := ?_) #[true, true, true, true, true, true, true, true, true, true, true, true, true, true, true, true, true, true, true, true, true, true, false] rfl rfl (any_of HT_.out (by kernel_rfl)) (fun _ _ _ h => h) (Or.inl ⟨by rfl, ?_⟩) ?_ ?_
              rotate_left
              ·
               intro w'
               go_simp
               with_reducible rfl
              rotate_left
              ·
               simp only [Act.put, List.setIfInBounds_toArray, List.set_cons_zero, List.set_cons_succ, i64_w, i32_w]
               rfl
              refine pure_ (i := 22) (N := some 78) (v := ?_) (a' := ?_) #[true, true, true, true, true, true, true, true, true, true, true, true, true, true, true, true, true, true, true, true, true, true, true] rfl rfl (any_of HT_.out (by kernel_rfl)) (fun _ _ _ h => h) (Or.inl ⟨by rfl, ?_⟩) ?_ ?_
              rotate_left
              ·
               intro w'
               go_simp
               with_reducible rfl
              rotate_left
              ·
               simp only [Act.put, List.setIfInBounds_toArray, List.set_cons_zero, List.set_cons_succ, i64_w, i32_w]
               rfl
              refine done_ (done_of HT_.out (by kernel_rfl)) ?_
              try go_wp2
              go_roundg k2
              case measure => have := HK1.out; have := HK2.out; omega
              case rel => exact ⟨(wrap64 (x8_2 + 1)), (by first | rfl | (simp; done) | (simp [*]; done)), H', ⟨by have := HK1.out; have := HK2.out; omega⟩, ⟨by (with_reducible repeat (first | apply Kd.R_alloc | apply Kd.R_drewN | apply Kd.R_drew)); exact HO_4.out⟩, ⟨by (with_reducible repeat (first | apply Kd.R_alloc | apply Kd.R_drewN | apply Kd.R_drew)); exact HO_6.out⟩, ⟨by (with_reducible repeat (first | apply Kd.R_alloc | apply Kd.R_drewN | apply Kd.R_drew)); exact HO_579001.out⟩, ⟨by (with_reducible repeat (first | refine blk_drewN ?_ _ | refine blk_drew ?_ | refine blk_alloc ?_ _)); exact BK578.out⟩, ⟨by repeat (first | (with_reducible first | exact HB.out | apply below_alloc | apply pw_below_drewN | apply below_drew1 | refine below_set ?_ GE578.out) | exact HB.out)⟩⟩
            ·
             replace c43 := Bool.eq_false_iff.mpr c43
             subst c43
             have H1 : (laws_FnReached.l1 k2 t574 t577 t579 (wrap64 (x8_2 + 1)) t570 t571) = some r := by rw [if_neg (show ¬ (false = true) by decide)] at H; exact H
             clear H
             have H := H1
             clear H1
             have H' := Aside0.mk H
             clear H
             have hcz49_0 : wr.cell? ⟨gb578, 0, none⟩ = some (.int .i64 t570) := (blk_cell BK578.out 0).trans rfl
             have hcz49_1 : wr.cell? ⟨gb578, 1, none⟩ = some (.slice Ao24 t571.length co24) := (blk_cell BK578.out 1).trans rfl
             have hfz49_0 := blk_frozen BK578.out 0
             have hfz49_1 := blk_frozen BK578.out 1
             try go_wp2
             have n0_ := Aside0.mk (Kd.R_drew HO_4.out)
             have n1_ := Aside0.mk (Kd.R_drew HO_6.out)
             have n2_ := Aside0.mk (Kd.R_drew HO_579001.out)
             have n3_ := Aside0.mk (blk_drew BK578.out)
             have n4_ := Aside0.mk (below_drew1 HB.out)
             clear HO_4
             clear HO_6
             clear HO_579001
             clear BK578
             clear HB
             have HO_4 := n0_
             have HO_6 := n1_
             have HO_579001 := n2_
             have BK578 := n3_
             have HB := n4_
             clear n0_ n1_ n2_ n3_ n4_
             have p594 : 0 ≤ (x8_2 : Int) := of_decide_eq_true (by first | (with_reducible assumption) | assumption)
             have q594 : x8_2 < (t574.length : Int) := of_decide_eq_true (by first | (with_reducible assumption) | assumption)
             obtain ⟨ad594, e594, hx594_0⟩ := Kd.at_bool (Kd.R_reads' HO_4.out).2.2 x8_2 p594 q594
             (try rw [← Nbq42.out] at hx594_0)
             cases e594
             replace p594 := eq_true p594
             replace q594 := eq_true q594
             refine start_ (n := 23) (S := fun w' => w'.cell? (ad594.add (x8_2).toNat) = some (.bool false)) (ds := []) #[false, false, false, false, false, false, false, false, false, false, false, false, false, false, false, false, false, false, false, false, false, false, false] (by kernel_rfl) rfl rfl (hx594_0) (fun hHeld => ?_); refine with_tabW laws_FnReached.tab17 laws_FnReached.bits17 (fun HT_ HW_ => ?_)
             generalize wr.drew = w50 at HO_4 HO_6 HO_579001 BK578 HB hx594_0 hHeld ⊢
             refine pure_ (i := 0) (N := some 56) (v := ?_) (a' := ?_) #[true, false, false, false, false, false, false, false, false, false, false, false, false, false, false, false, false, false, false, false, false, false, false] rfl rfl (any_of HT_.out (by kernel_rfl)) (fun _ _ _ h => h) (Or.inl ⟨by rfl, ?_⟩) ?_ ?_
             rotate_left
             ·
              intro w'
              go_simp
              with_reducible rfl
             rotate_left
             ·
              simp only [Act.put, List.setIfInBounds_toArray, List.set_cons_zero, List.set_cons_succ, i64_w, i32_w]
              rfl
             refine pure_ (i := 1) (N := some 57) (v := ?_) (a' := ?_) #[true, true, false, false, false, false, false, false, false, false, false, false, false, false, false, false, false, false, false, false, false, false, false] rfl rfl (any_of HT_.out (by kernel_rfl)) (fun _ _ _ h => h) (Or.inl ⟨by rfl, ?_⟩) ?_ ?_
             rotate_left
             ·
              intro w'
              go_simp
              with_reducible rfl
             rotate_left
             ·
              simp only [Act.put, List.setIfInBounds_toArray, List.set_cons_zero, List.set_cons_succ, i64_w, i32_w]
              rfl
             refine pure_ (i := 2) (N := some 58) (v := ?_) (a' := ?_) #[true, true, true, false, false, false, false, false, false, false, false, false, false, false, false, false, false, false, false, false, false, false, false] rfl rfl (any_of HT_.out (by kernel_rfl)) (fun _ _ _ h => h) (Or.inl ⟨by rfl, ?_⟩) ?_ ?_
             rotate_left
             ·
              intro w'
              go_simp
              with_reducible rfl
             rotate_left
             ·
              simp only [Act.put, List.setIfInBounds_toArray, List.set_cons_zero, List.set_cons_succ, i64_w, i32_w]
              rfl
             refine take_ (i := 3) (N := some 59) (v := ?_) (a' := ?_) #[true, true, true, true, false, false, false, false, false, false, false, false, false, false, false, false, false, false, false, false, false, false, false] rfl rfl (take_ofW HT_.out HW_.out (by kernel_rfl)) (fun _ _ _ h => h) (Or.inl ⟨by rfl, ?_⟩) hHeld ?_ ?_
             rotate_left
             ·
              intro w' s0
              go_simp
              with_reducible rfl
             rotate_left
             ·
              simp only [Act.put, List.setIfInBounds_toArray, List.set_cons_zero, List.set_cons_succ, i64_w, i32_w]
              rfl
             refine pure_ (i := 4) (N := some 60) (v := ?_) (a' := ?_) #[true, true, true, true, true, false, false, false, false, false, false, false, false, false, false, false, false, false, false, false, false, false, false] rfl rfl (any_of HT_.out (by kernel_rfl)) (fun _ _ _ h => h) (Or.inl ⟨by rfl, ?_⟩) ?_ ?_
             rotate_left
             ·
              intro w'
              go_simp
              with_reducible rfl
             rotate_left
             ·
              simp only [Act.put, List.setIfInBounds_toArray, List.set_cons_zero, List.set_cons_succ, i64_w, i32_w]
              rfl
             refine pure_ (i := 5) (N := some 61) (v := undef) (a' := ?_) #[true, true, true, true, true, true, false, false, false, false, false, false, false, false, false, false, false, false, false, false, false, false, false] rfl rfl (any_of HT_.out (by kernel_rfl)) (fun _ _ _ h => h) (Or.inr ⟨by rfl, rfl⟩) ?_ ?_
             rotate_left
             ·
              simp only [Act.put, List.setIfInBounds_toArray, List.set_cons_zero, List.set_cons_succ, i64_w, i32_w]
              rfl
             refine pure_ (i := 6) (N := some 62) (v := undef) (a' := ?_) #[true, true, true, true, true, true, true, false, false, false, false, false, false, false, false, false, false, false, false, false, false, false, false] rfl rfl (any_of HT_.out (by kernel_rfl)) (fun _ _ _ h => h) (Or.inr ⟨by rfl, rfl⟩) ?_ ?_
             rotate_left
             ·
              simp only [Act.put, List.setIfInBounds_toArray, List.set_cons_zero, List.set_cons_succ, i64_w, i32_w]
              rfl
             refine pure_ (i := 7) (N := some 63) (v := undef) (a' := ?_) #[true, true, true, true, true, true, true, true, false, false, false, false, false, false, false, false, false, false, false, false, false, false, false] rfl rfl (any_of HT_.out (by kernel_rfl)) (fun _ _ _ h => h) (Or.inr ⟨by rfl, rfl⟩) ?_ ?_
             rotate_left
             ·
              simp only [Act.put, List.setIfInBounds_toArray, List.set_cons_zero, List.set_cons_succ, i64_w, i32_w]
              rfl
             refine pure_ (i := 8) (N := some 64) (v := undef) (a' := ?_) #[true, true, true, true, true, true, true, true, true, false, false, false, false, false, false, false, false, false, false, false, false, false, false] rfl rfl (any_of HT_.out (by kernel_rfl)) (fun _ _ _ h => h) (Or.inr ⟨by rfl, rfl⟩) ?_ ?_
             rotate_left
             ·
              simp only [Act.put, List.setIfInBounds_toArray, List.set_cons_zero, List.set_cons_succ, i64_w, i32_w]
              rfl
             refine pure_ (i := 9) (N := some 65) (v := undef) (a' := ?_) #[true, true, true, true, true, true, true, true, true, true, false, false, false, false, false, false, false, false, false, false, false, false, false] rfl rfl (any_of HT_.out (by kernel_rfl)) (fun _ _ _ h => h) (Or.inr ⟨by rfl, rfl⟩) ?_ ?_
             rotate_left
             ·
              simp only [Act.put, List.setIfInBounds_toArray, List.set_cons_zero, List.set_cons_succ, i64_w, i32_w]
              rfl
             refine pure_ (i := 10) (N := some 66) (v := undef) (a' := ?_) #[true, true, true, true, true, true, true, true, true, true, true, false, false, false, false, false, false, false, false, false, false, false, false] rfl rfl (any_of HT_.out (by kernel_rfl)) (fun _ _ _ h => h) (Or.inr ⟨by rfl, rfl⟩) ?_ ?_
             rotate_left
             ·
              simp only [Act.put, List.setIfInBounds_toArray, List.set_cons_zero, List.set_cons_succ, i64_w, i32_w]
              rfl
             refine pure_ (i := 11) (N := some 67) (v := undef) (a' := ?_) #[true, true, true, true, true, true, true, true, true, true, true, true, false, false, false, false, false, false, false, false, false, false, false] rfl rfl (any_of HT_.out (by kernel_rfl)) (fun _ _ _ h => h) (Or.inr ⟨by rfl, rfl⟩) ?_ ?_
             rotate_left
             ·
              simp only [Act.put, List.setIfInBounds_toArray, List.set_cons_zero, List.set_cons_succ, i64_w, i32_w]
              rfl
             refine pure_ (i := 12) (N := some 68) (v := undef) (a' := ?_) #[true, true, true, true, true, true, true, true, true, true, true, true, true, false, false, false, false, false, false, false, false, false, false] rfl rfl (any_of HT_.out (by kernel_rfl)) (fun _ _ _ h => h) (Or.inr ⟨by rfl, rfl⟩) ?_ ?_
             rotate_left
             ·
              simp only [Act.put, List.setIfInBounds_toArray, List.set_cons_zero, List.set_cons_succ, i64_w, i32_w]
              rfl
             refine pure_ (i := 13) (N := some 69) (v := undef) (a' := ?_) #[true, true, true, true, true, true, true, true, true, true, true, true, true, true, false, false, false, false, false, false, false, false, false] rfl rfl (any_of HT_.out (by kernel_rfl)) (fun _ _ _ h => h) (Or.inr ⟨by rfl, rfl⟩) ?_ ?_
             rotate_left
             ·
              simp only [Act.put, List.setIfInBounds_toArray, List.set_cons_zero, List.set_cons_succ, i64_w, i32_w]
              rfl
             refine pure_ (i := 14) (N := some 70) (v := undef) (a' := ?_) #[true, true, true, true, true, true, true, true, true, true, true, true, true, true, true, false, false, false, false, false, false, false, false] rfl rfl (any_of HT_.out (by kernel_rfl)) (fun _ _ _ h => h) (Or.inr ⟨by rfl, rfl⟩) ?_ ?_
             rotate_left
             ·
              simp only [Act.put, List.setIfInBounds_toArray, List.set_cons_zero, List.set_cons_succ, i64_w, i32_w]
              rfl
             refine pure_ (i := 15) (N := some 71) (v := undef) (a' := ?_) #[true, true, true, true, true, true, true, true, true, true, true, true, true, true, true, true, false, false, false, false, false, false, false] rfl rfl (any_of HT_.out (by kernel_rfl)) (fun _ _ _ h => h) (Or.inr ⟨by rfl, rfl⟩) ?_ ?_
             rotate_left
             ·
              simp only [Act.put, List.setIfInBounds_toArray, List.set_cons_zero, List.set_cons_succ, i64_w, i32_w]
              rfl
             refine pure_ (i := 16) (N := some 72) (v := undef) (a' := ?_) #[true, true, true, true, true, true, true, true, true, true, true, true, true, true, true, true, true, false, false, false, false, false, false] rfl rfl (any_of HT_.out (by kernel_rfl)) (fun _ _ _ h => h) (Or.inr ⟨by rfl, rfl⟩) ?_ ?_
             rotate_left
             ·
              simp only [Act.put, List.setIfInBounds_toArray, List.set_cons_zero, List.set_cons_succ, i64_w, i32_w]
              rfl
             refine pure_ (i := 17) (N := some 73) (v := undef) (a' := ?_) #[true, true, true, true, true, true, true, true, true, true, true, true, true, true, true, true, true, true, false, false, false, false, false] rfl rfl (any_of HT_.out (by kernel_rfl)) (fun _ _ _ h => h) (Or.inr ⟨by rfl, rfl⟩) ?_ ?_
             rotate_left
             ·
              simp only [Act.put, List.setIfInBounds_toArray, List.set_cons_zero, List.set_cons_succ, i64_w, i32_w]
              rfl
             refine pure_ (i := 18) (N := some 74) (v := undef) (a' := ?_) #[true, true, true, true, true, true, true, true, true, true, true, true, true, true, true, true, true, true, true, false, false, false, false] rfl rfl (any_of HT_.out (by kernel_rfl)) (fun _ _ _ h => h) (Or.inr ⟨by rfl, rfl⟩) ?_ ?_
             rotate_left
             ·
              simp only [Act.put, List.setIfInBounds_toArray, List.set_cons_zero, List.set_cons_succ, i64_w, i32_w]
              rfl
             refine pure_ (i := 19) (N := some 75) (v := undef) (a' := ?_) #[true, true, true, true, true, true, true, true, true, true, true, true, true, true, true, true, true, true, true, true, false, false, false] rfl rfl (any_of HT_.out (by kernel_rfl)) (fun _ _ _ h => h) (Or.inr ⟨by rfl, rfl⟩) ?_ ?_
             rotate_left
             ·
              simp only [Act.put, List.setIfInBounds_toArray, List.set_cons_zero, List.set_cons_succ, i64_w, i32_w]
              rfl
             refine pure_ (i := 20) (N := some 76) (v := undef) (a' := ?_) #[true, true, true, true, true, true, true, true, true, true, true, true, true, true, true, true, true, true, true, true, true, false, false] rfl rfl (any_of HT_.out (by kernel_rfl)) (fun _ _ _ h => h) (Or.inr ⟨by rfl, rfl⟩) ?_ ?_
             rotate_left
             ·
              simp only [Act.put, List.setIfInBounds_toArray, List.set_cons_zero, List.set_cons_succ, i64_w, i32_w]
              rfl
             refine pure_ (i := 21) (N := some 77) (v := undef) (a' := ?_) #[true, true, true, true, true, true, true, true, true, true, true, true, true, true, true, true, true, true, true, true, true, true, false] rfl rfl (any_of HT_.out (by kernel_rfl)) (fun _ _ _ h => h) (Or.inr ⟨by rfl, rfl⟩) ?_ ?_
             rotate_left
             ·
              simp only [Act.put, List.setIfInBounds_toArray, List.set_cons_zero, List.set_cons_succ, i64_w, i32_w]
              rfl
             refine pure_ (i := 22) (N := some 78) (v := ?_) (a' := ?_) #[true, true, true, true, true, true, true, true, true, true, true, true, true, true, true, true, true, true, true, true, true, true, true] rfl rfl (any_of HT_.out (by kernel_rfl)) (fun _ _ _ h => h) (Or.inl ⟨by rfl, ?_⟩) ?_ ?_
             rotate_left
             ·
              intro w'
              go_simp
              with_reducible rfl
             rotate_left
             ·
              simp only [Act.put, List.setIfInBounds_toArray, List.set_cons_zero, List.set_cons_succ, i64_w, i32_w]
              rfl
             refine done_ (done_of HT_.out (by kernel_rfl)) ?_
             try go_wp2
             go_roundg k2
             case measure => have := HK1.out; have := HK2.out; omega
             case rel => exact ⟨(wrap64 (x8_2 + 1)), (by first | rfl | (simp; done) | (simp [*]; done)), H', ⟨by have := HK1.out; have := HK2.out; omega⟩, ⟨by (with_reducible repeat (first | apply Kd.R_alloc | apply Kd.R_drewN | apply Kd.R_drew)); exact HO_4.out⟩, ⟨by (with_reducible repeat (first | apply Kd.R_alloc | apply Kd.R_drewN | apply Kd.R_drew)); exact HO_6.out⟩, ⟨by (with_reducible repeat (first | apply Kd.R_alloc | apply Kd.R_drewN | apply Kd.R_drew)); exact HO_579001.out⟩, ⟨by (with_reducible repeat (first | refine blk_drewN ?_ _ | refine blk_drew ?_ | refine blk_alloc ?_ _)); exact BK578.out⟩, ⟨by repeat (first | (with_reducible first | exact HB.out | apply below_alloc | apply pw_below_drewN | apply below_drew1 | refine below_set ?_ GE578.out) | exact HB.out)⟩⟩
           ·
            rw [if_neg c41] at H
            exact absurd H (by simp)
          ·
           rw [if_neg c40] at H
           exact absurd H (by simp)
         ·
          rw [if_neg c39] at H
          have c39b0 : decide (x8_2 < (t571.length : Int)) = false := decide_eq_false c39
          clear c39
          replace H := Option.bind_eq_some_iff.mp H
          obtain ⟨t592, A510, H⟩ := H
          replace H : (if t592 = true then ((laws_ascend.f k2 t579).bind fun t593 => (some t593)) else (none)) = some r := H
          have A51 := Aside0.mk A510
          clear A510
          by_cases c52 : t592 = true
          ·
           subst c52
           have H1 : ((laws_ascend.f k2 t579).bind fun t593 => (some t593)) = some r := by rw [if_pos rfl] at H; exact H
           clear H
           have H := H1
           clear H1
           replace H := Option.bind_eq_some_iff.mp H
           obtain ⟨t593, A530, H⟩ := H
           replace H : (some t593) = some r := H
           have A53 := Aside0.mk A530
           clear A530
           obtain rfl := Option.some.inj H
           have hcz54_0 : wr.cell? ⟨gb578, 0, none⟩ = some (.int .i64 t570) := (blk_cell BK578.out 0).trans rfl
           have hcz54_1 : wr.cell? ⟨gb578, 1, none⟩ = some (.slice Ao24 t571.length co24) := (blk_cell BK578.out 1).trans rfl
           have hfz54_0 := blk_frozen BK578.out 0
           have hfz54_1 := blk_frozen BK578.out 1
           go_wp2_with (first | ((with_reducible refine gate_callee (f := 31) rfl ?_); refine goesL_ (some 81) rfl rfl Tryd.func31 (by kernel_rfl) rfl #[.slice Ao29 t579.length co29, .int .i64 t577] rfl (by (try simp only [List.map_toArray, List.map_cons, List.map_nil]); first | done | rfl | (simp only [List.length_drop, List.length_take]; rfl)) ?_; (with_reducible refine (laws_hasInt.calls k2 _ _ t579 t577 true _ ?side1 ?side2 A51.out).mono ?_); (case side1 => repeat (first | exact (Kd.R_reads' HO_6.out).2.2 | (with_reducible refine Kd.C_alloc ?_ _) | (with_reducible refine Kd.C_drewN ?_ _) | (with_reducible refine Kd.C_drew ?_))); (case side2 => exact (Kd.R_reads' HO_6.out).2.1); rintro e w' ⟨rfl, ⟨nd, rfl⟩⟩; refine ⟨_, rfl, ?_⟩) | (go_at_call 20; (with_reducible refine (laws_ascend.calls k2 _ _ t579 t593 _ ?side1 ?side2 A53.out).mono ?_); (case side1 => repeat (first | exact (Kd.R_reads' HO_6.out).2.2 | (with_reducible refine Kd.C_alloc ?_ _) | (with_reducible refine Kd.C_drewN ?_ _) | (with_reducible refine Kd.C_drew ?_))); (case side2 => exact (Kd.R_reads' HO_6.out).2.1); rintro e w' ⟨rfl, ⟨nd, rfl⟩⟩))
           go_ret
           exact ⟨by first | rfl | (simp [errW_none, errW_some] <;> rfl) | (simp [*, errW_none, errW_some] <;> rfl), by repeat (first | (with_reducible first | exact HB.out | apply below_alloc | apply pw_below_drewN | apply below_drew1 | refine below_set ?_ GE578.out) | exact HB.out)⟩
          ·
           replace c52 := Bool.eq_false_iff.mpr c52
           subst c52
           have H1 : (none) = some r := by rw [if_neg (show ¬ (false = true) by decide)] at H; exact H
           clear H
           have H := H1
           clear H1
           exact absurd H (by simp)
  ·
   replace c7 := Bool.eq_false_iff.mpr c7
   subst c7
   have H1 : (none) = some r := by rw [if_neg (show ¬ (false = true) by decide)] at H; exact H
   clear H
   have H := H1
   clear H1
   exact absurd H (by simp)

end Go.Proofs.YthkdkjmnnpcdhaaDoor.P

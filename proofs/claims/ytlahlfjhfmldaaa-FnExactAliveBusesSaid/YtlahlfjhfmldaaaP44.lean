/- Contracts of Go functions of this seat's translation, written by this repo's wip/mk.py: it calls the kit's print.py with contracts typed by hand in place of functions that it does not take. Not trusted: Lean checks it. -/
import Derived.Test.YtlahlfjhfmldaaaP0
import Derived.Test.YtlahlfjhfmldaaaP4
import Derived.Test.YtlahlfjhfmldaaaP13
import Derived.Test.YtlahlfjhfmldaaaP16
import Derived.Test.YtlahlfjhfmldaaaP19
import Derived.Test.YtlahlfjhfmldaaaP31
import Derived.Test.YtlahlfjhfmldaaaP36
import Derived.Test.YtlahlfjhfmldaaaP37
import Derived.Test.YtlahlfjhfmldaaaP40
import Derived.Test.YtlahlfjhfmldaaaP43
namespace Go.Proofs.Ytlahlfjhfmldaaa.P
open Go.RowKit Go.Proofs.YtlahlfjhfmldaaaW.PrintWords Go.Proofs.YtlahlfjhfmldaaaW.PrintLast Go.Proofs.YtlahlfjhfmldaaaW.PrintMore
attribute [local go_sem] max2_int min2_int max_two min_two max_three min_three max_four min_four   -- for this text's walks alone
set_option linter.unusedVariables false
set_option linter.unusedSimpArgs false

/-! ### laws_FnExactAliveBuses: function 3 -/
def laws_FnExactAliveBuses.j0 : Nat → List Bool → List (S55) → List Int → List Int → Bool → Int → List (S79) → Option (Bool)
 | 0, _, _, _, _, _, _, _ => none
 | k + 1, x1, x2, x8, x12, x82, x265000, x265001 => if x82 = true then (none) else ((laws_markIntS.f k x12 1).bind fun bt315 => ((laws_heldIntS.f k bt315.2 1).bind fun t317 => (if t317 < 0 then (none) else (if t317 = bt315.1 then ((laws_toNet.f k x265000 x265001).bind fun bt318 => ((laws_toBoolS.f k x1).bind fun t322 => ((laws_toBusS.f k x2).bind fun t325 => ((impl_AliveBuses.f k bt318.1 bt318.2 t322 t325).bind fun t328 => ((laws_eqIntS.f k t328 x8).bind fun t331 => (if t331 = true then ((laws_heldIntS.f k bt315.2 1).bind fun t332 => (if t332 < 0 then (none) else (if t332 = bt315.1 then (some true) else (none)))) else (none))))))) else (none)))))
def laws_FnExactAliveBuses.f (k : Nat) (a0_0 : Int) (l0_1 : List (S79)) (l1 : List Bool) (l2 : List (S55)) : Option (Bool) := if (l1.length : Int) > 1048576 then (some true) else ((laws_szNet.f a0_0 l0_1 1048576).bind fun t265 => (if t265 < 0 then (some true) else ((laws_szBusS.f l2 t265).bind fun t266 => (if t266 < 0 then (some true) else ((laws_toNet.f k a0_0 l0_1).bind fun bt267 => ((laws_toBoolS.f k l1).bind fun t271 => ((laws_toBusS.f k l2).bind fun t274 => ((spec_AliveBuses.f k bt267.1 bt267.2 t271 t274).bind fun t277 => ((laws_toNet.f k a0_0 l0_1).bind fun bt280 => ((laws_toBoolS.f k l1).bind fun t285 => ((laws_toBusS.f k l2).bind fun t288 => ((impl_AliveBuses.f k bt280.1 bt280.2 t285 t288).bind fun t291 => ((laws_eqIntS.f k t291 t277).bind fun t294 => (if t294 = true then ((laws_toNet.f k a0_0 l0_1).bind fun bt295 => ((laws_eqNet.f k bt280.1 bt280.2 bt295.1 bt295.2).bind fun t299 => (if t299 = true then ((laws_toBoolS.f k l1).bind fun t300 => ((laws_eqBoolS.f k t285 t300).bind fun t303 => (if t303 = true then ((laws_toBusS.f k l2).bind fun t304 => ((laws_eqBusS.f k t288 t304).bind fun t307 => (if t307 = true then ((laws_markNet.f k bt280.1 bt280.2 1).bind fun bt308 => ((laws_markBoolS.f k t285 bt308.1).bind fun bt310 => ((laws_markBusS.f k t288 bt310.1).bind fun bt312 => (if bt312.1 < 0 then (laws_FnExactAliveBuses.j0 k l1 l2 t277 t291 true a0_0 l0_1) else ((laws_eqIntS.f k t291 t277).bind fun t314 => (laws_FnExactAliveBuses.j0 k l1 l2 t277 t291 (!t314) a0_0 l0_1)))))) else (none)))) else (none)))) else (none)))) else (none)))))))))))))))
theorem laws_FnExactAliveBuses.mono_l : ∀ k, (∀ y0 y1 y2 y3 y4 y5 y6, LeO (laws_FnExactAliveBuses.j0 k y0 y1 y2 y3 y4 y5 y6) (laws_FnExactAliveBuses.j0 (k + 1) y0 y1 y2 y3 y4 y5 y6))
 | 0 => fun _ _ _ _ _ _ _ r h => by simp [laws_FnExactAliveBuses.j0] at h
 | k + 1 => by
  have ih0 := laws_FnExactAliveBuses.mono_l k
  ·
   intro y0 y1 y2 y3 y4 y5 y6
   unfold laws_FnExactAliveBuses.j0
   repeat' first
   | (with_reducible exact ih0 _ _ _ _ _ _ _)
   | (with_reducible exact impl_AliveBuses.mono _ _ _ _ _)
   | (with_reducible exact laws_eqBoolS.mono _ _ _)
   | (with_reducible exact laws_eqBusS.mono _ _ _)
   | (with_reducible exact laws_eqIntS.mono _ _ _)
   | (with_reducible exact laws_eqNet.mono _ _ _ _ _)
   | (with_reducible exact laws_heldIntS.mono _ _ _)
   | (with_reducible exact laws_markBoolS.mono _ _ _)
   | (with_reducible exact laws_markBusS.mono _ _ _)
   | (with_reducible exact laws_markIntS.mono _ _ _)
   | (with_reducible exact laws_markNet.mono _ _ _ _)
   | (with_reducible exact laws_toBoolS.mono _ _)
   | (with_reducible exact laws_toBusS.mono _ _)
   | (with_reducible exact laws_toNet.mono _ _ _)
   | (with_reducible exact spec_AliveBuses.mono _ _ _ _ _)
   | (with_reducible exact LeO.refl _)
   | (with_reducible exact LeO.none _)
   | (with_reducible refine LeO.ite ?_ ?_)
   | (with_reducible refine LeO.bind ?_ (fun _ => ?_))
   | exact ih0 _ _ _ _ _ _ _
   | exact impl_AliveBuses.mono _ _ _ _ _
   | exact laws_eqBoolS.mono _ _ _
   | exact laws_eqBusS.mono _ _ _
   | exact laws_eqIntS.mono _ _ _
   | exact laws_eqNet.mono _ _ _ _ _
   | exact laws_heldIntS.mono _ _ _
   | exact laws_markBoolS.mono _ _ _
   | exact laws_markBusS.mono _ _ _
   | exact laws_markIntS.mono _ _ _
   | exact laws_markNet.mono _ _ _ _
   | exact laws_toBoolS.mono _ _
   | exact laws_toBusS.mono _ _
   | exact laws_toNet.mono _ _ _
   | exact spec_AliveBuses.mono _ _ _ _ _
   | exact LeO.none _
   | refine LeO.ite ?_ ?_
   | refine LeO.bind ?_ (fun _ => ?_)
theorem laws_FnExactAliveBuses.mono : ∀ a0 a1 a2 a3 k, LeO (laws_FnExactAliveBuses.f k a0 a1 a2 a3) (laws_FnExactAliveBuses.f (k + 1) a0 a1 a2 a3) := by
 intro a0 a1 a2 a3 k
 have ih0 := laws_FnExactAliveBuses.mono_l k
 unfold laws_FnExactAliveBuses.f
 repeat' first
   | (with_reducible exact ih0 _ _ _ _ _ _ _)
   | (with_reducible exact impl_AliveBuses.mono _ _ _ _ _)
   | (with_reducible exact laws_eqBoolS.mono _ _ _)
   | (with_reducible exact laws_eqBusS.mono _ _ _)
   | (with_reducible exact laws_eqIntS.mono _ _ _)
   | (with_reducible exact laws_eqNet.mono _ _ _ _ _)
   | (with_reducible exact laws_heldIntS.mono _ _ _)
   | (with_reducible exact laws_markBoolS.mono _ _ _)
   | (with_reducible exact laws_markBusS.mono _ _ _)
   | (with_reducible exact laws_markIntS.mono _ _ _)
   | (with_reducible exact laws_markNet.mono _ _ _ _)
   | (with_reducible exact laws_toBoolS.mono _ _)
   | (with_reducible exact laws_toBusS.mono _ _)
   | (with_reducible exact laws_toNet.mono _ _ _)
   | (with_reducible exact spec_AliveBuses.mono _ _ _ _ _)
   | (with_reducible exact LeO.refl _)
   | (with_reducible exact LeO.none _)
   | (with_reducible refine LeO.ite ?_ ?_)
   | (with_reducible refine LeO.bind ?_ (fun _ => ?_))
   | exact ih0 _ _ _ _ _ _ _
   | exact impl_AliveBuses.mono _ _ _ _ _
   | exact laws_eqBoolS.mono _ _ _
   | exact laws_eqBusS.mono _ _ _
   | exact laws_eqIntS.mono _ _ _
   | exact laws_eqNet.mono _ _ _ _ _
   | exact laws_heldIntS.mono _ _ _
   | exact laws_markBoolS.mono _ _ _
   | exact laws_markBusS.mono _ _ _
   | exact laws_markIntS.mono _ _ _
   | exact laws_markNet.mono _ _ _ _
   | exact laws_toBoolS.mono _ _
   | exact laws_toBusS.mono _ _
   | exact laws_toNet.mono _ _ _
   | exact spec_AliveBuses.mono _ _ _ _ _
   | exact LeO.none _
   | refine LeO.ite ?_ ?_
   | refine LeO.bind ?_ (fun _ => ?_)
set_option maxHeartbeats 8000000 in
set_option maxRecDepth 100000 in
theorem laws_FnExactAliveBuses.calls (k : Nat) (a0_0 : Int) (A0_1 : Option Addr) (c0_1 : Nat) (l0_1 : List (S79)) (A1 : Option Addr) (c1 : Nat) (l1 : List Bool) (A2 : Option Addr) (c2 : Nat) (l2 : List (S55)) (r : Bool) (w : World) (hr0_1 : Kd.C k79 w A0_1 l0_1.length l0_1) (hc0_1 : l0_1.length ≤ c0_1) (hr1 : Kd.C Kd.bool w A1 l1.length l1) (hc1 : l1.length ≤ c1) (hr2 : Kd.C k55 w A2 l2.length l2) (hc2 : l2.length ≤ c2) (h : laws_FnExactAliveBuses.f k a0_0 l0_1 l1 l2 = some r) :
  Calls Try.prog 3 #[.agg #[.int .i64 a0_0, .slice A0_1 l0_1.length c0_1], .slice A1 l1.length c1, .slice A2 l2.length c2] w fun e w' => e = .returned (.bool r) ∧ Below w.heap.size w w' := by
 have hu24 := Try.underlying24
 have hu33 := Try.underlying33
 have HR0_1 := Aside0.mk hr0_1
 have HC0_1 := Aside0.mk hc0_1
 clear hr0_1 hc0_1
 have HR1 := Aside0.mk hr1
 have HC1 := Aside0.mk hc1
 clear hr1 hc1
 have HR2 := Aside0.mk hr2
 have HC2 := Aside0.mk hc2
 clear hr2 hc2
 have HB := Aside0.mk (Below.refl w.heap.size w)
 have H : (if (l1.length : Int) > 1048576 then (some true) else ((laws_szNet.f a0_0 l0_1 1048576).bind fun t265 => (if t265 < 0 then (some true) else ((laws_szBusS.f l2 t265).bind fun t266 => (if t266 < 0 then (some true) else ((laws_toNet.f k a0_0 l0_1).bind fun bt267 => ((laws_toBoolS.f k l1).bind fun t271 => ((laws_toBusS.f k l2).bind fun t274 => ((spec_AliveBuses.f k bt267.1 bt267.2 t271 t274).bind fun t277 => ((laws_toNet.f k a0_0 l0_1).bind fun bt280 => ((laws_toBoolS.f k l1).bind fun t285 => ((laws_toBusS.f k l2).bind fun t288 => ((impl_AliveBuses.f k bt280.1 bt280.2 t285 t288).bind fun t291 => ((laws_eqIntS.f k t291 t277).bind fun t294 => (if t294 = true then ((laws_toNet.f k a0_0 l0_1).bind fun bt295 => ((laws_eqNet.f k bt280.1 bt280.2 bt295.1 bt295.2).bind fun t299 => (if t299 = true then ((laws_toBoolS.f k l1).bind fun t300 => ((laws_eqBoolS.f k t285 t300).bind fun t303 => (if t303 = true then ((laws_toBusS.f k l2).bind fun t304 => ((laws_eqBusS.f k t288 t304).bind fun t307 => (if t307 = true then ((laws_markNet.f k bt280.1 bt280.2 1).bind fun bt308 => ((laws_markBoolS.f k t285 bt308.1).bind fun bt310 => ((laws_markBusS.f k t288 bt310.1).bind fun bt312 => (if bt312.1 < 0 then (laws_FnExactAliveBuses.j0 k l1 l2 t277 t291 true a0_0 l0_1) else ((laws_eqIntS.f k t291 t277).bind fun t314 => (laws_FnExactAliveBuses.j0 k l1 l2 t277 t291 (!t314) a0_0 l0_1)))))) else (none)))) else (none)))) else (none)))) else (none)))))))))))))))) = some r := h
 clear h
 by_cases c4 : (l1.length : Int) > 1048576
 ·
  rw [if_pos c4] at H
  have c4b0 : decide (1048576 < (l1.length : Int)) = true := decide_eq_true c4
  have c4b1 : decide (1048576 < l1.length) = true := decide_eq_true (by omega)
  clear c4
  obtain rfl := Option.some.inj H
  go_enter Try.func3, Try.ntmps3
  go_wp2_with (first | ((with_reducible refine gate_dst (N := 3) rfl ?_); refine box_event ?hg (N := 3) ?hd (cs := #[.int .i64 a0_0, .slice A0_1 l0_1.length c0_1]) (t := 24) ?hr ?_; (case hd => rfl); (case hg => rfl); (case hr => first | (go_simp; done) | (go_simp; rfl)); intro gb264 hg w5 hbox hb; have n0_ := Aside0.mk (below_step (by repeat (first | (with_reducible first | exact HB.out | apply below_alloc | apply pw_below_drewN | apply below_drew1) | exact HB.out)) hb); have n1_ := Aside0.mk (hbox); have n2_ := Aside0.mk ((by rw [hg]; exact (below_size (by repeat (first | (with_reducible first | exact HB.out | apply below_alloc | apply pw_below_drewN | apply below_drew1) | exact HB.out))) : w.heap.size ≤ gb264)); have n3_ := Aside0.mk ((by rw [hg]; exact (below_size (by repeat (first | (with_reducible first | exact HB.out | apply below_alloc | apply pw_below_drewN | apply below_drew1) | exact HB.out))) : w.heap.size ≤ gb264)); clear HB; have HB := n0_; have BK264 := n1_; have GW264 := n2_; have GE264 := n3_; clear n0_ n1_ n2_ n3_; clear hb hbox hg))
  go_ret
  exact ⟨by first | rfl | (simp [errW_none, errW_some] <;> rfl) | (simp [*, errW_none, errW_some] <;> rfl), by repeat (first | (with_reducible first | exact HB.out | apply below_alloc | apply pw_below_drewN | apply below_drew1 | refine below_set ?_ GE264.out) | exact HB.out)⟩
 rw [if_neg c4] at H
 have c4b0 : decide (1048576 < (l1.length : Int)) = false := decide_eq_false c4
 have c4b1 : decide (1048576 < l1.length) = false := decide_eq_false (by omega)
 clear c4
 replace H := Option.bind_eq_some_iff.mp H
 obtain ⟨t265, A60, H⟩ := H
 replace H : (if t265 < 0 then (some true) else ((laws_szBusS.f l2 t265).bind fun t266 => (if t266 < 0 then (some true) else ((laws_toNet.f k a0_0 l0_1).bind fun bt267 => ((laws_toBoolS.f k l1).bind fun t271 => ((laws_toBusS.f k l2).bind fun t274 => ((spec_AliveBuses.f k bt267.1 bt267.2 t271 t274).bind fun t277 => ((laws_toNet.f k a0_0 l0_1).bind fun bt280 => ((laws_toBoolS.f k l1).bind fun t285 => ((laws_toBusS.f k l2).bind fun t288 => ((impl_AliveBuses.f k bt280.1 bt280.2 t285 t288).bind fun t291 => ((laws_eqIntS.f k t291 t277).bind fun t294 => (if t294 = true then ((laws_toNet.f k a0_0 l0_1).bind fun bt295 => ((laws_eqNet.f k bt280.1 bt280.2 bt295.1 bt295.2).bind fun t299 => (if t299 = true then ((laws_toBoolS.f k l1).bind fun t300 => ((laws_eqBoolS.f k t285 t300).bind fun t303 => (if t303 = true then ((laws_toBusS.f k l2).bind fun t304 => ((laws_eqBusS.f k t288 t304).bind fun t307 => (if t307 = true then ((laws_markNet.f k bt280.1 bt280.2 1).bind fun bt308 => ((laws_markBoolS.f k t285 bt308.1).bind fun bt310 => ((laws_markBusS.f k t288 bt310.1).bind fun bt312 => (if bt312.1 < 0 then (laws_FnExactAliveBuses.j0 k l1 l2 t277 t291 true a0_0 l0_1) else ((laws_eqIntS.f k t291 t277).bind fun t314 => (laws_FnExactAliveBuses.j0 k l1 l2 t277 t291 (!t314) a0_0 l0_1)))))) else (none)))) else (none)))) else (none)))) else (none)))))))))))))) = some r := H
 have A6 := Aside0.mk A60
 clear A60
 by_cases c7 : t265 < 0
 ·
  rw [if_pos c7] at H
  have c7b0 : decide (t265 < 0) = true := decide_eq_true c7
  clear c7
  obtain rfl := Option.some.inj H
  go_enter Try.func3, Try.ntmps3
  go_wp2_with (first | ((with_reducible refine gate_dst (N := 3) rfl ?_); refine box_event ?hg (N := 3) ?hd (cs := #[.int .i64 a0_0, .slice A0_1 l0_1.length c0_1]) (t := 24) ?hr ?_; (case hd => rfl); (case hg => rfl); (case hr => first | (go_simp; done) | (go_simp; rfl)); intro gb264 hg w8 hbox hb; have n0_ := Aside0.mk (below_step (by repeat (first | (with_reducible first | exact HB.out | apply below_alloc | apply pw_below_drewN | apply below_drew1) | exact HB.out)) hb); have n1_ := Aside0.mk (hbox); have n2_ := Aside0.mk ((by rw [hg]; exact (below_size (by repeat (first | (with_reducible first | exact HB.out | apply below_alloc | apply pw_below_drewN | apply below_drew1) | exact HB.out))) : w.heap.size ≤ gb264)); have n3_ := Aside0.mk ((by rw [hg]; exact (below_size (by repeat (first | (with_reducible first | exact HB.out | apply below_alloc | apply pw_below_drewN | apply below_drew1) | exact HB.out))) : w.heap.size ≤ gb264)); clear HB; have HB := n0_; have BK264 := n1_; have GW264 := n2_; have GE264 := n3_; clear n0_ n1_ n2_ n3_; clear hb hbox hg; have hcz9_0 : w8.cell? ⟨gb264, 0, none⟩ = some (.int .i64 a0_0) := (blk_cell BK264.out 0).trans rfl; have hcz9_1 : w8.cell? ⟨gb264, 1, none⟩ = some (.slice A0_1 l0_1.length c0_1) := (blk_cell BK264.out 1).trans rfl; have hfz9_0 := blk_frozen BK264.out 0; have hfz9_1 := blk_frozen BK264.out 1) | ((with_reducible refine gate_callee (f := 6) rfl ?_); refine goesL_ (some 22) rfl rfl Try.func6 (by kernel_rfl) rfl #[.agg #[.int .i64 a0_0, .slice A0_1 l0_1.length c0_1], .int .i64 1048576] rfl (by (try simp only [List.map_toArray, List.map_cons, List.map_nil]); first | done | rfl | (simp only [List.length_drop, List.length_take]; rfl)) ?_; (with_reducible refine (laws_szNet.calls a0_0 _ _ l0_1 1048576 t265 _ ?side1 ?side2 A6.out).mono ?_); (case side1 => repeat (first | exact (Kd.C_below HR0_1.out HB.out) | (with_reducible refine Kd.C_alloc ?_ _) | (with_reducible refine Kd.C_drewN ?_ _) | (with_reducible refine Kd.C_drew ?_))); (case side2 => exact HC0_1.out); rintro e w10 ⟨rfl, hb⟩; refine ⟨_, rfl, ?_⟩; have n0_ := Aside0.mk (blk_below (g := gb264) (o := .cells #[.int .i64 a0_0, .slice A0_1 l0_1.length c0_1] 24 (0, 0)) (by (with_reducible repeat (first | refine blk_drewN ?_ _ | refine blk_drew ?_ | refine blk_alloc ?_ _)); exact BK264.out) hb); have n1_ := Aside0.mk (below_step (by repeat (first | (with_reducible first | exact HB.out | apply below_alloc | apply pw_below_drewN | apply below_drew1 | refine below_set ?_ GE264.out) | exact HB.out)) hb); clear BK264; clear HB; have BK264 := n0_; have HB := n1_; clear n0_ n1_; (try clear hb); (try clear hb2); (try clear hk); (try clear hi)))
  go_ret
  exact ⟨by first | rfl | (simp [errW_none, errW_some] <;> rfl) | (simp [*, errW_none, errW_some] <;> rfl), by repeat (first | (with_reducible first | exact HB.out | apply below_alloc | apply pw_below_drewN | apply below_drew1 | refine below_set ?_ GE264.out) | exact HB.out)⟩
 rw [if_neg c7] at H
 have c7b0 : decide (t265 < 0) = false := decide_eq_false c7
 clear c7
 replace H := Option.bind_eq_some_iff.mp H
 obtain ⟨t266, A110, H⟩ := H
 replace H : (if t266 < 0 then (some true) else ((laws_toNet.f k a0_0 l0_1).bind fun bt267 => ((laws_toBoolS.f k l1).bind fun t271 => ((laws_toBusS.f k l2).bind fun t274 => ((spec_AliveBuses.f k bt267.1 bt267.2 t271 t274).bind fun t277 => ((laws_toNet.f k a0_0 l0_1).bind fun bt280 => ((laws_toBoolS.f k l1).bind fun t285 => ((laws_toBusS.f k l2).bind fun t288 => ((impl_AliveBuses.f k bt280.1 bt280.2 t285 t288).bind fun t291 => ((laws_eqIntS.f k t291 t277).bind fun t294 => (if t294 = true then ((laws_toNet.f k a0_0 l0_1).bind fun bt295 => ((laws_eqNet.f k bt280.1 bt280.2 bt295.1 bt295.2).bind fun t299 => (if t299 = true then ((laws_toBoolS.f k l1).bind fun t300 => ((laws_eqBoolS.f k t285 t300).bind fun t303 => (if t303 = true then ((laws_toBusS.f k l2).bind fun t304 => ((laws_eqBusS.f k t288 t304).bind fun t307 => (if t307 = true then ((laws_markNet.f k bt280.1 bt280.2 1).bind fun bt308 => ((laws_markBoolS.f k t285 bt308.1).bind fun bt310 => ((laws_markBusS.f k t288 bt310.1).bind fun bt312 => (if bt312.1 < 0 then (laws_FnExactAliveBuses.j0 k l1 l2 t277 t291 true a0_0 l0_1) else ((laws_eqIntS.f k t291 t277).bind fun t314 => (laws_FnExactAliveBuses.j0 k l1 l2 t277 t291 (!t314) a0_0 l0_1)))))) else (none)))) else (none)))) else (none)))) else (none)))))))))))) = some r := H
 have A11 := Aside0.mk A110
 clear A110
 by_cases c12 : t266 < 0
 ·
  rw [if_pos c12] at H
  have c12b0 : decide (t266 < 0) = true := decide_eq_true c12
  clear c12
  obtain rfl := Option.some.inj H
  go_enter Try.func3, Try.ntmps3
  go_wp2_with (first | ((with_reducible refine gate_dst (N := 3) rfl ?_); refine box_event ?hg (N := 3) ?hd (cs := #[.int .i64 a0_0, .slice A0_1 l0_1.length c0_1]) (t := 24) ?hr ?_; (case hd => rfl); (case hg => rfl); (case hr => first | (go_simp; done) | (go_simp; rfl)); intro gb264 hg w13 hbox hb; have n0_ := Aside0.mk (below_step (by repeat (first | (with_reducible first | exact HB.out | apply below_alloc | apply pw_below_drewN | apply below_drew1) | exact HB.out)) hb); have n1_ := Aside0.mk (hbox); have n2_ := Aside0.mk ((by rw [hg]; exact (below_size (by repeat (first | (with_reducible first | exact HB.out | apply below_alloc | apply pw_below_drewN | apply below_drew1) | exact HB.out))) : w.heap.size ≤ gb264)); have n3_ := Aside0.mk ((by rw [hg]; exact (below_size (by repeat (first | (with_reducible first | exact HB.out | apply below_alloc | apply pw_below_drewN | apply below_drew1) | exact HB.out))) : w.heap.size ≤ gb264)); clear HB; have HB := n0_; have BK264 := n1_; have GW264 := n2_; have GE264 := n3_; clear n0_ n1_ n2_ n3_; clear hb hbox hg; have hcz14_0 : w13.cell? ⟨gb264, 0, none⟩ = some (.int .i64 a0_0) := (blk_cell BK264.out 0).trans rfl; have hcz14_1 : w13.cell? ⟨gb264, 1, none⟩ = some (.slice A0_1 l0_1.length c0_1) := (blk_cell BK264.out 1).trans rfl; have hfz14_0 := blk_frozen BK264.out 0; have hfz14_1 := blk_frozen BK264.out 1) | ((with_reducible refine gate_callee (f := 6) rfl ?_); refine goesL_ (some 22) rfl rfl Try.func6 (by kernel_rfl) rfl #[.agg #[.int .i64 a0_0, .slice A0_1 l0_1.length c0_1], .int .i64 1048576] rfl (by (try simp only [List.map_toArray, List.map_cons, List.map_nil]); first | done | rfl | (simp only [List.length_drop, List.length_take]; rfl)) ?_; (with_reducible refine (laws_szNet.calls a0_0 _ _ l0_1 1048576 t265 _ ?side1 ?side2 A6.out).mono ?_); (case side1 => repeat (first | exact (Kd.C_below HR0_1.out HB.out) | (with_reducible refine Kd.C_alloc ?_ _) | (with_reducible refine Kd.C_drewN ?_ _) | (with_reducible refine Kd.C_drew ?_))); (case side2 => exact HC0_1.out); rintro e w15 ⟨rfl, hb⟩; refine ⟨_, rfl, ?_⟩; have n0_ := Aside0.mk (blk_below (g := gb264) (o := .cells #[.int .i64 a0_0, .slice A0_1 l0_1.length c0_1] 24 (0, 0)) (by (with_reducible repeat (first | refine blk_drewN ?_ _ | refine blk_drew ?_ | refine blk_alloc ?_ _)); exact BK264.out) hb); have n1_ := Aside0.mk (below_step (by repeat (first | (with_reducible first | exact HB.out | apply below_alloc | apply pw_below_drewN | apply below_drew1 | refine below_set ?_ GE264.out) | exact HB.out)) hb); clear BK264; clear HB; have BK264 := n0_; have HB := n1_; clear n0_ n1_; (try clear hb); (try clear hb2); (try clear hk); (try clear hi)) | ((with_reducible refine gate_callee (f := 7) rfl ?_); refine goesL_ (some 27) rfl rfl Try.func7 (by kernel_rfl) rfl #[.slice A2 l2.length c2, .int .i64 t265] rfl (by (try simp only [List.map_toArray, List.map_cons, List.map_nil]); first | done | rfl | (simp only [List.length_drop, List.length_take]; rfl)) ?_; (with_reducible refine (laws_szBusS.calls _ _ l2 t265 t266 _ ?side1 ?side2 A11.out).mono ?_); (case side1 => repeat (first | exact (Kd.C_below HR2.out HB.out) | (with_reducible refine Kd.C_alloc ?_ _) | (with_reducible refine Kd.C_drewN ?_ _) | (with_reducible refine Kd.C_drew ?_))); (case side2 => exact HC2.out); rintro e w' ⟨rfl, ⟨nd, rfl⟩⟩; refine ⟨_, rfl, ?_⟩))
  go_ret
  exact ⟨by first | rfl | (simp [errW_none, errW_some] <;> rfl) | (simp [*, errW_none, errW_some] <;> rfl), by repeat (first | (with_reducible first | exact HB.out | apply below_alloc | apply pw_below_drewN | apply below_drew1 | refine below_set ?_ GE264.out) | exact HB.out)⟩
 rw [if_neg c12] at H
 have c12b0 : decide (t266 < 0) = false := decide_eq_false c12
 clear c12
 replace H := Option.bind_eq_some_iff.mp H
 obtain ⟨⟨t267, t268⟩, A160, H⟩ := H
 replace H : ((laws_toBoolS.f k l1).bind fun t271 => ((laws_toBusS.f k l2).bind fun t274 => ((spec_AliveBuses.f k t267 t268 t271 t274).bind fun t277 => ((laws_toNet.f k a0_0 l0_1).bind fun bt280 => ((laws_toBoolS.f k l1).bind fun t285 => ((laws_toBusS.f k l2).bind fun t288 => ((impl_AliveBuses.f k bt280.1 bt280.2 t285 t288).bind fun t291 => ((laws_eqIntS.f k t291 t277).bind fun t294 => (if t294 = true then ((laws_toNet.f k a0_0 l0_1).bind fun bt295 => ((laws_eqNet.f k bt280.1 bt280.2 bt295.1 bt295.2).bind fun t299 => (if t299 = true then ((laws_toBoolS.f k l1).bind fun t300 => ((laws_eqBoolS.f k t285 t300).bind fun t303 => (if t303 = true then ((laws_toBusS.f k l2).bind fun t304 => ((laws_eqBusS.f k t288 t304).bind fun t307 => (if t307 = true then ((laws_markNet.f k bt280.1 bt280.2 1).bind fun bt308 => ((laws_markBoolS.f k t285 bt308.1).bind fun bt310 => ((laws_markBusS.f k t288 bt310.1).bind fun bt312 => (if bt312.1 < 0 then (laws_FnExactAliveBuses.j0 k l1 l2 t277 t291 true a0_0 l0_1) else ((laws_eqIntS.f k t291 t277).bind fun t314 => (laws_FnExactAliveBuses.j0 k l1 l2 t277 t291 (!t314) a0_0 l0_1)))))) else (none)))) else (none)))) else (none)))) else (none)))))))))) = some r := H
 have A16 := Aside0.mk A160
 clear A160
 replace H := Option.bind_eq_some_iff.mp H
 obtain ⟨t271, A170, H⟩ := H
 replace H : ((laws_toBusS.f k l2).bind fun t274 => ((spec_AliveBuses.f k t267 t268 t271 t274).bind fun t277 => ((laws_toNet.f k a0_0 l0_1).bind fun bt280 => ((laws_toBoolS.f k l1).bind fun t285 => ((laws_toBusS.f k l2).bind fun t288 => ((impl_AliveBuses.f k bt280.1 bt280.2 t285 t288).bind fun t291 => ((laws_eqIntS.f k t291 t277).bind fun t294 => (if t294 = true then ((laws_toNet.f k a0_0 l0_1).bind fun bt295 => ((laws_eqNet.f k bt280.1 bt280.2 bt295.1 bt295.2).bind fun t299 => (if t299 = true then ((laws_toBoolS.f k l1).bind fun t300 => ((laws_eqBoolS.f k t285 t300).bind fun t303 => (if t303 = true then ((laws_toBusS.f k l2).bind fun t304 => ((laws_eqBusS.f k t288 t304).bind fun t307 => (if t307 = true then ((laws_markNet.f k bt280.1 bt280.2 1).bind fun bt308 => ((laws_markBoolS.f k t285 bt308.1).bind fun bt310 => ((laws_markBusS.f k t288 bt310.1).bind fun bt312 => (if bt312.1 < 0 then (laws_FnExactAliveBuses.j0 k l1 l2 t277 t291 true a0_0 l0_1) else ((laws_eqIntS.f k t291 t277).bind fun t314 => (laws_FnExactAliveBuses.j0 k l1 l2 t277 t291 (!t314) a0_0 l0_1)))))) else (none)))) else (none)))) else (none)))) else (none))))))))) = some r := H
 have A17 := Aside0.mk A170
 clear A170
 replace H := Option.bind_eq_some_iff.mp H
 obtain ⟨t274, A180, H⟩ := H
 replace H : ((spec_AliveBuses.f k t267 t268 t271 t274).bind fun t277 => ((laws_toNet.f k a0_0 l0_1).bind fun bt280 => ((laws_toBoolS.f k l1).bind fun t285 => ((laws_toBusS.f k l2).bind fun t288 => ((impl_AliveBuses.f k bt280.1 bt280.2 t285 t288).bind fun t291 => ((laws_eqIntS.f k t291 t277).bind fun t294 => (if t294 = true then ((laws_toNet.f k a0_0 l0_1).bind fun bt295 => ((laws_eqNet.f k bt280.1 bt280.2 bt295.1 bt295.2).bind fun t299 => (if t299 = true then ((laws_toBoolS.f k l1).bind fun t300 => ((laws_eqBoolS.f k t285 t300).bind fun t303 => (if t303 = true then ((laws_toBusS.f k l2).bind fun t304 => ((laws_eqBusS.f k t288 t304).bind fun t307 => (if t307 = true then ((laws_markNet.f k bt280.1 bt280.2 1).bind fun bt308 => ((laws_markBoolS.f k t285 bt308.1).bind fun bt310 => ((laws_markBusS.f k t288 bt310.1).bind fun bt312 => (if bt312.1 < 0 then (laws_FnExactAliveBuses.j0 k l1 l2 t277 t291 true a0_0 l0_1) else ((laws_eqIntS.f k t291 t277).bind fun t314 => (laws_FnExactAliveBuses.j0 k l1 l2 t277 t291 (!t314) a0_0 l0_1)))))) else (none)))) else (none)))) else (none)))) else (none)))))))) = some r := H
 have A18 := Aside0.mk A180
 clear A180
 replace H := Option.bind_eq_some_iff.mp H
 obtain ⟨t277, A190, H⟩ := H
 replace H : ((laws_toNet.f k a0_0 l0_1).bind fun bt280 => ((laws_toBoolS.f k l1).bind fun t285 => ((laws_toBusS.f k l2).bind fun t288 => ((impl_AliveBuses.f k bt280.1 bt280.2 t285 t288).bind fun t291 => ((laws_eqIntS.f k t291 t277).bind fun t294 => (if t294 = true then ((laws_toNet.f k a0_0 l0_1).bind fun bt295 => ((laws_eqNet.f k bt280.1 bt280.2 bt295.1 bt295.2).bind fun t299 => (if t299 = true then ((laws_toBoolS.f k l1).bind fun t300 => ((laws_eqBoolS.f k t285 t300).bind fun t303 => (if t303 = true then ((laws_toBusS.f k l2).bind fun t304 => ((laws_eqBusS.f k t288 t304).bind fun t307 => (if t307 = true then ((laws_markNet.f k bt280.1 bt280.2 1).bind fun bt308 => ((laws_markBoolS.f k t285 bt308.1).bind fun bt310 => ((laws_markBusS.f k t288 bt310.1).bind fun bt312 => (if bt312.1 < 0 then (laws_FnExactAliveBuses.j0 k l1 l2 t277 t291 true a0_0 l0_1) else ((laws_eqIntS.f k t291 t277).bind fun t314 => (laws_FnExactAliveBuses.j0 k l1 l2 t277 t291 (!t314) a0_0 l0_1)))))) else (none)))) else (none)))) else (none)))) else (none))))))) = some r := H
 have A19 := Aside0.mk A190
 clear A190
 replace H := Option.bind_eq_some_iff.mp H
 obtain ⟨⟨t280, t281⟩, A200, H⟩ := H
 replace H : ((laws_toBoolS.f k l1).bind fun t285 => ((laws_toBusS.f k l2).bind fun t288 => ((impl_AliveBuses.f k t280 t281 t285 t288).bind fun t291 => ((laws_eqIntS.f k t291 t277).bind fun t294 => (if t294 = true then ((laws_toNet.f k a0_0 l0_1).bind fun bt295 => ((laws_eqNet.f k t280 t281 bt295.1 bt295.2).bind fun t299 => (if t299 = true then ((laws_toBoolS.f k l1).bind fun t300 => ((laws_eqBoolS.f k t285 t300).bind fun t303 => (if t303 = true then ((laws_toBusS.f k l2).bind fun t304 => ((laws_eqBusS.f k t288 t304).bind fun t307 => (if t307 = true then ((laws_markNet.f k t280 t281 1).bind fun bt308 => ((laws_markBoolS.f k t285 bt308.1).bind fun bt310 => ((laws_markBusS.f k t288 bt310.1).bind fun bt312 => (if bt312.1 < 0 then (laws_FnExactAliveBuses.j0 k l1 l2 t277 t291 true a0_0 l0_1) else ((laws_eqIntS.f k t291 t277).bind fun t314 => (laws_FnExactAliveBuses.j0 k l1 l2 t277 t291 (!t314) a0_0 l0_1)))))) else (none)))) else (none)))) else (none)))) else (none)))))) = some r := H
 have A20 := Aside0.mk A200
 clear A200
 replace H := Option.bind_eq_some_iff.mp H
 obtain ⟨t285, A210, H⟩ := H
 replace H : ((laws_toBusS.f k l2).bind fun t288 => ((impl_AliveBuses.f k t280 t281 t285 t288).bind fun t291 => ((laws_eqIntS.f k t291 t277).bind fun t294 => (if t294 = true then ((laws_toNet.f k a0_0 l0_1).bind fun bt295 => ((laws_eqNet.f k t280 t281 bt295.1 bt295.2).bind fun t299 => (if t299 = true then ((laws_toBoolS.f k l1).bind fun t300 => ((laws_eqBoolS.f k t285 t300).bind fun t303 => (if t303 = true then ((laws_toBusS.f k l2).bind fun t304 => ((laws_eqBusS.f k t288 t304).bind fun t307 => (if t307 = true then ((laws_markNet.f k t280 t281 1).bind fun bt308 => ((laws_markBoolS.f k t285 bt308.1).bind fun bt310 => ((laws_markBusS.f k t288 bt310.1).bind fun bt312 => (if bt312.1 < 0 then (laws_FnExactAliveBuses.j0 k l1 l2 t277 t291 true a0_0 l0_1) else ((laws_eqIntS.f k t291 t277).bind fun t314 => (laws_FnExactAliveBuses.j0 k l1 l2 t277 t291 (!t314) a0_0 l0_1)))))) else (none)))) else (none)))) else (none)))) else (none))))) = some r := H
 have A21 := Aside0.mk A210
 clear A210
 replace H := Option.bind_eq_some_iff.mp H
 obtain ⟨t288, A220, H⟩ := H
 replace H : ((impl_AliveBuses.f k t280 t281 t285 t288).bind fun t291 => ((laws_eqIntS.f k t291 t277).bind fun t294 => (if t294 = true then ((laws_toNet.f k a0_0 l0_1).bind fun bt295 => ((laws_eqNet.f k t280 t281 bt295.1 bt295.2).bind fun t299 => (if t299 = true then ((laws_toBoolS.f k l1).bind fun t300 => ((laws_eqBoolS.f k t285 t300).bind fun t303 => (if t303 = true then ((laws_toBusS.f k l2).bind fun t304 => ((laws_eqBusS.f k t288 t304).bind fun t307 => (if t307 = true then ((laws_markNet.f k t280 t281 1).bind fun bt308 => ((laws_markBoolS.f k t285 bt308.1).bind fun bt310 => ((laws_markBusS.f k t288 bt310.1).bind fun bt312 => (if bt312.1 < 0 then (laws_FnExactAliveBuses.j0 k l1 l2 t277 t291 true a0_0 l0_1) else ((laws_eqIntS.f k t291 t277).bind fun t314 => (laws_FnExactAliveBuses.j0 k l1 l2 t277 t291 (!t314) a0_0 l0_1)))))) else (none)))) else (none)))) else (none)))) else (none)))) = some r := H
 have A22 := Aside0.mk A220
 clear A220
 replace H := Option.bind_eq_some_iff.mp H
 obtain ⟨t291, A230, H⟩ := H
 replace H : ((laws_eqIntS.f k t291 t277).bind fun t294 => (if t294 = true then ((laws_toNet.f k a0_0 l0_1).bind fun bt295 => ((laws_eqNet.f k t280 t281 bt295.1 bt295.2).bind fun t299 => (if t299 = true then ((laws_toBoolS.f k l1).bind fun t300 => ((laws_eqBoolS.f k t285 t300).bind fun t303 => (if t303 = true then ((laws_toBusS.f k l2).bind fun t304 => ((laws_eqBusS.f k t288 t304).bind fun t307 => (if t307 = true then ((laws_markNet.f k t280 t281 1).bind fun bt308 => ((laws_markBoolS.f k t285 bt308.1).bind fun bt310 => ((laws_markBusS.f k t288 bt310.1).bind fun bt312 => (if bt312.1 < 0 then (laws_FnExactAliveBuses.j0 k l1 l2 t277 t291 true a0_0 l0_1) else ((laws_eqIntS.f k t291 t277).bind fun t314 => (laws_FnExactAliveBuses.j0 k l1 l2 t277 t291 (!t314) a0_0 l0_1)))))) else (none)))) else (none)))) else (none)))) else (none))) = some r := H
 have A23 := Aside0.mk A230
 clear A230
 replace H := Option.bind_eq_some_iff.mp H
 obtain ⟨t294, A240, H⟩ := H
 replace H : (if t294 = true then ((laws_toNet.f k a0_0 l0_1).bind fun bt295 => ((laws_eqNet.f k t280 t281 bt295.1 bt295.2).bind fun t299 => (if t299 = true then ((laws_toBoolS.f k l1).bind fun t300 => ((laws_eqBoolS.f k t285 t300).bind fun t303 => (if t303 = true then ((laws_toBusS.f k l2).bind fun t304 => ((laws_eqBusS.f k t288 t304).bind fun t307 => (if t307 = true then ((laws_markNet.f k t280 t281 1).bind fun bt308 => ((laws_markBoolS.f k t285 bt308.1).bind fun bt310 => ((laws_markBusS.f k t288 bt310.1).bind fun bt312 => (if bt312.1 < 0 then (laws_FnExactAliveBuses.j0 k l1 l2 t277 t291 true a0_0 l0_1) else ((laws_eqIntS.f k t291 t277).bind fun t314 => (laws_FnExactAliveBuses.j0 k l1 l2 t277 t291 (!t314) a0_0 l0_1)))))) else (none)))) else (none)))) else (none)))) else (none)) = some r := H
 have A24 := Aside0.mk A240
 clear A240
 by_cases c25 : t294 = true
 rotate_left
 ·
  replace c25 := Bool.eq_false_iff.mpr c25
  subst c25
  have H1 : (none) = some r := by rw [if_neg (show ¬ (false = true) by decide)] at H; exact H
  clear H
  have H := H1
  clear H1
  exact absurd H (by simp)
 subst c25
 have H1 : ((laws_toNet.f k a0_0 l0_1).bind fun bt295 => ((laws_eqNet.f k t280 t281 bt295.1 bt295.2).bind fun t299 => (if t299 = true then ((laws_toBoolS.f k l1).bind fun t300 => ((laws_eqBoolS.f k t285 t300).bind fun t303 => (if t303 = true then ((laws_toBusS.f k l2).bind fun t304 => ((laws_eqBusS.f k t288 t304).bind fun t307 => (if t307 = true then ((laws_markNet.f k t280 t281 1).bind fun bt308 => ((laws_markBoolS.f k t285 bt308.1).bind fun bt310 => ((laws_markBusS.f k t288 bt310.1).bind fun bt312 => (if bt312.1 < 0 then (laws_FnExactAliveBuses.j0 k l1 l2 t277 t291 true a0_0 l0_1) else ((laws_eqIntS.f k t291 t277).bind fun t314 => (laws_FnExactAliveBuses.j0 k l1 l2 t277 t291 (!t314) a0_0 l0_1)))))) else (none)))) else (none)))) else (none)))) = some r := by rw [if_pos rfl] at H; exact H
 clear H
 have H := H1
 clear H1
 replace H := Option.bind_eq_some_iff.mp H
 obtain ⟨⟨t295, t296⟩, A260, H⟩ := H
 replace H : ((laws_eqNet.f k t280 t281 t295 t296).bind fun t299 => (if t299 = true then ((laws_toBoolS.f k l1).bind fun t300 => ((laws_eqBoolS.f k t285 t300).bind fun t303 => (if t303 = true then ((laws_toBusS.f k l2).bind fun t304 => ((laws_eqBusS.f k t288 t304).bind fun t307 => (if t307 = true then ((laws_markNet.f k t280 t281 1).bind fun bt308 => ((laws_markBoolS.f k t285 bt308.1).bind fun bt310 => ((laws_markBusS.f k t288 bt310.1).bind fun bt312 => (if bt312.1 < 0 then (laws_FnExactAliveBuses.j0 k l1 l2 t277 t291 true a0_0 l0_1) else ((laws_eqIntS.f k t291 t277).bind fun t314 => (laws_FnExactAliveBuses.j0 k l1 l2 t277 t291 (!t314) a0_0 l0_1)))))) else (none)))) else (none)))) else (none))) = some r := H
 have A26 := Aside0.mk A260
 clear A260
 replace H := Option.bind_eq_some_iff.mp H
 obtain ⟨t299, A270, H⟩ := H
 replace H : (if t299 = true then ((laws_toBoolS.f k l1).bind fun t300 => ((laws_eqBoolS.f k t285 t300).bind fun t303 => (if t303 = true then ((laws_toBusS.f k l2).bind fun t304 => ((laws_eqBusS.f k t288 t304).bind fun t307 => (if t307 = true then ((laws_markNet.f k t280 t281 1).bind fun bt308 => ((laws_markBoolS.f k t285 bt308.1).bind fun bt310 => ((laws_markBusS.f k t288 bt310.1).bind fun bt312 => (if bt312.1 < 0 then (laws_FnExactAliveBuses.j0 k l1 l2 t277 t291 true a0_0 l0_1) else ((laws_eqIntS.f k t291 t277).bind fun t314 => (laws_FnExactAliveBuses.j0 k l1 l2 t277 t291 (!t314) a0_0 l0_1)))))) else (none)))) else (none)))) else (none)) = some r := H
 have A27 := Aside0.mk A270
 clear A270
 by_cases c28 : t299 = true
 rotate_left
 ·
  replace c28 := Bool.eq_false_iff.mpr c28
  subst c28
  have H1 : (none) = some r := by rw [if_neg (show ¬ (false = true) by decide)] at H; exact H
  clear H
  have H := H1
  clear H1
  exact absurd H (by simp)
 subst c28
 have H1 : ((laws_toBoolS.f k l1).bind fun t300 => ((laws_eqBoolS.f k t285 t300).bind fun t303 => (if t303 = true then ((laws_toBusS.f k l2).bind fun t304 => ((laws_eqBusS.f k t288 t304).bind fun t307 => (if t307 = true then ((laws_markNet.f k t280 t281 1).bind fun bt308 => ((laws_markBoolS.f k t285 bt308.1).bind fun bt310 => ((laws_markBusS.f k t288 bt310.1).bind fun bt312 => (if bt312.1 < 0 then (laws_FnExactAliveBuses.j0 k l1 l2 t277 t291 true a0_0 l0_1) else ((laws_eqIntS.f k t291 t277).bind fun t314 => (laws_FnExactAliveBuses.j0 k l1 l2 t277 t291 (!t314) a0_0 l0_1)))))) else (none)))) else (none)))) = some r := by rw [if_pos rfl] at H; exact H
 clear H
 have H := H1
 clear H1
 replace H := Option.bind_eq_some_iff.mp H
 obtain ⟨t300, A290, H⟩ := H
 replace H : ((laws_eqBoolS.f k t285 t300).bind fun t303 => (if t303 = true then ((laws_toBusS.f k l2).bind fun t304 => ((laws_eqBusS.f k t288 t304).bind fun t307 => (if t307 = true then ((laws_markNet.f k t280 t281 1).bind fun bt308 => ((laws_markBoolS.f k t285 bt308.1).bind fun bt310 => ((laws_markBusS.f k t288 bt310.1).bind fun bt312 => (if bt312.1 < 0 then (laws_FnExactAliveBuses.j0 k l1 l2 t277 t291 true a0_0 l0_1) else ((laws_eqIntS.f k t291 t277).bind fun t314 => (laws_FnExactAliveBuses.j0 k l1 l2 t277 t291 (!t314) a0_0 l0_1)))))) else (none)))) else (none))) = some r := H
 have A29 := Aside0.mk A290
 clear A290
 replace H := Option.bind_eq_some_iff.mp H
 obtain ⟨t303, A300, H⟩ := H
 replace H : (if t303 = true then ((laws_toBusS.f k l2).bind fun t304 => ((laws_eqBusS.f k t288 t304).bind fun t307 => (if t307 = true then ((laws_markNet.f k t280 t281 1).bind fun bt308 => ((laws_markBoolS.f k t285 bt308.1).bind fun bt310 => ((laws_markBusS.f k t288 bt310.1).bind fun bt312 => (if bt312.1 < 0 then (laws_FnExactAliveBuses.j0 k l1 l2 t277 t291 true a0_0 l0_1) else ((laws_eqIntS.f k t291 t277).bind fun t314 => (laws_FnExactAliveBuses.j0 k l1 l2 t277 t291 (!t314) a0_0 l0_1)))))) else (none)))) else (none)) = some r := H
 have A30 := Aside0.mk A300
 clear A300
 by_cases c31 : t303 = true
 rotate_left
 ·
  replace c31 := Bool.eq_false_iff.mpr c31
  subst c31
  have H1 : (none) = some r := by rw [if_neg (show ¬ (false = true) by decide)] at H; exact H
  clear H
  have H := H1
  clear H1
  exact absurd H (by simp)
 subst c31
 have H1 : ((laws_toBusS.f k l2).bind fun t304 => ((laws_eqBusS.f k t288 t304).bind fun t307 => (if t307 = true then ((laws_markNet.f k t280 t281 1).bind fun bt308 => ((laws_markBoolS.f k t285 bt308.1).bind fun bt310 => ((laws_markBusS.f k t288 bt310.1).bind fun bt312 => (if bt312.1 < 0 then (laws_FnExactAliveBuses.j0 k l1 l2 t277 t291 true a0_0 l0_1) else ((laws_eqIntS.f k t291 t277).bind fun t314 => (laws_FnExactAliveBuses.j0 k l1 l2 t277 t291 (!t314) a0_0 l0_1)))))) else (none)))) = some r := by rw [if_pos rfl] at H; exact H
 clear H
 have H := H1
 clear H1
 replace H := Option.bind_eq_some_iff.mp H
 obtain ⟨t304, A320, H⟩ := H
 replace H : ((laws_eqBusS.f k t288 t304).bind fun t307 => (if t307 = true then ((laws_markNet.f k t280 t281 1).bind fun bt308 => ((laws_markBoolS.f k t285 bt308.1).bind fun bt310 => ((laws_markBusS.f k t288 bt310.1).bind fun bt312 => (if bt312.1 < 0 then (laws_FnExactAliveBuses.j0 k l1 l2 t277 t291 true a0_0 l0_1) else ((laws_eqIntS.f k t291 t277).bind fun t314 => (laws_FnExactAliveBuses.j0 k l1 l2 t277 t291 (!t314) a0_0 l0_1)))))) else (none))) = some r := H
 have A32 := Aside0.mk A320
 clear A320
 replace H := Option.bind_eq_some_iff.mp H
 obtain ⟨t307, A330, H⟩ := H
 replace H : (if t307 = true then ((laws_markNet.f k t280 t281 1).bind fun bt308 => ((laws_markBoolS.f k t285 bt308.1).bind fun bt310 => ((laws_markBusS.f k t288 bt310.1).bind fun bt312 => (if bt312.1 < 0 then (laws_FnExactAliveBuses.j0 k l1 l2 t277 t291 true a0_0 l0_1) else ((laws_eqIntS.f k t291 t277).bind fun t314 => (laws_FnExactAliveBuses.j0 k l1 l2 t277 t291 (!t314) a0_0 l0_1)))))) else (none)) = some r := H
 have A33 := Aside0.mk A330
 clear A330
 by_cases c34 : t307 = true
 rotate_left
 ·
  replace c34 := Bool.eq_false_iff.mpr c34
  subst c34
  have H1 : (none) = some r := by rw [if_neg (show ¬ (false = true) by decide)] at H; exact H
  clear H
  have H := H1
  clear H1
  exact absurd H (by simp)
 subst c34
 have H1 : ((laws_markNet.f k t280 t281 1).bind fun bt308 => ((laws_markBoolS.f k t285 bt308.1).bind fun bt310 => ((laws_markBusS.f k t288 bt310.1).bind fun bt312 => (if bt312.1 < 0 then (laws_FnExactAliveBuses.j0 k l1 l2 t277 t291 true a0_0 l0_1) else ((laws_eqIntS.f k t291 t277).bind fun t314 => (laws_FnExactAliveBuses.j0 k l1 l2 t277 t291 (!t314) a0_0 l0_1)))))) = some r := by rw [if_pos rfl] at H; exact H
 clear H
 have H := H1
 clear H1
 replace H := Option.bind_eq_some_iff.mp H
 obtain ⟨⟨t308, t309⟩, A350, H⟩ := H
 replace H : ((laws_markBoolS.f k t285 t308).bind fun bt310 => ((laws_markBusS.f k t288 bt310.1).bind fun bt312 => (if bt312.1 < 0 then (laws_FnExactAliveBuses.j0 k l1 l2 t277 t291 true a0_0 l0_1) else ((laws_eqIntS.f k t291 t277).bind fun t314 => (laws_FnExactAliveBuses.j0 k l1 l2 t277 t291 (!t314) a0_0 l0_1))))) = some r := H
 have A35 := Aside0.mk A350
 clear A350
 replace H := Option.bind_eq_some_iff.mp H
 obtain ⟨⟨t310, t311⟩, A360, H⟩ := H
 replace H : ((laws_markBusS.f k t288 t310).bind fun bt312 => (if bt312.1 < 0 then (laws_FnExactAliveBuses.j0 k l1 l2 t277 t291 true a0_0 l0_1) else ((laws_eqIntS.f k t291 t277).bind fun t314 => (laws_FnExactAliveBuses.j0 k l1 l2 t277 t291 (!t314) a0_0 l0_1)))) = some r := H
 have A36 := Aside0.mk A360
 clear A360
 replace H := Option.bind_eq_some_iff.mp H
 obtain ⟨⟨t312, t313⟩, A370, H⟩ := H
 replace H : (if t312 < 0 then (laws_FnExactAliveBuses.j0 k l1 l2 t277 t291 true a0_0 l0_1) else ((laws_eqIntS.f k t291 t277).bind fun t314 => (laws_FnExactAliveBuses.j0 k l1 l2 t277 t291 (!t314) a0_0 l0_1))) = some r := H
 have A37 := Aside0.mk A370
 clear A370
 have HC38 := Aside0.mk H
 clear H
 go_enter Try.func3, Try.ntmps3
 try go_wp2_with (first | ((with_reducible refine gate_dst (N := 3) rfl ?_); refine box_event ?hg (N := 3) ?hd (cs := #[.int .i64 a0_0, .slice A0_1 l0_1.length c0_1]) (t := 24) ?hr ?_; (case hd => rfl); (case hg => rfl); (case hr => first | (go_simp; done) | (go_simp; rfl)); intro gb264 hg w39 hbox hb; have n0_ := Aside0.mk (below_step (by repeat (first | (with_reducible first | exact HB.out | apply below_alloc | apply pw_below_drewN | apply below_drew1) | exact HB.out)) hb); have n1_ := Aside0.mk (hbox); have n2_ := Aside0.mk ((by rw [hg]; exact (below_size (by repeat (first | (with_reducible first | exact HB.out | apply below_alloc | apply pw_below_drewN | apply below_drew1) | exact HB.out))) : w.heap.size ≤ gb264)); have n3_ := Aside0.mk ((by rw [hg]; exact (below_size (by repeat (first | (with_reducible first | exact HB.out | apply below_alloc | apply pw_below_drewN | apply below_drew1) | exact HB.out))) : w.heap.size ≤ gb264)); clear HB; have HB := n0_; have BK264 := n1_; have GW264 := n2_; have GE264 := n3_; clear n0_ n1_ n2_ n3_; clear hb hbox hg; have hcz40_0 : w39.cell? ⟨gb264, 0, none⟩ = some (.int .i64 a0_0) := (blk_cell BK264.out 0).trans rfl; have hcz40_1 : w39.cell? ⟨gb264, 1, none⟩ = some (.slice A0_1 l0_1.length c0_1) := (blk_cell BK264.out 1).trans rfl; have hfz40_0 := blk_frozen BK264.out 0; have hfz40_1 := blk_frozen BK264.out 1) | ((with_reducible refine gate_callee (f := 6) rfl ?_); refine goesL_ (some 22) rfl rfl Try.func6 (by kernel_rfl) rfl #[.agg #[.int .i64 a0_0, .slice A0_1 l0_1.length c0_1], .int .i64 1048576] rfl (by (try simp only [List.map_toArray, List.map_cons, List.map_nil]); first | done | rfl | (simp only [List.length_drop, List.length_take]; rfl)) ?_; (with_reducible refine (laws_szNet.calls a0_0 _ _ l0_1 1048576 t265 _ ?side1 ?side2 A6.out).mono ?_); (case side1 => repeat (first | exact (Kd.C_below HR0_1.out HB.out) | (with_reducible refine Kd.C_alloc ?_ _) | (with_reducible refine Kd.C_drewN ?_ _) | (with_reducible refine Kd.C_drew ?_))); (case side2 => exact HC0_1.out); rintro e w41 ⟨rfl, hb⟩; refine ⟨_, rfl, ?_⟩; have n0_ := Aside0.mk (blk_below (g := gb264) (o := .cells #[.int .i64 a0_0, .slice A0_1 l0_1.length c0_1] 24 (0, 0)) (by (with_reducible repeat (first | refine blk_drewN ?_ _ | refine blk_drew ?_ | refine blk_alloc ?_ _)); exact BK264.out) hb); have n1_ := Aside0.mk (below_step (by repeat (first | (with_reducible first | exact HB.out | apply below_alloc | apply pw_below_drewN | apply below_drew1 | refine below_set ?_ GE264.out) | exact HB.out)) hb); clear BK264; clear HB; have BK264 := n0_; have HB := n1_; clear n0_ n1_; (try clear hb); (try clear hb2); (try clear hk); (try clear hi)) | ((with_reducible refine gate_callee (f := 7) rfl ?_); refine goesL_ (some 27) rfl rfl Try.func7 (by kernel_rfl) rfl #[.slice A2 l2.length c2, .int .i64 t265] rfl (by (try simp only [List.map_toArray, List.map_cons, List.map_nil]); first | done | rfl | (simp only [List.length_drop, List.length_take]; rfl)) ?_; (with_reducible refine (laws_szBusS.calls _ _ l2 t265 t266 _ ?side1 ?side2 A11.out).mono ?_); (case side1 => repeat (first | exact (Kd.C_below HR2.out HB.out) | (with_reducible refine Kd.C_alloc ?_ _) | (with_reducible refine Kd.C_drewN ?_ _) | (with_reducible refine Kd.C_drew ?_))); (case side2 => exact HC2.out); rintro e w' ⟨rfl, ⟨nd, rfl⟩⟩; refine ⟨_, rfl, ?_⟩; (try (rw [drewN_self w41]; generalize hq_ : World.drewN w41 _ = w41; have n0_ : Aside0 (w41.heap[gb264]? = some (.cells #[.int .i64 a0_0, .slice A0_1 l0_1.length c0_1] 24 (0, 0))) := ⟨by rw [← hq_]; exact (by (with_reducible repeat (first | refine blk_drewN ?_ _ | refine blk_drew ?_ | refine blk_alloc ?_ _)); exact BK264.out)⟩; have n1_ : Aside0 (Below w.heap.size w w41) := ⟨by rw [← hq_]; exact (by repeat (first | (with_reducible first | exact HB.out | apply below_alloc | apply pw_below_drewN | apply below_drew1 | refine below_set ?_ GE264.out) | exact HB.out))⟩; clear BK264 HB hq_; have BK264 := n0_; have HB := n1_; clear n0_ n1_)); have hcz42_0 : w41.cell? ⟨gb264, 0, none⟩ = some (.int .i64 a0_0) := (blk_cell BK264.out 0).trans rfl; have hcz42_1 : w41.cell? ⟨gb264, 1, none⟩ = some (.slice A0_1 l0_1.length c0_1) := (blk_cell BK264.out 1).trans rfl; have hfz42_0 := blk_frozen BK264.out 0; have hfz42_1 := blk_frozen BK264.out 1) | ((with_reducible refine gate_callee (f := 9) rfl ?_); refine goesL_ (some 31) rfl rfl Try.func9 (by kernel_rfl) rfl #[.agg #[.int .i64 a0_0, .slice A0_1 l0_1.length c0_1]] rfl (by (try simp only [List.map_toArray, List.map_cons, List.map_nil]); first | done | rfl | (simp only [List.length_drop, List.length_take]; rfl)) ?_; (with_reducible refine (laws_toNet.calls k a0_0 _ _ l0_1 t267 t268 _ ?side1 ?side2 A16.out).mono ?_); (case side1 => repeat (first | exact (Kd.C_below HR0_1.out HB.out) | (with_reducible refine Kd.C_alloc ?_ _) | (with_reducible refine Kd.C_drewN ?_ _) | (with_reducible refine Kd.C_drew ?_))); (case side2 => exact HC0_1.out); rintro e w43 ⟨v269, rfl, ho0, hb⟩; refine ⟨_, rfl, ?_⟩; have n0_ := Aside0.mk (Kd.R_lower ho0 (below_size (by repeat (first | (with_reducible first | exact HB.out | apply below_alloc | apply pw_below_drewN | apply below_drew1 | refine below_set ?_ GE264.out) | exact HB.out)))); have n1_ := Aside0.mk (blk_below (g := gb264) (o := .cells #[.int .i64 a0_0, .slice A0_1 l0_1.length c0_1] 24 (0, 0)) (by (with_reducible repeat (first | refine blk_drewN ?_ _ | refine blk_drew ?_ | refine blk_alloc ?_ _)); exact BK264.out) hb); have n2_ := Aside0.mk (below_step (by repeat (first | (with_reducible first | exact HB.out | apply below_alloc | apply pw_below_drewN | apply below_drew1 | refine below_set ?_ GE264.out) | exact HB.out)) hb); clear BK264; clear HB; have HO270 := n0_; have BK264 := n1_; have HB := n2_; clear n0_ n1_ n2_; (try clear hb); (try clear hb2); (try clear hk); (try clear hi); (try clear ho0)) | ((with_reducible refine gate_callee (f := 10) rfl ?_); refine goesL_ (some 33) rfl rfl Try.func10 (by kernel_rfl) rfl #[.slice A1 l1.length c1] rfl (by (try simp only [List.map_toArray, List.map_cons, List.map_nil]); first | done | rfl | (simp only [List.length_drop, List.length_take]; rfl)) ?_; (with_reducible refine (laws_toBoolS.calls k _ _ l1 t271 _ ?side1 ?side2 A17.out).mono ?_); (case side1 => repeat (first | exact (Kd.C_below HR1.out HB.out) | (with_reducible refine Kd.C_alloc ?_ _) | (with_reducible refine Kd.C_drewN ?_ _) | (with_reducible refine Kd.C_drew ?_))); (case side2 => exact HC1.out); rintro e w44 ⟨v272, rfl, ho0, hb⟩; refine ⟨_, rfl, ?_⟩; have n0_ := Aside0.mk (Kd.R_below (by (with_reducible repeat (first | apply Kd.R_alloc | apply Kd.R_drewN | apply Kd.R_drew)); exact HO270.out) hb); have n1_ := Aside0.mk (Kd.R_lower ho0 (below_size (by repeat (first | (with_reducible first | exact HB.out | apply below_alloc | apply pw_below_drewN | apply below_drew1 | refine below_set ?_ GE264.out) | exact HB.out)))); have n2_ := Aside0.mk (blk_below (g := gb264) (o := .cells #[.int .i64 a0_0, .slice A0_1 l0_1.length c0_1] 24 (0, 0)) (by (with_reducible repeat (first | refine blk_drewN ?_ _ | refine blk_drew ?_ | refine blk_alloc ?_ _)); exact BK264.out) hb); have n3_ := Aside0.mk (below_step (by repeat (first | (with_reducible first | exact HB.out | apply below_alloc | apply pw_below_drewN | apply below_drew1 | refine below_set ?_ GE264.out) | exact HB.out)) hb); clear HO270; clear BK264; clear HB; have HO270 := n0_; have HO273 := n1_; have BK264 := n2_; have HB := n3_; clear n0_ n1_ n2_ n3_; (try clear hb); (try clear hb2); (try clear hk); (try clear hi); (try clear ho0)) | ((with_reducible refine gate_callee (f := 11) rfl ?_); refine goesL_ (some 35) rfl rfl Try.func11 (by kernel_rfl) rfl #[.slice A2 l2.length c2] rfl (by (try simp only [List.map_toArray, List.map_cons, List.map_nil]); first | done | rfl | (simp only [List.length_drop, List.length_take]; rfl)) ?_; (with_reducible refine (laws_toBusS.calls k _ _ l2 t274 _ ?side1 ?side2 A18.out).mono ?_); (case side1 => repeat (first | exact (Kd.C_below HR2.out HB.out) | (with_reducible refine Kd.C_alloc ?_ _) | (with_reducible refine Kd.C_drewN ?_ _) | (with_reducible refine Kd.C_drew ?_))); (case side2 => exact HC2.out); rintro e w45 ⟨v275, rfl, ho0, hb⟩; refine ⟨_, rfl, ?_⟩; have n0_ := Aside0.mk (Kd.R_below (by (with_reducible repeat (first | apply Kd.R_alloc | apply Kd.R_drewN | apply Kd.R_drew)); exact HO270.out) hb); have n1_ := Aside0.mk (Kd.R_below (by (with_reducible repeat (first | apply Kd.R_alloc | apply Kd.R_drewN | apply Kd.R_drew)); exact HO273.out) hb); have n2_ := Aside0.mk (Kd.R_lower ho0 (below_size (by repeat (first | (with_reducible first | exact HB.out | apply below_alloc | apply pw_below_drewN | apply below_drew1 | refine below_set ?_ GE264.out) | exact HB.out)))); have n3_ := Aside0.mk (blk_below (g := gb264) (o := .cells #[.int .i64 a0_0, .slice A0_1 l0_1.length c0_1] 24 (0, 0)) (by (with_reducible repeat (first | refine blk_drewN ?_ _ | refine blk_drew ?_ | refine blk_alloc ?_ _)); exact BK264.out) hb); have n4_ := Aside0.mk (below_step (by repeat (first | (with_reducible first | exact HB.out | apply below_alloc | apply pw_below_drewN | apply below_drew1 | refine below_set ?_ GE264.out) | exact HB.out)) hb); clear HO270; clear HO273; clear BK264; clear HB; have HO270 := n0_; have HO273 := n1_; have HO276 := n2_; have BK264 := n3_; have HB := n4_; clear n0_ n1_ n2_ n3_ n4_; (try clear hb); (try clear hb2); (try clear hk); (try clear hi); (try clear ho0); obtain ⟨Ao46, co46, eo46⟩ := Kd.R_slice HO270.out; subst eo46; obtain ⟨Ao47, co47, eo47⟩ := Kd.R_slice HO273.out; subst eo47; obtain ⟨Ao48, co48, eo48⟩ := Kd.R_slice HO276.out; subst eo48) | ((with_reducible refine gate_callee (f := 8) rfl ?_); refine goesL_ (some 36) rfl rfl Try.func8 (by kernel_rfl) rfl #[.agg #[.int .i64 t267, .slice Ao46 t268.length co46], .slice Ao47 t271.length co47, .slice Ao48 t274.length co48] rfl (by (try simp only [List.map_toArray, List.map_cons, List.map_nil]); first | done | rfl | (simp only [List.length_drop, List.length_take]; rfl)) ?_; (with_reducible refine (spec_AliveBuses.calls k t267 _ _ t268 _ _ t271 _ _ t274 t277 _ ?side1 ?side2 ?side3 ?side4 ?side5 ?side6 A19.out).mono ?_); (case side1 => repeat (first | exact (Kd.R_reads' HO270.out).2.2 | (with_reducible refine Kd.C_alloc ?_ _) | (with_reducible refine Kd.C_drewN ?_ _) | (with_reducible refine Kd.C_drew ?_))); (case side2 => exact (Kd.R_reads' HO270.out).2.1); (case side3 => repeat (first | exact (Kd.R_reads' HO273.out).2.2 | (with_reducible refine Kd.C_alloc ?_ _) | (with_reducible refine Kd.C_drewN ?_ _) | (with_reducible refine Kd.C_drew ?_))); (case side4 => exact (Kd.R_reads' HO273.out).2.1); (case side5 => repeat (first | exact (Kd.R_reads' HO276.out).2.2 | (with_reducible refine Kd.C_alloc ?_ _) | (with_reducible refine Kd.C_drewN ?_ _) | (with_reducible refine Kd.C_drew ?_))); (case side6 => exact (Kd.R_reads' HO276.out).2.1); rintro e w49 ⟨v278, rfl, ho0, hb⟩; refine ⟨_, rfl, ?_⟩; have n0_ := Aside0.mk (Kd.R_below (by (with_reducible repeat (first | apply Kd.R_alloc | apply Kd.R_drewN | apply Kd.R_drew)); exact HO270.out) hb); have n1_ := Aside0.mk (Kd.R_below (by (with_reducible repeat (first | apply Kd.R_alloc | apply Kd.R_drewN | apply Kd.R_drew)); exact HO273.out) hb); have n2_ := Aside0.mk (Kd.R_below (by (with_reducible repeat (first | apply Kd.R_alloc | apply Kd.R_drewN | apply Kd.R_drew)); exact HO276.out) hb); have n3_ := Aside0.mk (Kd.R_lower ho0 (below_size (by repeat (first | (with_reducible first | exact HB.out | apply below_alloc | apply pw_below_drewN | apply below_drew1 | refine below_set ?_ GE264.out) | exact HB.out)))); have n4_ := Aside0.mk (blk_below (g := gb264) (o := .cells #[.int .i64 a0_0, .slice A0_1 l0_1.length c0_1] 24 (0, 0)) (by (with_reducible repeat (first | refine blk_drewN ?_ _ | refine blk_drew ?_ | refine blk_alloc ?_ _)); exact BK264.out) hb); have n5_ := Aside0.mk (below_step (by repeat (first | (with_reducible first | exact HB.out | apply below_alloc | apply pw_below_drewN | apply below_drew1 | refine below_set ?_ GE264.out) | exact HB.out)) hb); clear HO270; clear HO273; clear HO276; clear BK264; clear HB; have HO270 := n0_; have HO273 := n1_; have HO276 := n2_; have HO279 := n3_; have BK264 := n4_; have HB := n5_; clear n0_ n1_ n2_ n3_ n4_ n5_; (try clear hb); (try clear hb2); (try clear hk); (try clear hi); (try clear ho0); have hcz50_0 : w49.cell? ⟨gb264, 0, none⟩ = some (.int .i64 a0_0) := (blk_cell BK264.out 0).trans rfl; have hcz50_1 : w49.cell? ⟨gb264, 1, none⟩ = some (.slice A0_1 l0_1.length c0_1) := (blk_cell BK264.out 1).trans rfl; have hfz50_0 := blk_frozen BK264.out 0; have hfz50_1 := blk_frozen BK264.out 1) | ((with_reducible refine gate_callee (f := 9) rfl ?_); refine goesL_ (some 38) rfl rfl Try.func9 (by kernel_rfl) rfl #[.agg #[.int .i64 a0_0, .slice A0_1 l0_1.length c0_1]] rfl (by (try simp only [List.map_toArray, List.map_cons, List.map_nil]); first | done | rfl | (simp only [List.length_drop, List.length_take]; rfl)) ?_; (with_reducible refine (laws_toNet.calls k a0_0 _ _ l0_1 t280 t281 _ ?side1 ?side2 A20.out).mono ?_); (case side1 => repeat (first | exact (Kd.C_below HR0_1.out HB.out) | (with_reducible refine Kd.C_alloc ?_ _) | (with_reducible refine Kd.C_drewN ?_ _) | (with_reducible refine Kd.C_drew ?_))); (case side2 => exact HC0_1.out); rintro e w51 ⟨v282, rfl, ho0, hb⟩; refine ⟨_, rfl, ?_⟩; have n0_ := Aside0.mk (Kd.R_elder' (by (with_reducible repeat (first | apply Kd.R_alloc | apply Kd.R_drewN | apply Kd.R_drew)); exact HO270.out) (Kd.R_base ho0) hb); have n1_ := Aside0.mk (Kd.R_below (by (with_reducible repeat (first | apply Kd.R_alloc | apply Kd.R_drewN | apply Kd.R_drew)); exact HO273.out) hb); have n2_ := Aside0.mk (Kd.R_below (by (with_reducible repeat (first | apply Kd.R_alloc | apply Kd.R_drewN | apply Kd.R_drew)); exact HO276.out) hb); have n3_ := Aside0.mk (Kd.R_below (by (with_reducible repeat (first | apply Kd.R_alloc | apply Kd.R_drewN | apply Kd.R_drew)); exact HO279.out) hb); have n4_ := Aside0.mk (Kd.R_lower (Kd.R_new' ho0 (Kd.R_lt (by (with_reducible repeat (first | apply Kd.R_alloc | apply Kd.R_drewN | apply Kd.R_drew)); exact HO270.out))) (below_size (by repeat (first | (with_reducible first | exact HB.out | apply below_alloc | apply pw_below_drewN | apply below_drew1 | refine below_set ?_ GE264.out) | exact HB.out)))); have n5_ := Aside0.mk (blk_below (g := gb264) (o := .cells #[.int .i64 a0_0, .slice A0_1 l0_1.length c0_1] 24 (0, 0)) (by (with_reducible repeat (first | refine blk_drewN ?_ _ | refine blk_drew ?_ | refine blk_alloc ?_ _)); exact BK264.out) hb); have n6_ := Aside0.mk (below_step (by repeat (first | (with_reducible first | exact HB.out | apply below_alloc | apply pw_below_drewN | apply below_drew1 | refine below_set ?_ GE264.out) | exact HB.out)) hb); clear HO270; clear HO273; clear HO276; clear HO279; clear BK264; clear HB; have HO270 := n0_; have HO273 := n1_; have HO276 := n2_; have HO279 := n3_; have HO283 := n4_; have BK264 := n5_; have HB := n6_; clear n0_ n1_ n2_ n3_ n4_ n5_ n6_; (try clear hb); (try clear hb2); (try clear hk); (try clear hi); (try clear ho0)) | ((with_reducible refine gate_dst (N := 9) rfl ?_); refine box_event ?hg (N := 9) ?hd (cs := #[.int .i64 0, .slice none 0 0]) (t := 33) ?hr ?_; (case hd => rfl); (case hg => rfl); (case hr => first | (go_simp; done) | (go_simp; rfl)); intro gb284 hg w52 hbox hb; have n0_ := Aside0.mk (Kd.R_below (by (with_reducible repeat (first | apply Kd.R_alloc | apply Kd.R_drewN | apply Kd.R_drew)); exact HO270.out) hb); have n1_ := Aside0.mk (Kd.R_below (by (with_reducible repeat (first | apply Kd.R_alloc | apply Kd.R_drewN | apply Kd.R_drew)); exact HO273.out) hb); have n2_ := Aside0.mk (Kd.R_below (by (with_reducible repeat (first | apply Kd.R_alloc | apply Kd.R_drewN | apply Kd.R_drew)); exact HO276.out) hb); have n3_ := Aside0.mk (Kd.R_below (by (with_reducible repeat (first | apply Kd.R_alloc | apply Kd.R_drewN | apply Kd.R_drew)); exact HO279.out) hb); have n4_ := Aside0.mk (Kd.R_below (by (with_reducible repeat (first | apply Kd.R_alloc | apply Kd.R_drewN | apply Kd.R_drew)); exact HO283.out) hb); have n5_ := Aside0.mk (blk_below (g := gb264) (o := .cells #[.int .i64 a0_0, .slice A0_1 l0_1.length c0_1] 24 (0, 0)) (by (with_reducible repeat (first | refine blk_drewN ?_ _ | refine blk_drew ?_ | refine blk_alloc ?_ _)); exact BK264.out) hb); have n6_ := Aside0.mk (below_step (by repeat (first | (with_reducible first | exact HB.out | apply below_alloc | apply pw_below_drewN | apply below_drew1 | refine below_set ?_ GE264.out) | exact HB.out)) hb); have n7_ := Aside0.mk (hbox); have n8_ := Aside0.mk ((by rw [hg]; exact (below_size (by repeat (first | (with_reducible first | exact HB.out | apply below_alloc | apply pw_below_drewN | apply below_drew1 | refine below_set ?_ GE264.out) | exact HB.out))) : w.heap.size ≤ gb284)); have n9_ := Aside0.mk ((by rw [hg]; exact (below_size (by repeat (first | (with_reducible first | exact HB.out | apply below_alloc | apply pw_below_drewN | apply below_drew1 | refine below_set ?_ GE264.out) | exact HB.out))) : w.heap.size ≤ gb284)); have n10_ := Aside0.mk ((by rw [hg]; exact Nat.ne_of_lt (blk_lt (g := gb264) (o := .cells #[.int .i64 a0_0, .slice A0_1 l0_1.length c0_1] 24 (0, 0)) (by (with_reducible repeat (first | refine blk_drewN ?_ _ | refine blk_drew ?_ | refine blk_alloc ?_ _)); exact BK264.out)) : gb264 ≠ gb284)); have n11_ := Aside0.mk ((by rw [hg]; exact Nat.ne_of_gt (blk_lt (g := gb264) (o := .cells #[.int .i64 a0_0, .slice A0_1 l0_1.length c0_1] 24 (0, 0)) (by (with_reducible repeat (first | refine blk_drewN ?_ _ | refine blk_drew ?_ | refine blk_alloc ?_ _)); exact BK264.out)) : gb284 ≠ gb264)); clear HO270; clear HO273; clear HO276; clear HO279; clear HO283; clear BK264; clear HB; have HO270 := n0_; have HO273 := n1_; have HO276 := n2_; have HO279 := n3_; have HO283 := n4_; have BK264 := n5_; have HB := n6_; have BK284 := n7_; have GW284 := n8_; have GE284 := n9_; have NB264_284 := n10_; have NB284_264 := n11_; clear n0_ n1_ n2_ n3_ n4_ n5_ n6_ n7_ n8_ n9_ n10_ n11_; clear hb hbox hg; have hnb53 := NB284_264.out; have hnc53 := NB264_284.out; have hcz54_0 : w52.cell? ⟨gb284, 0, none⟩ = some (.int .i64 0) := (blk_cell BK284.out 0).trans rfl; have hcz54_1 : w52.cell? ⟨gb284, 1, none⟩ = some (.slice none 0 0) := (blk_cell BK284.out 1).trans rfl; have hfz54_0 := blk_frozen BK284.out 0; have hfz54_1 := blk_frozen BK284.out 1; obtain ⟨Ao55, co55, eo55⟩ := Kd.R_slice HO283.out; subst eo55) | ((with_reducible refine gate_callee (f := 10) rfl ?_); refine goesL_ (some 40) rfl rfl Try.func10 (by kernel_rfl) rfl #[.slice A1 l1.length c1] rfl (by (try simp only [List.map_toArray, List.map_cons, List.map_nil]); first | done | rfl | (simp only [List.length_drop, List.length_take]; rfl)) ?_; (with_reducible refine (laws_toBoolS.calls k _ _ l1 t285 _ ?side1 ?side2 A21.out).mono ?_); (case side1 => exact Kd.C_below HR1.out (by repeat (first | (with_reducible first | exact HB.out | apply below_alloc | apply pw_below_drewN | apply below_drew1 | refine below_set ?_ GE264.out | refine below_set ?_ GE284.out) | exact HB.out))); (case side2 => exact HC1.out); rintro e w56 ⟨v286, rfl, ho0, hb⟩; refine ⟨_, rfl, ?_⟩; have n0_ := Aside0.mk (Kd.R_below (by (with_reducible repeat (first | apply Kd.R_alloc | apply Kd.R_drewN | apply Kd.R_drew)); exact (Kd.R_mono (Kd.R_far (p := ⟨gb284, 1, none⟩) (Kd.R_far (p := ⟨gb284, 0, none⟩) (Kd.R_types HO270.out BK284.out (by decide)) (fun _ hk => hk.2) (.int .i64 t280)) (fun _ hk => hk.2) (.slice Ao55 t281.length co55)) (fun _ h_ => h_.1))) hb); have n1_ := Aside0.mk (Kd.R_elder' (by (with_reducible repeat (first | apply Kd.R_alloc | apply Kd.R_drewN | apply Kd.R_drew)); exact (Kd.R_mono (Kd.R_far (p := ⟨gb284, 1, none⟩) (Kd.R_far (p := ⟨gb284, 0, none⟩) (Kd.R_types HO273.out BK284.out (by decide)) (fun _ hk => hk.2) (.int .i64 t280)) (fun _ hk => hk.2) (.slice Ao55 t281.length co55)) (fun _ h_ => h_.1))) (Kd.R_base ho0) hb); have n2_ := Aside0.mk (Kd.R_below (by (with_reducible repeat (first | apply Kd.R_alloc | apply Kd.R_drewN | apply Kd.R_drew)); exact (Kd.R_mono (Kd.R_far (p := ⟨gb284, 1, none⟩) (Kd.R_far (p := ⟨gb284, 0, none⟩) (Kd.R_types HO276.out BK284.out (by decide)) (fun _ hk => hk.2) (.int .i64 t280)) (fun _ hk => hk.2) (.slice Ao55 t281.length co55)) (fun _ h_ => h_.1))) hb); have n3_ := Aside0.mk (Kd.R_below (by (with_reducible repeat (first | apply Kd.R_alloc | apply Kd.R_drewN | apply Kd.R_drew)); exact (Kd.R_mono (Kd.R_far (p := ⟨gb284, 1, none⟩) (Kd.R_far (p := ⟨gb284, 0, none⟩) (Kd.R_types HO279.out BK284.out (by decide)) (fun _ hk => hk.2) (.int .i64 t280)) (fun _ hk => hk.2) (.slice Ao55 t281.length co55)) (fun _ h_ => h_.1))) hb); have n4_ := Aside0.mk (Kd.R_below (by (with_reducible repeat (first | apply Kd.R_alloc | apply Kd.R_drewN | apply Kd.R_drew)); exact (Kd.R_mono (Kd.R_far (p := ⟨gb284, 1, none⟩) (Kd.R_far (p := ⟨gb284, 0, none⟩) (Kd.R_types HO283.out BK284.out (by decide)) (fun _ hk => hk.2) (.int .i64 t280)) (fun _ hk => hk.2) (.slice Ao55 t281.length co55)) (fun _ h_ => h_.1))) hb); have n5_ := Aside0.mk (Kd.R_lower (Kd.R_new' ho0 (Kd.R_lt (by (with_reducible repeat (first | apply Kd.R_alloc | apply Kd.R_drewN | apply Kd.R_drew)); exact (Kd.R_mono (Kd.R_far (p := ⟨gb284, 1, none⟩) (Kd.R_far (p := ⟨gb284, 0, none⟩) (Kd.R_types HO273.out BK284.out (by decide)) (fun _ hk => hk.2) (.int .i64 t280)) (fun _ hk => hk.2) (.slice Ao55 t281.length co55)) (fun _ h_ => h_.1))))) (below_size (by repeat (first | (with_reducible first | exact HB.out | apply below_alloc | apply pw_below_drewN | apply below_drew1 | refine below_set ?_ GE264.out | refine below_set ?_ GE284.out) | exact HB.out)))); have n6_ := Aside0.mk (blk_below (g := gb264) (o := .cells #[.int .i64 a0_0, .slice A0_1 l0_1.length c0_1] 24 (0, 0)) (by (with_reducible repeat (first | refine blk_drewN ?_ _ | refine blk_drew ?_ | refine blk_alloc ?_ _)); refine blk_far ?_ NB264_284.out _; (with_reducible repeat (first | refine blk_drewN ?_ _ | refine blk_drew ?_ | refine blk_alloc ?_ _)); refine blk_far ?_ NB264_284.out _; (with_reducible repeat (first | refine blk_drewN ?_ _ | refine blk_drew ?_ | refine blk_alloc ?_ _)); exact BK264.out) hb); have n7_ := Aside0.mk (blk_below (g := gb284) (o := .cells #[.int .i64 t280, .slice Ao55 t281.length co55] 33 (0, 0)) (by (with_reducible repeat (first | refine blk_drewN ?_ _ | refine blk_drew ?_ | refine blk_alloc ?_ _)); refine blk_put (cs := #[.int .i64 t280, .slice none 0 0]) ?_ 1 _ rfl; (with_reducible repeat (first | refine blk_drewN ?_ _ | refine blk_drew ?_ | refine blk_alloc ?_ _)); refine blk_put (cs := #[.int .i64 0, .slice none 0 0]) ?_ 0 _ rfl; (with_reducible repeat (first | refine blk_drewN ?_ _ | refine blk_drew ?_ | refine blk_alloc ?_ _)); exact BK284.out) hb); have n8_ := Aside0.mk (below_step (by repeat (first | (with_reducible first | exact HB.out | apply below_alloc | apply pw_below_drewN | apply below_drew1 | refine below_set ?_ GE264.out | refine below_set ?_ GE284.out) | exact HB.out)) hb); clear HO270; clear HO273; clear HO276; clear HO279; clear HO283; clear BK264; clear BK284; clear HB; have HO270 := n0_; have HO273 := n1_; have HO276 := n2_; have HO279 := n3_; have HO283 := n4_; have HO287 := n5_; have BK264 := n6_; have BK284 := n7_; have HB := n8_; clear n0_ n1_ n2_ n3_ n4_ n5_ n6_ n7_ n8_; (try clear hb); (try clear hb2); (try clear hk); (try clear hi); (try clear ho0)) | ((with_reducible refine gate_callee (f := 11) rfl ?_); refine goesL_ (some 42) rfl rfl Try.func11 (by kernel_rfl) rfl #[.slice A2 l2.length c2] rfl (by (try simp only [List.map_toArray, List.map_cons, List.map_nil]); first | done | rfl | (simp only [List.length_drop, List.length_take]; rfl)) ?_; (with_reducible refine (laws_toBusS.calls k _ _ l2 t288 _ ?side1 ?side2 A22.out).mono ?_); (case side1 => repeat (first | exact (Kd.C_below HR2.out HB.out) | (with_reducible refine Kd.C_alloc ?_ _) | (with_reducible refine Kd.C_drewN ?_ _) | (with_reducible refine Kd.C_drew ?_))); (case side2 => exact HC2.out); rintro e w57 ⟨v289, rfl, ho0, hb⟩; refine ⟨_, rfl, ?_⟩; have n0_ := Aside0.mk (Kd.R_below (by (with_reducible repeat (first | apply Kd.R_alloc | apply Kd.R_drewN | apply Kd.R_drew)); exact HO270.out) hb); have n1_ := Aside0.mk (Kd.R_below (by (with_reducible repeat (first | apply Kd.R_alloc | apply Kd.R_drewN | apply Kd.R_drew)); exact HO273.out) hb); have n2_ := Aside0.mk (Kd.R_elder' (by (with_reducible repeat (first | apply Kd.R_alloc | apply Kd.R_drewN | apply Kd.R_drew)); exact HO276.out) (Kd.R_base ho0) hb); have n3_ := Aside0.mk (Kd.R_below (by (with_reducible repeat (first | apply Kd.R_alloc | apply Kd.R_drewN | apply Kd.R_drew)); exact HO279.out) hb); have n4_ := Aside0.mk (Kd.R_below (by (with_reducible repeat (first | apply Kd.R_alloc | apply Kd.R_drewN | apply Kd.R_drew)); exact HO283.out) hb); have n5_ := Aside0.mk (Kd.R_below (by (with_reducible repeat (first | apply Kd.R_alloc | apply Kd.R_drewN | apply Kd.R_drew)); exact HO287.out) hb); have n6_ := Aside0.mk (Kd.R_lower (Kd.R_new' ho0 (Kd.R_lt (by (with_reducible repeat (first | apply Kd.R_alloc | apply Kd.R_drewN | apply Kd.R_drew)); exact HO276.out))) (below_size (by repeat (first | (with_reducible first | exact HB.out | apply below_alloc | apply pw_below_drewN | apply below_drew1 | refine below_set ?_ GE264.out | refine below_set ?_ GE284.out) | exact HB.out)))); have n7_ := Aside0.mk (blk_below (g := gb264) (o := .cells #[.int .i64 a0_0, .slice A0_1 l0_1.length c0_1] 24 (0, 0)) (by (with_reducible repeat (first | refine blk_drewN ?_ _ | refine blk_drew ?_ | refine blk_alloc ?_ _)); exact BK264.out) hb); have n8_ := Aside0.mk (blk_below (g := gb284) (o := .cells #[.int .i64 t280, .slice Ao55 t281.length co55] 33 (0, 0)) (by (with_reducible repeat (first | refine blk_drewN ?_ _ | refine blk_drew ?_ | refine blk_alloc ?_ _)); exact BK284.out) hb); have n9_ := Aside0.mk (below_step (by repeat (first | (with_reducible first | exact HB.out | apply below_alloc | apply pw_below_drewN | apply below_drew1 | refine below_set ?_ GE264.out | refine below_set ?_ GE284.out) | exact HB.out)) hb); clear HO270; clear HO273; clear HO276; clear HO279; clear HO283; clear HO287; clear BK264; clear BK284; clear HB; have HO270 := n0_; have HO273 := n1_; have HO276 := n2_; have HO279 := n3_; have HO283 := n4_; have HO287 := n5_; have HO290 := n6_; have BK264 := n7_; have BK284 := n8_; have HB := n9_; clear n0_ n1_ n2_ n3_ n4_ n5_ n6_ n7_ n8_ n9_; (try clear hb); (try clear hb2); (try clear hk); (try clear hi); (try clear ho0); have hcz58_0 : w57.cell? ⟨gb284, 0, none⟩ = some (.int .i64 t280) := (blk_cell BK284.out 0).trans rfl; have hcz58_1 : w57.cell? ⟨gb284, 1, none⟩ = some (.slice Ao55 t281.length co55) := (blk_cell BK284.out 1).trans rfl; have hfz58_0 := blk_frozen BK284.out 0; have hfz58_1 := blk_frozen BK284.out 1; obtain ⟨Ao59, co59, eo59⟩ := Kd.R_slice HO287.out; subst eo59; obtain ⟨Ao60, co60, eo60⟩ := Kd.R_slice HO290.out; subst eo60) | ((with_reducible refine gate_callee (f := 12) rfl ?_); refine goesL_ (some 46) rfl rfl Try.func12 (by kernel_rfl) rfl #[.agg #[.int .i64 t280, .slice Ao55 t281.length co55], .slice Ao59 t285.length co59, .slice Ao60 t288.length co60] rfl (by (try simp only [List.map_toArray, List.map_cons, List.map_nil]); first | done | rfl | (simp only [List.length_drop, List.length_take]; rfl)) ?_; (with_reducible refine (impl_AliveBuses.calls k t280 _ _ t281 _ _ t285 _ _ t288 t291 _ ?side1 ?side2 ?side3 ?side4 ?side5 ?side6 A23.out).mono ?_); (case side1 => repeat (first | exact (Kd.R_reads' HO283.out).2.2 | (with_reducible refine Kd.C_alloc ?_ _) | (with_reducible refine Kd.C_drewN ?_ _) | (with_reducible refine Kd.C_drew ?_))); (case side2 => exact (Kd.R_reads' HO283.out).2.1); (case side3 => repeat (first | exact (Kd.R_reads' HO287.out).2.2 | (with_reducible refine Kd.C_alloc ?_ _) | (with_reducible refine Kd.C_drewN ?_ _) | (with_reducible refine Kd.C_drew ?_))); (case side4 => exact (Kd.R_reads' HO287.out).2.1); (case side5 => repeat (first | exact (Kd.R_reads' HO290.out).2.2 | (with_reducible refine Kd.C_alloc ?_ _) | (with_reducible refine Kd.C_drewN ?_ _) | (with_reducible refine Kd.C_drew ?_))); (case side6 => exact (Kd.R_reads' HO290.out).2.1); rintro e w61 ⟨v292, rfl, ho0, hb⟩; refine ⟨_, rfl, ?_⟩; have n0_ := Aside0.mk (Kd.R_below (by (with_reducible repeat (first | apply Kd.R_alloc | apply Kd.R_drewN | apply Kd.R_drew)); exact HO270.out) hb); have n1_ := Aside0.mk (Kd.R_below (by (with_reducible repeat (first | apply Kd.R_alloc | apply Kd.R_drewN | apply Kd.R_drew)); exact HO273.out) hb); have n2_ := Aside0.mk (Kd.R_below (by (with_reducible repeat (first | apply Kd.R_alloc | apply Kd.R_drewN | apply Kd.R_drew)); exact HO276.out) hb); have n3_ := Aside0.mk (Kd.R_elder' (by (with_reducible repeat (first | apply Kd.R_alloc | apply Kd.R_drewN | apply Kd.R_drew)); exact HO279.out) (Kd.R_base ho0) hb); have n4_ := Aside0.mk (Kd.R_below (by (with_reducible repeat (first | apply Kd.R_alloc | apply Kd.R_drewN | apply Kd.R_drew)); exact HO283.out) hb); have n5_ := Aside0.mk (Kd.R_below (by (with_reducible repeat (first | apply Kd.R_alloc | apply Kd.R_drewN | apply Kd.R_drew)); exact HO287.out) hb); have n6_ := Aside0.mk (Kd.R_below (by (with_reducible repeat (first | apply Kd.R_alloc | apply Kd.R_drewN | apply Kd.R_drew)); exact HO290.out) hb); have n7_ := Aside0.mk (Kd.R_lower (Kd.R_new' ho0 (Kd.R_lt (by (with_reducible repeat (first | apply Kd.R_alloc | apply Kd.R_drewN | apply Kd.R_drew)); exact HO279.out))) (below_size (by repeat (first | (with_reducible first | exact HB.out | apply below_alloc | apply pw_below_drewN | apply below_drew1 | refine below_set ?_ GE264.out | refine below_set ?_ GE284.out) | exact HB.out)))); have n8_ := Aside0.mk (blk_below (g := gb264) (o := .cells #[.int .i64 a0_0, .slice A0_1 l0_1.length c0_1] 24 (0, 0)) (by (with_reducible repeat (first | refine blk_drewN ?_ _ | refine blk_drew ?_ | refine blk_alloc ?_ _)); exact BK264.out) hb); have n9_ := Aside0.mk (blk_below (g := gb284) (o := .cells #[.int .i64 t280, .slice Ao55 t281.length co55] 33 (0, 0)) (by (with_reducible repeat (first | refine blk_drewN ?_ _ | refine blk_drew ?_ | refine blk_alloc ?_ _)); exact BK284.out) hb); have n10_ := Aside0.mk (below_step (by repeat (first | (with_reducible first | exact HB.out | apply below_alloc | apply pw_below_drewN | apply below_drew1 | refine below_set ?_ GE264.out | refine below_set ?_ GE284.out) | exact HB.out)) hb); clear HO270; clear HO273; clear HO276; clear HO279; clear HO283; clear HO287; clear HO290; clear BK264; clear BK284; clear HB; have HO270 := n0_; have HO273 := n1_; have HO276 := n2_; have HO279 := n3_; have HO283 := n4_; have HO287 := n5_; have HO290 := n6_; have HO293 := n7_; have BK264 := n8_; have BK284 := n9_; have HB := n10_; clear n0_ n1_ n2_ n3_ n4_ n5_ n6_ n7_ n8_ n9_ n10_; (try clear hb); (try clear hb2); (try clear hk); (try clear hi); (try clear ho0); obtain ⟨Ao62, co62, eo62⟩ := Kd.R_slice HO293.out; subst eo62; obtain ⟨Ao63, co63, eo63⟩ := Kd.R_slice HO279.out; subst eo63) | ((with_reducible refine gate_callee (f := 13) rfl ?_); refine goesL_ (some 49) rfl rfl Try.func13 (by kernel_rfl) rfl #[.slice Ao62 t291.length co62, .slice Ao63 t277.length co63] rfl (by (try simp only [List.map_toArray, List.map_cons, List.map_nil]); first | done | rfl | (simp only [List.length_drop, List.length_take]; rfl)) ?_; (with_reducible refine (laws_eqIntS.calls k _ _ t291 _ _ t277 true _ ?side1 ?side2 ?side3 ?side4 A24.out).mono ?_); (case side1 => repeat (first | exact (Kd.R_reads' HO293.out).2.2 | (with_reducible refine Kd.C_alloc ?_ _) | (with_reducible refine Kd.C_drewN ?_ _) | (with_reducible refine Kd.C_drew ?_))); (case side2 => exact (Kd.R_reads' HO293.out).2.1); (case side3 => repeat (first | exact (Kd.R_reads' HO279.out).2.2 | (with_reducible refine Kd.C_alloc ?_ _) | (with_reducible refine Kd.C_drewN ?_ _) | (with_reducible refine Kd.C_drew ?_))); (case side4 => exact (Kd.R_reads' HO279.out).2.1); rintro e w' ⟨rfl, ⟨nd, rfl⟩⟩; refine ⟨_, rfl, ?_⟩))
 (try (rw [drewN_self w61]; generalize hq_ : World.drewN w61 _ = w61; have n0_ : Aside0 (Kd.R k77 77 w61 w.heap.size (fun k_ => (True ∧ some k_ ≠ (.slice Ao55 t281.length co55 : Value).ownBlock)) (.slice Ao46 t268.length co46) t268) := ⟨by rw [← hq_]; exact (by (with_reducible repeat (first | apply Kd.R_alloc | apply Kd.R_drewN | apply Kd.R_drew)); exact HO270.out)⟩; have n1_ : Aside0 (Kd.R Kd.bool 4 w61 w.heap.size (fun k_ => (True ∧ some k_ ≠ (.slice Ao59 t285.length co59 : Value).ownBlock)) (.slice Ao47 t271.length co47) t271) := ⟨by rw [← hq_]; exact (by (with_reducible repeat (first | apply Kd.R_alloc | apply Kd.R_drewN | apply Kd.R_drew)); exact HO273.out)⟩; have n2_ : Aside0 (Kd.R k53 53 w61 w.heap.size (fun k_ => (True ∧ some k_ ≠ (.slice Ao60 t288.length co60 : Value).ownBlock)) (.slice Ao48 t274.length co48) t274) := ⟨by rw [← hq_]; exact (by (with_reducible repeat (first | apply Kd.R_alloc | apply Kd.R_drewN | apply Kd.R_drew)); exact HO276.out)⟩; have n3_ : Aside0 (Kd.R (Kd.int .i64) 3 w61 w.heap.size (fun k_ => (True ∧ some k_ ≠ (.slice Ao62 t291.length co62 : Value).ownBlock)) (.slice Ao63 t277.length co63) t277) := ⟨by rw [← hq_]; exact (by (with_reducible repeat (first | apply Kd.R_alloc | apply Kd.R_drewN | apply Kd.R_drew)); exact HO279.out)⟩; have n4_ : Aside0 (Kd.R k77 77 w61 w.heap.size (fun k_ => (True ∧ some k_ ≠ (.slice Ao46 t268.length co46 : Value).ownBlock)) (.slice Ao55 t281.length co55) t281) := ⟨by rw [← hq_]; exact (by (with_reducible repeat (first | apply Kd.R_alloc | apply Kd.R_drewN | apply Kd.R_drew)); exact HO283.out)⟩; have n5_ : Aside0 (Kd.R Kd.bool 4 w61 w.heap.size (fun k_ => (True ∧ some k_ ≠ (.slice Ao47 t271.length co47 : Value).ownBlock)) (.slice Ao59 t285.length co59) t285) := ⟨by rw [← hq_]; exact (by (with_reducible repeat (first | apply Kd.R_alloc | apply Kd.R_drewN | apply Kd.R_drew)); exact HO287.out)⟩; have n6_ : Aside0 (Kd.R k53 53 w61 w.heap.size (fun k_ => (True ∧ some k_ ≠ (.slice Ao48 t274.length co48 : Value).ownBlock)) (.slice Ao60 t288.length co60) t288) := ⟨by rw [← hq_]; exact (by (with_reducible repeat (first | apply Kd.R_alloc | apply Kd.R_drewN | apply Kd.R_drew)); exact HO290.out)⟩; have n7_ : Aside0 (Kd.R (Kd.int .i64) 3 w61 w.heap.size (fun k_ => (True ∧ some k_ ≠ (.slice Ao63 t277.length co63 : Value).ownBlock)) (.slice Ao62 t291.length co62) t291) := ⟨by rw [← hq_]; exact (by (with_reducible repeat (first | apply Kd.R_alloc | apply Kd.R_drewN | apply Kd.R_drew)); exact HO293.out)⟩; have n8_ : Aside0 (w61.heap[gb264]? = some (.cells #[.int .i64 a0_0, .slice A0_1 l0_1.length c0_1] 24 (0, 0))) := ⟨by rw [← hq_]; exact (by (with_reducible repeat (first | refine blk_drewN ?_ _ | refine blk_drew ?_ | refine blk_alloc ?_ _)); exact BK264.out)⟩; have n9_ : Aside0 (w61.heap[gb284]? = some (.cells #[.int .i64 t280, .slice Ao55 t281.length co55] 33 (0, 0))) := ⟨by rw [← hq_]; exact (by (with_reducible repeat (first | refine blk_drewN ?_ _ | refine blk_drew ?_ | refine blk_alloc ?_ _)); exact BK284.out)⟩; have n10_ : Aside0 (Below w.heap.size w w61) := ⟨by rw [← hq_]; exact (by repeat (first | (with_reducible first | exact HB.out | apply below_alloc | apply pw_below_drewN | apply below_drew1 | refine below_set ?_ GE264.out | refine below_set ?_ GE284.out) | exact HB.out))⟩; clear HO270 HO273 HO276 HO279 HO283 HO287 HO290 HO293 BK264 BK284 HB hq_; have HO270 := n0_; have HO273 := n1_; have HO276 := n2_; have HO279 := n3_; have HO283 := n4_; have HO287 := n5_; have HO290 := n6_; have HO293 := n7_; have BK264 := n8_; have BK284 := n9_; have HB := n10_; clear n0_ n1_ n2_ n3_ n4_ n5_ n6_ n7_ n8_ n9_ n10_))
 have n0_ := Aside0.mk (Kd.R_drew HO270.out)
 have n1_ := Aside0.mk (Kd.R_drew HO273.out)
 have n2_ := Aside0.mk (Kd.R_drew HO276.out)
 have n3_ := Aside0.mk (Kd.R_drew HO279.out)
 have n4_ := Aside0.mk (Kd.R_drew HO283.out)
 have n5_ := Aside0.mk (Kd.R_drew HO287.out)
 have n6_ := Aside0.mk (Kd.R_drew HO290.out)
 have n7_ := Aside0.mk (Kd.R_drew HO293.out)
 have n8_ := Aside0.mk (blk_drew BK264.out)
 have n9_ := Aside0.mk (blk_drew BK284.out)
 have n10_ := Aside0.mk (below_drew1 HB.out)
 clear HO270
 clear HO273
 clear HO276
 clear HO279
 clear HO283
 clear HO287
 clear HO290
 clear HO293
 clear BK264
 clear BK284
 clear HB
 have HO270 := n0_
 have HO273 := n1_
 have HO276 := n2_
 have HO279 := n3_
 have HO283 := n4_
 have HO287 := n5_
 have HO290 := n6_
 have HO293 := n7_
 have BK264 := n8_
 have BK284 := n9_
 have HB := n10_
 clear n0_ n1_ n2_ n3_ n4_ n5_ n6_ n7_ n8_ n9_ n10_
 refine start_ (n := 5) (S := fun w' => w'.cell? ⟨gb284, 0, none⟩ = some (.int .i64 t280) ∧ w'.cell? ⟨gb284, 1, none⟩ = some (.slice Ao55 t281.length co55) ∧ w'.cell? ⟨gb264, 0, none⟩ = some (.int .i64 a0_0) ∧ w'.cell? ⟨gb264, 1, none⟩ = some (.slice A0_1 l0_1.length c0_1)) (ds := []) #[false, false, false, false, false] (by kernel_rfl) rfl rfl ⟨(blk_cell BK284.out 0).trans rfl, (blk_cell BK284.out 1).trans rfl, (blk_cell BK264.out 0).trans rfl, (blk_cell BK264.out 1).trans rfl⟩ (fun hHeld => ?_)
 generalize w61.drew = w64 at HO270 HO273 HO276 HO279 HO283 HO287 HO290 HO293 BK264 BK284 HB hHeld ⊢
 refine take_ (i := 0) (N := some 51) (v := ?_) (a' := ?_) #[true, false, false, false, false] rfl rfl (by kernel_rfl) (fun _ _ _ h => h) (Or.inl ⟨by rfl, ?_⟩) hHeld ?_ ?_
 rotate_left
 ·
  rintro w' ⟨s0, s1, s2, s3⟩
  go_simp
  with_reducible rfl
 rotate_left
 ·
  simp only [Act.put, List.setIfInBounds_toArray, List.set_cons_zero, List.set_cons_succ, i64_w, i32_w]
  rfl
 refine take_ (i := 1) (N := some 52) (v := ?_) (a' := ?_) #[true, true, false, false, false] rfl rfl (by kernel_rfl) (fun _ _ _ h => h) (Or.inl ⟨by rfl, ?_⟩) hHeld ?_ ?_
 rotate_left
 ·
  rintro w' ⟨s0, s1, s2, s3⟩
  go_simp
  with_reducible rfl
 rotate_left
 ·
  simp only [Act.put, List.setIfInBounds_toArray, List.set_cons_zero, List.set_cons_succ, i64_w, i32_w]
  rfl
 refine one_ (i := 2) (N := some 53) #[true, true, true, false, false] rfl rfl (by kernel_rfl) (by decide) (fun K hK => ?_)
 refine goes_ Try.func9 (by kernel_rfl) rfl #[.agg #[.int .i64 a0_0, .slice A0_1 l0_1.length c0_1]] (by rfl) rfl rfl (by (try simp only [List.map_toArray, List.map_cons, List.map_nil]); first | done | rfl | (simp only [List.length_drop, List.length_take]; rfl)) ?_
 with_reducible refine (laws_toNet.calls k a0_0 _ _ l0_1 t295 t296 _ ?side1 ?side2 A26.out).mono ?_
 (case side1 => repeat (first | exact (Kd.C_below HR0_1.out HB.out) | (with_reducible refine Kd.C_alloc ?_ _) | (with_reducible refine Kd.C_drewN ?_ _) | (with_reducible refine Kd.C_drew ?_)))
 (case side2 => exact HC0_1.out)
 rintro e w65 ⟨v297, rfl, ho0, hb⟩
 refine ⟨_, rfl, ?_⟩
 have n0_ := Aside0.mk (Kd.R_elder' (by (with_reducible repeat (first | apply Kd.R_alloc | apply Kd.R_drewN | apply Kd.R_drew)); exact HO270.out) (Kd.R_base ho0) hb)
 have n1_ := Aside0.mk (Kd.R_below (by (with_reducible repeat (first | apply Kd.R_alloc | apply Kd.R_drewN | apply Kd.R_drew)); exact HO273.out) hb)
 have n2_ := Aside0.mk (Kd.R_below (by (with_reducible repeat (first | apply Kd.R_alloc | apply Kd.R_drewN | apply Kd.R_drew)); exact HO276.out) hb)
 have n3_ := Aside0.mk (Kd.R_below (by (with_reducible repeat (first | apply Kd.R_alloc | apply Kd.R_drewN | apply Kd.R_drew)); exact HO279.out) hb)
 have n4_ := Aside0.mk (Kd.R_elder' (by (with_reducible repeat (first | apply Kd.R_alloc | apply Kd.R_drewN | apply Kd.R_drew)); exact HO283.out) (Kd.R_base ho0) hb)
 have n5_ := Aside0.mk (Kd.R_below (by (with_reducible repeat (first | apply Kd.R_alloc | apply Kd.R_drewN | apply Kd.R_drew)); exact HO287.out) hb)
 have n6_ := Aside0.mk (Kd.R_below (by (with_reducible repeat (first | apply Kd.R_alloc | apply Kd.R_drewN | apply Kd.R_drew)); exact HO290.out) hb)
 have n7_ := Aside0.mk (Kd.R_below (by (with_reducible repeat (first | apply Kd.R_alloc | apply Kd.R_drewN | apply Kd.R_drew)); exact HO293.out) hb)
 have n8_ := Aside0.mk (Kd.R_lower (Kd.R_new' (Kd.R_new' ho0 (Kd.R_lt (by (with_reducible repeat (first | apply Kd.R_alloc | apply Kd.R_drewN | apply Kd.R_drew)); exact HO270.out))) (Kd.R_lt (by (with_reducible repeat (first | apply Kd.R_alloc | apply Kd.R_drewN | apply Kd.R_drew)); exact HO283.out))) (below_size (by repeat (first | (with_reducible first | exact HB.out | apply below_alloc | apply pw_below_drewN | apply below_drew1 | refine below_set ?_ GE264.out | refine below_set ?_ GE284.out) | exact HB.out))))
 have n9_ := Aside0.mk (blk_below (g := gb264) (o := .cells #[.int .i64 a0_0, .slice A0_1 l0_1.length c0_1] 24 (0, 0)) (by (with_reducible repeat (first | refine blk_drewN ?_ _ | refine blk_drew ?_ | refine blk_alloc ?_ _)); exact BK264.out) hb)
 have n10_ := Aside0.mk (blk_below (g := gb284) (o := .cells #[.int .i64 t280, .slice Ao55 t281.length co55] 33 (0, 0)) (by (with_reducible repeat (first | refine blk_drewN ?_ _ | refine blk_drew ?_ | refine blk_alloc ?_ _)); exact BK284.out) hb)
 have n11_ := Aside0.mk (below_step (by repeat (first | (with_reducible first | exact HB.out | apply below_alloc | apply pw_below_drewN | apply below_drew1 | refine below_set ?_ GE264.out | refine below_set ?_ GE284.out) | exact HB.out)) hb)
 clear HO270
 clear HO273
 clear HO276
 clear HO279
 clear HO283
 clear HO287
 clear HO290
 clear HO293
 clear BK264
 clear BK284
 clear HB
 have HO270 := n0_
 have HO273 := n1_
 have HO276 := n2_
 have HO279 := n3_
 have HO283 := n4_
 have HO287 := n5_
 have HO290 := n6_
 have HO293 := n7_
 have HO298 := n8_
 have BK264 := n9_
 have BK284 := n10_
 have HB := n11_
 clear n0_ n1_ n2_ n3_ n4_ n5_ n6_ n7_ n8_ n9_ n10_ n11_
 (try clear hb)
 (try clear hb2)
 (try clear hk)
 (try clear hi)
 (try clear ho0)
 obtain ⟨Ao66, co66, eo66⟩ := Kd.R_slice HO298.out
 (first | subst eo66 | (injection eo66 with f1_ f2_ f3_; have f4_ := f1_.symm; have f5_ := f3_.symm; clear f1_ f2_ f3_; subst f4_; subst f5_))
 refine hK.out _ _ ⟨(blk_cell BK284.out 0).trans rfl, (blk_cell BK284.out 1).trans rfl, (blk_cell BK264.out 0).trans rfl, (blk_cell BK264.out 1).trans rfl⟩ (fun hHeld => ?_)
 clear hK K
 refine norm_ (a' := ?_) ?_ ?_
 rotate_left
 ·
  show Act.put _ (some 53) _ = _
  simp only [Act.put, List.setIfInBounds_toArray, List.set_cons_zero, List.set_cons_succ, i64_w, i32_w]
  rfl
 refine one_ (i := 3) (N := some 54) #[true, true, true, true, false] rfl rfl (by kernel_rfl) (by decide) (fun K hK => ?_)
 refine goes_ Try.func14 (by kernel_rfl) rfl #[.agg #[.int .i64 t280, .slice Ao55 t281.length co55], .agg #[.int .i64 t295, .slice Ao66 t296.length co66]] (by rfl) rfl rfl (by (try simp only [List.map_toArray, List.map_cons, List.map_nil]); first | done | rfl | (simp only [List.length_drop, List.length_take]; rfl)) ?_
 with_reducible refine (laws_eqNet.calls k t280 _ _ t281 t295 _ _ t296 true _ ?side1 ?side2 ?side3 ?side4 A27.out).mono ?_
 (case side1 => repeat (first | exact (Kd.R_reads' HO283.out).2.2 | (with_reducible refine Kd.C_alloc ?_ _) | (with_reducible refine Kd.C_drewN ?_ _) | (with_reducible refine Kd.C_drew ?_)))
 (case side2 => exact (Kd.R_reads' HO283.out).2.1)
 (case side3 => repeat (first | exact (Kd.R_reads' HO298.out).2.2 | (with_reducible refine Kd.C_alloc ?_ _) | (with_reducible refine Kd.C_drewN ?_ _) | (with_reducible refine Kd.C_drew ?_)))
 (case side4 => exact (Kd.R_reads' HO298.out).2.1)
 rintro e w67 ⟨rfl, hb⟩
 refine ⟨_, rfl, ?_⟩
 have n0_ := Aside0.mk (Kd.R_below (by (with_reducible repeat (first | apply Kd.R_alloc | apply Kd.R_drewN | apply Kd.R_drew)); exact HO270.out) hb)
 have n1_ := Aside0.mk (Kd.R_below (by (with_reducible repeat (first | apply Kd.R_alloc | apply Kd.R_drewN | apply Kd.R_drew)); exact HO273.out) hb)
 have n2_ := Aside0.mk (Kd.R_below (by (with_reducible repeat (first | apply Kd.R_alloc | apply Kd.R_drewN | apply Kd.R_drew)); exact HO276.out) hb)
 have n3_ := Aside0.mk (Kd.R_below (by (with_reducible repeat (first | apply Kd.R_alloc | apply Kd.R_drewN | apply Kd.R_drew)); exact HO279.out) hb)
 have n4_ := Aside0.mk (Kd.R_below (by (with_reducible repeat (first | apply Kd.R_alloc | apply Kd.R_drewN | apply Kd.R_drew)); exact HO283.out) hb)
 have n5_ := Aside0.mk (Kd.R_below (by (with_reducible repeat (first | apply Kd.R_alloc | apply Kd.R_drewN | apply Kd.R_drew)); exact HO287.out) hb)
 have n6_ := Aside0.mk (Kd.R_below (by (with_reducible repeat (first | apply Kd.R_alloc | apply Kd.R_drewN | apply Kd.R_drew)); exact HO290.out) hb)
 have n7_ := Aside0.mk (Kd.R_below (by (with_reducible repeat (first | apply Kd.R_alloc | apply Kd.R_drewN | apply Kd.R_drew)); exact HO293.out) hb)
 have n8_ := Aside0.mk (Kd.R_below (by (with_reducible repeat (first | apply Kd.R_alloc | apply Kd.R_drewN | apply Kd.R_drew)); exact HO298.out) hb)
 have n9_ := Aside0.mk (blk_below (g := gb264) (o := .cells #[.int .i64 a0_0, .slice A0_1 l0_1.length c0_1] 24 (0, 0)) (by (with_reducible repeat (first | refine blk_drewN ?_ _ | refine blk_drew ?_ | refine blk_alloc ?_ _)); exact BK264.out) hb)
 have n10_ := Aside0.mk (blk_below (g := gb284) (o := .cells #[.int .i64 t280, .slice Ao55 t281.length co55] 33 (0, 0)) (by (with_reducible repeat (first | refine blk_drewN ?_ _ | refine blk_drew ?_ | refine blk_alloc ?_ _)); exact BK284.out) hb)
 have n11_ := Aside0.mk (below_step (by repeat (first | (with_reducible first | exact HB.out | apply below_alloc | apply pw_below_drewN | apply below_drew1 | refine below_set ?_ GE264.out | refine below_set ?_ GE284.out) | exact HB.out)) hb)
 clear HO270
 clear HO273
 clear HO276
 clear HO279
 clear HO283
 clear HO287
 clear HO290
 clear HO293
 clear HO298
 clear BK264
 clear BK284
 clear HB
 have HO270 := n0_
 have HO273 := n1_
 have HO276 := n2_
 have HO279 := n3_
 have HO283 := n4_
 have HO287 := n5_
 have HO290 := n6_
 have HO293 := n7_
 have HO298 := n8_
 have BK264 := n9_
 have BK284 := n10_
 have HB := n11_
 clear n0_ n1_ n2_ n3_ n4_ n5_ n6_ n7_ n8_ n9_ n10_ n11_
 (try clear hb)
 (try clear hb2)
 (try clear hk)
 (try clear hi)
 refine hK.out _ _ ⟨(blk_cell BK284.out 0).trans rfl, (blk_cell BK284.out 1).trans rfl, (blk_cell BK264.out 0).trans rfl, (blk_cell BK264.out 1).trans rfl⟩ (fun hHeld => ?_)
 clear hK K
 refine norm_ (a' := ?_) ?_ ?_
 rotate_left
 ·
  show Act.put _ (some 54) _ = _
  simp only [Act.put, List.setIfInBounds_toArray, List.set_cons_zero, List.set_cons_succ, i64_w, i32_w]
  rfl
 refine pure_ (i := 4) (N := some 55) (v := ?_) (a' := ?_) #[true, true, true, true, true] rfl rfl (by kernel_rfl) (fun _ _ _ h => h) (Or.inl ⟨by rfl, ?_⟩) ?_ ?_
 rotate_left
 ·
  intro w'
  go_simp
  with_reducible rfl
 rotate_left
 ·
  simp only [Act.put, List.setIfInBounds_toArray, List.set_cons_zero, List.set_cons_succ, i64_w, i32_w]
  rfl
 refine done_ (by kernel_rfl) ?_
 go_upto_region 27 with (first | ((with_reducible refine gate_callee (f := 10) rfl ?_); refine goesL_ (some 58) rfl rfl Try.func10 (by kernel_rfl) rfl #[.slice A1 l1.length c1] rfl (by (try simp only [List.map_toArray, List.map_cons, List.map_nil]); first | done | rfl | (simp only [List.length_drop, List.length_take]; rfl)) ?_; (with_reducible refine (laws_toBoolS.calls k _ _ l1 t300 _ ?side1 ?side2 A29.out).mono ?_); (case side1 => repeat (first | exact (Kd.C_below HR1.out HB.out) | (with_reducible refine Kd.C_alloc ?_ _) | (with_reducible refine Kd.C_drewN ?_ _) | (with_reducible refine Kd.C_drew ?_))); (case side2 => exact HC1.out); rintro e w68 ⟨v301, rfl, ho0, hb⟩; refine ⟨_, rfl, ?_⟩; have n0_ := Aside0.mk (Kd.R_below (by (with_reducible repeat (first | apply Kd.R_alloc | apply Kd.R_drewN | apply Kd.R_drew)); exact HO270.out) hb); have n1_ := Aside0.mk (Kd.R_elder' (by (with_reducible repeat (first | apply Kd.R_alloc | apply Kd.R_drewN | apply Kd.R_drew)); exact HO273.out) (Kd.R_base ho0) hb); have n2_ := Aside0.mk (Kd.R_below (by (with_reducible repeat (first | apply Kd.R_alloc | apply Kd.R_drewN | apply Kd.R_drew)); exact HO276.out) hb); have n3_ := Aside0.mk (Kd.R_below (by (with_reducible repeat (first | apply Kd.R_alloc | apply Kd.R_drewN | apply Kd.R_drew)); exact HO279.out) hb); have n4_ := Aside0.mk (Kd.R_below (by (with_reducible repeat (first | apply Kd.R_alloc | apply Kd.R_drewN | apply Kd.R_drew)); exact HO283.out) hb); have n5_ := Aside0.mk (Kd.R_elder' (by (with_reducible repeat (first | apply Kd.R_alloc | apply Kd.R_drewN | apply Kd.R_drew)); exact HO287.out) (Kd.R_base ho0) hb); have n6_ := Aside0.mk (Kd.R_below (by (with_reducible repeat (first | apply Kd.R_alloc | apply Kd.R_drewN | apply Kd.R_drew)); exact HO290.out) hb); have n7_ := Aside0.mk (Kd.R_below (by (with_reducible repeat (first | apply Kd.R_alloc | apply Kd.R_drewN | apply Kd.R_drew)); exact HO293.out) hb); have n8_ := Aside0.mk (Kd.R_below (by (with_reducible repeat (first | apply Kd.R_alloc | apply Kd.R_drewN | apply Kd.R_drew)); exact HO298.out) hb); have n9_ := Aside0.mk (Kd.R_lower (Kd.R_new' (Kd.R_new' ho0 (Kd.R_lt (by (with_reducible repeat (first | apply Kd.R_alloc | apply Kd.R_drewN | apply Kd.R_drew)); exact HO273.out))) (Kd.R_lt (by (with_reducible repeat (first | apply Kd.R_alloc | apply Kd.R_drewN | apply Kd.R_drew)); exact HO287.out))) (below_size (by repeat (first | (with_reducible first | exact HB.out | apply below_alloc | apply pw_below_drewN | apply below_drew1 | refine below_set ?_ GE264.out | refine below_set ?_ GE284.out) | exact HB.out)))); have n10_ := Aside0.mk (blk_below (g := gb264) (o := .cells #[.int .i64 a0_0, .slice A0_1 l0_1.length c0_1] 24 (0, 0)) (by (with_reducible repeat (first | refine blk_drewN ?_ _ | refine blk_drew ?_ | refine blk_alloc ?_ _)); exact BK264.out) hb); have n11_ := Aside0.mk (blk_below (g := gb284) (o := .cells #[.int .i64 t280, .slice Ao55 t281.length co55] 33 (0, 0)) (by (with_reducible repeat (first | refine blk_drewN ?_ _ | refine blk_drew ?_ | refine blk_alloc ?_ _)); exact BK284.out) hb); have n12_ := Aside0.mk (below_step (by repeat (first | (with_reducible first | exact HB.out | apply below_alloc | apply pw_below_drewN | apply below_drew1 | refine below_set ?_ GE264.out | refine below_set ?_ GE284.out) | exact HB.out)) hb); clear HO270; clear HO273; clear HO276; clear HO279; clear HO283; clear HO287; clear HO290; clear HO293; clear HO298; clear BK264; clear BK284; clear HB; have HO270 := n0_; have HO273 := n1_; have HO276 := n2_; have HO279 := n3_; have HO283 := n4_; have HO287 := n5_; have HO290 := n6_; have HO293 := n7_; have HO298 := n8_; have HO302 := n9_; have BK264 := n10_; have BK284 := n11_; have HB := n12_; clear n0_ n1_ n2_ n3_ n4_ n5_ n6_ n7_ n8_ n9_ n10_ n11_ n12_; (try clear hb); (try clear hb2); (try clear hk); (try clear hi); (try clear ho0); obtain ⟨Ao69, co69, eo69⟩ := Kd.R_slice HO302.out; subst eo69) | ((with_reducible refine gate_callee (f := 15) rfl ?_); refine goesL_ (some 59) rfl rfl Try.func15 (by kernel_rfl) rfl #[.slice Ao59 t285.length co59, .slice Ao69 t300.length co69] rfl (by (try simp only [List.map_toArray, List.map_cons, List.map_nil]); first | done | rfl | (simp only [List.length_drop, List.length_take]; rfl)) ?_; (with_reducible refine (laws_eqBoolS.calls k _ _ t285 _ _ t300 true _ ?side1 ?side2 ?side3 ?side4 A30.out).mono ?_); (case side1 => repeat (first | exact (Kd.R_reads' HO287.out).2.2 | (with_reducible refine Kd.C_alloc ?_ _) | (with_reducible refine Kd.C_drewN ?_ _) | (with_reducible refine Kd.C_drew ?_))); (case side2 => exact (Kd.R_reads' HO287.out).2.1); (case side3 => repeat (first | exact (Kd.R_reads' HO302.out).2.2 | (with_reducible refine Kd.C_alloc ?_ _) | (with_reducible refine Kd.C_drewN ?_ _) | (with_reducible refine Kd.C_drew ?_))); (case side4 => exact (Kd.R_reads' HO302.out).2.1); rintro e w' ⟨rfl, ⟨nd, rfl⟩⟩; refine ⟨_, rfl, ?_⟩) | ((with_reducible refine gate_callee (f := 11) rfl ?_); refine goesL_ (some 63) rfl rfl Try.func11 (by kernel_rfl) rfl #[.slice A2 l2.length c2] rfl (by (try simp only [List.map_toArray, List.map_cons, List.map_nil]); first | done | rfl | (simp only [List.length_drop, List.length_take]; rfl)) ?_; (with_reducible refine (laws_toBusS.calls k _ _ l2 t304 _ ?side1 ?side2 A32.out).mono ?_); (case side1 => repeat (first | exact (Kd.C_below HR2.out (by repeat (first | (with_reducible first | exact HB.out | apply below_alloc | apply pw_below_drewN | apply below_drew1 | refine below_set ?_ GE264.out | refine below_set ?_ GE284.out) | exact HB.out))) | (with_reducible refine Kd.C_alloc ?_ _) | (with_reducible refine Kd.C_drewN ?_ _) | (with_reducible refine Kd.C_drew ?_))); (case side2 => exact HC2.out); rintro e w70 ⟨v305, rfl, ho0, hb⟩; refine ⟨_, rfl, ?_⟩; have n0_ := Aside0.mk (Kd.R_below (by (with_reducible repeat (first | apply Kd.R_alloc | apply Kd.R_drewN | apply Kd.R_drew)); exact HO270.out) hb); have n1_ := Aside0.mk (Kd.R_below (by (with_reducible repeat (first | apply Kd.R_alloc | apply Kd.R_drewN | apply Kd.R_drew)); exact HO273.out) hb); have n2_ := Aside0.mk (Kd.R_elder' (by (with_reducible repeat (first | apply Kd.R_alloc | apply Kd.R_drewN | apply Kd.R_drew)); exact HO276.out) (Kd.R_base ho0) hb); have n3_ := Aside0.mk (Kd.R_below (by (with_reducible repeat (first | apply Kd.R_alloc | apply Kd.R_drewN | apply Kd.R_drew)); exact HO279.out) hb); have n4_ := Aside0.mk (Kd.R_below (by (with_reducible repeat (first | apply Kd.R_alloc | apply Kd.R_drewN | apply Kd.R_drew)); exact HO283.out) hb); have n5_ := Aside0.mk (Kd.R_below (by (with_reducible repeat (first | apply Kd.R_alloc | apply Kd.R_drewN | apply Kd.R_drew)); exact HO287.out) hb); have n6_ := Aside0.mk (Kd.R_elder' (by (with_reducible repeat (first | apply Kd.R_alloc | apply Kd.R_drewN | apply Kd.R_drew)); exact HO290.out) (Kd.R_base ho0) hb); have n7_ := Aside0.mk (Kd.R_below (by (with_reducible repeat (first | apply Kd.R_alloc | apply Kd.R_drewN | apply Kd.R_drew)); exact HO293.out) hb); have n8_ := Aside0.mk (Kd.R_below (by (with_reducible repeat (first | apply Kd.R_alloc | apply Kd.R_drewN | apply Kd.R_drew)); exact HO298.out) hb); have n9_ := Aside0.mk (Kd.R_below (by (with_reducible repeat (first | apply Kd.R_alloc | apply Kd.R_drewN | apply Kd.R_drew)); exact HO302.out) hb); have n10_ := Aside0.mk (Kd.R_lower (Kd.R_new' (Kd.R_new' ho0 (Kd.R_lt (by (with_reducible repeat (first | apply Kd.R_alloc | apply Kd.R_drewN | apply Kd.R_drew)); exact HO276.out))) (Kd.R_lt (by (with_reducible repeat (first | apply Kd.R_alloc | apply Kd.R_drewN | apply Kd.R_drew)); exact HO290.out))) (below_size (by repeat (first | (with_reducible first | exact HB.out | apply below_alloc | apply pw_below_drewN | apply below_drew1 | refine below_set ?_ GE264.out | refine below_set ?_ GE284.out) | exact HB.out)))); have n11_ := Aside0.mk (blk_below (g := gb264) (o := .cells #[.int .i64 a0_0, .slice A0_1 l0_1.length c0_1] 24 (0, 0)) (by (with_reducible repeat (first | refine blk_drewN ?_ _ | refine blk_drew ?_ | refine blk_alloc ?_ _)); exact BK264.out) hb); have n12_ := Aside0.mk (blk_below (g := gb284) (o := .cells #[.int .i64 t280, .slice Ao55 t281.length co55] 33 (0, 0)) (by (with_reducible repeat (first | refine blk_drewN ?_ _ | refine blk_drew ?_ | refine blk_alloc ?_ _)); exact BK284.out) hb); have n13_ := Aside0.mk (below_step (by repeat (first | (with_reducible first | exact HB.out | apply below_alloc | apply pw_below_drewN | apply below_drew1 | refine below_set ?_ GE264.out | refine below_set ?_ GE284.out) | exact HB.out)) hb); clear HO270; clear HO273; clear HO276; clear HO279; clear HO283; clear HO287; clear HO290; clear HO293; clear HO298; clear HO302; clear BK264; clear BK284; clear HB; have HO270 := n0_; have HO273 := n1_; have HO276 := n2_; have HO279 := n3_; have HO283 := n4_; have HO287 := n5_; have HO290 := n6_; have HO293 := n7_; have HO298 := n8_; have HO302 := n9_; have HO306 := n10_; have BK264 := n11_; have BK284 := n12_; have HB := n13_; clear n0_ n1_ n2_ n3_ n4_ n5_ n6_ n7_ n8_ n9_ n10_ n11_ n12_ n13_; (try clear hb); (try clear hb2); (try clear hk); (try clear hi); (try clear ho0); obtain ⟨Ao71, co71, eo71⟩ := Kd.R_slice HO306.out; subst eo71) | ((with_reducible refine gate_callee (f := 16) rfl ?_); refine goesL_ (some 64) rfl rfl Try.func16 (by kernel_rfl) rfl #[.slice Ao60 t288.length co60, .slice Ao71 t304.length co71] rfl (by (try simp only [List.map_toArray, List.map_cons, List.map_nil]); first | done | rfl | (simp only [List.length_drop, List.length_take]; rfl)) ?_; (with_reducible refine (laws_eqBusS.calls k _ _ t288 _ _ t304 true _ ?side1 ?side2 ?side3 ?side4 A33.out).mono ?_); (case side1 => repeat (first | exact (Kd.R_reads' HO290.out).2.2 | (with_reducible refine Kd.C_alloc ?_ _) | (with_reducible refine Kd.C_drewN ?_ _) | (with_reducible refine Kd.C_drew ?_))); (case side2 => exact (Kd.R_reads' HO290.out).2.1); (case side3 => repeat (first | exact (Kd.R_reads' HO306.out).2.2 | (with_reducible refine Kd.C_alloc ?_ _) | (with_reducible refine Kd.C_drewN ?_ _) | (with_reducible refine Kd.C_drew ?_))); (case side4 => exact (Kd.R_reads' HO306.out).2.1); rintro e w72 ⟨rfl, hb⟩; refine ⟨_, rfl, ?_⟩; have n0_ := Aside0.mk (Kd.R_below (by (with_reducible repeat (first | apply Kd.R_alloc | apply Kd.R_drewN | apply Kd.R_drew)); exact HO270.out) hb); have n1_ := Aside0.mk (Kd.R_below (by (with_reducible repeat (first | apply Kd.R_alloc | apply Kd.R_drewN | apply Kd.R_drew)); exact HO273.out) hb); have n2_ := Aside0.mk (Kd.R_below (by (with_reducible repeat (first | apply Kd.R_alloc | apply Kd.R_drewN | apply Kd.R_drew)); exact HO276.out) hb); have n3_ := Aside0.mk (Kd.R_below (by (with_reducible repeat (first | apply Kd.R_alloc | apply Kd.R_drewN | apply Kd.R_drew)); exact HO279.out) hb); have n4_ := Aside0.mk (Kd.R_below (by (with_reducible repeat (first | apply Kd.R_alloc | apply Kd.R_drewN | apply Kd.R_drew)); exact HO283.out) hb); have n5_ := Aside0.mk (Kd.R_below (by (with_reducible repeat (first | apply Kd.R_alloc | apply Kd.R_drewN | apply Kd.R_drew)); exact HO287.out) hb); have n6_ := Aside0.mk (Kd.R_below (by (with_reducible repeat (first | apply Kd.R_alloc | apply Kd.R_drewN | apply Kd.R_drew)); exact HO290.out) hb); have n7_ := Aside0.mk (Kd.R_below (by (with_reducible repeat (first | apply Kd.R_alloc | apply Kd.R_drewN | apply Kd.R_drew)); exact HO293.out) hb); have n8_ := Aside0.mk (Kd.R_below (by (with_reducible repeat (first | apply Kd.R_alloc | apply Kd.R_drewN | apply Kd.R_drew)); exact HO298.out) hb); have n9_ := Aside0.mk (Kd.R_below (by (with_reducible repeat (first | apply Kd.R_alloc | apply Kd.R_drewN | apply Kd.R_drew)); exact HO302.out) hb); have n10_ := Aside0.mk (Kd.R_below (by (with_reducible repeat (first | apply Kd.R_alloc | apply Kd.R_drewN | apply Kd.R_drew)); exact HO306.out) hb); have n11_ := Aside0.mk (blk_below (g := gb264) (o := .cells #[.int .i64 a0_0, .slice A0_1 l0_1.length c0_1] 24 (0, 0)) (by (with_reducible repeat (first | refine blk_drewN ?_ _ | refine blk_drew ?_ | refine blk_alloc ?_ _)); exact BK264.out) hb); have n12_ := Aside0.mk (blk_below (g := gb284) (o := .cells #[.int .i64 t280, .slice Ao55 t281.length co55] 33 (0, 0)) (by (with_reducible repeat (first | refine blk_drewN ?_ _ | refine blk_drew ?_ | refine blk_alloc ?_ _)); exact BK284.out) hb); have n13_ := Aside0.mk (below_step (by repeat (first | (with_reducible first | exact HB.out | apply below_alloc | apply pw_below_drewN | apply below_drew1 | refine below_set ?_ GE264.out | refine below_set ?_ GE284.out) | exact HB.out)) hb); clear HO270; clear HO273; clear HO276; clear HO279; clear HO283; clear HO287; clear HO290; clear HO293; clear HO298; clear HO302; clear HO306; clear BK264; clear BK284; clear HB; have HO270 := n0_; have HO273 := n1_; have HO276 := n2_; have HO279 := n3_; have HO283 := n4_; have HO287 := n5_; have HO290 := n6_; have HO293 := n7_; have HO298 := n8_; have HO302 := n9_; have HO306 := n10_; have BK264 := n11_; have BK284 := n12_; have HB := n13_; clear n0_ n1_ n2_ n3_ n4_ n5_ n6_ n7_ n8_ n9_ n10_ n11_ n12_ n13_; (try clear hb); (try clear hb2); (try clear hk); (try clear hi); have hcz73_0 : w72.cell? ⟨gb284, 0, none⟩ = some (.int .i64 t280) := (blk_cell BK284.out 0).trans rfl; have hcz73_1 : w72.cell? ⟨gb284, 1, none⟩ = some (.slice Ao55 t281.length co55) := (blk_cell BK284.out 1).trans rfl; have hfz73_0 := blk_frozen BK284.out 0; have hfz73_1 := blk_frozen BK284.out 1) | ((with_reducible refine gate_callee (f := 17) rfl ?_); refine goesL_ (some 68) rfl rfl Try.func17 (by kernel_rfl) rfl #[.agg #[.int .i64 t280, .slice Ao55 t281.length co55], .int .i64 1] rfl (by (try simp only [List.map_toArray, List.map_cons, List.map_nil]); first | done | rfl | (simp only [List.length_drop, List.length_take]; rfl)) ?_; (with_reducible refine (laws_markNet.calls k t280 (fun k_ => some k_ = (.slice Ao55 t281.length co55 : Value).ownBlock) (.slice Ao55 t281.length co55) t281 1 t308 t309 w _ ?side1 ?side2 A35.out).mono ?_); (case side1 => repeat (first | (with_reducible first | exact HB.out | apply below_alloc | apply pw_below_drewN | apply below_drew1 | refine below_set ?_ GE264.out | refine below_set ?_ GE284.out) | exact HB.out)); (case side2 => exact Kd.R_tight rfl HO283.out); rintro e w74 ⟨rfl, hy0, hb, hkp⟩; refine ⟨_, rfl, ?_⟩; have n0_ := Aside0.mk (blk_kept (by (with_reducible repeat (first | refine blk_drewN ?_ _ | refine blk_drew ?_ | refine blk_alloc ?_ _)); exact BK264.out) hkp (fun hs_ => (fun e_ => (Kd.R_ne HO283.out BK264.out (by decide)) e_) hs_)); have n1_ := Aside0.mk (Kd.R_mono (ok' := fun k_ => some k_ ≠ (.slice Ao55 t281.length co55 : Value).ownBlock ∧ some k_ ≠ (.slice Ao66 t296.length co66 : Value).ownBlock) (Kd.R_keptB (HO270.out) hkp (fun k_ hk_ hs_ => (hk_.1.2) hs_)) (fun k_ hk_ => ⟨hk_.1.1.2, hk_.1.2⟩)); have n2_ := Aside0.mk (Kd.R_mono (ok' := fun k_ => some k_ ≠ (.slice Ao59 t285.length co59 : Value).ownBlock ∧ some k_ ≠ (.slice Ao69 t300.length co69 : Value).ownBlock) (Kd.R_keptB ((Kd.R_apart' HO273.out (Kd.R_typed HO283.out) (by decide))) hkp (fun k_ hk_ hs_ => (hk_.2) hs_)) (fun k_ hk_ => ⟨hk_.1.1.1.2, hk_.1.1.2⟩)); have n3_ := Aside0.mk (Kd.R_mono (ok' := fun k_ => some k_ ≠ (.slice Ao60 t288.length co60 : Value).ownBlock ∧ some k_ ≠ (.slice Ao71 t304.length co71 : Value).ownBlock) (Kd.R_keptB ((Kd.R_apart' HO276.out (Kd.R_typed HO283.out) (by decide))) hkp (fun k_ hk_ hs_ => (hk_.2) hs_)) (fun k_ hk_ => ⟨hk_.1.1.1.2, hk_.1.1.2⟩)); have n4_ := Aside0.mk (Kd.R_mono (ok' := fun k_ => some k_ ≠ (.slice Ao62 t291.length co62 : Value).ownBlock) (Kd.R_keptB ((Kd.R_apart' HO279.out (Kd.R_typed HO283.out) (by decide))) hkp (fun k_ hk_ hs_ => (hk_.2) hs_)) (fun k_ hk_ => hk_.1.1.2)); have n5_ := Aside0.mk (Kd.R_reok rfl hy0 (fun k_ e_ => HO283.out.1 k_ e_)); have n6_ := Aside0.mk (blk_kept (by (with_reducible repeat (first | refine blk_drewN ?_ _ | refine blk_drew ?_ | refine blk_alloc ?_ _)); exact BK284.out) hkp (fun hs_ => (fun e_ => (Kd.R_ne HO283.out BK284.out (by decide)) e_) hs_)); have n7_ := Aside0.mk (Kd.R_mono (ok' := fun k_ => some k_ ≠ (.slice Ao47 t271.length co47 : Value).ownBlock ∧ some k_ ≠ (.slice Ao69 t300.length co69 : Value).ownBlock) (Kd.R_keptB ((Kd.R_apart' HO287.out (Kd.R_typed HO283.out) (by decide))) hkp (fun k_ hk_ hs_ => (hk_.2) hs_)) (fun k_ hk_ => ⟨hk_.1.1.1.2, hk_.1.1.2⟩)); have n8_ := Aside0.mk (Kd.R_mono (ok' := fun k_ => some k_ ≠ (.slice Ao48 t274.length co48 : Value).ownBlock ∧ some k_ ≠ (.slice Ao71 t304.length co71 : Value).ownBlock) (Kd.R_keptB ((Kd.R_apart' HO290.out (Kd.R_typed HO283.out) (by decide))) hkp (fun k_ hk_ hs_ => (hk_.2) hs_)) (fun k_ hk_ => ⟨hk_.1.1.1.2, hk_.1.1.2⟩)); have n9_ := Aside0.mk (Kd.R_mono (ok' := fun k_ => some k_ ≠ (.slice Ao63 t277.length co63 : Value).ownBlock) (Kd.R_keptB ((Kd.R_apart' HO293.out (Kd.R_typed HO283.out) (by decide))) hkp (fun k_ hk_ hs_ => (hk_.2) hs_)) (fun k_ hk_ => hk_.1.1.2)); have n10_ := Aside0.mk (Kd.R_mono (ok' := fun k_ => some k_ ≠ (.slice Ao46 t268.length co46 : Value).ownBlock ∧ some k_ ≠ (.slice Ao55 t281.length co55 : Value).ownBlock) (Kd.R_keptB (HO298.out) hkp (fun k_ hk_ hs_ => (hk_.2) hs_)) (fun k_ hk_ => ⟨hk_.1.1.2, hk_.1.2⟩)); have n11_ := Aside0.mk (Kd.R_mono (ok' := fun k_ => some k_ ≠ (.slice Ao47 t271.length co47 : Value).ownBlock ∧ some k_ ≠ (.slice Ao59 t285.length co59 : Value).ownBlock) (Kd.R_keptB ((Kd.R_apart' HO302.out (Kd.R_typed HO283.out) (by decide))) hkp (fun k_ hk_ hs_ => (hk_.2) hs_)) (fun k_ hk_ => ⟨hk_.1.1.1.2, hk_.1.1.2⟩)); have n12_ := Aside0.mk (Kd.R_mono (ok' := fun k_ => some k_ ≠ (.slice Ao48 t274.length co48 : Value).ownBlock ∧ some k_ ≠ (.slice Ao60 t288.length co60 : Value).ownBlock) (Kd.R_keptB ((Kd.R_apart' HO306.out (Kd.R_typed HO283.out) (by decide))) hkp (fun k_ hk_ hs_ => (hk_.2) hs_)) (fun k_ hk_ => ⟨hk_.1.1.1.2, hk_.1.1.2⟩)); have n13_ := Aside0.mk (hb); clear BK264; clear HO270; clear HO273; clear HO276; clear HO279; clear HO283; clear BK284; clear HO287; clear HO290; clear HO293; clear HO298; clear HO302; clear HO306; clear HB; have BK264 := n0_; have HO270 := n1_; have HO273 := n2_; have HO276 := n3_; have HO279 := n4_; have HO283 := n5_; have BK284 := n6_; have HO287 := n7_; have HO290 := n8_; have HO293 := n9_; have HO298 := n10_; have HO302 := n11_; have HO306 := n12_; have HB := n13_; clear n0_ n1_ n2_ n3_ n4_ n5_ n6_ n7_ n8_ n9_ n10_ n11_ n12_ n13_; (try clear hb); (try clear hkp); (try clear hy0)) | ((with_reducible refine gate_callee (f := 18) rfl ?_); refine goesL_ (some 71) rfl rfl Try.func18 (by kernel_rfl) rfl #[.slice Ao59 t285.length co59, .int .i64 t308] rfl (by (try simp only [List.map_toArray, List.map_cons, List.map_nil]); first | done | rfl | (simp only [List.length_drop, List.length_take]; rfl)) ?_; (with_reducible refine (laws_markBoolS.calls k (fun k_ => some k_ = (.slice Ao59 t285.length co59 : Value).ownBlock) (.slice Ao59 t285.length co59) t285 t308 t310 t311 w _ ?side1 ?side2 A36.out).mono ?_); (case side1 => repeat (first | (with_reducible first | exact HB.out | apply below_alloc | apply pw_below_drewN | apply below_drew1 | refine below_set ?_ GE264.out | refine below_set ?_ GE284.out) | exact HB.out)); (case side2 => exact Kd.R_tight rfl HO287.out); rintro e w75 ⟨rfl, hy0, hb, hkp⟩; refine ⟨_, rfl, ?_⟩; have n0_ := Aside0.mk (blk_kept (by (with_reducible repeat (first | refine blk_drewN ?_ _ | refine blk_drew ?_ | refine blk_alloc ?_ _)); exact BK264.out) hkp (fun hs_ => (fun e_ => (Kd.R_ne HO287.out BK264.out (by decide)) e_) hs_)); have n1_ := Aside0.mk (Kd.R_mono (ok' := fun k_ => some k_ ≠ (.slice Ao55 t281.length co55 : Value).ownBlock ∧ some k_ ≠ (.slice Ao66 t296.length co66 : Value).ownBlock) (Kd.R_keptB ((Kd.R_apart' HO270.out (Kd.R_typed HO287.out) (by decide))) hkp (fun k_ hk_ hs_ => (hk_.2) hs_)) (fun k_ hk_ => ⟨hk_.1.1.1, hk_.1.1.2⟩)); have n2_ := Aside0.mk (Kd.R_mono (ok' := fun k_ => some k_ ≠ (.slice Ao59 t285.length co59 : Value).ownBlock ∧ some k_ ≠ (.slice Ao69 t300.length co69 : Value).ownBlock) (Kd.R_keptB (HO273.out) hkp (fun k_ hk_ hs_ => (hk_.1) hs_)) (fun k_ hk_ => ⟨hk_.1.1, hk_.1.2⟩)); have n3_ := Aside0.mk (Kd.R_mono (ok' := fun k_ => some k_ ≠ (.slice Ao60 t288.length co60 : Value).ownBlock ∧ some k_ ≠ (.slice Ao71 t304.length co71 : Value).ownBlock) (Kd.R_keptB ((Kd.R_apart' HO276.out (Kd.R_typed HO287.out) (by decide))) hkp (fun k_ hk_ hs_ => (hk_.2) hs_)) (fun k_ hk_ => ⟨hk_.1.1.1, hk_.1.1.2⟩)); have n4_ := Aside0.mk (Kd.R_mono (ok' := fun k_ => some k_ ≠ (.slice Ao62 t291.length co62 : Value).ownBlock) (Kd.R_keptB ((Kd.R_apart' HO279.out (Kd.R_typed HO287.out) (by decide))) hkp (fun k_ hk_ hs_ => (hk_.2) hs_)) (fun k_ hk_ => hk_.1.1)); have n5_ := Aside0.mk (Kd.R_mono (ok' := fun k_ => some k_ ≠ (.slice Ao46 t268.length co46 : Value).ownBlock ∧ some k_ ≠ (.slice Ao66 t296.length co66 : Value).ownBlock) (Kd.R_keptB ((Kd.R_apart' HO283.out (Kd.R_typed HO287.out) (by decide))) hkp (fun k_ hk_ hs_ => (hk_.2) hs_)) (fun k_ hk_ => ⟨hk_.1.1.1.2, hk_.1.1.2⟩)); have n6_ := Aside0.mk (blk_kept (by (with_reducible repeat (first | refine blk_drewN ?_ _ | refine blk_drew ?_ | refine blk_alloc ?_ _)); exact BK284.out) hkp (fun hs_ => (fun e_ => (Kd.R_ne HO287.out BK284.out (by decide)) e_) hs_)); have n7_ := Aside0.mk (Kd.R_reok rfl hy0 (fun k_ e_ => HO287.out.1 k_ e_)); have n8_ := Aside0.mk (Kd.R_mono (ok' := fun k_ => some k_ ≠ (.slice Ao48 t274.length co48 : Value).ownBlock ∧ some k_ ≠ (.slice Ao71 t304.length co71 : Value).ownBlock) (Kd.R_keptB ((Kd.R_apart' HO290.out (Kd.R_typed HO287.out) (by decide))) hkp (fun k_ hk_ hs_ => (hk_.2) hs_)) (fun k_ hk_ => ⟨hk_.1.1.1, hk_.1.1.2⟩)); have n9_ := Aside0.mk (Kd.R_mono (ok' := fun k_ => some k_ ≠ (.slice Ao63 t277.length co63 : Value).ownBlock) (Kd.R_keptB ((Kd.R_apart' HO293.out (Kd.R_typed HO287.out) (by decide))) hkp (fun k_ hk_ hs_ => (hk_.2) hs_)) (fun k_ hk_ => hk_.1.1)); have n10_ := Aside0.mk (Kd.R_mono (ok' := fun k_ => some k_ ≠ (.slice Ao46 t268.length co46 : Value).ownBlock ∧ some k_ ≠ (.slice Ao55 t281.length co55 : Value).ownBlock) (Kd.R_keptB ((Kd.R_apart' HO298.out (Kd.R_typed HO287.out) (by decide))) hkp (fun k_ hk_ hs_ => (hk_.2) hs_)) (fun k_ hk_ => ⟨hk_.1.1.1, hk_.1.1.2⟩)); have n11_ := Aside0.mk (Kd.R_mono (ok' := fun k_ => some k_ ≠ (.slice Ao47 t271.length co47 : Value).ownBlock ∧ some k_ ≠ (.slice Ao59 t285.length co59 : Value).ownBlock) (Kd.R_keptB (HO302.out) hkp (fun k_ hk_ hs_ => (hk_.2) hs_)) (fun k_ hk_ => ⟨hk_.1.1, hk_.1.2⟩)); have n12_ := Aside0.mk (Kd.R_mono (ok' := fun k_ => some k_ ≠ (.slice Ao48 t274.length co48 : Value).ownBlock ∧ some k_ ≠ (.slice Ao60 t288.length co60 : Value).ownBlock) (Kd.R_keptB ((Kd.R_apart' HO306.out (Kd.R_typed HO287.out) (by decide))) hkp (fun k_ hk_ hs_ => (hk_.2) hs_)) (fun k_ hk_ => ⟨hk_.1.1.1, hk_.1.1.2⟩)); have n13_ := Aside0.mk (hb); clear BK264; clear HO270; clear HO273; clear HO276; clear HO279; clear HO283; clear BK284; clear HO287; clear HO290; clear HO293; clear HO298; clear HO302; clear HO306; clear HB; have BK264 := n0_; have HO270 := n1_; have HO273 := n2_; have HO276 := n3_; have HO279 := n4_; have HO283 := n5_; have BK284 := n6_; have HO287 := n7_; have HO290 := n8_; have HO293 := n9_; have HO298 := n10_; have HO302 := n11_; have HO306 := n12_; have HB := n13_; clear n0_ n1_ n2_ n3_ n4_ n5_ n6_ n7_ n8_ n9_ n10_ n11_ n12_ n13_; (try clear hb); (try clear hkp); (try clear hy0)) | ((with_reducible refine gate_callee (f := 19) rfl ?_); refine goesL_ (some 74) rfl rfl Try.func19 (by kernel_rfl) rfl #[.slice Ao60 t288.length co60, .int .i64 t310] rfl (by (try simp only [List.map_toArray, List.map_cons, List.map_nil]); first | done | rfl | (simp only [List.length_drop, List.length_take]; rfl)) ?_; (with_reducible refine (laws_markBusS.calls k (fun k_ => some k_ = (.slice Ao60 t288.length co60 : Value).ownBlock) (.slice Ao60 t288.length co60) t288 t310 t312 t313 w _ ?side1 ?side2 A37.out).mono ?_); (case side1 => repeat (first | (with_reducible first | exact HB.out | apply below_alloc | apply pw_below_drewN | apply below_drew1 | refine below_set ?_ GE264.out | refine below_set ?_ GE284.out) | exact HB.out)); (case side2 => exact Kd.R_tight rfl HO290.out); rintro e w76 ⟨rfl, hy0, hb, hkp⟩; refine ⟨_, rfl, ?_⟩; have n0_ := Aside0.mk (blk_kept (by (with_reducible repeat (first | refine blk_drewN ?_ _ | refine blk_drew ?_ | refine blk_alloc ?_ _)); exact BK264.out) hkp (fun hs_ => (fun e_ => (Kd.R_ne HO290.out BK264.out (by decide)) e_) hs_)); have n1_ := Aside0.mk (Kd.R_mono (ok' := fun k_ => some k_ ≠ (.slice Ao55 t281.length co55 : Value).ownBlock ∧ some k_ ≠ (.slice Ao66 t296.length co66 : Value).ownBlock) (Kd.R_keptB ((Kd.R_apart' HO270.out (Kd.R_typed HO290.out) (by decide))) hkp (fun k_ hk_ hs_ => (hk_.2) hs_)) (fun k_ hk_ => ⟨hk_.1.1.1, hk_.1.1.2⟩)); have n2_ := Aside0.mk (Kd.R_mono (ok' := fun k_ => some k_ ≠ (.slice Ao59 t285.length co59 : Value).ownBlock ∧ some k_ ≠ (.slice Ao69 t300.length co69 : Value).ownBlock) (Kd.R_keptB ((Kd.R_apart' HO273.out (Kd.R_typed HO290.out) (by decide))) hkp (fun k_ hk_ hs_ => (hk_.2) hs_)) (fun k_ hk_ => ⟨hk_.1.1.1, hk_.1.1.2⟩)); have n3_ := Aside0.mk (Kd.R_mono (ok' := fun k_ => some k_ ≠ (.slice Ao60 t288.length co60 : Value).ownBlock ∧ some k_ ≠ (.slice Ao71 t304.length co71 : Value).ownBlock) (Kd.R_keptB (HO276.out) hkp (fun k_ hk_ hs_ => (hk_.1) hs_)) (fun k_ hk_ => ⟨hk_.1.1, hk_.1.2⟩)); have n4_ := Aside0.mk (Kd.R_mono (ok' := fun k_ => some k_ ≠ (.slice Ao62 t291.length co62 : Value).ownBlock) (Kd.R_keptB ((Kd.R_apart' HO279.out (Kd.R_typed HO290.out) (by decide))) hkp (fun k_ hk_ hs_ => (hk_.2) hs_)) (fun k_ hk_ => hk_.1.1)); have n5_ := Aside0.mk (Kd.R_mono (ok' := fun k_ => some k_ ≠ (.slice Ao46 t268.length co46 : Value).ownBlock ∧ some k_ ≠ (.slice Ao66 t296.length co66 : Value).ownBlock) (Kd.R_keptB ((Kd.R_apart' HO283.out (Kd.R_typed HO290.out) (by decide))) hkp (fun k_ hk_ hs_ => (hk_.2) hs_)) (fun k_ hk_ => ⟨hk_.1.1.1, hk_.1.1.2⟩)); have n6_ := Aside0.mk (blk_kept (by (with_reducible repeat (first | refine blk_drewN ?_ _ | refine blk_drew ?_ | refine blk_alloc ?_ _)); exact BK284.out) hkp (fun hs_ => (fun e_ => (Kd.R_ne HO290.out BK284.out (by decide)) e_) hs_)); have n7_ := Aside0.mk (Kd.R_mono (ok' := fun k_ => some k_ ≠ (.slice Ao47 t271.length co47 : Value).ownBlock ∧ some k_ ≠ (.slice Ao69 t300.length co69 : Value).ownBlock) (Kd.R_keptB ((Kd.R_apart' HO287.out (Kd.R_typed HO290.out) (by decide))) hkp (fun k_ hk_ hs_ => (hk_.2) hs_)) (fun k_ hk_ => ⟨hk_.1.1.1, hk_.1.1.2⟩)); have n8_ := Aside0.mk (Kd.R_reok rfl hy0 (fun k_ e_ => HO290.out.1 k_ e_)); have n9_ := Aside0.mk (Kd.R_mono (ok' := fun k_ => some k_ ≠ (.slice Ao63 t277.length co63 : Value).ownBlock) (Kd.R_keptB ((Kd.R_apart' HO293.out (Kd.R_typed HO290.out) (by decide))) hkp (fun k_ hk_ hs_ => (hk_.2) hs_)) (fun k_ hk_ => hk_.1.1)); have n10_ := Aside0.mk (Kd.R_mono (ok' := fun k_ => some k_ ≠ (.slice Ao46 t268.length co46 : Value).ownBlock ∧ some k_ ≠ (.slice Ao55 t281.length co55 : Value).ownBlock) (Kd.R_keptB ((Kd.R_apart' HO298.out (Kd.R_typed HO290.out) (by decide))) hkp (fun k_ hk_ hs_ => (hk_.2) hs_)) (fun k_ hk_ => ⟨hk_.1.1.1, hk_.1.1.2⟩)); have n11_ := Aside0.mk (Kd.R_mono (ok' := fun k_ => some k_ ≠ (.slice Ao47 t271.length co47 : Value).ownBlock ∧ some k_ ≠ (.slice Ao59 t285.length co59 : Value).ownBlock) (Kd.R_keptB ((Kd.R_apart' HO302.out (Kd.R_typed HO290.out) (by decide))) hkp (fun k_ hk_ hs_ => (hk_.2) hs_)) (fun k_ hk_ => ⟨hk_.1.1.1, hk_.1.1.2⟩)); have n12_ := Aside0.mk (Kd.R_mono (ok' := fun k_ => some k_ ≠ (.slice Ao48 t274.length co48 : Value).ownBlock ∧ some k_ ≠ (.slice Ao60 t288.length co60 : Value).ownBlock) (Kd.R_keptB (HO306.out) hkp (fun k_ hk_ hs_ => (hk_.2) hs_)) (fun k_ hk_ => ⟨hk_.1.1, hk_.1.2⟩)); have n13_ := Aside0.mk (hb); clear BK264; clear HO270; clear HO273; clear HO276; clear HO279; clear HO283; clear BK284; clear HO287; clear HO290; clear HO293; clear HO298; clear HO302; clear HO306; clear HB; have BK264 := n0_; have HO270 := n1_; have HO273 := n2_; have HO276 := n3_; have HO279 := n4_; have HO283 := n5_; have BK284 := n6_; have HO287 := n7_; have HO290 := n8_; have HO293 := n9_; have HO298 := n10_; have HO302 := n11_; have HO306 := n12_; have HB := n13_; clear n0_ n1_ n2_ n3_ n4_ n5_ n6_ n7_ n8_ n9_ n10_ n11_ n12_ n13_; (try clear hb); (try clear hkp); (try clear hy0)))
 (try simp only [Act.put, List.setIfInBounds_toArray, List.set_cons_zero, List.set_cons_succ])
 go_cut [82] (fun v82 wc => ∃ (kq : Nat) (x82_37 : Bool), v82 = .bool x82_37 ∧ Aside0 (laws_FnExactAliveBuses.j0 kq l1 l2 t277 t291 x82_37 a0_0 l0_1 = some r) ∧ Aside0 (kq ≤ k) ∧ Aside0 (Kd.R (Kd.int .i64) 3 wc w.heap.size (fun k_ => some k_ ≠ ((.slice Ao62 t291.length co62) : Value).ownBlock) (.slice Ao63 t277.length co63) t277) ∧ Aside0 (Kd.R (Kd.int .i64) 3 wc w.heap.size (fun k_ => some k_ ≠ ((.slice Ao63 t277.length co63) : Value).ownBlock) (.slice Ao62 t291.length co62) t291) ∧ Aside0 (Kd.R k77 77 wc w.heap.size (fun _ => True) (.slice Ao55 t281.length co55) t309) ∧ Aside0 (wc.heap[gb264]? = some (.cells #[.int .i64 a0_0, (.slice A0_1 l0_1.length c0_1)] 24 (0, 0))) ∧ Aside0 (wc.heap[gb284]? = some (.cells #[.int .i64 t280, (.slice Ao55 t281.length co55)] 33 (0, 0))) ∧ Aside0 (Below w.heap.size w wc))
 case first =>
  have H := HC38.out
  clear HC38
  by_cases c77 : t312 < 0
  ·
   rw [if_pos c77] at H
   have c77b0 : decide (t312 < 0) = true := decide_eq_true c77
   clear c77
   (first | rw [c77b0] | (simp only [i64_w, i32_w]; rw [c77b0]) | skip)
   have H' := Aside0.mk H
   clear H
   go_wp2
   go_meet
   case rel => exact ⟨_, (true), (by first | rfl | (simp; done) | (simp [*]; done)), H', ⟨by first | omega | exact Nat.le_refl _⟩, ⟨by (with_reducible repeat (first | apply Kd.R_alloc | apply Kd.R_drewN | apply Kd.R_drew)); exact HO279.out⟩, ⟨by (with_reducible repeat (first | apply Kd.R_alloc | apply Kd.R_drewN | apply Kd.R_drew)); exact HO293.out⟩, ⟨by (with_reducible repeat (first | apply Kd.R_alloc | apply Kd.R_drewN | apply Kd.R_drew)); exact Kd.R_mono HO283.out (fun _ hk => trivial)⟩, ⟨by (with_reducible repeat (first | refine blk_drewN ?_ _ | refine blk_drew ?_ | refine blk_alloc ?_ _)); exact BK264.out⟩, ⟨by (with_reducible repeat (first | refine blk_drewN ?_ _ | refine blk_drew ?_ | refine blk_alloc ?_ _)); exact BK284.out⟩, ⟨by repeat (first | (with_reducible first | exact HB.out | apply below_alloc | apply pw_below_drewN | apply below_drew1 | refine below_set ?_ GE264.out | refine below_set ?_ GE284.out) | exact HB.out)⟩⟩
  rw [if_neg c77] at H
  have c77b0 : decide (t312 < 0) = false := decide_eq_false c77
  clear c77
  (first | rw [c77b0] | (simp only [i64_w, i32_w]; rw [c77b0]) | skip)
  replace H := Option.bind_eq_some_iff.mp H
  obtain ⟨t314, A780, H⟩ := H
  replace H : (laws_FnExactAliveBuses.j0 k l1 l2 t277 t291 (!t314) a0_0 l0_1) = some r := H
  have A78 := Aside0.mk A780
  clear A780
  have H' := Aside0.mk H
  clear H
  go_wp2_with (first | (go_at_call 13; (with_reducible refine (laws_eqIntS.calls k _ _ t291 _ _ t277 t314 _ ?side1 ?side2 ?side3 ?side4 A78.out).mono ?_); (case side1 => repeat (first | exact (Kd.R_reads' HO293.out).2.2 | (with_reducible refine Kd.C_alloc ?_ _) | (with_reducible refine Kd.C_drewN ?_ _) | (with_reducible refine Kd.C_drew ?_))); (case side2 => exact (Kd.R_reads' HO293.out).2.1); (case side3 => repeat (first | exact (Kd.R_reads' HO279.out).2.2 | (with_reducible refine Kd.C_alloc ?_ _) | (with_reducible refine Kd.C_drewN ?_ _) | (with_reducible refine Kd.C_drew ?_))); (case side4 => exact (Kd.R_reads' HO279.out).2.1); rintro e w' ⟨rfl, ⟨nd, rfl⟩⟩))
  go_meet
  case rel => exact ⟨_, (!t314), (by first | rfl | (simp; done) | (simp [*]; done)), H', ⟨by first | omega | exact Nat.le_refl _⟩, ⟨by (with_reducible repeat (first | apply Kd.R_alloc | apply Kd.R_drewN | apply Kd.R_drew)); exact HO279.out⟩, ⟨by (with_reducible repeat (first | apply Kd.R_alloc | apply Kd.R_drewN | apply Kd.R_drew)); exact HO293.out⟩, ⟨by (with_reducible repeat (first | apply Kd.R_alloc | apply Kd.R_drewN | apply Kd.R_drew)); exact Kd.R_mono HO283.out (fun _ hk => trivial)⟩, ⟨by (with_reducible repeat (first | refine blk_drewN ?_ _ | refine blk_drew ?_ | refine blk_alloc ?_ _)); exact BK264.out⟩, ⟨by (with_reducible repeat (first | refine blk_drewN ?_ _ | refine blk_drew ?_ | refine blk_alloc ?_ _)); exact BK284.out⟩, ⟨by repeat (first | (with_reducible first | exact HB.out | apply below_alloc | apply pw_below_drewN | apply below_drew1 | refine below_set ?_ GE264.out | refine below_set ?_ GE284.out) | exact HB.out)⟩⟩
 case rest =>
  clear HC38
  try clear c1
  try clear c2
  try clear p2
  try clear c3
  try clear c4
  try clear c4b0
  try clear c4b1
  try clear c5
  try clear c6
  try clear c7
  try clear c7b0
  try clear c8
  try clear c9
  try clear c10
  try clear c11
  try clear c12
  try clear c12b0
  try clear c13
  try clear c14
  try clear c15
  try clear c16
  try clear c17
  try clear c18
  try clear c19
  try clear c25
  try clear c28
  try clear c31
  try clear c34
  try clear c53
  try clear c77
  try clear c77b0
  try clear hcz14_0
  try clear hcz14_1
  try clear hcz40_0
  try clear hcz40_1
  try clear hcz42_0
  try clear hcz42_1
  try clear hcz50_0
  try clear hcz50_1
  try clear hcz54_0
  try clear hcz54_1
  try clear hcz58_0
  try clear hcz58_1
  try clear hcz73_0
  try clear hcz73_1
  try clear hcz9_0
  try clear hcz9_1
  try clear hfz14_0
  try clear hfz14_1
  try clear hfz40_0
  try clear hfz40_1
  try clear hfz42_0
  try clear hfz42_1
  try clear hfz50_0
  try clear hfz50_1
  try clear hfz54_0
  try clear hfz54_1
  try clear hfz58_0
  try clear hfz58_1
  try clear hfz73_0
  try clear hfz73_1
  try clear hfz9_0
  try clear hfz9_1
  obtain ⟨kq, x82_37, rfl, HA, HJ37, HO_8, HO_12, HO_285001, BK264, BK284, HB⟩ := hcut
  have hl285001_37 := (Kd.R_reads' HO_285001.out).1
  rw [hl285001_37] at HO_285001
  (try simp only [hl285001_37])
  (try simp only [hl285001_37] at BK264)
  (try simp only [hl285001_37] at BK284)
  (try simp only [hl285001_37] at HO_8)
  (try simp only [hl285001_37] at HO_12)
  cases kq with
  | zero => exact absurd HA.out (by simp [laws_FnExactAliveBuses.j0])
  | succ kj37 =>
   have H := HA.out
   clear HA
   simp only [laws_FnExactAliveBuses.j0] at H
   by_cases c79 : x82_37 = true
   ·
    subst c79
    have H1 : (none) = some r := by rw [if_pos rfl] at H; exact H
    clear H
    have H := H1
    clear H1
    exact absurd H (by simp)
   replace c79 := Bool.eq_false_iff.mpr c79
   subst c79
   have H1 : ((laws_markIntS.f kj37 t291 1).bind fun bt315 => ((laws_heldIntS.f kj37 bt315.2 1).bind fun t317 => (if t317 < 0 then (none) else (if t317 = bt315.1 then ((laws_toNet.f kj37 a0_0 l0_1).bind fun bt318 => ((laws_toBoolS.f kj37 l1).bind fun t322 => ((laws_toBusS.f kj37 l2).bind fun t325 => ((impl_AliveBuses.f kj37 bt318.1 bt318.2 t322 t325).bind fun t328 => ((laws_eqIntS.f kj37 t328 t277).bind fun t331 => (if t331 = true then ((laws_heldIntS.f kj37 bt315.2 1).bind fun t332 => (if t332 < 0 then (none) else (if t332 = bt315.1 then (some true) else (none)))) else (none))))))) else (none))))) = some r := by rw [if_neg (show ¬ (false = true) by decide)] at H; exact H
   clear H
   have H := H1
   clear H1
   replace H := Option.bind_eq_some_iff.mp H
   obtain ⟨⟨t315, t316⟩, A800, H⟩ := H
   replace H : ((laws_heldIntS.f kj37 t316 1).bind fun t317 => (if t317 < 0 then (none) else (if t317 = t315 then ((laws_toNet.f kj37 a0_0 l0_1).bind fun bt318 => ((laws_toBoolS.f kj37 l1).bind fun t322 => ((laws_toBusS.f kj37 l2).bind fun t325 => ((impl_AliveBuses.f kj37 bt318.1 bt318.2 t322 t325).bind fun t328 => ((laws_eqIntS.f kj37 t328 t277).bind fun t331 => (if t331 = true then ((laws_heldIntS.f kj37 t316 1).bind fun t332 => (if t332 < 0 then (none) else (if t332 = t315 then (some true) else (none)))) else (none))))))) else (none)))) = some r := H
   have A80 := Aside0.mk A800
   clear A800
   replace H := Option.bind_eq_some_iff.mp H
   obtain ⟨t317, A810, H⟩ := H
   replace H : (if t317 < 0 then (none) else (if t317 = t315 then ((laws_toNet.f kj37 a0_0 l0_1).bind fun bt318 => ((laws_toBoolS.f kj37 l1).bind fun t322 => ((laws_toBusS.f kj37 l2).bind fun t325 => ((impl_AliveBuses.f kj37 bt318.1 bt318.2 t322 t325).bind fun t328 => ((laws_eqIntS.f kj37 t328 t277).bind fun t331 => (if t331 = true then ((laws_heldIntS.f kj37 t316 1).bind fun t332 => (if t332 < 0 then (none) else (if t332 = t315 then (some true) else (none)))) else (none))))))) else (none))) = some r := H
   have A81 := Aside0.mk A810
   clear A810
   by_cases c82 : t317 < 0
   ·
    rw [if_pos c82] at H
    exact absurd H (by simp)
   rw [if_neg c82] at H
   have c82b0 : decide (t317 < 0) = false := decide_eq_false c82
   clear c82
   by_cases c83 : t317 = t315
   rotate_left
   ·
    rw [if_neg c83] at H
    exact absurd H (by simp)
   rw [if_pos c83] at H
   have c83b0 : (t317 == t315) = true := beq_iff_eq.mpr c83
   have c83b1 : (t317 != t315) = false := bne_eq_false_iff_eq.mpr c83
   clear c83
   replace H := Option.bind_eq_some_iff.mp H
   obtain ⟨⟨t318, t319⟩, A840, H⟩ := H
   replace H : ((laws_toBoolS.f kj37 l1).bind fun t322 => ((laws_toBusS.f kj37 l2).bind fun t325 => ((impl_AliveBuses.f kj37 t318 t319 t322 t325).bind fun t328 => ((laws_eqIntS.f kj37 t328 t277).bind fun t331 => (if t331 = true then ((laws_heldIntS.f kj37 t316 1).bind fun t332 => (if t332 < 0 then (none) else (if t332 = t315 then (some true) else (none)))) else (none)))))) = some r := H
   have A84 := Aside0.mk A840
   clear A840
   replace H := Option.bind_eq_some_iff.mp H
   obtain ⟨t322, A850, H⟩ := H
   replace H : ((laws_toBusS.f kj37 l2).bind fun t325 => ((impl_AliveBuses.f kj37 t318 t319 t322 t325).bind fun t328 => ((laws_eqIntS.f kj37 t328 t277).bind fun t331 => (if t331 = true then ((laws_heldIntS.f kj37 t316 1).bind fun t332 => (if t332 < 0 then (none) else (if t332 = t315 then (some true) else (none)))) else (none))))) = some r := H
   have A85 := Aside0.mk A850
   clear A850
   replace H := Option.bind_eq_some_iff.mp H
   obtain ⟨t325, A860, H⟩ := H
   replace H : ((impl_AliveBuses.f kj37 t318 t319 t322 t325).bind fun t328 => ((laws_eqIntS.f kj37 t328 t277).bind fun t331 => (if t331 = true then ((laws_heldIntS.f kj37 t316 1).bind fun t332 => (if t332 < 0 then (none) else (if t332 = t315 then (some true) else (none)))) else (none)))) = some r := H
   have A86 := Aside0.mk A860
   clear A860
   replace H := Option.bind_eq_some_iff.mp H
   obtain ⟨t328, A870, H⟩ := H
   replace H : ((laws_eqIntS.f kj37 t328 t277).bind fun t331 => (if t331 = true then ((laws_heldIntS.f kj37 t316 1).bind fun t332 => (if t332 < 0 then (none) else (if t332 = t315 then (some true) else (none)))) else (none))) = some r := H
   have A87 := Aside0.mk A870
   clear A870
   replace H := Option.bind_eq_some_iff.mp H
   obtain ⟨t331, A880, H⟩ := H
   replace H : (if t331 = true then ((laws_heldIntS.f kj37 t316 1).bind fun t332 => (if t332 < 0 then (none) else (if t332 = t315 then (some true) else (none)))) else (none)) = some r := H
   have A88 := Aside0.mk A880
   clear A880
   by_cases c89 : t331 = true
   rotate_left
   ·
    replace c89 := Bool.eq_false_iff.mpr c89
    subst c89
    have H1 : (none) = some r := by rw [if_neg (show ¬ (false = true) by decide)] at H; exact H
    clear H
    have H := H1
    clear H1
    exact absurd H (by simp)
   subst c89
   have H1 : ((laws_heldIntS.f kj37 t316 1).bind fun t332 => (if t332 < 0 then (none) else (if t332 = t315 then (some true) else (none)))) = some r := by rw [if_pos rfl] at H; exact H
   clear H
   have H := H1
   clear H1
   replace H := Option.bind_eq_some_iff.mp H
   obtain ⟨t332, A900, H⟩ := H
   replace H : (if t332 < 0 then (none) else (if t332 = t315 then (some true) else (none))) = some r := H
   have A90 := Aside0.mk A900
   clear A900
   by_cases c91 : t332 < 0
   ·
    rw [if_pos c91] at H
    exact absurd H (by simp)
   rw [if_neg c91] at H
   have c91b0 : decide (t332 < 0) = false := decide_eq_false c91
   clear c91
   by_cases c92 : t332 = t315
   rotate_left
   ·
    rw [if_neg c92] at H
    exact absurd H (by simp)
   rw [if_pos c92] at H
   have c92b0 : (t332 == t315) = true := beq_iff_eq.mpr c92
   have c92b1 : (t332 != t315) = false := bne_eq_false_iff_eq.mpr c92
   clear c92
   obtain rfl := Option.some.inj H
   go_wp2_with (first | ((with_reducible refine gate_callee (f := 20) rfl ?_); refine goesL_ (some 85) rfl rfl Try.func20 (by kernel_rfl) rfl #[.slice Ao62 t291.length co62, .int .i64 1] rfl (by (try simp only [List.map_toArray, List.map_cons, List.map_nil]); first | done | rfl | (simp only [List.length_drop, List.length_take]; rfl)) ?_; (with_reducible refine (laws_markIntS.calls kj37 (fun k_ => some k_ = (.slice Ao62 t291.length co62 : Value).ownBlock) (.slice Ao62 t291.length co62) t291 1 t315 t316 w _ ?side1 ?side2 A80.out).mono ?_); (case side1 => repeat (first | (with_reducible first | exact HB.out | apply below_alloc | apply pw_below_drewN | apply below_drew1 | refine below_set ?_ GE264.out | refine below_set ?_ GE284.out) | exact HB.out)); (case side2 => exact Kd.R_tight rfl HO_12.out); rintro e w93 ⟨rfl, hy0, hb, hkp⟩; refine ⟨_, rfl, ?_⟩; have n0_ := Aside0.mk (Kd.R_mono (ok' := fun k_ => some k_ ≠ (.slice Ao62 t291.length co62 : Value).ownBlock) (Kd.R_keptB (HO_8.out) hkp (fun k_ hk_ hs_ => (hk_) hs_)) (fun k_ hk_ => hk_.1)); have n1_ := Aside0.mk (Kd.R_reok rfl hy0 (fun k_ e_ => HO_12.out.1 k_ e_)); have n2_ := Aside0.mk (Kd.R_mono (ok' := fun k_ => True) (Kd.R_keptB ((Kd.R_apart' HO_285001.out (Kd.R_typed HO_12.out) (by decide))) hkp (fun k_ hk_ hs_ => (hk_.2) hs_)) (fun k_ hk_ => trivial)); have n3_ := Aside0.mk (blk_kept (by (with_reducible repeat (first | refine blk_drewN ?_ _ | refine blk_drew ?_ | refine blk_alloc ?_ _)); exact BK264.out) hkp (fun hs_ => (fun e_ => (Kd.R_ne HO_12.out BK264.out (by decide)) e_) hs_)); have n4_ := Aside0.mk (blk_kept (by (with_reducible repeat (first | refine blk_drewN ?_ _ | refine blk_drew ?_ | refine blk_alloc ?_ _)); exact BK284.out) hkp (fun hs_ => (fun e_ => (Kd.R_ne HO_12.out BK284.out (by decide)) e_) hs_)); have n5_ := Aside0.mk (hb); clear HO_8; clear HO_12; clear HO_285001; clear BK264; clear BK284; clear HB; have HO_8 := n0_; have HO_12 := n1_; have HO_285001 := n2_; have BK264 := n3_; have BK284 := n4_; have HB := n5_; clear n0_ n1_ n2_ n3_ n4_ n5_; (try clear hb); (try clear hkp); (try clear hy0)) | ((with_reducible refine gate_callee (f := 21) rfl ?_); refine goesL_ (some 88) rfl rfl Try.func21 (by kernel_rfl) rfl #[.slice Ao62 t316.length co62, .int .i64 1] rfl (by (try simp only [List.map_toArray, List.map_cons, List.map_nil]); first | done | (rw [show t316.length = t291.length from (Kd.R_reads' HO_12.out).1.symm] <;> rfl) | rfl | (simp only [List.length_drop, List.length_take]; rfl)) ?_; (with_reducible refine (laws_heldIntS.calls kj37 _ _ t316 1 t317 _ ?side1 ?side2 A81.out).mono ?_); (case side1 => repeat (first | exact (Kd.R_reads' HO_12.out).2.2 | (with_reducible refine Kd.C_alloc ?_ _) | (with_reducible refine Kd.C_drewN ?_ _) | (with_reducible refine Kd.C_drew ?_))); (case side2 => rw [show t316.length = t291.length from (Kd.R_reads' HO_12.out).1.symm]; exact (Kd.R_reads' HO_12.out).2.1); rintro e w' ⟨rfl, ⟨nd, rfl⟩⟩; refine ⟨_, rfl, ?_⟩; have hnb94 := NB264_284.out; have hnc94 := NB284_264.out; have hcz95_0 : w93.cell? ⟨gb264, 0, none⟩ = some (.int .i64 a0_0) := (blk_cell BK264.out 0).trans rfl; have hcz95_1 : w93.cell? ⟨gb264, 1, none⟩ = some (.slice A0_1 l0_1.length c0_1) := (blk_cell BK264.out 1).trans rfl; have hfz95_0 := blk_frozen BK264.out 0; have hfz95_1 := blk_frozen BK264.out 1) | ((with_reducible refine gate_callee (f := 9) rfl ?_); refine goesL_ (some 95) rfl rfl Try.func9 (by kernel_rfl) rfl #[.agg #[.int .i64 a0_0, .slice A0_1 l0_1.length c0_1]] rfl (by (try simp only [List.map_toArray, List.map_cons, List.map_nil]); first | done | rfl | (simp only [List.length_drop, List.length_take]; rfl)) ?_; (with_reducible refine (laws_toNet.calls kj37 a0_0 _ _ l0_1 t318 t319 _ ?side1 ?side2 A84.out).mono ?_); (case side1 => repeat (first | exact (Kd.C_below HR0_1.out (by repeat (first | (with_reducible first | exact HB.out | apply below_alloc | apply pw_below_drewN | apply below_drew1 | refine below_set ?_ GE264.out | refine below_set ?_ GE284.out) | exact HB.out))) | (with_reducible refine Kd.C_alloc ?_ _) | (with_reducible refine Kd.C_drewN ?_ _) | (with_reducible refine Kd.C_drew ?_))); (case side2 => exact HC0_1.out); rintro e w96 ⟨v320, rfl, ho0, hb⟩; refine ⟨_, rfl, ?_⟩; have n0_ := Aside0.mk (Kd.R_below (by (with_reducible repeat (first | apply Kd.R_alloc | apply Kd.R_drewN | apply Kd.R_drew)); exact HO_8.out) hb); have n1_ := Aside0.mk (Kd.R_below (by (with_reducible repeat (first | apply Kd.R_alloc | apply Kd.R_drewN | apply Kd.R_drew)); exact HO_12.out) hb); have n2_ := Aside0.mk (Kd.R_elder' (by (with_reducible repeat (first | apply Kd.R_alloc | apply Kd.R_drewN | apply Kd.R_drew)); exact HO_285001.out) (Kd.R_base ho0) hb); have n3_ := Aside0.mk (Kd.R_lower (Kd.R_new' ho0 (Kd.R_lt (by (with_reducible repeat (first | apply Kd.R_alloc | apply Kd.R_drewN | apply Kd.R_drew)); exact HO_285001.out))) (below_size (by repeat (first | (with_reducible first | exact HB.out | apply below_alloc | apply pw_below_drewN | apply below_drew1 | refine below_set ?_ GE264.out | refine below_set ?_ GE284.out) | exact HB.out)))); have n4_ := Aside0.mk (blk_below (g := gb264) (o := .cells #[.int .i64 a0_0, .slice A0_1 l0_1.length c0_1] 24 (0, 0)) (by (with_reducible repeat (first | refine blk_drewN ?_ _ | refine blk_drew ?_ | refine blk_alloc ?_ _)); exact BK264.out) hb); have n5_ := Aside0.mk (blk_below (g := gb284) (o := .cells #[.int .i64 t280, .slice Ao55 t309.length co55] 33 (0, 0)) (by (with_reducible repeat (first | refine blk_drewN ?_ _ | refine blk_drew ?_ | refine blk_alloc ?_ _)); exact BK284.out) hb); have n6_ := Aside0.mk (below_step (by repeat (first | (with_reducible first | exact HB.out | apply below_alloc | apply pw_below_drewN | apply below_drew1 | refine below_set ?_ GE264.out | refine below_set ?_ GE284.out) | exact HB.out)) hb); clear HO_8; clear HO_12; clear HO_285001; clear BK264; clear BK284; clear HB; have HO_8 := n0_; have HO_12 := n1_; have HO_285001 := n2_; have HO321 := n3_; have BK264 := n4_; have BK284 := n5_; have HB := n6_; clear n0_ n1_ n2_ n3_ n4_ n5_ n6_; (try clear hb); (try clear hb2); (try clear hk); (try clear hi); (try clear ho0)) | ((with_reducible refine gate_callee (f := 10) rfl ?_); refine goesL_ (some 97) rfl rfl Try.func10 (by kernel_rfl) rfl #[.slice A1 l1.length c1] rfl (by (try simp only [List.map_toArray, List.map_cons, List.map_nil]); first | done | rfl | (simp only [List.length_drop, List.length_take]; rfl)) ?_; (with_reducible refine (laws_toBoolS.calls kj37 _ _ l1 t322 _ ?side1 ?side2 A85.out).mono ?_); (case side1 => repeat (first | exact (Kd.C_below HR1.out HB.out) | (with_reducible refine Kd.C_alloc ?_ _) | (with_reducible refine Kd.C_drewN ?_ _) | (with_reducible refine Kd.C_drew ?_))); (case side2 => exact HC1.out); rintro e w97 ⟨v323, rfl, ho0, hb⟩; refine ⟨_, rfl, ?_⟩; have n0_ := Aside0.mk (Kd.R_below (by (with_reducible repeat (first | apply Kd.R_alloc | apply Kd.R_drewN | apply Kd.R_drew)); exact HO_8.out) hb); have n1_ := Aside0.mk (Kd.R_below (by (with_reducible repeat (first | apply Kd.R_alloc | apply Kd.R_drewN | apply Kd.R_drew)); exact HO_12.out) hb); have n2_ := Aside0.mk (Kd.R_below (by (with_reducible repeat (first | apply Kd.R_alloc | apply Kd.R_drewN | apply Kd.R_drew)); exact HO_285001.out) hb); have n3_ := Aside0.mk (Kd.R_below (by (with_reducible repeat (first | apply Kd.R_alloc | apply Kd.R_drewN | apply Kd.R_drew)); exact HO321.out) hb); have n4_ := Aside0.mk (Kd.R_lower ho0 (below_size (by repeat (first | (with_reducible first | exact HB.out | apply below_alloc | apply pw_below_drewN | apply below_drew1 | refine below_set ?_ GE264.out | refine below_set ?_ GE284.out) | exact HB.out)))); have n5_ := Aside0.mk (blk_below (g := gb264) (o := .cells #[.int .i64 a0_0, .slice A0_1 l0_1.length c0_1] 24 (0, 0)) (by (with_reducible repeat (first | refine blk_drewN ?_ _ | refine blk_drew ?_ | refine blk_alloc ?_ _)); exact BK264.out) hb); have n6_ := Aside0.mk (blk_below (g := gb284) (o := .cells #[.int .i64 t280, .slice Ao55 t309.length co55] 33 (0, 0)) (by (with_reducible repeat (first | refine blk_drewN ?_ _ | refine blk_drew ?_ | refine blk_alloc ?_ _)); exact BK284.out) hb); have n7_ := Aside0.mk (below_step (by repeat (first | (with_reducible first | exact HB.out | apply below_alloc | apply pw_below_drewN | apply below_drew1 | refine below_set ?_ GE264.out | refine below_set ?_ GE284.out) | exact HB.out)) hb); clear HO_8; clear HO_12; clear HO_285001; clear HO321; clear BK264; clear BK284; clear HB; have HO_8 := n0_; have HO_12 := n1_; have HO_285001 := n2_; have HO321 := n3_; have HO324 := n4_; have BK264 := n5_; have BK284 := n6_; have HB := n7_; clear n0_ n1_ n2_ n3_ n4_ n5_ n6_ n7_; (try clear hb); (try clear hb2); (try clear hk); (try clear hi); (try clear ho0)) | ((with_reducible refine gate_callee (f := 11) rfl ?_); refine goesL_ (some 99) rfl rfl Try.func11 (by kernel_rfl) rfl #[.slice A2 l2.length c2] rfl (by (try simp only [List.map_toArray, List.map_cons, List.map_nil]); first | done | rfl | (simp only [List.length_drop, List.length_take]; rfl)) ?_; (with_reducible refine (laws_toBusS.calls kj37 _ _ l2 t325 _ ?side1 ?side2 A86.out).mono ?_); (case side1 => repeat (first | exact (Kd.C_below HR2.out HB.out) | (with_reducible refine Kd.C_alloc ?_ _) | (with_reducible refine Kd.C_drewN ?_ _) | (with_reducible refine Kd.C_drew ?_))); (case side2 => exact HC2.out); rintro e w98 ⟨v326, rfl, ho0, hb⟩; refine ⟨_, rfl, ?_⟩; have n0_ := Aside0.mk (Kd.R_below (by (with_reducible repeat (first | apply Kd.R_alloc | apply Kd.R_drewN | apply Kd.R_drew)); exact HO_8.out) hb); have n1_ := Aside0.mk (Kd.R_below (by (with_reducible repeat (first | apply Kd.R_alloc | apply Kd.R_drewN | apply Kd.R_drew)); exact HO_12.out) hb); have n2_ := Aside0.mk (Kd.R_below (by (with_reducible repeat (first | apply Kd.R_alloc | apply Kd.R_drewN | apply Kd.R_drew)); exact HO_285001.out) hb); have n3_ := Aside0.mk (Kd.R_below (by (with_reducible repeat (first | apply Kd.R_alloc | apply Kd.R_drewN | apply Kd.R_drew)); exact HO321.out) hb); have n4_ := Aside0.mk (Kd.R_below (by (with_reducible repeat (first | apply Kd.R_alloc | apply Kd.R_drewN | apply Kd.R_drew)); exact HO324.out) hb); have n5_ := Aside0.mk (Kd.R_lower ho0 (below_size (by repeat (first | (with_reducible first | exact HB.out | apply below_alloc | apply pw_below_drewN | apply below_drew1 | refine below_set ?_ GE264.out | refine below_set ?_ GE284.out) | exact HB.out)))); have n6_ := Aside0.mk (blk_below (g := gb264) (o := .cells #[.int .i64 a0_0, .slice A0_1 l0_1.length c0_1] 24 (0, 0)) (by (with_reducible repeat (first | refine blk_drewN ?_ _ | refine blk_drew ?_ | refine blk_alloc ?_ _)); exact BK264.out) hb); have n7_ := Aside0.mk (blk_below (g := gb284) (o := .cells #[.int .i64 t280, .slice Ao55 t309.length co55] 33 (0, 0)) (by (with_reducible repeat (first | refine blk_drewN ?_ _ | refine blk_drew ?_ | refine blk_alloc ?_ _)); exact BK284.out) hb); have n8_ := Aside0.mk (below_step (by repeat (first | (with_reducible first | exact HB.out | apply below_alloc | apply pw_below_drewN | apply below_drew1 | refine below_set ?_ GE264.out | refine below_set ?_ GE284.out) | exact HB.out)) hb); clear HO_8; clear HO_12; clear HO_285001; clear HO321; clear HO324; clear BK264; clear BK284; clear HB; have HO_8 := n0_; have HO_12 := n1_; have HO_285001 := n2_; have HO321 := n3_; have HO324 := n4_; have HO327 := n5_; have BK264 := n6_; have BK284 := n7_; have HB := n8_; clear n0_ n1_ n2_ n3_ n4_ n5_ n6_ n7_ n8_; (try clear hb); (try clear hb2); (try clear hk); (try clear hi); (try clear ho0); obtain ⟨Ao99, co99, eo99⟩ := Kd.R_slice HO321.out; subst eo99; obtain ⟨Ao100, co100, eo100⟩ := Kd.R_slice HO324.out; subst eo100; obtain ⟨Ao101, co101, eo101⟩ := Kd.R_slice HO327.out; subst eo101) | ((with_reducible refine gate_callee (f := 12) rfl ?_); refine goesL_ (some 100) rfl rfl Try.func12 (by kernel_rfl) rfl #[.agg #[.int .i64 t318, .slice Ao99 t319.length co99], .slice Ao100 t322.length co100, .slice Ao101 t325.length co101] rfl (by (try simp only [List.map_toArray, List.map_cons, List.map_nil]); first | done | rfl | (simp only [List.length_drop, List.length_take]; rfl)) ?_; (with_reducible refine (impl_AliveBuses.calls kj37 t318 _ _ t319 _ _ t322 _ _ t325 t328 _ ?side1 ?side2 ?side3 ?side4 ?side5 ?side6 A87.out).mono ?_); (case side1 => repeat (first | exact (Kd.R_reads' HO321.out).2.2 | (with_reducible refine Kd.C_alloc ?_ _) | (with_reducible refine Kd.C_drewN ?_ _) | (with_reducible refine Kd.C_drew ?_))); (case side2 => exact (Kd.R_reads' HO321.out).2.1); (case side3 => repeat (first | exact (Kd.R_reads' HO324.out).2.2 | (with_reducible refine Kd.C_alloc ?_ _) | (with_reducible refine Kd.C_drewN ?_ _) | (with_reducible refine Kd.C_drew ?_))); (case side4 => exact (Kd.R_reads' HO324.out).2.1); (case side5 => repeat (first | exact (Kd.R_reads' HO327.out).2.2 | (with_reducible refine Kd.C_alloc ?_ _) | (with_reducible refine Kd.C_drewN ?_ _) | (with_reducible refine Kd.C_drew ?_))); (case side6 => exact (Kd.R_reads' HO327.out).2.1); rintro e w102 ⟨v329, rfl, ho0, hb⟩; refine ⟨_, rfl, ?_⟩; have n0_ := Aside0.mk (Kd.R_elder' (by (with_reducible repeat (first | apply Kd.R_alloc | apply Kd.R_drewN | apply Kd.R_drew)); exact HO_8.out) (Kd.R_base ho0) hb); have n1_ := Aside0.mk (Kd.R_elder' (by (with_reducible repeat (first | apply Kd.R_alloc | apply Kd.R_drewN | apply Kd.R_drew)); exact HO_12.out) (Kd.R_base ho0) hb); have n2_ := Aside0.mk (Kd.R_below (by (with_reducible repeat (first | apply Kd.R_alloc | apply Kd.R_drewN | apply Kd.R_drew)); exact HO_285001.out) hb); have n3_ := Aside0.mk (Kd.R_below (by (with_reducible repeat (first | apply Kd.R_alloc | apply Kd.R_drewN | apply Kd.R_drew)); exact HO321.out) hb); have n4_ := Aside0.mk (Kd.R_below (by (with_reducible repeat (first | apply Kd.R_alloc | apply Kd.R_drewN | apply Kd.R_drew)); exact HO324.out) hb); have n5_ := Aside0.mk (Kd.R_below (by (with_reducible repeat (first | apply Kd.R_alloc | apply Kd.R_drewN | apply Kd.R_drew)); exact HO327.out) hb); have n6_ := Aside0.mk (Kd.R_lower (Kd.R_new' (Kd.R_new' ho0 (Kd.R_lt (by (with_reducible repeat (first | apply Kd.R_alloc | apply Kd.R_drewN | apply Kd.R_drew)); exact HO_8.out))) (Kd.R_lt (by (with_reducible repeat (first | apply Kd.R_alloc | apply Kd.R_drewN | apply Kd.R_drew)); exact HO_12.out))) (below_size (by repeat (first | (with_reducible first | exact HB.out | apply below_alloc | apply pw_below_drewN | apply below_drew1 | refine below_set ?_ GE264.out | refine below_set ?_ GE284.out) | exact HB.out)))); have n7_ := Aside0.mk (blk_below (g := gb264) (o := .cells #[.int .i64 a0_0, .slice A0_1 l0_1.length c0_1] 24 (0, 0)) (by (with_reducible repeat (first | refine blk_drewN ?_ _ | refine blk_drew ?_ | refine blk_alloc ?_ _)); exact BK264.out) hb); have n8_ := Aside0.mk (blk_below (g := gb284) (o := .cells #[.int .i64 t280, .slice Ao55 t309.length co55] 33 (0, 0)) (by (with_reducible repeat (first | refine blk_drewN ?_ _ | refine blk_drew ?_ | refine blk_alloc ?_ _)); exact BK284.out) hb); have n9_ := Aside0.mk (below_step (by repeat (first | (with_reducible first | exact HB.out | apply below_alloc | apply pw_below_drewN | apply below_drew1 | refine below_set ?_ GE264.out | refine below_set ?_ GE284.out) | exact HB.out)) hb); clear HO_8; clear HO_12; clear HO_285001; clear HO321; clear HO324; clear HO327; clear BK264; clear BK284; clear HB; have HO_8 := n0_; have HO_12 := n1_; have HO_285001 := n2_; have HO321 := n3_; have HO324 := n4_; have HO327 := n5_; have HO330 := n6_; have BK264 := n7_; have BK284 := n8_; have HB := n9_; clear n0_ n1_ n2_ n3_ n4_ n5_ n6_ n7_ n8_ n9_; (try clear hb); (try clear hb2); (try clear hk); (try clear hi); (try clear ho0); obtain ⟨Ao103, co103, eo103⟩ := Kd.R_slice HO330.out; subst eo103) | ((with_reducible refine gate_callee (f := 13) rfl ?_); refine goesL_ (some 103) rfl rfl Try.func13 (by kernel_rfl) rfl #[.slice Ao103 t328.length co103, .slice Ao63 t277.length co63] rfl (by (try simp only [List.map_toArray, List.map_cons, List.map_nil]); first | done | rfl | (simp only [List.length_drop, List.length_take]; rfl)) ?_; (with_reducible refine (laws_eqIntS.calls kj37 _ _ t328 _ _ t277 true _ ?side1 ?side2 ?side3 ?side4 A88.out).mono ?_); (case side1 => repeat (first | exact (Kd.R_reads' HO330.out).2.2 | (with_reducible refine Kd.C_alloc ?_ _) | (with_reducible refine Kd.C_drewN ?_ _) | (with_reducible refine Kd.C_drew ?_))); (case side2 => exact (Kd.R_reads' HO330.out).2.1); (case side3 => repeat (first | exact (Kd.R_reads' HO_8.out).2.2 | (with_reducible refine Kd.C_alloc ?_ _) | (with_reducible refine Kd.C_drewN ?_ _) | (with_reducible refine Kd.C_drew ?_))); (case side4 => exact (Kd.R_reads' HO_8.out).2.1); rintro e w' ⟨rfl, ⟨nd, rfl⟩⟩; refine ⟨_, rfl, ?_⟩) | ((with_reducible refine gate_callee (f := 21) rfl ?_); refine goesL_ (some 107) rfl rfl Try.func21 (by kernel_rfl) rfl #[.slice Ao62 t316.length co62, .int .i64 1] rfl (by (try simp only [List.map_toArray, List.map_cons, List.map_nil]); first | done | (rw [show t316.length = t291.length from (Kd.R_reads' HO_12.out).1.symm] <;> rfl) | rfl | (simp only [List.length_drop, List.length_take]; rfl)) ?_; (with_reducible refine (laws_heldIntS.calls kj37 _ _ t316 1 t332 _ ?side1 ?side2 A90.out).mono ?_); (case side1 => repeat (first | exact (Kd.R_reads' HO_12.out).2.2 | (with_reducible refine Kd.C_alloc ?_ _) | (with_reducible refine Kd.C_drewN ?_ _) | (with_reducible refine Kd.C_drew ?_))); (case side2 => rw [show t316.length = t291.length from (Kd.R_reads' HO_12.out).1.symm]; exact (Kd.R_reads' HO_12.out).2.1); rintro e w' ⟨rfl, ⟨nd, rfl⟩⟩; refine ⟨_, rfl, ?_⟩))
   go_ret
   exact ⟨by first | rfl | (simp [errW_none, errW_some] <;> rfl) | (simp [*, errW_none, errW_some] <;> rfl), by repeat (first | (with_reducible first | exact HB.out | apply below_alloc | apply pw_below_drewN | apply below_drew1 | refine below_set ?_ GE264.out | refine below_set ?_ GE284.out) | exact HB.out)⟩

end Go.Proofs.Ytlahlfjhfmldaaa.P

/- Contracts of Go functions of this seat's translation, written by this repo's wip/mk.py: it calls the kit's print.py with contracts typed by hand in place of functions that it does not take. Not trusted: Lean checks it. -/
import Derived.Test.YtknddipjabkfbaaP0
import Derived.Test.YtknddipjabkfbaaP8
import Derived.Test.YtknddipjabkfbaaP17
import Derived.Test.YtknddipjabkfbaaP19
import Derived.Test.YtknddipjabkfbaaP27
import Derived.Test.YtknddipjabkfbaaP38
import Derived.Test.YtknddipjabkfbaaP41
import Derived.Test.YtknddipjabkfbaaP43
import Derived.Test.YtknddipjabkfbaaP48
import Derived.Test.YtknddipjabkfbaaP50
namespace Go.Proofs.Ytknddipjabkfbaa.P
open Go.RowKit Go.Proofs.YtknddipjabkfbaaW.PrintWords Go.Proofs.YtknddipjabkfbaaW.PrintLast Go.Proofs.YtknddipjabkfbaaW.PrintMore
attribute [local go_sem] max2_int min2_int max_two min_two max_three min_three max_four min_four   -- for this text's walks alone
set_option linter.unusedVariables false
set_option linter.unusedSimpArgs false

/-! ### laws_FnExactSpanningLines: function 7 -/
def laws_FnExactSpanningLines.j0 : Nat → List Bool → List Int → List Int → Bool → Int → List (S91) → Option (Bool)
 | 0, _, _, _, _, _, _ => none
 | k + 1, x1, x6, x9, x61, x509000, x509001 => if x61 = true then (none) else ((laws_markIntS.f k x9 1).bind fun bt546 => ((laws_heldIntS.f k bt546.2 1).bind fun t548 => (if t548 < 0 then (none) else (if t548 = bt546.1 then ((laws_toNet.f k x509000 x509001).bind fun bt549 => ((laws_toBoolS.f k x1).bind fun t553 => ((impl_SpanningLines.f k bt549.1 bt549.2 t553).bind fun t556 => ((laws_eqIntS.f k t556 x6).bind fun t559 => (if t559 = true then ((laws_heldIntS.f k bt546.2 1).bind fun t560 => (if t560 < 0 then (none) else (if t560 = bt546.1 then (some true) else (none)))) else (none)))))) else (none)))))
def laws_FnExactSpanningLines.f (k : Nat) (a0_0 : Int) (l0_1 : List (S91)) (l1 : List Bool) : Option (Bool) := if (l1.length : Int) > 1048576 then (some true) else ((laws_szNet.f a0_0 l0_1 1048576).bind fun t509 => (if t509 < 0 then (some true) else ((laws_toNet.f k a0_0 l0_1).bind fun bt510 => ((laws_toBoolS.f k l1).bind fun t514 => ((spec_SpanningLines.f k bt510.1 bt510.2 t514).bind fun t517 => ((laws_toNet.f k a0_0 l0_1).bind fun bt520 => ((laws_toBoolS.f k l1).bind fun t525 => ((impl_SpanningLines.f k bt520.1 bt520.2 t525).bind fun t528 => ((laws_eqIntS.f k t528 t517).bind fun t531 => (if t531 = true then ((laws_toNet.f k a0_0 l0_1).bind fun bt532 => ((laws_eqNet.f k bt520.1 bt520.2 bt532.1 bt532.2).bind fun t536 => (if t536 = true then ((laws_toBoolS.f k l1).bind fun t537 => ((laws_eqBoolS.f k t525 t537).bind fun t540 => (if t540 = true then ((laws_markNet.f k bt520.1 bt520.2 1).bind fun bt541 => ((laws_markBoolS.f k t525 bt541.1).bind fun bt543 => (if bt543.1 < 0 then (laws_FnExactSpanningLines.j0 k l1 t517 t528 true a0_0 l0_1) else ((laws_eqIntS.f k t528 t517).bind fun t545 => (laws_FnExactSpanningLines.j0 k l1 t517 t528 (!t545) a0_0 l0_1))))) else (none)))) else (none)))) else (none)))))))))))
theorem laws_FnExactSpanningLines.mono_l : ∀ k, (∀ y0 y1 y2 y3 y4 y5, LeO (laws_FnExactSpanningLines.j0 k y0 y1 y2 y3 y4 y5) (laws_FnExactSpanningLines.j0 (k + 1) y0 y1 y2 y3 y4 y5))
 | 0 => fun _ _ _ _ _ _ r h => by simp [laws_FnExactSpanningLines.j0] at h
 | k + 1 => by
  have ih0 := laws_FnExactSpanningLines.mono_l k
  ·
   intro y0 y1 y2 y3 y4 y5
   unfold laws_FnExactSpanningLines.j0
   repeat' first
   | (with_reducible exact ih0 _ _ _ _ _ _)
   | (with_reducible exact impl_SpanningLines.mono _ _ _ _)
   | (with_reducible exact laws_eqBoolS.mono _ _ _)
   | (with_reducible exact laws_eqIntS.mono _ _ _)
   | (with_reducible exact laws_eqNet.mono _ _ _ _ _)
   | (with_reducible exact laws_heldIntS.mono _ _ _)
   | (with_reducible exact laws_markBoolS.mono _ _ _)
   | (with_reducible exact laws_markIntS.mono _ _ _)
   | (with_reducible exact laws_markNet.mono _ _ _ _)
   | (with_reducible exact laws_toBoolS.mono _ _)
   | (with_reducible exact laws_toNet.mono _ _ _)
   | (with_reducible exact spec_SpanningLines.mono _ _ _ _)
   | (with_reducible exact LeO.refl _)
   | (with_reducible exact LeO.none _)
   | (with_reducible refine LeO.ite ?_ ?_)
   | (with_reducible refine LeO.bind ?_ (fun _ => ?_))
   | exact ih0 _ _ _ _ _ _
   | exact impl_SpanningLines.mono _ _ _ _
   | exact laws_eqBoolS.mono _ _ _
   | exact laws_eqIntS.mono _ _ _
   | exact laws_eqNet.mono _ _ _ _ _
   | exact laws_heldIntS.mono _ _ _
   | exact laws_markBoolS.mono _ _ _
   | exact laws_markIntS.mono _ _ _
   | exact laws_markNet.mono _ _ _ _
   | exact laws_toBoolS.mono _ _
   | exact laws_toNet.mono _ _ _
   | exact spec_SpanningLines.mono _ _ _ _
   | exact LeO.none _
   | refine LeO.ite ?_ ?_
   | refine LeO.bind ?_ (fun _ => ?_)
theorem laws_FnExactSpanningLines.mono : ∀ a0 a1 a2 k, LeO (laws_FnExactSpanningLines.f k a0 a1 a2) (laws_FnExactSpanningLines.f (k + 1) a0 a1 a2) := by
 intro a0 a1 a2 k
 have ih0 := laws_FnExactSpanningLines.mono_l k
 unfold laws_FnExactSpanningLines.f
 repeat' first
   | (with_reducible exact ih0 _ _ _ _ _ _)
   | (with_reducible exact impl_SpanningLines.mono _ _ _ _)
   | (with_reducible exact laws_eqBoolS.mono _ _ _)
   | (with_reducible exact laws_eqIntS.mono _ _ _)
   | (with_reducible exact laws_eqNet.mono _ _ _ _ _)
   | (with_reducible exact laws_heldIntS.mono _ _ _)
   | (with_reducible exact laws_markBoolS.mono _ _ _)
   | (with_reducible exact laws_markIntS.mono _ _ _)
   | (with_reducible exact laws_markNet.mono _ _ _ _)
   | (with_reducible exact laws_toBoolS.mono _ _)
   | (with_reducible exact laws_toNet.mono _ _ _)
   | (with_reducible exact spec_SpanningLines.mono _ _ _ _)
   | (with_reducible exact LeO.refl _)
   | (with_reducible exact LeO.none _)
   | (with_reducible refine LeO.ite ?_ ?_)
   | (with_reducible refine LeO.bind ?_ (fun _ => ?_))
   | exact ih0 _ _ _ _ _ _
   | exact impl_SpanningLines.mono _ _ _ _
   | exact laws_eqBoolS.mono _ _ _
   | exact laws_eqIntS.mono _ _ _
   | exact laws_eqNet.mono _ _ _ _ _
   | exact laws_heldIntS.mono _ _ _
   | exact laws_markBoolS.mono _ _ _
   | exact laws_markIntS.mono _ _ _
   | exact laws_markNet.mono _ _ _ _
   | exact laws_toBoolS.mono _ _
   | exact laws_toNet.mono _ _ _
   | exact spec_SpanningLines.mono _ _ _ _
   | exact LeO.none _
   | refine LeO.ite ?_ ?_
   | refine LeO.bind ?_ (fun _ => ?_)
set_option maxHeartbeats 8000000 in
set_option maxRecDepth 100000 in
theorem laws_FnExactSpanningLines.calls (k : Nat) (a0_0 : Int) (A0_1 : Option Addr) (c0_1 : Nat) (l0_1 : List (S91)) (A1 : Option Addr) (c1 : Nat) (l1 : List Bool) (r : Bool) (w : World) (hr0_1 : Kd.C k91 w A0_1 l0_1.length l0_1) (hc0_1 : l0_1.length ≤ c0_1) (hr1 : Kd.C Kd.bool w A1 l1.length l1) (hc1 : l1.length ≤ c1) (h : laws_FnExactSpanningLines.f k a0_0 l0_1 l1 = some r) :
  Calls Try.prog 7 #[.agg #[.int .i64 a0_0, .slice A0_1 l0_1.length c0_1], .slice A1 l1.length c1] w fun e w' => e = .returned (.bool r) ∧ Below w.heap.size w w' := by
 have hu24 := Try.underlying24
 have hu30 := Try.underlying30
 have HR0_1 := Aside0.mk hr0_1
 have HC0_1 := Aside0.mk hc0_1
 clear hr0_1 hc0_1
 have HR1 := Aside0.mk hr1
 have HC1 := Aside0.mk hc1
 clear hr1 hc1
 have HB := Aside0.mk (Below.refl w.heap.size w)
 have H : (if (l1.length : Int) > 1048576 then (some true) else ((laws_szNet.f a0_0 l0_1 1048576).bind fun t509 => (if t509 < 0 then (some true) else ((laws_toNet.f k a0_0 l0_1).bind fun bt510 => ((laws_toBoolS.f k l1).bind fun t514 => ((spec_SpanningLines.f k bt510.1 bt510.2 t514).bind fun t517 => ((laws_toNet.f k a0_0 l0_1).bind fun bt520 => ((laws_toBoolS.f k l1).bind fun t525 => ((impl_SpanningLines.f k bt520.1 bt520.2 t525).bind fun t528 => ((laws_eqIntS.f k t528 t517).bind fun t531 => (if t531 = true then ((laws_toNet.f k a0_0 l0_1).bind fun bt532 => ((laws_eqNet.f k bt520.1 bt520.2 bt532.1 bt532.2).bind fun t536 => (if t536 = true then ((laws_toBoolS.f k l1).bind fun t537 => ((laws_eqBoolS.f k t525 t537).bind fun t540 => (if t540 = true then ((laws_markNet.f k bt520.1 bt520.2 1).bind fun bt541 => ((laws_markBoolS.f k t525 bt541.1).bind fun bt543 => (if bt543.1 < 0 then (laws_FnExactSpanningLines.j0 k l1 t517 t528 true a0_0 l0_1) else ((laws_eqIntS.f k t528 t517).bind fun t545 => (laws_FnExactSpanningLines.j0 k l1 t517 t528 (!t545) a0_0 l0_1))))) else (none)))) else (none)))) else (none)))))))))))) = some r := h
 clear h
 by_cases c3 : (l1.length : Int) > 1048576
 ·
  rw [if_pos c3] at H
  have c3b0 : decide (1048576 < (l1.length : Int)) = true := decide_eq_true c3
  have c3b1 : decide (1048576 < l1.length) = true := decide_eq_true (by omega)
  clear c3
  obtain rfl := Option.some.inj H
  go_enter Try.func7, Try.ntmps7
  go_wp2_with (first | ((with_reducible refine gate_dst (N := 2) rfl ?_); refine box_event ?hg (N := 2) ?hd (cs := #[.int .i64 a0_0, .slice A0_1 l0_1.length c0_1]) (t := 24) ?hr ?_; (case hd => rfl); (case hg => rfl); (case hr => first | (go_simp; done) | (go_simp; rfl)); intro gb508 hg w4 hbox hb; have n0_ := Aside0.mk (below_step (by repeat (first | (with_reducible first | exact HB.out | apply below_alloc | apply pw_below_drewN | apply below_drew1) | exact HB.out)) hb); have n1_ := Aside0.mk (hbox); have n2_ := Aside0.mk ((by rw [hg]; exact (below_size (by repeat (first | (with_reducible first | exact HB.out | apply below_alloc | apply pw_below_drewN | apply below_drew1) | exact HB.out))) : w.heap.size ≤ gb508)); have n3_ := Aside0.mk ((by rw [hg]; exact (below_size (by repeat (first | (with_reducible first | exact HB.out | apply below_alloc | apply pw_below_drewN | apply below_drew1) | exact HB.out))) : w.heap.size ≤ gb508)); clear HB; have HB := n0_; have BK508 := n1_; have GW508 := n2_; have GE508 := n3_; clear n0_ n1_ n2_ n3_; clear hb hbox hg))
  go_ret
  exact ⟨by first | rfl | (simp [errW_none, errW_some] <;> rfl) | (simp [*, errW_none, errW_some] <;> rfl), by repeat (first | (with_reducible first | exact HB.out | apply below_alloc | apply pw_below_drewN | apply below_drew1 | refine below_set ?_ GE508.out) | exact HB.out)⟩
 rw [if_neg c3] at H
 have c3b0 : decide (1048576 < (l1.length : Int)) = false := decide_eq_false c3
 have c3b1 : decide (1048576 < l1.length) = false := decide_eq_false (by omega)
 clear c3
 replace H := Option.bind_eq_some_iff.mp H
 obtain ⟨t509, A50, H⟩ := H
 replace H : (if t509 < 0 then (some true) else ((laws_toNet.f k a0_0 l0_1).bind fun bt510 => ((laws_toBoolS.f k l1).bind fun t514 => ((spec_SpanningLines.f k bt510.1 bt510.2 t514).bind fun t517 => ((laws_toNet.f k a0_0 l0_1).bind fun bt520 => ((laws_toBoolS.f k l1).bind fun t525 => ((impl_SpanningLines.f k bt520.1 bt520.2 t525).bind fun t528 => ((laws_eqIntS.f k t528 t517).bind fun t531 => (if t531 = true then ((laws_toNet.f k a0_0 l0_1).bind fun bt532 => ((laws_eqNet.f k bt520.1 bt520.2 bt532.1 bt532.2).bind fun t536 => (if t536 = true then ((laws_toBoolS.f k l1).bind fun t537 => ((laws_eqBoolS.f k t525 t537).bind fun t540 => (if t540 = true then ((laws_markNet.f k bt520.1 bt520.2 1).bind fun bt541 => ((laws_markBoolS.f k t525 bt541.1).bind fun bt543 => (if bt543.1 < 0 then (laws_FnExactSpanningLines.j0 k l1 t517 t528 true a0_0 l0_1) else ((laws_eqIntS.f k t528 t517).bind fun t545 => (laws_FnExactSpanningLines.j0 k l1 t517 t528 (!t545) a0_0 l0_1))))) else (none)))) else (none)))) else (none)))))))))) = some r := H
 have A5 := Aside0.mk A50
 clear A50
 by_cases c6 : t509 < 0
 ·
  rw [if_pos c6] at H
  have c6b0 : decide (t509 < 0) = true := decide_eq_true c6
  clear c6
  obtain rfl := Option.some.inj H
  go_enter Try.func7, Try.ntmps7
  go_wp2_with (first | ((with_reducible refine gate_dst (N := 2) rfl ?_); refine box_event ?hg (N := 2) ?hd (cs := #[.int .i64 a0_0, .slice A0_1 l0_1.length c0_1]) (t := 24) ?hr ?_; (case hd => rfl); (case hg => rfl); (case hr => first | (go_simp; done) | (go_simp; rfl)); intro gb508 hg w7 hbox hb; have n0_ := Aside0.mk (below_step (by repeat (first | (with_reducible first | exact HB.out | apply below_alloc | apply pw_below_drewN | apply below_drew1) | exact HB.out)) hb); have n1_ := Aside0.mk (hbox); have n2_ := Aside0.mk ((by rw [hg]; exact (below_size (by repeat (first | (with_reducible first | exact HB.out | apply below_alloc | apply pw_below_drewN | apply below_drew1) | exact HB.out))) : w.heap.size ≤ gb508)); have n3_ := Aside0.mk ((by rw [hg]; exact (below_size (by repeat (first | (with_reducible first | exact HB.out | apply below_alloc | apply pw_below_drewN | apply below_drew1) | exact HB.out))) : w.heap.size ≤ gb508)); clear HB; have HB := n0_; have BK508 := n1_; have GW508 := n2_; have GE508 := n3_; clear n0_ n1_ n2_ n3_; clear hb hbox hg; have hcz8_0 : w7.cell? ⟨gb508, 0, none⟩ = some (.int .i64 a0_0) := (blk_cell BK508.out 0).trans rfl; have hcz8_1 : w7.cell? ⟨gb508, 1, none⟩ = some (.slice A0_1 l0_1.length c0_1) := (blk_cell BK508.out 1).trans rfl; have hfz8_0 := blk_frozen BK508.out 0; have hfz8_1 := blk_frozen BK508.out 1) | ((with_reducible refine gate_callee (f := 14) rfl ?_); refine goesL_ (some 19) rfl rfl Try.func14 (by kernel_rfl) rfl #[.agg #[.int .i64 a0_0, .slice A0_1 l0_1.length c0_1], .int .i64 1048576] rfl (by (try simp only [List.map_toArray, List.map_cons, List.map_nil]); first | done | rfl | (simp only [List.length_drop, List.length_take]; rfl)) ?_; (with_reducible refine (laws_szNet.calls a0_0 _ _ l0_1 1048576 t509 _ ?side1 ?side2 A5.out).mono ?_); (case side1 => repeat (first | exact (Kd.C_below HR0_1.out HB.out) | (with_reducible refine Kd.C_alloc ?_ _) | (with_reducible refine Kd.C_drewN ?_ _) | (with_reducible refine Kd.C_drew ?_))); (case side2 => exact HC0_1.out); rintro e w9 ⟨rfl, hb⟩; refine ⟨_, rfl, ?_⟩; have n0_ := Aside0.mk (blk_below (g := gb508) (o := .cells #[.int .i64 a0_0, .slice A0_1 l0_1.length c0_1] 24 (0, 0)) (by (with_reducible repeat (first | refine blk_drewN ?_ _ | refine blk_drew ?_ | refine blk_alloc ?_ _)); exact BK508.out) hb); have n1_ := Aside0.mk (below_step (by repeat (first | (with_reducible first | exact HB.out | apply below_alloc | apply pw_below_drewN | apply below_drew1 | refine below_set ?_ GE508.out) | exact HB.out)) hb); clear BK508; clear HB; have BK508 := n0_; have HB := n1_; clear n0_ n1_; (try clear hb); (try clear hb2); (try clear hk); (try clear hi)))
  go_ret
  exact ⟨by first | rfl | (simp [errW_none, errW_some] <;> rfl) | (simp [*, errW_none, errW_some] <;> rfl), by repeat (first | (with_reducible first | exact HB.out | apply below_alloc | apply pw_below_drewN | apply below_drew1 | refine below_set ?_ GE508.out) | exact HB.out)⟩
 rw [if_neg c6] at H
 have c6b0 : decide (t509 < 0) = false := decide_eq_false c6
 clear c6
 replace H := Option.bind_eq_some_iff.mp H
 obtain ⟨⟨t510, t511⟩, A100, H⟩ := H
 replace H : ((laws_toBoolS.f k l1).bind fun t514 => ((spec_SpanningLines.f k t510 t511 t514).bind fun t517 => ((laws_toNet.f k a0_0 l0_1).bind fun bt520 => ((laws_toBoolS.f k l1).bind fun t525 => ((impl_SpanningLines.f k bt520.1 bt520.2 t525).bind fun t528 => ((laws_eqIntS.f k t528 t517).bind fun t531 => (if t531 = true then ((laws_toNet.f k a0_0 l0_1).bind fun bt532 => ((laws_eqNet.f k bt520.1 bt520.2 bt532.1 bt532.2).bind fun t536 => (if t536 = true then ((laws_toBoolS.f k l1).bind fun t537 => ((laws_eqBoolS.f k t525 t537).bind fun t540 => (if t540 = true then ((laws_markNet.f k bt520.1 bt520.2 1).bind fun bt541 => ((laws_markBoolS.f k t525 bt541.1).bind fun bt543 => (if bt543.1 < 0 then (laws_FnExactSpanningLines.j0 k l1 t517 t528 true a0_0 l0_1) else ((laws_eqIntS.f k t528 t517).bind fun t545 => (laws_FnExactSpanningLines.j0 k l1 t517 t528 (!t545) a0_0 l0_1))))) else (none)))) else (none)))) else (none)))))))) = some r := H
 have A10 := Aside0.mk A100
 clear A100
 replace H := Option.bind_eq_some_iff.mp H
 obtain ⟨t514, A110, H⟩ := H
 replace H : ((spec_SpanningLines.f k t510 t511 t514).bind fun t517 => ((laws_toNet.f k a0_0 l0_1).bind fun bt520 => ((laws_toBoolS.f k l1).bind fun t525 => ((impl_SpanningLines.f k bt520.1 bt520.2 t525).bind fun t528 => ((laws_eqIntS.f k t528 t517).bind fun t531 => (if t531 = true then ((laws_toNet.f k a0_0 l0_1).bind fun bt532 => ((laws_eqNet.f k bt520.1 bt520.2 bt532.1 bt532.2).bind fun t536 => (if t536 = true then ((laws_toBoolS.f k l1).bind fun t537 => ((laws_eqBoolS.f k t525 t537).bind fun t540 => (if t540 = true then ((laws_markNet.f k bt520.1 bt520.2 1).bind fun bt541 => ((laws_markBoolS.f k t525 bt541.1).bind fun bt543 => (if bt543.1 < 0 then (laws_FnExactSpanningLines.j0 k l1 t517 t528 true a0_0 l0_1) else ((laws_eqIntS.f k t528 t517).bind fun t545 => (laws_FnExactSpanningLines.j0 k l1 t517 t528 (!t545) a0_0 l0_1))))) else (none)))) else (none)))) else (none))))))) = some r := H
 have A11 := Aside0.mk A110
 clear A110
 replace H := Option.bind_eq_some_iff.mp H
 obtain ⟨t517, A120, H⟩ := H
 replace H : ((laws_toNet.f k a0_0 l0_1).bind fun bt520 => ((laws_toBoolS.f k l1).bind fun t525 => ((impl_SpanningLines.f k bt520.1 bt520.2 t525).bind fun t528 => ((laws_eqIntS.f k t528 t517).bind fun t531 => (if t531 = true then ((laws_toNet.f k a0_0 l0_1).bind fun bt532 => ((laws_eqNet.f k bt520.1 bt520.2 bt532.1 bt532.2).bind fun t536 => (if t536 = true then ((laws_toBoolS.f k l1).bind fun t537 => ((laws_eqBoolS.f k t525 t537).bind fun t540 => (if t540 = true then ((laws_markNet.f k bt520.1 bt520.2 1).bind fun bt541 => ((laws_markBoolS.f k t525 bt541.1).bind fun bt543 => (if bt543.1 < 0 then (laws_FnExactSpanningLines.j0 k l1 t517 t528 true a0_0 l0_1) else ((laws_eqIntS.f k t528 t517).bind fun t545 => (laws_FnExactSpanningLines.j0 k l1 t517 t528 (!t545) a0_0 l0_1))))) else (none)))) else (none)))) else (none)))))) = some r := H
 have A12 := Aside0.mk A120
 clear A120
 replace H := Option.bind_eq_some_iff.mp H
 obtain ⟨⟨t520, t521⟩, A130, H⟩ := H
 replace H : ((laws_toBoolS.f k l1).bind fun t525 => ((impl_SpanningLines.f k t520 t521 t525).bind fun t528 => ((laws_eqIntS.f k t528 t517).bind fun t531 => (if t531 = true then ((laws_toNet.f k a0_0 l0_1).bind fun bt532 => ((laws_eqNet.f k t520 t521 bt532.1 bt532.2).bind fun t536 => (if t536 = true then ((laws_toBoolS.f k l1).bind fun t537 => ((laws_eqBoolS.f k t525 t537).bind fun t540 => (if t540 = true then ((laws_markNet.f k t520 t521 1).bind fun bt541 => ((laws_markBoolS.f k t525 bt541.1).bind fun bt543 => (if bt543.1 < 0 then (laws_FnExactSpanningLines.j0 k l1 t517 t528 true a0_0 l0_1) else ((laws_eqIntS.f k t528 t517).bind fun t545 => (laws_FnExactSpanningLines.j0 k l1 t517 t528 (!t545) a0_0 l0_1))))) else (none)))) else (none)))) else (none))))) = some r := H
 have A13 := Aside0.mk A130
 clear A130
 replace H := Option.bind_eq_some_iff.mp H
 obtain ⟨t525, A140, H⟩ := H
 replace H : ((impl_SpanningLines.f k t520 t521 t525).bind fun t528 => ((laws_eqIntS.f k t528 t517).bind fun t531 => (if t531 = true then ((laws_toNet.f k a0_0 l0_1).bind fun bt532 => ((laws_eqNet.f k t520 t521 bt532.1 bt532.2).bind fun t536 => (if t536 = true then ((laws_toBoolS.f k l1).bind fun t537 => ((laws_eqBoolS.f k t525 t537).bind fun t540 => (if t540 = true then ((laws_markNet.f k t520 t521 1).bind fun bt541 => ((laws_markBoolS.f k t525 bt541.1).bind fun bt543 => (if bt543.1 < 0 then (laws_FnExactSpanningLines.j0 k l1 t517 t528 true a0_0 l0_1) else ((laws_eqIntS.f k t528 t517).bind fun t545 => (laws_FnExactSpanningLines.j0 k l1 t517 t528 (!t545) a0_0 l0_1))))) else (none)))) else (none)))) else (none)))) = some r := H
 have A14 := Aside0.mk A140
 clear A140
 replace H := Option.bind_eq_some_iff.mp H
 obtain ⟨t528, A150, H⟩ := H
 replace H : ((laws_eqIntS.f k t528 t517).bind fun t531 => (if t531 = true then ((laws_toNet.f k a0_0 l0_1).bind fun bt532 => ((laws_eqNet.f k t520 t521 bt532.1 bt532.2).bind fun t536 => (if t536 = true then ((laws_toBoolS.f k l1).bind fun t537 => ((laws_eqBoolS.f k t525 t537).bind fun t540 => (if t540 = true then ((laws_markNet.f k t520 t521 1).bind fun bt541 => ((laws_markBoolS.f k t525 bt541.1).bind fun bt543 => (if bt543.1 < 0 then (laws_FnExactSpanningLines.j0 k l1 t517 t528 true a0_0 l0_1) else ((laws_eqIntS.f k t528 t517).bind fun t545 => (laws_FnExactSpanningLines.j0 k l1 t517 t528 (!t545) a0_0 l0_1))))) else (none)))) else (none)))) else (none))) = some r := H
 have A15 := Aside0.mk A150
 clear A150
 replace H := Option.bind_eq_some_iff.mp H
 obtain ⟨t531, A160, H⟩ := H
 replace H : (if t531 = true then ((laws_toNet.f k a0_0 l0_1).bind fun bt532 => ((laws_eqNet.f k t520 t521 bt532.1 bt532.2).bind fun t536 => (if t536 = true then ((laws_toBoolS.f k l1).bind fun t537 => ((laws_eqBoolS.f k t525 t537).bind fun t540 => (if t540 = true then ((laws_markNet.f k t520 t521 1).bind fun bt541 => ((laws_markBoolS.f k t525 bt541.1).bind fun bt543 => (if bt543.1 < 0 then (laws_FnExactSpanningLines.j0 k l1 t517 t528 true a0_0 l0_1) else ((laws_eqIntS.f k t528 t517).bind fun t545 => (laws_FnExactSpanningLines.j0 k l1 t517 t528 (!t545) a0_0 l0_1))))) else (none)))) else (none)))) else (none)) = some r := H
 have A16 := Aside0.mk A160
 clear A160
 by_cases c17 : t531 = true
 rotate_left
 ·
  replace c17 := Bool.eq_false_iff.mpr c17
  subst c17
  have H1 : (none) = some r := by rw [if_neg (show ¬ (false = true) by decide)] at H; exact H
  clear H
  have H := H1
  clear H1
  exact absurd H (by simp)
 subst c17
 have H1 : ((laws_toNet.f k a0_0 l0_1).bind fun bt532 => ((laws_eqNet.f k t520 t521 bt532.1 bt532.2).bind fun t536 => (if t536 = true then ((laws_toBoolS.f k l1).bind fun t537 => ((laws_eqBoolS.f k t525 t537).bind fun t540 => (if t540 = true then ((laws_markNet.f k t520 t521 1).bind fun bt541 => ((laws_markBoolS.f k t525 bt541.1).bind fun bt543 => (if bt543.1 < 0 then (laws_FnExactSpanningLines.j0 k l1 t517 t528 true a0_0 l0_1) else ((laws_eqIntS.f k t528 t517).bind fun t545 => (laws_FnExactSpanningLines.j0 k l1 t517 t528 (!t545) a0_0 l0_1))))) else (none)))) else (none)))) = some r := by rw [if_pos rfl] at H; exact H
 clear H
 have H := H1
 clear H1
 replace H := Option.bind_eq_some_iff.mp H
 obtain ⟨⟨t532, t533⟩, A180, H⟩ := H
 replace H : ((laws_eqNet.f k t520 t521 t532 t533).bind fun t536 => (if t536 = true then ((laws_toBoolS.f k l1).bind fun t537 => ((laws_eqBoolS.f k t525 t537).bind fun t540 => (if t540 = true then ((laws_markNet.f k t520 t521 1).bind fun bt541 => ((laws_markBoolS.f k t525 bt541.1).bind fun bt543 => (if bt543.1 < 0 then (laws_FnExactSpanningLines.j0 k l1 t517 t528 true a0_0 l0_1) else ((laws_eqIntS.f k t528 t517).bind fun t545 => (laws_FnExactSpanningLines.j0 k l1 t517 t528 (!t545) a0_0 l0_1))))) else (none)))) else (none))) = some r := H
 have A18 := Aside0.mk A180
 clear A180
 replace H := Option.bind_eq_some_iff.mp H
 obtain ⟨t536, A190, H⟩ := H
 replace H : (if t536 = true then ((laws_toBoolS.f k l1).bind fun t537 => ((laws_eqBoolS.f k t525 t537).bind fun t540 => (if t540 = true then ((laws_markNet.f k t520 t521 1).bind fun bt541 => ((laws_markBoolS.f k t525 bt541.1).bind fun bt543 => (if bt543.1 < 0 then (laws_FnExactSpanningLines.j0 k l1 t517 t528 true a0_0 l0_1) else ((laws_eqIntS.f k t528 t517).bind fun t545 => (laws_FnExactSpanningLines.j0 k l1 t517 t528 (!t545) a0_0 l0_1))))) else (none)))) else (none)) = some r := H
 have A19 := Aside0.mk A190
 clear A190
 by_cases c20 : t536 = true
 rotate_left
 ·
  replace c20 := Bool.eq_false_iff.mpr c20
  subst c20
  have H1 : (none) = some r := by rw [if_neg (show ¬ (false = true) by decide)] at H; exact H
  clear H
  have H := H1
  clear H1
  exact absurd H (by simp)
 subst c20
 have H1 : ((laws_toBoolS.f k l1).bind fun t537 => ((laws_eqBoolS.f k t525 t537).bind fun t540 => (if t540 = true then ((laws_markNet.f k t520 t521 1).bind fun bt541 => ((laws_markBoolS.f k t525 bt541.1).bind fun bt543 => (if bt543.1 < 0 then (laws_FnExactSpanningLines.j0 k l1 t517 t528 true a0_0 l0_1) else ((laws_eqIntS.f k t528 t517).bind fun t545 => (laws_FnExactSpanningLines.j0 k l1 t517 t528 (!t545) a0_0 l0_1))))) else (none)))) = some r := by rw [if_pos rfl] at H; exact H
 clear H
 have H := H1
 clear H1
 replace H := Option.bind_eq_some_iff.mp H
 obtain ⟨t537, A210, H⟩ := H
 replace H : ((laws_eqBoolS.f k t525 t537).bind fun t540 => (if t540 = true then ((laws_markNet.f k t520 t521 1).bind fun bt541 => ((laws_markBoolS.f k t525 bt541.1).bind fun bt543 => (if bt543.1 < 0 then (laws_FnExactSpanningLines.j0 k l1 t517 t528 true a0_0 l0_1) else ((laws_eqIntS.f k t528 t517).bind fun t545 => (laws_FnExactSpanningLines.j0 k l1 t517 t528 (!t545) a0_0 l0_1))))) else (none))) = some r := H
 have A21 := Aside0.mk A210
 clear A210
 replace H := Option.bind_eq_some_iff.mp H
 obtain ⟨t540, A220, H⟩ := H
 replace H : (if t540 = true then ((laws_markNet.f k t520 t521 1).bind fun bt541 => ((laws_markBoolS.f k t525 bt541.1).bind fun bt543 => (if bt543.1 < 0 then (laws_FnExactSpanningLines.j0 k l1 t517 t528 true a0_0 l0_1) else ((laws_eqIntS.f k t528 t517).bind fun t545 => (laws_FnExactSpanningLines.j0 k l1 t517 t528 (!t545) a0_0 l0_1))))) else (none)) = some r := H
 have A22 := Aside0.mk A220
 clear A220
 by_cases c23 : t540 = true
 rotate_left
 ·
  replace c23 := Bool.eq_false_iff.mpr c23
  subst c23
  have H1 : (none) = some r := by rw [if_neg (show ¬ (false = true) by decide)] at H; exact H
  clear H
  have H := H1
  clear H1
  exact absurd H (by simp)
 subst c23
 have H1 : ((laws_markNet.f k t520 t521 1).bind fun bt541 => ((laws_markBoolS.f k t525 bt541.1).bind fun bt543 => (if bt543.1 < 0 then (laws_FnExactSpanningLines.j0 k l1 t517 t528 true a0_0 l0_1) else ((laws_eqIntS.f k t528 t517).bind fun t545 => (laws_FnExactSpanningLines.j0 k l1 t517 t528 (!t545) a0_0 l0_1))))) = some r := by rw [if_pos rfl] at H; exact H
 clear H
 have H := H1
 clear H1
 replace H := Option.bind_eq_some_iff.mp H
 obtain ⟨⟨t541, t542⟩, A240, H⟩ := H
 replace H : ((laws_markBoolS.f k t525 t541).bind fun bt543 => (if bt543.1 < 0 then (laws_FnExactSpanningLines.j0 k l1 t517 t528 true a0_0 l0_1) else ((laws_eqIntS.f k t528 t517).bind fun t545 => (laws_FnExactSpanningLines.j0 k l1 t517 t528 (!t545) a0_0 l0_1)))) = some r := H
 have A24 := Aside0.mk A240
 clear A240
 replace H := Option.bind_eq_some_iff.mp H
 obtain ⟨⟨t543, t544⟩, A250, H⟩ := H
 replace H : (if t543 < 0 then (laws_FnExactSpanningLines.j0 k l1 t517 t528 true a0_0 l0_1) else ((laws_eqIntS.f k t528 t517).bind fun t545 => (laws_FnExactSpanningLines.j0 k l1 t517 t528 (!t545) a0_0 l0_1))) = some r := H
 have A25 := Aside0.mk A250
 clear A250
 have HC26 := Aside0.mk H
 clear H
 go_enter Try.func7, Try.ntmps7
 try go_wp2_with (first | ((with_reducible refine gate_dst (N := 2) rfl ?_); refine box_event ?hg (N := 2) ?hd (cs := #[.int .i64 a0_0, .slice A0_1 l0_1.length c0_1]) (t := 24) ?hr ?_; (case hd => rfl); (case hg => rfl); (case hr => first | (go_simp; done) | (go_simp; rfl)); intro gb508 hg w27 hbox hb; have n0_ := Aside0.mk (below_step (by repeat (first | (with_reducible first | exact HB.out | apply below_alloc | apply pw_below_drewN | apply below_drew1) | exact HB.out)) hb); have n1_ := Aside0.mk (hbox); have n2_ := Aside0.mk ((by rw [hg]; exact (below_size (by repeat (first | (with_reducible first | exact HB.out | apply below_alloc | apply pw_below_drewN | apply below_drew1) | exact HB.out))) : w.heap.size ≤ gb508)); have n3_ := Aside0.mk ((by rw [hg]; exact (below_size (by repeat (first | (with_reducible first | exact HB.out | apply below_alloc | apply pw_below_drewN | apply below_drew1) | exact HB.out))) : w.heap.size ≤ gb508)); clear HB; have HB := n0_; have BK508 := n1_; have GW508 := n2_; have GE508 := n3_; clear n0_ n1_ n2_ n3_; clear hb hbox hg; have hcz28_0 : w27.cell? ⟨gb508, 0, none⟩ = some (.int .i64 a0_0) := (blk_cell BK508.out 0).trans rfl; have hcz28_1 : w27.cell? ⟨gb508, 1, none⟩ = some (.slice A0_1 l0_1.length c0_1) := (blk_cell BK508.out 1).trans rfl; have hfz28_0 := blk_frozen BK508.out 0; have hfz28_1 := blk_frozen BK508.out 1) | ((with_reducible refine gate_callee (f := 14) rfl ?_); refine goesL_ (some 19) rfl rfl Try.func14 (by kernel_rfl) rfl #[.agg #[.int .i64 a0_0, .slice A0_1 l0_1.length c0_1], .int .i64 1048576] rfl (by (try simp only [List.map_toArray, List.map_cons, List.map_nil]); first | done | rfl | (simp only [List.length_drop, List.length_take]; rfl)) ?_; (with_reducible refine (laws_szNet.calls a0_0 _ _ l0_1 1048576 t509 _ ?side1 ?side2 A5.out).mono ?_); (case side1 => repeat (first | exact (Kd.C_below HR0_1.out HB.out) | (with_reducible refine Kd.C_alloc ?_ _) | (with_reducible refine Kd.C_drewN ?_ _) | (with_reducible refine Kd.C_drew ?_))); (case side2 => exact HC0_1.out); rintro e w29 ⟨rfl, hb⟩; refine ⟨_, rfl, ?_⟩; have n0_ := Aside0.mk (blk_below (g := gb508) (o := .cells #[.int .i64 a0_0, .slice A0_1 l0_1.length c0_1] 24 (0, 0)) (by (with_reducible repeat (first | refine blk_drewN ?_ _ | refine blk_drew ?_ | refine blk_alloc ?_ _)); exact BK508.out) hb); have n1_ := Aside0.mk (below_step (by repeat (first | (with_reducible first | exact HB.out | apply below_alloc | apply pw_below_drewN | apply below_drew1 | refine below_set ?_ GE508.out) | exact HB.out)) hb); clear BK508; clear HB; have BK508 := n0_; have HB := n1_; clear n0_ n1_; (try clear hb); (try clear hb2); (try clear hk); (try clear hi); have hcz30_0 : w29.cell? ⟨gb508, 0, none⟩ = some (.int .i64 a0_0) := (blk_cell BK508.out 0).trans rfl; have hcz30_1 : w29.cell? ⟨gb508, 1, none⟩ = some (.slice A0_1 l0_1.length c0_1) := (blk_cell BK508.out 1).trans rfl; have hfz30_0 := blk_frozen BK508.out 0; have hfz30_1 := blk_frozen BK508.out 1) | ((with_reducible refine gate_callee (f := 16) rfl ?_); refine goesL_ (some 23) rfl rfl Try.func16 (by kernel_rfl) rfl #[.agg #[.int .i64 a0_0, .slice A0_1 l0_1.length c0_1]] rfl (by (try simp only [List.map_toArray, List.map_cons, List.map_nil]); first | done | rfl | (simp only [List.length_drop, List.length_take]; rfl)) ?_; (with_reducible refine (laws_toNet.calls k a0_0 _ _ l0_1 t510 t511 _ ?side1 ?side2 A10.out).mono ?_); (case side1 => repeat (first | exact (Kd.C_below HR0_1.out HB.out) | (with_reducible refine Kd.C_alloc ?_ _) | (with_reducible refine Kd.C_drewN ?_ _) | (with_reducible refine Kd.C_drew ?_))); (case side2 => exact HC0_1.out); rintro e w31 ⟨v512, rfl, ho0, hb⟩; refine ⟨_, rfl, ?_⟩; have n0_ := Aside0.mk (Kd.R_lower ho0 (below_size (by repeat (first | (with_reducible first | exact HB.out | apply below_alloc | apply pw_below_drewN | apply below_drew1 | refine below_set ?_ GE508.out) | exact HB.out)))); have n1_ := Aside0.mk (blk_below (g := gb508) (o := .cells #[.int .i64 a0_0, .slice A0_1 l0_1.length c0_1] 24 (0, 0)) (by (with_reducible repeat (first | refine blk_drewN ?_ _ | refine blk_drew ?_ | refine blk_alloc ?_ _)); exact BK508.out) hb); have n2_ := Aside0.mk (below_step (by repeat (first | (with_reducible first | exact HB.out | apply below_alloc | apply pw_below_drewN | apply below_drew1 | refine below_set ?_ GE508.out) | exact HB.out)) hb); clear BK508; clear HB; have HO513 := n0_; have BK508 := n1_; have HB := n2_; clear n0_ n1_ n2_; (try clear hb); (try clear hb2); (try clear hk); (try clear hi); (try clear ho0)) | ((with_reducible refine gate_callee (f := 17) rfl ?_); refine goesL_ (some 25) rfl rfl Try.func17 (by kernel_rfl) rfl #[.slice A1 l1.length c1] rfl (by (try simp only [List.map_toArray, List.map_cons, List.map_nil]); first | done | rfl | (simp only [List.length_drop, List.length_take]; rfl)) ?_; (with_reducible refine (laws_toBoolS.calls k _ _ l1 t514 _ ?side1 ?side2 A11.out).mono ?_); (case side1 => repeat (first | exact (Kd.C_below HR1.out HB.out) | (with_reducible refine Kd.C_alloc ?_ _) | (with_reducible refine Kd.C_drewN ?_ _) | (with_reducible refine Kd.C_drew ?_))); (case side2 => exact HC1.out); rintro e w32 ⟨v515, rfl, ho0, hb⟩; refine ⟨_, rfl, ?_⟩; have n0_ := Aside0.mk (Kd.R_below (by (with_reducible repeat (first | apply Kd.R_alloc | apply Kd.R_drewN | apply Kd.R_drew)); exact HO513.out) hb); have n1_ := Aside0.mk (Kd.R_lower ho0 (below_size (by repeat (first | (with_reducible first | exact HB.out | apply below_alloc | apply pw_below_drewN | apply below_drew1 | refine below_set ?_ GE508.out) | exact HB.out)))); have n2_ := Aside0.mk (blk_below (g := gb508) (o := .cells #[.int .i64 a0_0, .slice A0_1 l0_1.length c0_1] 24 (0, 0)) (by (with_reducible repeat (first | refine blk_drewN ?_ _ | refine blk_drew ?_ | refine blk_alloc ?_ _)); exact BK508.out) hb); have n3_ := Aside0.mk (below_step (by repeat (first | (with_reducible first | exact HB.out | apply below_alloc | apply pw_below_drewN | apply below_drew1 | refine below_set ?_ GE508.out) | exact HB.out)) hb); clear HO513; clear BK508; clear HB; have HO513 := n0_; have HO516 := n1_; have BK508 := n2_; have HB := n3_; clear n0_ n1_ n2_ n3_; (try clear hb); (try clear hb2); (try clear hk); (try clear hi); (try clear ho0); obtain ⟨Ao33, co33, eo33⟩ := Kd.R_slice HO513.out; subst eo33; obtain ⟨Ao34, co34, eo34⟩ := Kd.R_slice HO516.out; subst eo34) | ((with_reducible refine gate_callee (f := 32) rfl ?_); refine goesL_ (some 26) rfl rfl Try.func32 (by kernel_rfl) rfl #[.agg #[.int .i64 t510, .slice Ao33 t511.length co33], .slice Ao34 t514.length co34] rfl (by (try simp only [List.map_toArray, List.map_cons, List.map_nil]); first | done | rfl | (simp only [List.length_drop, List.length_take]; rfl)) ?_; (with_reducible refine (spec_SpanningLines.calls k t510 _ _ t511 _ _ t514 t517 _ ?side1 ?side2 ?side3 ?side4 A12.out).mono ?_); (case side1 => repeat (first | exact (Kd.R_reads' HO513.out).2.2 | (with_reducible refine Kd.C_alloc ?_ _) | (with_reducible refine Kd.C_drewN ?_ _) | (with_reducible refine Kd.C_drew ?_))); (case side2 => exact (Kd.R_reads' HO513.out).2.1); (case side3 => repeat (first | exact (Kd.R_reads' HO516.out).2.2 | (with_reducible refine Kd.C_alloc ?_ _) | (with_reducible refine Kd.C_drewN ?_ _) | (with_reducible refine Kd.C_drew ?_))); (case side4 => exact (Kd.R_reads' HO516.out).2.1); rintro e w35 ⟨v518, rfl, ho0, hb⟩; refine ⟨_, rfl, ?_⟩; have n0_ := Aside0.mk (Kd.R_below (by (with_reducible repeat (first | apply Kd.R_alloc | apply Kd.R_drewN | apply Kd.R_drew)); exact HO513.out) hb); have n1_ := Aside0.mk (Kd.R_below (by (with_reducible repeat (first | apply Kd.R_alloc | apply Kd.R_drewN | apply Kd.R_drew)); exact HO516.out) hb); have n2_ := Aside0.mk (Kd.R_lower ho0 (below_size (by repeat (first | (with_reducible first | exact HB.out | apply below_alloc | apply pw_below_drewN | apply below_drew1 | refine below_set ?_ GE508.out) | exact HB.out)))); have n3_ := Aside0.mk (blk_below (g := gb508) (o := .cells #[.int .i64 a0_0, .slice A0_1 l0_1.length c0_1] 24 (0, 0)) (by (with_reducible repeat (first | refine blk_drewN ?_ _ | refine blk_drew ?_ | refine blk_alloc ?_ _)); exact BK508.out) hb); have n4_ := Aside0.mk (below_step (by repeat (first | (with_reducible first | exact HB.out | apply below_alloc | apply pw_below_drewN | apply below_drew1 | refine below_set ?_ GE508.out) | exact HB.out)) hb); clear HO513; clear HO516; clear BK508; clear HB; have HO513 := n0_; have HO516 := n1_; have HO519 := n2_; have BK508 := n3_; have HB := n4_; clear n0_ n1_ n2_ n3_ n4_; (try clear hb); (try clear hb2); (try clear hk); (try clear hi); (try clear ho0); have hcz36_0 : w35.cell? ⟨gb508, 0, none⟩ = some (.int .i64 a0_0) := (blk_cell BK508.out 0).trans rfl; have hcz36_1 : w35.cell? ⟨gb508, 1, none⟩ = some (.slice A0_1 l0_1.length c0_1) := (blk_cell BK508.out 1).trans rfl; have hfz36_0 := blk_frozen BK508.out 0; have hfz36_1 := blk_frozen BK508.out 1) | ((with_reducible refine gate_callee (f := 16) rfl ?_); refine goesL_ (some 28) rfl rfl Try.func16 (by kernel_rfl) rfl #[.agg #[.int .i64 a0_0, .slice A0_1 l0_1.length c0_1]] rfl (by (try simp only [List.map_toArray, List.map_cons, List.map_nil]); first | done | rfl | (simp only [List.length_drop, List.length_take]; rfl)) ?_; (with_reducible refine (laws_toNet.calls k a0_0 _ _ l0_1 t520 t521 _ ?side1 ?side2 A13.out).mono ?_); (case side1 => repeat (first | exact (Kd.C_below HR0_1.out HB.out) | (with_reducible refine Kd.C_alloc ?_ _) | (with_reducible refine Kd.C_drewN ?_ _) | (with_reducible refine Kd.C_drew ?_))); (case side2 => exact HC0_1.out); rintro e w37 ⟨v522, rfl, ho0, hb⟩; refine ⟨_, rfl, ?_⟩; have n0_ := Aside0.mk (Kd.R_elder' (by (with_reducible repeat (first | apply Kd.R_alloc | apply Kd.R_drewN | apply Kd.R_drew)); exact HO513.out) (Kd.R_base ho0) hb); have n1_ := Aside0.mk (Kd.R_below (by (with_reducible repeat (first | apply Kd.R_alloc | apply Kd.R_drewN | apply Kd.R_drew)); exact HO516.out) hb); have n2_ := Aside0.mk (Kd.R_below (by (with_reducible repeat (first | apply Kd.R_alloc | apply Kd.R_drewN | apply Kd.R_drew)); exact HO519.out) hb); have n3_ := Aside0.mk (Kd.R_lower (Kd.R_new' ho0 (Kd.R_lt (by (with_reducible repeat (first | apply Kd.R_alloc | apply Kd.R_drewN | apply Kd.R_drew)); exact HO513.out))) (below_size (by repeat (first | (with_reducible first | exact HB.out | apply below_alloc | apply pw_below_drewN | apply below_drew1 | refine below_set ?_ GE508.out) | exact HB.out)))); have n4_ := Aside0.mk (blk_below (g := gb508) (o := .cells #[.int .i64 a0_0, .slice A0_1 l0_1.length c0_1] 24 (0, 0)) (by (with_reducible repeat (first | refine blk_drewN ?_ _ | refine blk_drew ?_ | refine blk_alloc ?_ _)); exact BK508.out) hb); have n5_ := Aside0.mk (below_step (by repeat (first | (with_reducible first | exact HB.out | apply below_alloc | apply pw_below_drewN | apply below_drew1 | refine below_set ?_ GE508.out) | exact HB.out)) hb); clear HO513; clear HO516; clear HO519; clear BK508; clear HB; have HO513 := n0_; have HO516 := n1_; have HO519 := n2_; have HO523 := n3_; have BK508 := n4_; have HB := n5_; clear n0_ n1_ n2_ n3_ n4_ n5_; (try clear hb); (try clear hb2); (try clear hk); (try clear hi); (try clear ho0)) | ((with_reducible refine gate_dst (N := 7) rfl ?_); refine box_event ?hg (N := 7) ?hd (cs := #[.int .i64 0, .slice none 0 0]) (t := 30) ?hr ?_; (case hd => rfl); (case hg => rfl); (case hr => first | (go_simp; done) | (go_simp; rfl)); intro gb524 hg w38 hbox hb; have n0_ := Aside0.mk (Kd.R_below (by (with_reducible repeat (first | apply Kd.R_alloc | apply Kd.R_drewN | apply Kd.R_drew)); exact HO513.out) hb); have n1_ := Aside0.mk (Kd.R_below (by (with_reducible repeat (first | apply Kd.R_alloc | apply Kd.R_drewN | apply Kd.R_drew)); exact HO516.out) hb); have n2_ := Aside0.mk (Kd.R_below (by (with_reducible repeat (first | apply Kd.R_alloc | apply Kd.R_drewN | apply Kd.R_drew)); exact HO519.out) hb); have n3_ := Aside0.mk (Kd.R_below (by (with_reducible repeat (first | apply Kd.R_alloc | apply Kd.R_drewN | apply Kd.R_drew)); exact HO523.out) hb); have n4_ := Aside0.mk (blk_below (g := gb508) (o := .cells #[.int .i64 a0_0, .slice A0_1 l0_1.length c0_1] 24 (0, 0)) (by (with_reducible repeat (first | refine blk_drewN ?_ _ | refine blk_drew ?_ | refine blk_alloc ?_ _)); exact BK508.out) hb); have n5_ := Aside0.mk (below_step (by repeat (first | (with_reducible first | exact HB.out | apply below_alloc | apply pw_below_drewN | apply below_drew1 | refine below_set ?_ GE508.out) | exact HB.out)) hb); have n6_ := Aside0.mk (hbox); have n7_ := Aside0.mk ((by rw [hg]; exact (below_size (by repeat (first | (with_reducible first | exact HB.out | apply below_alloc | apply pw_below_drewN | apply below_drew1 | refine below_set ?_ GE508.out) | exact HB.out))) : w.heap.size ≤ gb524)); have n8_ := Aside0.mk ((by rw [hg]; exact (below_size (by repeat (first | (with_reducible first | exact HB.out | apply below_alloc | apply pw_below_drewN | apply below_drew1 | refine below_set ?_ GE508.out) | exact HB.out))) : w.heap.size ≤ gb524)); have n9_ := Aside0.mk ((by rw [hg]; exact Nat.ne_of_lt (blk_lt (g := gb508) (o := .cells #[.int .i64 a0_0, .slice A0_1 l0_1.length c0_1] 24 (0, 0)) (by (with_reducible repeat (first | refine blk_drewN ?_ _ | refine blk_drew ?_ | refine blk_alloc ?_ _)); exact BK508.out)) : gb508 ≠ gb524)); have n10_ := Aside0.mk ((by rw [hg]; exact Nat.ne_of_gt (blk_lt (g := gb508) (o := .cells #[.int .i64 a0_0, .slice A0_1 l0_1.length c0_1] 24 (0, 0)) (by (with_reducible repeat (first | refine blk_drewN ?_ _ | refine blk_drew ?_ | refine blk_alloc ?_ _)); exact BK508.out)) : gb524 ≠ gb508)); clear HO513; clear HO516; clear HO519; clear HO523; clear BK508; clear HB; have HO513 := n0_; have HO516 := n1_; have HO519 := n2_; have HO523 := n3_; have BK508 := n4_; have HB := n5_; have BK524 := n6_; have GW524 := n7_; have GE524 := n8_; have NB508_524 := n9_; have NB524_508 := n10_; clear n0_ n1_ n2_ n3_ n4_ n5_ n6_ n7_ n8_ n9_ n10_; clear hb hbox hg; have hnb39 := NB524_508.out; have hnc39 := NB508_524.out; have hcz40_0 : w38.cell? ⟨gb524, 0, none⟩ = some (.int .i64 0) := (blk_cell BK524.out 0).trans rfl; have hcz40_1 : w38.cell? ⟨gb524, 1, none⟩ = some (.slice none 0 0) := (blk_cell BK524.out 1).trans rfl; have hfz40_0 := blk_frozen BK524.out 0; have hfz40_1 := blk_frozen BK524.out 1; obtain ⟨Ao41, co41, eo41⟩ := Kd.R_slice HO523.out; subst eo41) | ((with_reducible refine gate_callee (f := 17) rfl ?_); refine goesL_ (some 30) rfl rfl Try.func17 (by kernel_rfl) rfl #[.slice A1 l1.length c1] rfl (by (try simp only [List.map_toArray, List.map_cons, List.map_nil]); first | done | rfl | (simp only [List.length_drop, List.length_take]; rfl)) ?_; (with_reducible refine (laws_toBoolS.calls k _ _ l1 t525 _ ?side1 ?side2 A14.out).mono ?_); (case side1 => exact Kd.C_below HR1.out (by repeat (first | (with_reducible first | exact HB.out | apply below_alloc | apply pw_below_drewN | apply below_drew1 | refine below_set ?_ GE508.out | refine below_set ?_ GE524.out) | exact HB.out))); (case side2 => exact HC1.out); rintro e w42 ⟨v526, rfl, ho0, hb⟩; refine ⟨_, rfl, ?_⟩; have n0_ := Aside0.mk (Kd.R_below (by (with_reducible repeat (first | apply Kd.R_alloc | apply Kd.R_drewN | apply Kd.R_drew)); exact (Kd.R_mono (Kd.R_far (p := ⟨gb524, 1, none⟩) (Kd.R_far (p := ⟨gb524, 0, none⟩) (Kd.R_types HO513.out BK524.out (by decide)) (fun _ hk => hk.2) (.int .i64 t520)) (fun _ hk => hk.2) (.slice Ao41 t521.length co41)) (fun _ h_ => h_.1))) hb); have n1_ := Aside0.mk (Kd.R_elder' (by (with_reducible repeat (first | apply Kd.R_alloc | apply Kd.R_drewN | apply Kd.R_drew)); exact (Kd.R_mono (Kd.R_far (p := ⟨gb524, 1, none⟩) (Kd.R_far (p := ⟨gb524, 0, none⟩) (Kd.R_types HO516.out BK524.out (by decide)) (fun _ hk => hk.2) (.int .i64 t520)) (fun _ hk => hk.2) (.slice Ao41 t521.length co41)) (fun _ h_ => h_.1))) (Kd.R_base ho0) hb); have n2_ := Aside0.mk (Kd.R_below (by (with_reducible repeat (first | apply Kd.R_alloc | apply Kd.R_drewN | apply Kd.R_drew)); exact (Kd.R_mono (Kd.R_far (p := ⟨gb524, 1, none⟩) (Kd.R_far (p := ⟨gb524, 0, none⟩) (Kd.R_types HO519.out BK524.out (by decide)) (fun _ hk => hk.2) (.int .i64 t520)) (fun _ hk => hk.2) (.slice Ao41 t521.length co41)) (fun _ h_ => h_.1))) hb); have n3_ := Aside0.mk (Kd.R_below (by (with_reducible repeat (first | apply Kd.R_alloc | apply Kd.R_drewN | apply Kd.R_drew)); exact (Kd.R_mono (Kd.R_far (p := ⟨gb524, 1, none⟩) (Kd.R_far (p := ⟨gb524, 0, none⟩) (Kd.R_types HO523.out BK524.out (by decide)) (fun _ hk => hk.2) (.int .i64 t520)) (fun _ hk => hk.2) (.slice Ao41 t521.length co41)) (fun _ h_ => h_.1))) hb); have n4_ := Aside0.mk (Kd.R_lower (Kd.R_new' ho0 (Kd.R_lt (by (with_reducible repeat (first | apply Kd.R_alloc | apply Kd.R_drewN | apply Kd.R_drew)); exact (Kd.R_mono (Kd.R_far (p := ⟨gb524, 1, none⟩) (Kd.R_far (p := ⟨gb524, 0, none⟩) (Kd.R_types HO516.out BK524.out (by decide)) (fun _ hk => hk.2) (.int .i64 t520)) (fun _ hk => hk.2) (.slice Ao41 t521.length co41)) (fun _ h_ => h_.1))))) (below_size (by repeat (first | (with_reducible first | exact HB.out | apply below_alloc | apply pw_below_drewN | apply below_drew1 | refine below_set ?_ GE508.out | refine below_set ?_ GE524.out) | exact HB.out)))); have n5_ := Aside0.mk (blk_below (g := gb508) (o := .cells #[.int .i64 a0_0, .slice A0_1 l0_1.length c0_1] 24 (0, 0)) (by (with_reducible repeat (first | refine blk_drewN ?_ _ | refine blk_drew ?_ | refine blk_alloc ?_ _)); refine blk_far ?_ NB508_524.out _; (with_reducible repeat (first | refine blk_drewN ?_ _ | refine blk_drew ?_ | refine blk_alloc ?_ _)); refine blk_far ?_ NB508_524.out _; (with_reducible repeat (first | refine blk_drewN ?_ _ | refine blk_drew ?_ | refine blk_alloc ?_ _)); exact BK508.out) hb); have n6_ := Aside0.mk (blk_below (g := gb524) (o := .cells #[.int .i64 t520, .slice Ao41 t521.length co41] 30 (0, 0)) (by (with_reducible repeat (first | refine blk_drewN ?_ _ | refine blk_drew ?_ | refine blk_alloc ?_ _)); refine blk_put (cs := #[.int .i64 t520, .slice none 0 0]) ?_ 1 _ rfl; (with_reducible repeat (first | refine blk_drewN ?_ _ | refine blk_drew ?_ | refine blk_alloc ?_ _)); refine blk_put (cs := #[.int .i64 0, .slice none 0 0]) ?_ 0 _ rfl; (with_reducible repeat (first | refine blk_drewN ?_ _ | refine blk_drew ?_ | refine blk_alloc ?_ _)); exact BK524.out) hb); have n7_ := Aside0.mk (below_step (by repeat (first | (with_reducible first | exact HB.out | apply below_alloc | apply pw_below_drewN | apply below_drew1 | refine below_set ?_ GE508.out | refine below_set ?_ GE524.out) | exact HB.out)) hb); clear HO513; clear HO516; clear HO519; clear HO523; clear BK508; clear BK524; clear HB; have HO513 := n0_; have HO516 := n1_; have HO519 := n2_; have HO523 := n3_; have HO527 := n4_; have BK508 := n5_; have BK524 := n6_; have HB := n7_; clear n0_ n1_ n2_ n3_ n4_ n5_ n6_ n7_; (try clear hb); (try clear hb2); (try clear hk); (try clear hi); (try clear ho0); have hcz43_0 : w42.cell? ⟨gb524, 0, none⟩ = some (.int .i64 t520) := (blk_cell BK524.out 0).trans rfl; have hcz43_1 : w42.cell? ⟨gb524, 1, none⟩ = some (.slice Ao41 t521.length co41) := (blk_cell BK524.out 1).trans rfl; have hfz43_0 := blk_frozen BK524.out 0; have hfz43_1 := blk_frozen BK524.out 1; obtain ⟨Ao44, co44, eo44⟩ := Kd.R_slice HO527.out; subst eo44) | ((with_reducible refine gate_callee (f := 33) rfl ?_); refine goesL_ (some 33) rfl rfl Try.func33 (by kernel_rfl) rfl #[.agg #[.int .i64 t520, .slice Ao41 t521.length co41], .slice Ao44 t525.length co44] rfl (by (try simp only [List.map_toArray, List.map_cons, List.map_nil]); first | done | rfl | (simp only [List.length_drop, List.length_take]; rfl)) ?_; (with_reducible refine (impl_SpanningLines.calls k t520 _ _ t521 _ _ t525 t528 _ ?side1 ?side2 ?side3 ?side4 A15.out).mono ?_); (case side1 => repeat (first | exact (Kd.R_reads' HO523.out).2.2 | (with_reducible refine Kd.C_alloc ?_ _) | (with_reducible refine Kd.C_drewN ?_ _) | (with_reducible refine Kd.C_drew ?_))); (case side2 => exact (Kd.R_reads' HO523.out).2.1); (case side3 => repeat (first | exact (Kd.R_reads' HO527.out).2.2 | (with_reducible refine Kd.C_alloc ?_ _) | (with_reducible refine Kd.C_drewN ?_ _) | (with_reducible refine Kd.C_drew ?_))); (case side4 => exact (Kd.R_reads' HO527.out).2.1); rintro e w45 ⟨v529, rfl, ho0, hb⟩; refine ⟨_, rfl, ?_⟩; have n0_ := Aside0.mk (Kd.R_below (by (with_reducible repeat (first | apply Kd.R_alloc | apply Kd.R_drewN | apply Kd.R_drew)); exact HO513.out) hb); have n1_ := Aside0.mk (Kd.R_below (by (with_reducible repeat (first | apply Kd.R_alloc | apply Kd.R_drewN | apply Kd.R_drew)); exact HO516.out) hb); have n2_ := Aside0.mk (Kd.R_elder' (by (with_reducible repeat (first | apply Kd.R_alloc | apply Kd.R_drewN | apply Kd.R_drew)); exact HO519.out) (Kd.R_base ho0) hb); have n3_ := Aside0.mk (Kd.R_below (by (with_reducible repeat (first | apply Kd.R_alloc | apply Kd.R_drewN | apply Kd.R_drew)); exact HO523.out) hb); have n4_ := Aside0.mk (Kd.R_below (by (with_reducible repeat (first | apply Kd.R_alloc | apply Kd.R_drewN | apply Kd.R_drew)); exact HO527.out) hb); have n5_ := Aside0.mk (Kd.R_lower (Kd.R_new' ho0 (Kd.R_lt (by (with_reducible repeat (first | apply Kd.R_alloc | apply Kd.R_drewN | apply Kd.R_drew)); exact HO519.out))) (below_size (by repeat (first | (with_reducible first | exact HB.out | apply below_alloc | apply pw_below_drewN | apply below_drew1 | refine below_set ?_ GE508.out | refine below_set ?_ GE524.out) | exact HB.out)))); have n6_ := Aside0.mk (blk_below (g := gb508) (o := .cells #[.int .i64 a0_0, .slice A0_1 l0_1.length c0_1] 24 (0, 0)) (by (with_reducible repeat (first | refine blk_drewN ?_ _ | refine blk_drew ?_ | refine blk_alloc ?_ _)); exact BK508.out) hb); have n7_ := Aside0.mk (blk_below (g := gb524) (o := .cells #[.int .i64 t520, .slice Ao41 t521.length co41] 30 (0, 0)) (by (with_reducible repeat (first | refine blk_drewN ?_ _ | refine blk_drew ?_ | refine blk_alloc ?_ _)); exact BK524.out) hb); have n8_ := Aside0.mk (below_step (by repeat (first | (with_reducible first | exact HB.out | apply below_alloc | apply pw_below_drewN | apply below_drew1 | refine below_set ?_ GE508.out | refine below_set ?_ GE524.out) | exact HB.out)) hb); clear HO513; clear HO516; clear HO519; clear HO523; clear HO527; clear BK508; clear BK524; clear HB; have HO513 := n0_; have HO516 := n1_; have HO519 := n2_; have HO523 := n3_; have HO527 := n4_; have HO530 := n5_; have BK508 := n6_; have BK524 := n7_; have HB := n8_; clear n0_ n1_ n2_ n3_ n4_ n5_ n6_ n7_ n8_; (try clear hb); (try clear hb2); (try clear hk); (try clear hi); (try clear ho0); obtain ⟨Ao46, co46, eo46⟩ := Kd.R_slice HO530.out; subst eo46; obtain ⟨Ao47, co47, eo47⟩ := Kd.R_slice HO519.out; subst eo47) | ((with_reducible refine gate_callee (f := 25) rfl ?_); refine goesL_ (some 36) rfl rfl Try.func25 (by kernel_rfl) rfl #[.slice Ao46 t528.length co46, .slice Ao47 t517.length co47] rfl (by (try simp only [List.map_toArray, List.map_cons, List.map_nil]); first | done | rfl | (simp only [List.length_drop, List.length_take]; rfl)) ?_; (with_reducible refine (laws_eqIntS.calls k _ _ t528 _ _ t517 true _ ?side1 ?side2 ?side3 ?side4 A16.out).mono ?_); (case side1 => repeat (first | exact (Kd.R_reads' HO530.out).2.2 | (with_reducible refine Kd.C_alloc ?_ _) | (with_reducible refine Kd.C_drewN ?_ _) | (with_reducible refine Kd.C_drew ?_))); (case side2 => exact (Kd.R_reads' HO530.out).2.1); (case side3 => repeat (first | exact (Kd.R_reads' HO519.out).2.2 | (with_reducible refine Kd.C_alloc ?_ _) | (with_reducible refine Kd.C_drewN ?_ _) | (with_reducible refine Kd.C_drew ?_))); (case side4 => exact (Kd.R_reads' HO519.out).2.1); rintro e w' ⟨rfl, ⟨nd, rfl⟩⟩; refine ⟨_, rfl, ?_⟩))
 (try (rw [drewN_self w45]; generalize hq_ : World.drewN w45 _ = w45; have n0_ : Aside0 (Kd.R k73 73 w45 w.heap.size (fun k_ => (True ∧ some k_ ≠ (.slice Ao41 t521.length co41 : Value).ownBlock)) (.slice Ao33 t511.length co33) t511) := ⟨by rw [← hq_]; exact (by (with_reducible repeat (first | apply Kd.R_alloc | apply Kd.R_drewN | apply Kd.R_drew)); exact HO513.out)⟩; have n1_ : Aside0 (Kd.R Kd.bool 4 w45 w.heap.size (fun k_ => (True ∧ some k_ ≠ (.slice Ao44 t525.length co44 : Value).ownBlock)) (.slice Ao34 t514.length co34) t514) := ⟨by rw [← hq_]; exact (by (with_reducible repeat (first | apply Kd.R_alloc | apply Kd.R_drewN | apply Kd.R_drew)); exact HO516.out)⟩; have n2_ : Aside0 (Kd.R (Kd.int .i64) 3 w45 w.heap.size (fun k_ => (True ∧ some k_ ≠ (.slice Ao46 t528.length co46 : Value).ownBlock)) (.slice Ao47 t517.length co47) t517) := ⟨by rw [← hq_]; exact (by (with_reducible repeat (first | apply Kd.R_alloc | apply Kd.R_drewN | apply Kd.R_drew)); exact HO519.out)⟩; have n3_ : Aside0 (Kd.R k73 73 w45 w.heap.size (fun k_ => (True ∧ some k_ ≠ (.slice Ao33 t511.length co33 : Value).ownBlock)) (.slice Ao41 t521.length co41) t521) := ⟨by rw [← hq_]; exact (by (with_reducible repeat (first | apply Kd.R_alloc | apply Kd.R_drewN | apply Kd.R_drew)); exact HO523.out)⟩; have n4_ : Aside0 (Kd.R Kd.bool 4 w45 w.heap.size (fun k_ => (True ∧ some k_ ≠ (.slice Ao34 t514.length co34 : Value).ownBlock)) (.slice Ao44 t525.length co44) t525) := ⟨by rw [← hq_]; exact (by (with_reducible repeat (first | apply Kd.R_alloc | apply Kd.R_drewN | apply Kd.R_drew)); exact HO527.out)⟩; have n5_ : Aside0 (Kd.R (Kd.int .i64) 3 w45 w.heap.size (fun k_ => (True ∧ some k_ ≠ (.slice Ao47 t517.length co47 : Value).ownBlock)) (.slice Ao46 t528.length co46) t528) := ⟨by rw [← hq_]; exact (by (with_reducible repeat (first | apply Kd.R_alloc | apply Kd.R_drewN | apply Kd.R_drew)); exact HO530.out)⟩; have n6_ : Aside0 (w45.heap[gb508]? = some (.cells #[.int .i64 a0_0, .slice A0_1 l0_1.length c0_1] 24 (0, 0))) := ⟨by rw [← hq_]; exact (by (with_reducible repeat (first | refine blk_drewN ?_ _ | refine blk_drew ?_ | refine blk_alloc ?_ _)); exact BK508.out)⟩; have n7_ : Aside0 (w45.heap[gb524]? = some (.cells #[.int .i64 t520, .slice Ao41 t521.length co41] 30 (0, 0))) := ⟨by rw [← hq_]; exact (by (with_reducible repeat (first | refine blk_drewN ?_ _ | refine blk_drew ?_ | refine blk_alloc ?_ _)); exact BK524.out)⟩; have n8_ : Aside0 (Below w.heap.size w w45) := ⟨by rw [← hq_]; exact (by repeat (first | (with_reducible first | exact HB.out | apply below_alloc | apply pw_below_drewN | apply below_drew1 | refine below_set ?_ GE508.out | refine below_set ?_ GE524.out) | exact HB.out))⟩; clear HO513 HO516 HO519 HO523 HO527 HO530 BK508 BK524 HB hq_; have HO513 := n0_; have HO516 := n1_; have HO519 := n2_; have HO523 := n3_; have HO527 := n4_; have HO530 := n5_; have BK508 := n6_; have BK524 := n7_; have HB := n8_; clear n0_ n1_ n2_ n3_ n4_ n5_ n6_ n7_ n8_))
 have n0_ := Aside0.mk (Kd.R_drew HO513.out)
 have n1_ := Aside0.mk (Kd.R_drew HO516.out)
 have n2_ := Aside0.mk (Kd.R_drew HO519.out)
 have n3_ := Aside0.mk (Kd.R_drew HO523.out)
 have n4_ := Aside0.mk (Kd.R_drew HO527.out)
 have n5_ := Aside0.mk (Kd.R_drew HO530.out)
 have n6_ := Aside0.mk (blk_drew BK508.out)
 have n7_ := Aside0.mk (blk_drew BK524.out)
 have n8_ := Aside0.mk (below_drew1 HB.out)
 clear HO513
 clear HO516
 clear HO519
 clear HO523
 clear HO527
 clear HO530
 clear BK508
 clear BK524
 clear HB
 have HO513 := n0_
 have HO516 := n1_
 have HO519 := n2_
 have HO523 := n3_
 have HO527 := n4_
 have HO530 := n5_
 have BK508 := n6_
 have BK524 := n7_
 have HB := n8_
 clear n0_ n1_ n2_ n3_ n4_ n5_ n6_ n7_ n8_
 refine start_ (n := 5) (S := fun w' => w'.cell? ⟨gb524, 0, none⟩ = some (.int .i64 t520) ∧ w'.cell? ⟨gb524, 1, none⟩ = some (.slice Ao41 t521.length co41) ∧ w'.cell? ⟨gb508, 0, none⟩ = some (.int .i64 a0_0) ∧ w'.cell? ⟨gb508, 1, none⟩ = some (.slice A0_1 l0_1.length c0_1)) (ds := []) #[false, false, false, false, false] (by kernel_rfl) rfl rfl ⟨(blk_cell BK524.out 0).trans rfl, (blk_cell BK524.out 1).trans rfl, (blk_cell BK508.out 0).trans rfl, (blk_cell BK508.out 1).trans rfl⟩ (fun hHeld => ?_)
 generalize w45.drew = w48 at HO513 HO516 HO519 HO523 HO527 HO530 BK508 BK524 HB hHeld ⊢
 refine take_ (i := 0) (N := some 38) (v := ?_) (a' := ?_) #[true, false, false, false, false] rfl rfl (by kernel_rfl) (fun _ _ _ h => h) (Or.inl ⟨by rfl, ?_⟩) hHeld ?_ ?_
 rotate_left
 ·
  rintro w' ⟨s0, s1, s2, s3⟩
  go_simp
  with_reducible rfl
 rotate_left
 ·
  simp only [Act.put, List.setIfInBounds_toArray, List.set_cons_zero, List.set_cons_succ, i64_w, i32_w]
  rfl
 refine take_ (i := 1) (N := some 39) (v := ?_) (a' := ?_) #[true, true, false, false, false] rfl rfl (by kernel_rfl) (fun _ _ _ h => h) (Or.inl ⟨by rfl, ?_⟩) hHeld ?_ ?_
 rotate_left
 ·
  rintro w' ⟨s0, s1, s2, s3⟩
  go_simp
  with_reducible rfl
 rotate_left
 ·
  simp only [Act.put, List.setIfInBounds_toArray, List.set_cons_zero, List.set_cons_succ, i64_w, i32_w]
  rfl
 refine one_ (i := 2) (N := some 40) #[true, true, true, false, false] rfl rfl (by kernel_rfl) (by decide) (fun K hK => ?_)
 refine goes_ Try.func16 (by kernel_rfl) rfl #[.agg #[.int .i64 a0_0, .slice A0_1 l0_1.length c0_1]] (by rfl) rfl rfl (by (try simp only [List.map_toArray, List.map_cons, List.map_nil]); first | done | rfl | (simp only [List.length_drop, List.length_take]; rfl)) ?_
 with_reducible refine (laws_toNet.calls k a0_0 _ _ l0_1 t532 t533 _ ?side1 ?side2 A18.out).mono ?_
 (case side1 => repeat (first | exact (Kd.C_below HR0_1.out HB.out) | (with_reducible refine Kd.C_alloc ?_ _) | (with_reducible refine Kd.C_drewN ?_ _) | (with_reducible refine Kd.C_drew ?_)))
 (case side2 => exact HC0_1.out)
 rintro e w49 ⟨v534, rfl, ho0, hb⟩
 refine ⟨_, rfl, ?_⟩
 have n0_ := Aside0.mk (Kd.R_elder' (by (with_reducible repeat (first | apply Kd.R_alloc | apply Kd.R_drewN | apply Kd.R_drew)); exact HO513.out) (Kd.R_base ho0) hb)
 have n1_ := Aside0.mk (Kd.R_below (by (with_reducible repeat (first | apply Kd.R_alloc | apply Kd.R_drewN | apply Kd.R_drew)); exact HO516.out) hb)
 have n2_ := Aside0.mk (Kd.R_below (by (with_reducible repeat (first | apply Kd.R_alloc | apply Kd.R_drewN | apply Kd.R_drew)); exact HO519.out) hb)
 have n3_ := Aside0.mk (Kd.R_elder' (by (with_reducible repeat (first | apply Kd.R_alloc | apply Kd.R_drewN | apply Kd.R_drew)); exact HO523.out) (Kd.R_base ho0) hb)
 have n4_ := Aside0.mk (Kd.R_below (by (with_reducible repeat (first | apply Kd.R_alloc | apply Kd.R_drewN | apply Kd.R_drew)); exact HO527.out) hb)
 have n5_ := Aside0.mk (Kd.R_below (by (with_reducible repeat (first | apply Kd.R_alloc | apply Kd.R_drewN | apply Kd.R_drew)); exact HO530.out) hb)
 have n6_ := Aside0.mk (Kd.R_lower (Kd.R_new' (Kd.R_new' ho0 (Kd.R_lt (by (with_reducible repeat (first | apply Kd.R_alloc | apply Kd.R_drewN | apply Kd.R_drew)); exact HO513.out))) (Kd.R_lt (by (with_reducible repeat (first | apply Kd.R_alloc | apply Kd.R_drewN | apply Kd.R_drew)); exact HO523.out))) (below_size (by repeat (first | (with_reducible first | exact HB.out | apply below_alloc | apply pw_below_drewN | apply below_drew1 | refine below_set ?_ GE508.out | refine below_set ?_ GE524.out) | exact HB.out))))
 have n7_ := Aside0.mk (blk_below (g := gb508) (o := .cells #[.int .i64 a0_0, .slice A0_1 l0_1.length c0_1] 24 (0, 0)) (by (with_reducible repeat (first | refine blk_drewN ?_ _ | refine blk_drew ?_ | refine blk_alloc ?_ _)); exact BK508.out) hb)
 have n8_ := Aside0.mk (blk_below (g := gb524) (o := .cells #[.int .i64 t520, .slice Ao41 t521.length co41] 30 (0, 0)) (by (with_reducible repeat (first | refine blk_drewN ?_ _ | refine blk_drew ?_ | refine blk_alloc ?_ _)); exact BK524.out) hb)
 have n9_ := Aside0.mk (below_step (by repeat (first | (with_reducible first | exact HB.out | apply below_alloc | apply pw_below_drewN | apply below_drew1 | refine below_set ?_ GE508.out | refine below_set ?_ GE524.out) | exact HB.out)) hb)
 clear HO513
 clear HO516
 clear HO519
 clear HO523
 clear HO527
 clear HO530
 clear BK508
 clear BK524
 clear HB
 have HO513 := n0_
 have HO516 := n1_
 have HO519 := n2_
 have HO523 := n3_
 have HO527 := n4_
 have HO530 := n5_
 have HO535 := n6_
 have BK508 := n7_
 have BK524 := n8_
 have HB := n9_
 clear n0_ n1_ n2_ n3_ n4_ n5_ n6_ n7_ n8_ n9_
 (try clear hb)
 (try clear hb2)
 (try clear hk)
 (try clear hi)
 (try clear ho0)
 obtain ⟨Ao50, co50, eo50⟩ := Kd.R_slice HO535.out
 (first | subst eo50 | (injection eo50 with f1_ f2_ f3_; have f4_ := f1_.symm; have f5_ := f3_.symm; clear f1_ f2_ f3_; subst f4_; subst f5_))
 refine hK.out _ _ ⟨(blk_cell BK524.out 0).trans rfl, (blk_cell BK524.out 1).trans rfl, (blk_cell BK508.out 0).trans rfl, (blk_cell BK508.out 1).trans rfl⟩ (fun hHeld => ?_)
 clear hK K
 refine norm_ (a' := ?_) ?_ ?_
 rotate_left
 ·
  show Act.put _ (some 40) _ = _
  simp only [Act.put, List.setIfInBounds_toArray, List.set_cons_zero, List.set_cons_succ, i64_w, i32_w]
  rfl
 refine one_ (i := 3) (N := some 41) #[true, true, true, true, false] rfl rfl (by kernel_rfl) (by decide) (fun K hK => ?_)
 refine goes_ Try.func19 (by kernel_rfl) rfl #[.agg #[.int .i64 t520, .slice Ao41 t521.length co41], .agg #[.int .i64 t532, .slice Ao50 t533.length co50]] (by rfl) rfl rfl (by (try simp only [List.map_toArray, List.map_cons, List.map_nil]); first | done | rfl | (simp only [List.length_drop, List.length_take]; rfl)) ?_
 with_reducible refine (laws_eqNet.calls k t520 _ _ t521 t532 _ _ t533 true _ ?side1 ?side2 ?side3 ?side4 A19.out).mono ?_
 (case side1 => repeat (first | exact (Kd.R_reads' HO523.out).2.2 | (with_reducible refine Kd.C_alloc ?_ _) | (with_reducible refine Kd.C_drewN ?_ _) | (with_reducible refine Kd.C_drew ?_)))
 (case side2 => exact (Kd.R_reads' HO523.out).2.1)
 (case side3 => repeat (first | exact (Kd.R_reads' HO535.out).2.2 | (with_reducible refine Kd.C_alloc ?_ _) | (with_reducible refine Kd.C_drewN ?_ _) | (with_reducible refine Kd.C_drew ?_)))
 (case side4 => exact (Kd.R_reads' HO535.out).2.1)
 rintro e w51 ⟨rfl, hb⟩
 refine ⟨_, rfl, ?_⟩
 have n0_ := Aside0.mk (Kd.R_below (by (with_reducible repeat (first | apply Kd.R_alloc | apply Kd.R_drewN | apply Kd.R_drew)); exact HO513.out) hb)
 have n1_ := Aside0.mk (Kd.R_below (by (with_reducible repeat (first | apply Kd.R_alloc | apply Kd.R_drewN | apply Kd.R_drew)); exact HO516.out) hb)
 have n2_ := Aside0.mk (Kd.R_below (by (with_reducible repeat (first | apply Kd.R_alloc | apply Kd.R_drewN | apply Kd.R_drew)); exact HO519.out) hb)
 have n3_ := Aside0.mk (Kd.R_below (by (with_reducible repeat (first | apply Kd.R_alloc | apply Kd.R_drewN | apply Kd.R_drew)); exact HO523.out) hb)
 have n4_ := Aside0.mk (Kd.R_below (by (with_reducible repeat (first | apply Kd.R_alloc | apply Kd.R_drewN | apply Kd.R_drew)); exact HO527.out) hb)
 have n5_ := Aside0.mk (Kd.R_below (by (with_reducible repeat (first | apply Kd.R_alloc | apply Kd.R_drewN | apply Kd.R_drew)); exact HO530.out) hb)
 have n6_ := Aside0.mk (Kd.R_below (by (with_reducible repeat (first | apply Kd.R_alloc | apply Kd.R_drewN | apply Kd.R_drew)); exact HO535.out) hb)
 have n7_ := Aside0.mk (blk_below (g := gb508) (o := .cells #[.int .i64 a0_0, .slice A0_1 l0_1.length c0_1] 24 (0, 0)) (by (with_reducible repeat (first | refine blk_drewN ?_ _ | refine blk_drew ?_ | refine blk_alloc ?_ _)); exact BK508.out) hb)
 have n8_ := Aside0.mk (blk_below (g := gb524) (o := .cells #[.int .i64 t520, .slice Ao41 t521.length co41] 30 (0, 0)) (by (with_reducible repeat (first | refine blk_drewN ?_ _ | refine blk_drew ?_ | refine blk_alloc ?_ _)); exact BK524.out) hb)
 have n9_ := Aside0.mk (below_step (by repeat (first | (with_reducible first | exact HB.out | apply below_alloc | apply pw_below_drewN | apply below_drew1 | refine below_set ?_ GE508.out | refine below_set ?_ GE524.out) | exact HB.out)) hb)
 clear HO513
 clear HO516
 clear HO519
 clear HO523
 clear HO527
 clear HO530
 clear HO535
 clear BK508
 clear BK524
 clear HB
 have HO513 := n0_
 have HO516 := n1_
 have HO519 := n2_
 have HO523 := n3_
 have HO527 := n4_
 have HO530 := n5_
 have HO535 := n6_
 have BK508 := n7_
 have BK524 := n8_
 have HB := n9_
 clear n0_ n1_ n2_ n3_ n4_ n5_ n6_ n7_ n8_ n9_
 (try clear hb)
 (try clear hb2)
 (try clear hk)
 (try clear hi)
 refine hK.out _ _ ⟨(blk_cell BK524.out 0).trans rfl, (blk_cell BK524.out 1).trans rfl, (blk_cell BK508.out 0).trans rfl, (blk_cell BK508.out 1).trans rfl⟩ (fun hHeld => ?_)
 clear hK K
 refine norm_ (a' := ?_) ?_ ?_
 rotate_left
 ·
  show Act.put _ (some 41) _ = _
  simp only [Act.put, List.setIfInBounds_toArray, List.set_cons_zero, List.set_cons_succ, i64_w, i32_w]
  rfl
 refine pure_ (i := 4) (N := some 42) (v := ?_) (a' := ?_) #[true, true, true, true, true] rfl rfl (by kernel_rfl) (fun _ _ _ h => h) (Or.inl ⟨by rfl, ?_⟩) ?_ ?_
 rotate_left
 ·
  intro w'
  go_simp
  with_reducible rfl
 rotate_left
 ·
  simp only [Act.put, List.setIfInBounds_toArray, List.set_cons_zero, List.set_cons_succ, i64_w, i32_w]
  rfl
 refine done_ (by kernel_rfl) ?_
 go_upto_region 20 with (first | ((with_reducible refine gate_callee (f := 17) rfl ?_); refine goesL_ (some 45) rfl rfl Try.func17 (by kernel_rfl) rfl #[.slice A1 l1.length c1] rfl (by (try simp only [List.map_toArray, List.map_cons, List.map_nil]); first | done | rfl | (simp only [List.length_drop, List.length_take]; rfl)) ?_; (with_reducible refine (laws_toBoolS.calls k _ _ l1 t537 _ ?side1 ?side2 A21.out).mono ?_); (case side1 => repeat (first | exact (Kd.C_below HR1.out HB.out) | (with_reducible refine Kd.C_alloc ?_ _) | (with_reducible refine Kd.C_drewN ?_ _) | (with_reducible refine Kd.C_drew ?_))); (case side2 => exact HC1.out); rintro e w52 ⟨v538, rfl, ho0, hb⟩; refine ⟨_, rfl, ?_⟩; have n0_ := Aside0.mk (Kd.R_below (by (with_reducible repeat (first | apply Kd.R_alloc | apply Kd.R_drewN | apply Kd.R_drew)); exact HO513.out) hb); have n1_ := Aside0.mk (Kd.R_elder' (by (with_reducible repeat (first | apply Kd.R_alloc | apply Kd.R_drewN | apply Kd.R_drew)); exact HO516.out) (Kd.R_base ho0) hb); have n2_ := Aside0.mk (Kd.R_below (by (with_reducible repeat (first | apply Kd.R_alloc | apply Kd.R_drewN | apply Kd.R_drew)); exact HO519.out) hb); have n3_ := Aside0.mk (Kd.R_below (by (with_reducible repeat (first | apply Kd.R_alloc | apply Kd.R_drewN | apply Kd.R_drew)); exact HO523.out) hb); have n4_ := Aside0.mk (Kd.R_elder' (by (with_reducible repeat (first | apply Kd.R_alloc | apply Kd.R_drewN | apply Kd.R_drew)); exact HO527.out) (Kd.R_base ho0) hb); have n5_ := Aside0.mk (Kd.R_below (by (with_reducible repeat (first | apply Kd.R_alloc | apply Kd.R_drewN | apply Kd.R_drew)); exact HO530.out) hb); have n6_ := Aside0.mk (Kd.R_below (by (with_reducible repeat (first | apply Kd.R_alloc | apply Kd.R_drewN | apply Kd.R_drew)); exact HO535.out) hb); have n7_ := Aside0.mk (Kd.R_lower (Kd.R_new' (Kd.R_new' ho0 (Kd.R_lt (by (with_reducible repeat (first | apply Kd.R_alloc | apply Kd.R_drewN | apply Kd.R_drew)); exact HO516.out))) (Kd.R_lt (by (with_reducible repeat (first | apply Kd.R_alloc | apply Kd.R_drewN | apply Kd.R_drew)); exact HO527.out))) (below_size (by repeat (first | (with_reducible first | exact HB.out | apply below_alloc | apply pw_below_drewN | apply below_drew1 | refine below_set ?_ GE508.out | refine below_set ?_ GE524.out) | exact HB.out)))); have n8_ := Aside0.mk (blk_below (g := gb508) (o := .cells #[.int .i64 a0_0, .slice A0_1 l0_1.length c0_1] 24 (0, 0)) (by (with_reducible repeat (first | refine blk_drewN ?_ _ | refine blk_drew ?_ | refine blk_alloc ?_ _)); exact BK508.out) hb); have n9_ := Aside0.mk (blk_below (g := gb524) (o := .cells #[.int .i64 t520, .slice Ao41 t521.length co41] 30 (0, 0)) (by (with_reducible repeat (first | refine blk_drewN ?_ _ | refine blk_drew ?_ | refine blk_alloc ?_ _)); exact BK524.out) hb); have n10_ := Aside0.mk (below_step (by repeat (first | (with_reducible first | exact HB.out | apply below_alloc | apply pw_below_drewN | apply below_drew1 | refine below_set ?_ GE508.out | refine below_set ?_ GE524.out) | exact HB.out)) hb); clear HO513; clear HO516; clear HO519; clear HO523; clear HO527; clear HO530; clear HO535; clear BK508; clear BK524; clear HB; have HO513 := n0_; have HO516 := n1_; have HO519 := n2_; have HO523 := n3_; have HO527 := n4_; have HO530 := n5_; have HO535 := n6_; have HO539 := n7_; have BK508 := n8_; have BK524 := n9_; have HB := n10_; clear n0_ n1_ n2_ n3_ n4_ n5_ n6_ n7_ n8_ n9_ n10_; (try clear hb); (try clear hb2); (try clear hk); (try clear hi); (try clear ho0); obtain ⟨Ao53, co53, eo53⟩ := Kd.R_slice HO539.out; subst eo53) | ((with_reducible refine gate_callee (f := 20) rfl ?_); refine goesL_ (some 46) rfl rfl Try.func20 (by kernel_rfl) rfl #[.slice Ao44 t525.length co44, .slice Ao53 t537.length co53] rfl (by (try simp only [List.map_toArray, List.map_cons, List.map_nil]); first | done | rfl | (simp only [List.length_drop, List.length_take]; rfl)) ?_; (with_reducible refine (laws_eqBoolS.calls k _ _ t525 _ _ t537 true _ ?side1 ?side2 ?side3 ?side4 A22.out).mono ?_); (case side1 => repeat (first | exact (Kd.R_reads' HO527.out).2.2 | (with_reducible refine Kd.C_alloc ?_ _) | (with_reducible refine Kd.C_drewN ?_ _) | (with_reducible refine Kd.C_drew ?_))); (case side2 => exact (Kd.R_reads' HO527.out).2.1); (case side3 => repeat (first | exact (Kd.R_reads' HO539.out).2.2 | (with_reducible refine Kd.C_alloc ?_ _) | (with_reducible refine Kd.C_drewN ?_ _) | (with_reducible refine Kd.C_drew ?_))); (case side4 => exact (Kd.R_reads' HO539.out).2.1); rintro e w' ⟨rfl, ⟨nd, rfl⟩⟩; refine ⟨_, rfl, ?_⟩; have hcz54_0 : w52.cell? ⟨gb524, 0, none⟩ = some (.int .i64 t520) := (blk_cell BK524.out 0).trans rfl; have hcz54_1 : w52.cell? ⟨gb524, 1, none⟩ = some (.slice Ao41 t521.length co41) := (blk_cell BK524.out 1).trans rfl; have hfz54_0 := blk_frozen BK524.out 0; have hfz54_1 := blk_frozen BK524.out 1) | ((with_reducible refine gate_callee (f := 26) rfl ?_); refine goesL_ (some 50) rfl rfl Try.func26 (by kernel_rfl) rfl #[.agg #[.int .i64 t520, .slice Ao41 t521.length co41], .int .i64 1] rfl (by (try simp only [List.map_toArray, List.map_cons, List.map_nil]); first | done | rfl | (simp only [List.length_drop, List.length_take]; rfl)) ?_; (with_reducible refine (laws_markNet.calls k t520 (fun k_ => some k_ = (.slice Ao41 t521.length co41 : Value).ownBlock) (.slice Ao41 t521.length co41) t521 1 t541 t542 w _ ?side1 ?side2 A24.out).mono ?_); (case side1 => repeat (first | (with_reducible first | exact HB.out | apply below_alloc | apply pw_below_drewN | apply below_drew1 | refine below_set ?_ GE508.out | refine below_set ?_ GE524.out) | exact HB.out)); (case side2 => exact Kd.R_tight rfl HO523.out); rintro e w55 ⟨rfl, hy0, hb, hkp⟩; refine ⟨_, rfl, ?_⟩; have n0_ := Aside0.mk (blk_kept (by (with_reducible repeat (first | refine blk_drewN ?_ _ | refine blk_drew ?_ | refine blk_alloc ?_ _)); exact BK508.out) hkp (fun hs_ => (fun e_ => (Kd.R_ne HO523.out BK508.out (by decide)) e_) hs_)); have n1_ := Aside0.mk (Kd.R_mono (ok' := fun k_ => some k_ ≠ (.slice Ao41 t521.length co41 : Value).ownBlock ∧ some k_ ≠ (.slice Ao50 t533.length co50 : Value).ownBlock) (Kd.R_keptB (HO513.out) hkp (fun k_ hk_ hs_ => (hk_.1.2) hs_)) (fun k_ hk_ => ⟨hk_.1.1.2, hk_.1.2⟩)); have n2_ := Aside0.mk (Kd.R_mono (ok' := fun k_ => some k_ ≠ (.slice Ao44 t525.length co44 : Value).ownBlock ∧ some k_ ≠ (.slice Ao53 t537.length co53 : Value).ownBlock) (Kd.R_keptB ((Kd.R_apart' HO516.out (Kd.R_typed HO523.out) (by decide))) hkp (fun k_ hk_ hs_ => (hk_.2) hs_)) (fun k_ hk_ => ⟨hk_.1.1.1.2, hk_.1.1.2⟩)); have n3_ := Aside0.mk (Kd.R_mono (ok' := fun k_ => some k_ ≠ (.slice Ao46 t528.length co46 : Value).ownBlock) (Kd.R_keptB ((Kd.R_apart' HO519.out (Kd.R_typed HO523.out) (by decide))) hkp (fun k_ hk_ hs_ => (hk_.2) hs_)) (fun k_ hk_ => hk_.1.1.2)); have n4_ := Aside0.mk (Kd.R_reok rfl hy0 (fun k_ e_ => HO523.out.1 k_ e_)); have n5_ := Aside0.mk (blk_kept (by (with_reducible repeat (first | refine blk_drewN ?_ _ | refine blk_drew ?_ | refine blk_alloc ?_ _)); exact BK524.out) hkp (fun hs_ => (fun e_ => (Kd.R_ne HO523.out BK524.out (by decide)) e_) hs_)); have n6_ := Aside0.mk (Kd.R_mono (ok' := fun k_ => some k_ ≠ (.slice Ao34 t514.length co34 : Value).ownBlock ∧ some k_ ≠ (.slice Ao53 t537.length co53 : Value).ownBlock) (Kd.R_keptB ((Kd.R_apart' HO527.out (Kd.R_typed HO523.out) (by decide))) hkp (fun k_ hk_ hs_ => (hk_.2) hs_)) (fun k_ hk_ => ⟨hk_.1.1.1.2, hk_.1.1.2⟩)); have n7_ := Aside0.mk (Kd.R_mono (ok' := fun k_ => some k_ ≠ (.slice Ao47 t517.length co47 : Value).ownBlock) (Kd.R_keptB ((Kd.R_apart' HO530.out (Kd.R_typed HO523.out) (by decide))) hkp (fun k_ hk_ hs_ => (hk_.2) hs_)) (fun k_ hk_ => hk_.1.1.2)); have n8_ := Aside0.mk (Kd.R_mono (ok' := fun k_ => some k_ ≠ (.slice Ao33 t511.length co33 : Value).ownBlock ∧ some k_ ≠ (.slice Ao41 t521.length co41 : Value).ownBlock) (Kd.R_keptB (HO535.out) hkp (fun k_ hk_ hs_ => (hk_.2) hs_)) (fun k_ hk_ => ⟨hk_.1.1.2, hk_.1.2⟩)); have n9_ := Aside0.mk (Kd.R_mono (ok' := fun k_ => some k_ ≠ (.slice Ao34 t514.length co34 : Value).ownBlock ∧ some k_ ≠ (.slice Ao44 t525.length co44 : Value).ownBlock) (Kd.R_keptB ((Kd.R_apart' HO539.out (Kd.R_typed HO523.out) (by decide))) hkp (fun k_ hk_ hs_ => (hk_.2) hs_)) (fun k_ hk_ => ⟨hk_.1.1.1.2, hk_.1.1.2⟩)); have n10_ := Aside0.mk (hb); clear BK508; clear HO513; clear HO516; clear HO519; clear HO523; clear BK524; clear HO527; clear HO530; clear HO535; clear HO539; clear HB; have BK508 := n0_; have HO513 := n1_; have HO516 := n2_; have HO519 := n3_; have HO523 := n4_; have BK524 := n5_; have HO527 := n6_; have HO530 := n7_; have HO535 := n8_; have HO539 := n9_; have HB := n10_; clear n0_ n1_ n2_ n3_ n4_ n5_ n6_ n7_ n8_ n9_ n10_; (try clear hb); (try clear hkp); (try clear hy0)) | ((with_reducible refine gate_callee (f := 27) rfl ?_); refine goesL_ (some 53) rfl rfl Try.func27 (by kernel_rfl) rfl #[.slice Ao44 t525.length co44, .int .i64 t541] rfl (by (try simp only [List.map_toArray, List.map_cons, List.map_nil]); first | done | rfl | (simp only [List.length_drop, List.length_take]; rfl)) ?_; (with_reducible refine (laws_markBoolS.calls k (fun k_ => some k_ = (.slice Ao44 t525.length co44 : Value).ownBlock) (.slice Ao44 t525.length co44) t525 t541 t543 t544 w _ ?side1 ?side2 A25.out).mono ?_); (case side1 => repeat (first | (with_reducible first | exact HB.out | apply below_alloc | apply pw_below_drewN | apply below_drew1 | refine below_set ?_ GE508.out | refine below_set ?_ GE524.out) | exact HB.out)); (case side2 => exact Kd.R_tight rfl HO527.out); rintro e w56 ⟨rfl, hy0, hb, hkp⟩; refine ⟨_, rfl, ?_⟩; have n0_ := Aside0.mk (blk_kept (by (with_reducible repeat (first | refine blk_drewN ?_ _ | refine blk_drew ?_ | refine blk_alloc ?_ _)); exact BK508.out) hkp (fun hs_ => (fun e_ => (Kd.R_ne HO527.out BK508.out (by decide)) e_) hs_)); have n1_ := Aside0.mk (Kd.R_mono (ok' := fun k_ => some k_ ≠ (.slice Ao41 t521.length co41 : Value).ownBlock ∧ some k_ ≠ (.slice Ao50 t533.length co50 : Value).ownBlock) (Kd.R_keptB ((Kd.R_apart' HO513.out (Kd.R_typed HO527.out) (by decide))) hkp (fun k_ hk_ hs_ => (hk_.2) hs_)) (fun k_ hk_ => ⟨hk_.1.1.1, hk_.1.1.2⟩)); have n2_ := Aside0.mk (Kd.R_mono (ok' := fun k_ => some k_ ≠ (.slice Ao44 t525.length co44 : Value).ownBlock ∧ some k_ ≠ (.slice Ao53 t537.length co53 : Value).ownBlock) (Kd.R_keptB (HO516.out) hkp (fun k_ hk_ hs_ => (hk_.1) hs_)) (fun k_ hk_ => ⟨hk_.1.1, hk_.1.2⟩)); have n3_ := Aside0.mk (Kd.R_mono (ok' := fun k_ => some k_ ≠ (.slice Ao46 t528.length co46 : Value).ownBlock) (Kd.R_keptB ((Kd.R_apart' HO519.out (Kd.R_typed HO527.out) (by decide))) hkp (fun k_ hk_ hs_ => (hk_.2) hs_)) (fun k_ hk_ => hk_.1.1)); have n4_ := Aside0.mk (Kd.R_mono (ok' := fun k_ => some k_ ≠ (.slice Ao33 t511.length co33 : Value).ownBlock ∧ some k_ ≠ (.slice Ao50 t533.length co50 : Value).ownBlock) (Kd.R_keptB ((Kd.R_apart' HO523.out (Kd.R_typed HO527.out) (by decide))) hkp (fun k_ hk_ hs_ => (hk_.2) hs_)) (fun k_ hk_ => ⟨hk_.1.1.1.2, hk_.1.1.2⟩)); have n5_ := Aside0.mk (blk_kept (by (with_reducible repeat (first | refine blk_drewN ?_ _ | refine blk_drew ?_ | refine blk_alloc ?_ _)); exact BK524.out) hkp (fun hs_ => (fun e_ => (Kd.R_ne HO527.out BK524.out (by decide)) e_) hs_)); have n6_ := Aside0.mk (Kd.R_reok rfl hy0 (fun k_ e_ => HO527.out.1 k_ e_)); have n7_ := Aside0.mk (Kd.R_mono (ok' := fun k_ => some k_ ≠ (.slice Ao47 t517.length co47 : Value).ownBlock) (Kd.R_keptB ((Kd.R_apart' HO530.out (Kd.R_typed HO527.out) (by decide))) hkp (fun k_ hk_ hs_ => (hk_.2) hs_)) (fun k_ hk_ => hk_.1.1)); have n8_ := Aside0.mk (Kd.R_mono (ok' := fun k_ => some k_ ≠ (.slice Ao33 t511.length co33 : Value).ownBlock ∧ some k_ ≠ (.slice Ao41 t521.length co41 : Value).ownBlock) (Kd.R_keptB ((Kd.R_apart' HO535.out (Kd.R_typed HO527.out) (by decide))) hkp (fun k_ hk_ hs_ => (hk_.2) hs_)) (fun k_ hk_ => ⟨hk_.1.1.1, hk_.1.1.2⟩)); have n9_ := Aside0.mk (Kd.R_mono (ok' := fun k_ => some k_ ≠ (.slice Ao34 t514.length co34 : Value).ownBlock ∧ some k_ ≠ (.slice Ao44 t525.length co44 : Value).ownBlock) (Kd.R_keptB (HO539.out) hkp (fun k_ hk_ hs_ => (hk_.2) hs_)) (fun k_ hk_ => ⟨hk_.1.1, hk_.1.2⟩)); have n10_ := Aside0.mk (hb); clear BK508; clear HO513; clear HO516; clear HO519; clear HO523; clear BK524; clear HO527; clear HO530; clear HO535; clear HO539; clear HB; have BK508 := n0_; have HO513 := n1_; have HO516 := n2_; have HO519 := n3_; have HO523 := n4_; have BK524 := n5_; have HO527 := n6_; have HO530 := n7_; have HO535 := n8_; have HO539 := n9_; have HB := n10_; clear n0_ n1_ n2_ n3_ n4_ n5_ n6_ n7_ n8_ n9_ n10_; (try clear hb); (try clear hkp); (try clear hy0)))
 (try simp only [Act.put, List.setIfInBounds_toArray, List.set_cons_zero, List.set_cons_succ])
 go_cut [61] (fun v61 wc => ∃ (kq : Nat) (x61_25 : Bool), v61 = .bool x61_25 ∧ Aside0 (laws_FnExactSpanningLines.j0 kq l1 t517 t528 x61_25 a0_0 l0_1 = some r) ∧ Aside0 (kq ≤ k) ∧ Aside0 (Kd.R (Kd.int .i64) 3 wc w.heap.size (fun k_ => some k_ ≠ ((.slice Ao46 t528.length co46) : Value).ownBlock) (.slice Ao47 t517.length co47) t517) ∧ Aside0 (Kd.R (Kd.int .i64) 3 wc w.heap.size (fun k_ => some k_ ≠ ((.slice Ao47 t517.length co47) : Value).ownBlock) (.slice Ao46 t528.length co46) t528) ∧ Aside0 (Kd.R k73 73 wc w.heap.size (fun _ => True) (.slice Ao41 t521.length co41) t542) ∧ Aside0 (wc.heap[gb508]? = some (.cells #[.int .i64 a0_0, (.slice A0_1 l0_1.length c0_1)] 24 (0, 0))) ∧ Aside0 (wc.heap[gb524]? = some (.cells #[.int .i64 t520, (.slice Ao41 t521.length co41)] 30 (0, 0))) ∧ Aside0 (Below w.heap.size w wc))
 case first =>
  have H := HC26.out
  clear HC26
  by_cases c57 : t543 < 0
  ·
   rw [if_pos c57] at H
   have c57b0 : decide (t543 < 0) = true := decide_eq_true c57
   clear c57
   (first | rw [c57b0] | (simp only [i64_w, i32_w]; rw [c57b0]) | skip)
   have H' := Aside0.mk H
   clear H
   go_wp2
   go_meet
   case rel => exact ⟨_, (true), (by first | rfl | (simp; done) | (simp [*]; done)), H', ⟨by first | omega | exact Nat.le_refl _⟩, ⟨by (with_reducible repeat (first | apply Kd.R_alloc | apply Kd.R_drewN | apply Kd.R_drew)); exact HO519.out⟩, ⟨by (with_reducible repeat (first | apply Kd.R_alloc | apply Kd.R_drewN | apply Kd.R_drew)); exact HO530.out⟩, ⟨by (with_reducible repeat (first | apply Kd.R_alloc | apply Kd.R_drewN | apply Kd.R_drew)); exact Kd.R_mono HO523.out (fun _ hk => trivial)⟩, ⟨by (with_reducible repeat (first | refine blk_drewN ?_ _ | refine blk_drew ?_ | refine blk_alloc ?_ _)); exact BK508.out⟩, ⟨by (with_reducible repeat (first | refine blk_drewN ?_ _ | refine blk_drew ?_ | refine blk_alloc ?_ _)); exact BK524.out⟩, ⟨by repeat (first | (with_reducible first | exact HB.out | apply below_alloc | apply pw_below_drewN | apply below_drew1 | refine below_set ?_ GE508.out | refine below_set ?_ GE524.out) | exact HB.out)⟩⟩
  rw [if_neg c57] at H
  have c57b0 : decide (t543 < 0) = false := decide_eq_false c57
  clear c57
  (first | rw [c57b0] | (simp only [i64_w, i32_w]; rw [c57b0]) | skip)
  replace H := Option.bind_eq_some_iff.mp H
  obtain ⟨t545, A580, H⟩ := H
  replace H : (laws_FnExactSpanningLines.j0 k l1 t517 t528 (!t545) a0_0 l0_1) = some r := H
  have A58 := Aside0.mk A580
  clear A580
  have H' := Aside0.mk H
  clear H
  go_wp2_with (first | (go_at_call 25; (with_reducible refine (laws_eqIntS.calls k _ _ t528 _ _ t517 t545 _ ?side1 ?side2 ?side3 ?side4 A58.out).mono ?_); (case side1 => repeat (first | exact (Kd.R_reads' HO530.out).2.2 | (with_reducible refine Kd.C_alloc ?_ _) | (with_reducible refine Kd.C_drewN ?_ _) | (with_reducible refine Kd.C_drew ?_))); (case side2 => exact (Kd.R_reads' HO530.out).2.1); (case side3 => repeat (first | exact (Kd.R_reads' HO519.out).2.2 | (with_reducible refine Kd.C_alloc ?_ _) | (with_reducible refine Kd.C_drewN ?_ _) | (with_reducible refine Kd.C_drew ?_))); (case side4 => exact (Kd.R_reads' HO519.out).2.1); rintro e w' ⟨rfl, ⟨nd, rfl⟩⟩))
  go_meet
  case rel => exact ⟨_, (!t545), (by first | rfl | (simp; done) | (simp [*]; done)), H', ⟨by first | omega | exact Nat.le_refl _⟩, ⟨by (with_reducible repeat (first | apply Kd.R_alloc | apply Kd.R_drewN | apply Kd.R_drew)); exact HO519.out⟩, ⟨by (with_reducible repeat (first | apply Kd.R_alloc | apply Kd.R_drewN | apply Kd.R_drew)); exact HO530.out⟩, ⟨by (with_reducible repeat (first | apply Kd.R_alloc | apply Kd.R_drewN | apply Kd.R_drew)); exact Kd.R_mono HO523.out (fun _ hk => trivial)⟩, ⟨by (with_reducible repeat (first | refine blk_drewN ?_ _ | refine blk_drew ?_ | refine blk_alloc ?_ _)); exact BK508.out⟩, ⟨by (with_reducible repeat (first | refine blk_drewN ?_ _ | refine blk_drew ?_ | refine blk_alloc ?_ _)); exact BK524.out⟩, ⟨by repeat (first | (with_reducible first | exact HB.out | apply below_alloc | apply pw_below_drewN | apply below_drew1 | refine below_set ?_ GE508.out | refine below_set ?_ GE524.out) | exact HB.out)⟩⟩
 case rest =>
  clear HC26
  try clear c1
  try clear c2
  try clear p2
  try clear c3
  try clear c3b0
  try clear c3b1
  try clear c5
  try clear c6
  try clear c6b0
  try clear c7
  try clear c14
  try clear c16
  try clear c17
  try clear c19
  try clear c20
  try clear c23
  try clear c25
  try clear c26
  try clear c27
  try clear c32
  try clear c33
  try clear c39
  try clear c57
  try clear c57b0
  try clear hcz28_0
  try clear hcz28_1
  try clear hcz30_0
  try clear hcz30_1
  try clear hcz36_0
  try clear hcz36_1
  try clear hcz40_0
  try clear hcz40_1
  try clear hcz43_0
  try clear hcz43_1
  try clear hcz54_0
  try clear hcz54_1
  try clear hcz8_0
  try clear hcz8_1
  try clear hfz28_0
  try clear hfz28_1
  try clear hfz30_0
  try clear hfz30_1
  try clear hfz36_0
  try clear hfz36_1
  try clear hfz40_0
  try clear hfz40_1
  try clear hfz43_0
  try clear hfz43_1
  try clear hfz54_0
  try clear hfz54_1
  try clear hfz8_0
  try clear hfz8_1
  obtain ⟨kq, x61_25, rfl, HA, HJ25, HO_6, HO_9, HO_525001, BK508, BK524, HB⟩ := hcut
  have hl525001_25 := (Kd.R_reads' HO_525001.out).1
  rw [hl525001_25] at HO_525001
  (try simp only [hl525001_25])
  (try simp only [hl525001_25] at BK508)
  (try simp only [hl525001_25] at BK524)
  (try simp only [hl525001_25] at HO_6)
  (try simp only [hl525001_25] at HO_9)
  cases kq with
  | zero => exact absurd HA.out (by simp [laws_FnExactSpanningLines.j0])
  | succ kj25 =>
   have H := HA.out
   clear HA
   simp only [laws_FnExactSpanningLines.j0] at H
   by_cases c59 : x61_25 = true
   ·
    subst c59
    have H1 : (none) = some r := by rw [if_pos rfl] at H; exact H
    clear H
    have H := H1
    clear H1
    exact absurd H (by simp)
   replace c59 := Bool.eq_false_iff.mpr c59
   subst c59
   have H1 : ((laws_markIntS.f kj25 t528 1).bind fun bt546 => ((laws_heldIntS.f kj25 bt546.2 1).bind fun t548 => (if t548 < 0 then (none) else (if t548 = bt546.1 then ((laws_toNet.f kj25 a0_0 l0_1).bind fun bt549 => ((laws_toBoolS.f kj25 l1).bind fun t553 => ((impl_SpanningLines.f kj25 bt549.1 bt549.2 t553).bind fun t556 => ((laws_eqIntS.f kj25 t556 t517).bind fun t559 => (if t559 = true then ((laws_heldIntS.f kj25 bt546.2 1).bind fun t560 => (if t560 < 0 then (none) else (if t560 = bt546.1 then (some true) else (none)))) else (none)))))) else (none))))) = some r := by rw [if_neg (show ¬ (false = true) by decide)] at H; exact H
   clear H
   have H := H1
   clear H1
   replace H := Option.bind_eq_some_iff.mp H
   obtain ⟨⟨t546, t547⟩, A600, H⟩ := H
   replace H : ((laws_heldIntS.f kj25 t547 1).bind fun t548 => (if t548 < 0 then (none) else (if t548 = t546 then ((laws_toNet.f kj25 a0_0 l0_1).bind fun bt549 => ((laws_toBoolS.f kj25 l1).bind fun t553 => ((impl_SpanningLines.f kj25 bt549.1 bt549.2 t553).bind fun t556 => ((laws_eqIntS.f kj25 t556 t517).bind fun t559 => (if t559 = true then ((laws_heldIntS.f kj25 t547 1).bind fun t560 => (if t560 < 0 then (none) else (if t560 = t546 then (some true) else (none)))) else (none)))))) else (none)))) = some r := H
   have A60 := Aside0.mk A600
   clear A600
   replace H := Option.bind_eq_some_iff.mp H
   obtain ⟨t548, A610, H⟩ := H
   replace H : (if t548 < 0 then (none) else (if t548 = t546 then ((laws_toNet.f kj25 a0_0 l0_1).bind fun bt549 => ((laws_toBoolS.f kj25 l1).bind fun t553 => ((impl_SpanningLines.f kj25 bt549.1 bt549.2 t553).bind fun t556 => ((laws_eqIntS.f kj25 t556 t517).bind fun t559 => (if t559 = true then ((laws_heldIntS.f kj25 t547 1).bind fun t560 => (if t560 < 0 then (none) else (if t560 = t546 then (some true) else (none)))) else (none)))))) else (none))) = some r := H
   have A61 := Aside0.mk A610
   clear A610
   by_cases c62 : t548 < 0
   ·
    rw [if_pos c62] at H
    exact absurd H (by simp)
   rw [if_neg c62] at H
   have c62b0 : decide (t548 < 0) = false := decide_eq_false c62
   clear c62
   by_cases c63 : t548 = t546
   rotate_left
   ·
    rw [if_neg c63] at H
    exact absurd H (by simp)
   rw [if_pos c63] at H
   have c63b0 : (t548 == t546) = true := beq_iff_eq.mpr c63
   have c63b1 : (t548 != t546) = false := bne_eq_false_iff_eq.mpr c63
   clear c63
   replace H := Option.bind_eq_some_iff.mp H
   obtain ⟨⟨t549, t550⟩, A640, H⟩ := H
   replace H : ((laws_toBoolS.f kj25 l1).bind fun t553 => ((impl_SpanningLines.f kj25 t549 t550 t553).bind fun t556 => ((laws_eqIntS.f kj25 t556 t517).bind fun t559 => (if t559 = true then ((laws_heldIntS.f kj25 t547 1).bind fun t560 => (if t560 < 0 then (none) else (if t560 = t546 then (some true) else (none)))) else (none))))) = some r := H
   have A64 := Aside0.mk A640
   clear A640
   replace H := Option.bind_eq_some_iff.mp H
   obtain ⟨t553, A650, H⟩ := H
   replace H : ((impl_SpanningLines.f kj25 t549 t550 t553).bind fun t556 => ((laws_eqIntS.f kj25 t556 t517).bind fun t559 => (if t559 = true then ((laws_heldIntS.f kj25 t547 1).bind fun t560 => (if t560 < 0 then (none) else (if t560 = t546 then (some true) else (none)))) else (none)))) = some r := H
   have A65 := Aside0.mk A650
   clear A650
   replace H := Option.bind_eq_some_iff.mp H
   obtain ⟨t556, A660, H⟩ := H
   replace H : ((laws_eqIntS.f kj25 t556 t517).bind fun t559 => (if t559 = true then ((laws_heldIntS.f kj25 t547 1).bind fun t560 => (if t560 < 0 then (none) else (if t560 = t546 then (some true) else (none)))) else (none))) = some r := H
   have A66 := Aside0.mk A660
   clear A660
   replace H := Option.bind_eq_some_iff.mp H
   obtain ⟨t559, A670, H⟩ := H
   replace H : (if t559 = true then ((laws_heldIntS.f kj25 t547 1).bind fun t560 => (if t560 < 0 then (none) else (if t560 = t546 then (some true) else (none)))) else (none)) = some r := H
   have A67 := Aside0.mk A670
   clear A670
   by_cases c68 : t559 = true
   rotate_left
   ·
    replace c68 := Bool.eq_false_iff.mpr c68
    subst c68
    have H1 : (none) = some r := by rw [if_neg (show ¬ (false = true) by decide)] at H; exact H
    clear H
    have H := H1
    clear H1
    exact absurd H (by simp)
   subst c68
   have H1 : ((laws_heldIntS.f kj25 t547 1).bind fun t560 => (if t560 < 0 then (none) else (if t560 = t546 then (some true) else (none)))) = some r := by rw [if_pos rfl] at H; exact H
   clear H
   have H := H1
   clear H1
   replace H := Option.bind_eq_some_iff.mp H
   obtain ⟨t560, A690, H⟩ := H
   replace H : (if t560 < 0 then (none) else (if t560 = t546 then (some true) else (none))) = some r := H
   have A69 := Aside0.mk A690
   clear A690
   by_cases c70 : t560 < 0
   ·
    rw [if_pos c70] at H
    exact absurd H (by simp)
   rw [if_neg c70] at H
   have c70b0 : decide (t560 < 0) = false := decide_eq_false c70
   clear c70
   by_cases c71 : t560 = t546
   rotate_left
   ·
    rw [if_neg c71] at H
    exact absurd H (by simp)
   rw [if_pos c71] at H
   have c71b0 : (t560 == t546) = true := beq_iff_eq.mpr c71
   have c71b1 : (t560 != t546) = false := bne_eq_false_iff_eq.mpr c71
   clear c71
   obtain rfl := Option.some.inj H
   go_wp2_with (first | ((with_reducible refine gate_callee (f := 28) rfl ?_); refine goesL_ (some 64) rfl rfl Try.func28 (by kernel_rfl) rfl #[.slice Ao46 t528.length co46, .int .i64 1] rfl (by (try simp only [List.map_toArray, List.map_cons, List.map_nil]); first | done | rfl | (simp only [List.length_drop, List.length_take]; rfl)) ?_; (with_reducible refine (laws_markIntS.calls kj25 (fun k_ => some k_ = (.slice Ao46 t528.length co46 : Value).ownBlock) (.slice Ao46 t528.length co46) t528 1 t546 t547 w _ ?side1 ?side2 A60.out).mono ?_); (case side1 => repeat (first | (with_reducible first | exact HB.out | apply below_alloc | apply pw_below_drewN | apply below_drew1 | refine below_set ?_ GE508.out | refine below_set ?_ GE524.out) | exact HB.out)); (case side2 => exact Kd.R_tight rfl HO_9.out); rintro e w72 ⟨rfl, hy0, hb, hkp⟩; refine ⟨_, rfl, ?_⟩; have n0_ := Aside0.mk (Kd.R_mono (ok' := fun k_ => some k_ ≠ (.slice Ao46 t528.length co46 : Value).ownBlock) (Kd.R_keptB (HO_6.out) hkp (fun k_ hk_ hs_ => (hk_) hs_)) (fun k_ hk_ => hk_.1)); have n1_ := Aside0.mk (Kd.R_reok rfl hy0 (fun k_ e_ => HO_9.out.1 k_ e_)); have n2_ := Aside0.mk (Kd.R_mono (ok' := fun k_ => True) (Kd.R_keptB ((Kd.R_apart' HO_525001.out (Kd.R_typed HO_9.out) (by decide))) hkp (fun k_ hk_ hs_ => (hk_.2) hs_)) (fun k_ hk_ => trivial)); have n3_ := Aside0.mk (blk_kept (by (with_reducible repeat (first | refine blk_drewN ?_ _ | refine blk_drew ?_ | refine blk_alloc ?_ _)); exact BK508.out) hkp (fun hs_ => (fun e_ => (Kd.R_ne HO_9.out BK508.out (by decide)) e_) hs_)); have n4_ := Aside0.mk (blk_kept (by (with_reducible repeat (first | refine blk_drewN ?_ _ | refine blk_drew ?_ | refine blk_alloc ?_ _)); exact BK524.out) hkp (fun hs_ => (fun e_ => (Kd.R_ne HO_9.out BK524.out (by decide)) e_) hs_)); have n5_ := Aside0.mk (hb); clear HO_6; clear HO_9; clear HO_525001; clear BK508; clear BK524; clear HB; have HO_6 := n0_; have HO_9 := n1_; have HO_525001 := n2_; have BK508 := n3_; have BK524 := n4_; have HB := n5_; clear n0_ n1_ n2_ n3_ n4_ n5_; (try clear hb); (try clear hkp); (try clear hy0)) | ((with_reducible refine gate_callee (f := 29) rfl ?_); refine goesL_ (some 67) rfl rfl Try.func29 (by kernel_rfl) rfl #[.slice Ao46 t547.length co46, .int .i64 1] rfl (by (try simp only [List.map_toArray, List.map_cons, List.map_nil]); first | done | (rw [show t547.length = t528.length from (Kd.R_reads' HO_9.out).1.symm] <;> rfl) | rfl | (simp only [List.length_drop, List.length_take]; rfl)) ?_; (with_reducible refine (laws_heldIntS.calls kj25 _ _ t547 1 t548 _ ?side1 ?side2 A61.out).mono ?_); (case side1 => repeat (first | exact (Kd.R_reads' HO_9.out).2.2 | (with_reducible refine Kd.C_alloc ?_ _) | (with_reducible refine Kd.C_drewN ?_ _) | (with_reducible refine Kd.C_drew ?_))); (case side2 => rw [show t547.length = t528.length from (Kd.R_reads' HO_9.out).1.symm]; exact (Kd.R_reads' HO_9.out).2.1); rintro e w' ⟨rfl, ⟨nd, rfl⟩⟩; refine ⟨_, rfl, ?_⟩; have hnb73 := NB508_524.out; have hnc73 := NB524_508.out; have hcz74_0 : w72.cell? ⟨gb508, 0, none⟩ = some (.int .i64 a0_0) := (blk_cell BK508.out 0).trans rfl; have hcz74_1 : w72.cell? ⟨gb508, 1, none⟩ = some (.slice A0_1 l0_1.length c0_1) := (blk_cell BK508.out 1).trans rfl; have hfz74_0 := blk_frozen BK508.out 0; have hfz74_1 := blk_frozen BK508.out 1) | ((with_reducible refine gate_callee (f := 16) rfl ?_); refine goesL_ (some 74) rfl rfl Try.func16 (by kernel_rfl) rfl #[.agg #[.int .i64 a0_0, .slice A0_1 l0_1.length c0_1]] rfl (by (try simp only [List.map_toArray, List.map_cons, List.map_nil]); first | done | rfl | (simp only [List.length_drop, List.length_take]; rfl)) ?_; (with_reducible refine (laws_toNet.calls kj25 a0_0 _ _ l0_1 t549 t550 _ ?side1 ?side2 A64.out).mono ?_); (case side1 => repeat (first | exact (Kd.C_below HR0_1.out (by repeat (first | (with_reducible first | exact HB.out | apply below_alloc | apply pw_below_drewN | apply below_drew1 | refine below_set ?_ GE508.out | refine below_set ?_ GE524.out) | exact HB.out))) | (with_reducible refine Kd.C_alloc ?_ _) | (with_reducible refine Kd.C_drewN ?_ _) | (with_reducible refine Kd.C_drew ?_))); (case side2 => exact HC0_1.out); rintro e w75 ⟨v551, rfl, ho0, hb⟩; refine ⟨_, rfl, ?_⟩; have n0_ := Aside0.mk (Kd.R_below (by (with_reducible repeat (first | apply Kd.R_alloc | apply Kd.R_drewN | apply Kd.R_drew)); exact HO_6.out) hb); have n1_ := Aside0.mk (Kd.R_below (by (with_reducible repeat (first | apply Kd.R_alloc | apply Kd.R_drewN | apply Kd.R_drew)); exact HO_9.out) hb); have n2_ := Aside0.mk (Kd.R_elder' (by (with_reducible repeat (first | apply Kd.R_alloc | apply Kd.R_drewN | apply Kd.R_drew)); exact HO_525001.out) (Kd.R_base ho0) hb); have n3_ := Aside0.mk (Kd.R_lower (Kd.R_new' ho0 (Kd.R_lt (by (with_reducible repeat (first | apply Kd.R_alloc | apply Kd.R_drewN | apply Kd.R_drew)); exact HO_525001.out))) (below_size (by repeat (first | (with_reducible first | exact HB.out | apply below_alloc | apply pw_below_drewN | apply below_drew1 | refine below_set ?_ GE508.out | refine below_set ?_ GE524.out) | exact HB.out)))); have n4_ := Aside0.mk (blk_below (g := gb508) (o := .cells #[.int .i64 a0_0, .slice A0_1 l0_1.length c0_1] 24 (0, 0)) (by (with_reducible repeat (first | refine blk_drewN ?_ _ | refine blk_drew ?_ | refine blk_alloc ?_ _)); exact BK508.out) hb); have n5_ := Aside0.mk (blk_below (g := gb524) (o := .cells #[.int .i64 t520, .slice Ao41 t542.length co41] 30 (0, 0)) (by (with_reducible repeat (first | refine blk_drewN ?_ _ | refine blk_drew ?_ | refine blk_alloc ?_ _)); exact BK524.out) hb); have n6_ := Aside0.mk (below_step (by repeat (first | (with_reducible first | exact HB.out | apply below_alloc | apply pw_below_drewN | apply below_drew1 | refine below_set ?_ GE508.out | refine below_set ?_ GE524.out) | exact HB.out)) hb); clear HO_6; clear HO_9; clear HO_525001; clear BK508; clear BK524; clear HB; have HO_6 := n0_; have HO_9 := n1_; have HO_525001 := n2_; have HO552 := n3_; have BK508 := n4_; have BK524 := n5_; have HB := n6_; clear n0_ n1_ n2_ n3_ n4_ n5_ n6_; (try clear hb); (try clear hb2); (try clear hk); (try clear hi); (try clear ho0)) | ((with_reducible refine gate_callee (f := 17) rfl ?_); refine goesL_ (some 76) rfl rfl Try.func17 (by kernel_rfl) rfl #[.slice A1 l1.length c1] rfl (by (try simp only [List.map_toArray, List.map_cons, List.map_nil]); first | done | rfl | (simp only [List.length_drop, List.length_take]; rfl)) ?_; (with_reducible refine (laws_toBoolS.calls kj25 _ _ l1 t553 _ ?side1 ?side2 A65.out).mono ?_); (case side1 => repeat (first | exact (Kd.C_below HR1.out HB.out) | (with_reducible refine Kd.C_alloc ?_ _) | (with_reducible refine Kd.C_drewN ?_ _) | (with_reducible refine Kd.C_drew ?_))); (case side2 => exact HC1.out); rintro e w76 ⟨v554, rfl, ho0, hb⟩; refine ⟨_, rfl, ?_⟩; have n0_ := Aside0.mk (Kd.R_below (by (with_reducible repeat (first | apply Kd.R_alloc | apply Kd.R_drewN | apply Kd.R_drew)); exact HO_6.out) hb); have n1_ := Aside0.mk (Kd.R_below (by (with_reducible repeat (first | apply Kd.R_alloc | apply Kd.R_drewN | apply Kd.R_drew)); exact HO_9.out) hb); have n2_ := Aside0.mk (Kd.R_below (by (with_reducible repeat (first | apply Kd.R_alloc | apply Kd.R_drewN | apply Kd.R_drew)); exact HO_525001.out) hb); have n3_ := Aside0.mk (Kd.R_below (by (with_reducible repeat (first | apply Kd.R_alloc | apply Kd.R_drewN | apply Kd.R_drew)); exact HO552.out) hb); have n4_ := Aside0.mk (Kd.R_lower ho0 (below_size (by repeat (first | (with_reducible first | exact HB.out | apply below_alloc | apply pw_below_drewN | apply below_drew1 | refine below_set ?_ GE508.out | refine below_set ?_ GE524.out) | exact HB.out)))); have n5_ := Aside0.mk (blk_below (g := gb508) (o := .cells #[.int .i64 a0_0, .slice A0_1 l0_1.length c0_1] 24 (0, 0)) (by (with_reducible repeat (first | refine blk_drewN ?_ _ | refine blk_drew ?_ | refine blk_alloc ?_ _)); exact BK508.out) hb); have n6_ := Aside0.mk (blk_below (g := gb524) (o := .cells #[.int .i64 t520, .slice Ao41 t542.length co41] 30 (0, 0)) (by (with_reducible repeat (first | refine blk_drewN ?_ _ | refine blk_drew ?_ | refine blk_alloc ?_ _)); exact BK524.out) hb); have n7_ := Aside0.mk (below_step (by repeat (first | (with_reducible first | exact HB.out | apply below_alloc | apply pw_below_drewN | apply below_drew1 | refine below_set ?_ GE508.out | refine below_set ?_ GE524.out) | exact HB.out)) hb); clear HO_6; clear HO_9; clear HO_525001; clear HO552; clear BK508; clear BK524; clear HB; have HO_6 := n0_; have HO_9 := n1_; have HO_525001 := n2_; have HO552 := n3_; have HO555 := n4_; have BK508 := n5_; have BK524 := n6_; have HB := n7_; clear n0_ n1_ n2_ n3_ n4_ n5_ n6_ n7_; (try clear hb); (try clear hb2); (try clear hk); (try clear hi); (try clear ho0); obtain ⟨Ao77, co77, eo77⟩ := Kd.R_slice HO552.out; subst eo77; obtain ⟨Ao78, co78, eo78⟩ := Kd.R_slice HO555.out; subst eo78) | ((with_reducible refine gate_callee (f := 33) rfl ?_); refine goesL_ (some 77) rfl rfl Try.func33 (by kernel_rfl) rfl #[.agg #[.int .i64 t549, .slice Ao77 t550.length co77], .slice Ao78 t553.length co78] rfl (by (try simp only [List.map_toArray, List.map_cons, List.map_nil]); first | done | rfl | (simp only [List.length_drop, List.length_take]; rfl)) ?_; (with_reducible refine (impl_SpanningLines.calls kj25 t549 _ _ t550 _ _ t553 t556 _ ?side1 ?side2 ?side3 ?side4 A66.out).mono ?_); (case side1 => repeat (first | exact (Kd.R_reads' HO552.out).2.2 | (with_reducible refine Kd.C_alloc ?_ _) | (with_reducible refine Kd.C_drewN ?_ _) | (with_reducible refine Kd.C_drew ?_))); (case side2 => exact (Kd.R_reads' HO552.out).2.1); (case side3 => repeat (first | exact (Kd.R_reads' HO555.out).2.2 | (with_reducible refine Kd.C_alloc ?_ _) | (with_reducible refine Kd.C_drewN ?_ _) | (with_reducible refine Kd.C_drew ?_))); (case side4 => exact (Kd.R_reads' HO555.out).2.1); rintro e w79 ⟨v557, rfl, ho0, hb⟩; refine ⟨_, rfl, ?_⟩; have n0_ := Aside0.mk (Kd.R_elder' (by (with_reducible repeat (first | apply Kd.R_alloc | apply Kd.R_drewN | apply Kd.R_drew)); exact HO_6.out) (Kd.R_base ho0) hb); have n1_ := Aside0.mk (Kd.R_elder' (by (with_reducible repeat (first | apply Kd.R_alloc | apply Kd.R_drewN | apply Kd.R_drew)); exact HO_9.out) (Kd.R_base ho0) hb); have n2_ := Aside0.mk (Kd.R_below (by (with_reducible repeat (first | apply Kd.R_alloc | apply Kd.R_drewN | apply Kd.R_drew)); exact HO_525001.out) hb); have n3_ := Aside0.mk (Kd.R_below (by (with_reducible repeat (first | apply Kd.R_alloc | apply Kd.R_drewN | apply Kd.R_drew)); exact HO552.out) hb); have n4_ := Aside0.mk (Kd.R_below (by (with_reducible repeat (first | apply Kd.R_alloc | apply Kd.R_drewN | apply Kd.R_drew)); exact HO555.out) hb); have n5_ := Aside0.mk (Kd.R_lower (Kd.R_new' (Kd.R_new' ho0 (Kd.R_lt (by (with_reducible repeat (first | apply Kd.R_alloc | apply Kd.R_drewN | apply Kd.R_drew)); exact HO_6.out))) (Kd.R_lt (by (with_reducible repeat (first | apply Kd.R_alloc | apply Kd.R_drewN | apply Kd.R_drew)); exact HO_9.out))) (below_size (by repeat (first | (with_reducible first | exact HB.out | apply below_alloc | apply pw_below_drewN | apply below_drew1 | refine below_set ?_ GE508.out | refine below_set ?_ GE524.out) | exact HB.out)))); have n6_ := Aside0.mk (blk_below (g := gb508) (o := .cells #[.int .i64 a0_0, .slice A0_1 l0_1.length c0_1] 24 (0, 0)) (by (with_reducible repeat (first | refine blk_drewN ?_ _ | refine blk_drew ?_ | refine blk_alloc ?_ _)); exact BK508.out) hb); have n7_ := Aside0.mk (blk_below (g := gb524) (o := .cells #[.int .i64 t520, .slice Ao41 t542.length co41] 30 (0, 0)) (by (with_reducible repeat (first | refine blk_drewN ?_ _ | refine blk_drew ?_ | refine blk_alloc ?_ _)); exact BK524.out) hb); have n8_ := Aside0.mk (below_step (by repeat (first | (with_reducible first | exact HB.out | apply below_alloc | apply pw_below_drewN | apply below_drew1 | refine below_set ?_ GE508.out | refine below_set ?_ GE524.out) | exact HB.out)) hb); clear HO_6; clear HO_9; clear HO_525001; clear HO552; clear HO555; clear BK508; clear BK524; clear HB; have HO_6 := n0_; have HO_9 := n1_; have HO_525001 := n2_; have HO552 := n3_; have HO555 := n4_; have HO558 := n5_; have BK508 := n6_; have BK524 := n7_; have HB := n8_; clear n0_ n1_ n2_ n3_ n4_ n5_ n6_ n7_ n8_; (try clear hb); (try clear hb2); (try clear hk); (try clear hi); (try clear ho0); obtain ⟨Ao80, co80, eo80⟩ := Kd.R_slice HO558.out; subst eo80) | ((with_reducible refine gate_callee (f := 25) rfl ?_); refine goesL_ (some 80) rfl rfl Try.func25 (by kernel_rfl) rfl #[.slice Ao80 t556.length co80, .slice Ao47 t517.length co47] rfl (by (try simp only [List.map_toArray, List.map_cons, List.map_nil]); first | done | rfl | (simp only [List.length_drop, List.length_take]; rfl)) ?_; (with_reducible refine (laws_eqIntS.calls kj25 _ _ t556 _ _ t517 true _ ?side1 ?side2 ?side3 ?side4 A67.out).mono ?_); (case side1 => repeat (first | exact (Kd.R_reads' HO558.out).2.2 | (with_reducible refine Kd.C_alloc ?_ _) | (with_reducible refine Kd.C_drewN ?_ _) | (with_reducible refine Kd.C_drew ?_))); (case side2 => exact (Kd.R_reads' HO558.out).2.1); (case side3 => repeat (first | exact (Kd.R_reads' HO_6.out).2.2 | (with_reducible refine Kd.C_alloc ?_ _) | (with_reducible refine Kd.C_drewN ?_ _) | (with_reducible refine Kd.C_drew ?_))); (case side4 => exact (Kd.R_reads' HO_6.out).2.1); rintro e w' ⟨rfl, ⟨nd, rfl⟩⟩; refine ⟨_, rfl, ?_⟩) | ((with_reducible refine gate_callee (f := 29) rfl ?_); refine goesL_ (some 84) rfl rfl Try.func29 (by kernel_rfl) rfl #[.slice Ao46 t547.length co46, .int .i64 1] rfl (by (try simp only [List.map_toArray, List.map_cons, List.map_nil]); first | done | (rw [show t547.length = t528.length from (Kd.R_reads' HO_9.out).1.symm] <;> rfl) | rfl | (simp only [List.length_drop, List.length_take]; rfl)) ?_; (with_reducible refine (laws_heldIntS.calls kj25 _ _ t547 1 t560 _ ?side1 ?side2 A69.out).mono ?_); (case side1 => repeat (first | exact (Kd.R_reads' HO_9.out).2.2 | (with_reducible refine Kd.C_alloc ?_ _) | (with_reducible refine Kd.C_drewN ?_ _) | (with_reducible refine Kd.C_drew ?_))); (case side2 => rw [show t547.length = t528.length from (Kd.R_reads' HO_9.out).1.symm]; exact (Kd.R_reads' HO_9.out).2.1); rintro e w' ⟨rfl, ⟨nd, rfl⟩⟩; refine ⟨_, rfl, ?_⟩))
   go_ret
   exact ⟨by first | rfl | (simp [errW_none, errW_some] <;> rfl) | (simp [*, errW_none, errW_some] <;> rfl), by repeat (first | (with_reducible first | exact HB.out | apply below_alloc | apply pw_below_drewN | apply below_drew1 | refine below_set ?_ GE508.out | refine below_set ?_ GE524.out) | exact HB.out)⟩

end Go.Proofs.Ytknddipjabkfbaa.P

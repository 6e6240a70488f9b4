/- Contracts of Go functions of this seat's translation, written by this repo's wip/mk.py: it calls the kit's print.py with contracts typed by hand in place of functions that it does not take. Not trusted: Lean checks it. -/
import Derived.Test.YtknddipjabkfbaaP0
import Derived.Test.YtknddipjabkfbaaP8
import Derived.Test.YtknddipjabkfbaaP17
import Derived.Test.YtknddipjabkfbaaP19
import Derived.Test.YtknddipjabkfbaaP27
import Derived.Test.YtknddipjabkfbaaP38
import Derived.Test.YtknddipjabkfbaaP41
import Derived.Test.YtknddipjabkfbaaP43
import Derived.Test.YtknddipjabkfbaaP72
namespace Go.Proofs.Ytknddipjabkfbaa.P
open Go.RowKit Go.Proofs.YtknddipjabkfbaaW.PrintWords Go.Proofs.YtknddipjabkfbaaW.PrintLast Go.Proofs.YtknddipjabkfbaaW.PrintMore
attribute [local go_sem] max2_int min2_int max_two min_two max_three min_three max_four min_four   -- for this text's walks alone
set_option linter.unusedVariables false
set_option linter.unusedSimpArgs false

/-! ### laws_FnExactBridgeLines: function 11 -/
def laws_FnExactBridgeLines.j0 : Nat → List Bool → List Int → List Int → Bool → Int → List (S91) → Option (Bool)
 | 0, _, _, _, _, _, _ => none
 | k + 1, x1, x6, x9, x61, x813000, x813001 => if x61 = true then (none) else ((laws_markIntS.f k x9 1).bind fun bt850 => ((laws_heldIntS.f k bt850.2 1).bind fun t852 => (if t852 < 0 then (none) else (if t852 = bt850.1 then ((laws_toNet.f k x813000 x813001).bind fun bt853 => ((laws_toBoolS.f k x1).bind fun t857 => ((impl_BridgeLines.f k bt853.1 bt853.2 t857).bind fun t860 => ((laws_eqIntS.f k t860 x6).bind fun t863 => (if t863 = true then ((laws_heldIntS.f k bt850.2 1).bind fun t864 => (if t864 < 0 then (none) else (if t864 = bt850.1 then (some true) else (none)))) else (none)))))) else (none)))))
def laws_FnExactBridgeLines.f (k : Nat) (a0_0 : Int) (l0_1 : List (S91)) (l1 : List Bool) : Option (Bool) := if (l1.length : Int) > 1048576 then (some true) else ((laws_szNet.f a0_0 l0_1 1048576).bind fun t813 => (if t813 < 0 then (some true) else ((laws_toNet.f k a0_0 l0_1).bind fun bt814 => ((laws_toBoolS.f k l1).bind fun t818 => ((spec_BridgeLines.f k bt814.1 bt814.2 t818).bind fun t821 => ((laws_toNet.f k a0_0 l0_1).bind fun bt824 => ((laws_toBoolS.f k l1).bind fun t829 => ((impl_BridgeLines.f k bt824.1 bt824.2 t829).bind fun t832 => ((laws_eqIntS.f k t832 t821).bind fun t835 => (if t835 = true then ((laws_toNet.f k a0_0 l0_1).bind fun bt836 => ((laws_eqNet.f k bt824.1 bt824.2 bt836.1 bt836.2).bind fun t840 => (if t840 = true then ((laws_toBoolS.f k l1).bind fun t841 => ((laws_eqBoolS.f k t829 t841).bind fun t844 => (if t844 = true then ((laws_markNet.f k bt824.1 bt824.2 1).bind fun bt845 => ((laws_markBoolS.f k t829 bt845.1).bind fun bt847 => (if bt847.1 < 0 then (laws_FnExactBridgeLines.j0 k l1 t821 t832 true a0_0 l0_1) else ((laws_eqIntS.f k t832 t821).bind fun t849 => (laws_FnExactBridgeLines.j0 k l1 t821 t832 (!t849) a0_0 l0_1))))) else (none)))) else (none)))) else (none)))))))))))
theorem laws_FnExactBridgeLines.mono_l : ∀ k, (∀ y0 y1 y2 y3 y4 y5, LeO (laws_FnExactBridgeLines.j0 k y0 y1 y2 y3 y4 y5) (laws_FnExactBridgeLines.j0 (k + 1) y0 y1 y2 y3 y4 y5))
 | 0 => fun _ _ _ _ _ _ r h => by simp [laws_FnExactBridgeLines.j0] at h
 | k + 1 => by
  have ih0 := laws_FnExactBridgeLines.mono_l k
  ·
   intro y0 y1 y2 y3 y4 y5
   unfold laws_FnExactBridgeLines.j0
   repeat' first
   | (with_reducible exact ih0 _ _ _ _ _ _)
   | (with_reducible exact impl_BridgeLines.mono _ _ _ _)
   | (with_reducible exact laws_eqBoolS.mono _ _ _)
   | (with_reducible exact laws_eqIntS.mono _ _ _)
   | (with_reducible exact laws_eqNet.mono _ _ _ _ _)
   | (with_reducible exact laws_heldIntS.mono _ _ _)
   | (with_reducible exact laws_markBoolS.mono _ _ _)
   | (with_reducible exact laws_markIntS.mono _ _ _)
   | (with_reducible exact laws_markNet.mono _ _ _ _)
   | (with_reducible exact laws_toBoolS.mono _ _)
   | (with_reducible exact laws_toNet.mono _ _ _)
   | (with_reducible exact spec_BridgeLines.mono _ _ _ _)
   | (with_reducible exact LeO.refl _)
   | (with_reducible exact LeO.none _)
   | (with_reducible refine LeO.ite ?_ ?_)
   | (with_reducible refine LeO.bind ?_ (fun _ => ?_))
   | exact ih0 _ _ _ _ _ _
   | exact impl_BridgeLines.mono _ _ _ _
   | exact laws_eqBoolS.mono _ _ _
   | exact laws_eqIntS.mono _ _ _
   | exact laws_eqNet.mono _ _ _ _ _
   | exact laws_heldIntS.mono _ _ _
   | exact laws_markBoolS.mono _ _ _
   | exact laws_markIntS.mono _ _ _
   | exact laws_markNet.mono _ _ _ _
   | exact laws_toBoolS.mono _ _
   | exact laws_toNet.mono _ _ _
   | exact spec_BridgeLines.mono _ _ _ _
   | exact LeO.none _
   | refine LeO.ite ?_ ?_
   | refine LeO.bind ?_ (fun _ => ?_)
theorem laws_FnExactBridgeLines.mono : ∀ a0 a1 a2 k, LeO (laws_FnExactBridgeLines.f k a0 a1 a2) (laws_FnExactBridgeLines.f (k + 1) a0 a1 a2) := by
 intro a0 a1 a2 k
 have ih0 := laws_FnExactBridgeLines.mono_l k
 unfold laws_FnExactBridgeLines.f
 repeat' first
   | (with_reducible exact ih0 _ _ _ _ _ _)
   | (with_reducible exact impl_BridgeLines.mono _ _ _ _)
   | (with_reducible exact laws_eqBoolS.mono _ _ _)
   | (with_reducible exact laws_eqIntS.mono _ _ _)
   | (with_reducible exact laws_eqNet.mono _ _ _ _ _)
   | (with_reducible exact laws_heldIntS.mono _ _ _)
   | (with_reducible exact laws_markBoolS.mono _ _ _)
   | (with_reducible exact laws_markIntS.mono _ _ _)
   | (with_reducible exact laws_markNet.mono _ _ _ _)
   | (with_reducible exact laws_toBoolS.mono _ _)
   | (with_reducible exact laws_toNet.mono _ _ _)
   | (with_reducible exact spec_BridgeLines.mono _ _ _ _)
   | (with_reducible exact LeO.refl _)
   | (with_reducible exact LeO.none _)
   | (with_reducible refine LeO.ite ?_ ?_)
   | (with_reducible refine LeO.bind ?_ (fun _ => ?_))
   | exact ih0 _ _ _ _ _ _
   | exact impl_BridgeLines.mono _ _ _ _
   | exact laws_eqBoolS.mono _ _ _
   | exact laws_eqIntS.mono _ _ _
   | exact laws_eqNet.mono _ _ _ _ _
   | exact laws_heldIntS.mono _ _ _
   | exact laws_markBoolS.mono _ _ _
   | exact laws_markIntS.mono _ _ _
   | exact laws_markNet.mono _ _ _ _
   | exact laws_toBoolS.mono _ _
   | exact laws_toNet.mono _ _ _
   | exact spec_BridgeLines.mono _ _ _ _
   | exact LeO.none _
   | refine LeO.ite ?_ ?_
   | refine LeO.bind ?_ (fun _ => ?_)
set_option maxHeartbeats 8000000 in
set_option maxRecDepth 100000 in
theorem laws_FnExactBridgeLines.calls (k : Nat) (a0_0 : Int) (A0_1 : Option Addr) (c0_1 : Nat) (l0_1 : List (S91)) (A1 : Option Addr) (c1 : Nat) (l1 : List Bool) (r : Bool) (w : World) (hr0_1 : Kd.C k91 w A0_1 l0_1.length l0_1) (hc0_1 : l0_1.length ≤ c0_1) (hr1 : Kd.C Kd.bool w A1 l1.length l1) (hc1 : l1.length ≤ c1) (h : laws_FnExactBridgeLines.f k a0_0 l0_1 l1 = some r) :
  Calls Try.prog 11 #[.agg #[.int .i64 a0_0, .slice A0_1 l0_1.length c0_1], .slice A1 l1.length c1] w fun e w' => e = .returned (.bool r) ∧ Below w.heap.size w w' := by
 have hu24 := Try.underlying24
 have hu30 := Try.underlying30
 have HR0_1 := Aside0.mk hr0_1
 have HC0_1 := Aside0.mk hc0_1
 clear hr0_1 hc0_1
 have HR1 := Aside0.mk hr1
 have HC1 := Aside0.mk hc1
 clear hr1 hc1
 have HB := Aside0.mk (Below.refl w.heap.size w)
 have H : (if (l1.length : Int) > 1048576 then (some true) else ((laws_szNet.f a0_0 l0_1 1048576).bind fun t813 => (if t813 < 0 then (some true) else ((laws_toNet.f k a0_0 l0_1).bind fun bt814 => ((laws_toBoolS.f k l1).bind fun t818 => ((spec_BridgeLines.f k bt814.1 bt814.2 t818).bind fun t821 => ((laws_toNet.f k a0_0 l0_1).bind fun bt824 => ((laws_toBoolS.f k l1).bind fun t829 => ((impl_BridgeLines.f k bt824.1 bt824.2 t829).bind fun t832 => ((laws_eqIntS.f k t832 t821).bind fun t835 => (if t835 = true then ((laws_toNet.f k a0_0 l0_1).bind fun bt836 => ((laws_eqNet.f k bt824.1 bt824.2 bt836.1 bt836.2).bind fun t840 => (if t840 = true then ((laws_toBoolS.f k l1).bind fun t841 => ((laws_eqBoolS.f k t829 t841).bind fun t844 => (if t844 = true then ((laws_markNet.f k bt824.1 bt824.2 1).bind fun bt845 => ((laws_markBoolS.f k t829 bt845.1).bind fun bt847 => (if bt847.1 < 0 then (laws_FnExactBridgeLines.j0 k l1 t821 t832 true a0_0 l0_1) else ((laws_eqIntS.f k t832 t821).bind fun t849 => (laws_FnExactBridgeLines.j0 k l1 t821 t832 (!t849) a0_0 l0_1))))) else (none)))) else (none)))) else (none)))))))))))) = some r := h
 clear h
 by_cases c3 : (l1.length : Int) > 1048576
 ·
  rw [if_pos c3] at H
  have c3b0 : decide (1048576 < (l1.length : Int)) = true := decide_eq_true c3
  have c3b1 : decide (1048576 < l1.length) = true := decide_eq_true (by omega)
  clear c3
  obtain rfl := Option.some.inj H
  go_enter Try.func11, Try.ntmps11
  go_wp2_with (first | ((with_reducible refine gate_dst (N := 2) rfl ?_); refine box_event ?hg (N := 2) ?hd (cs := #[.int .i64 a0_0, .slice A0_1 l0_1.length c0_1]) (t := 24) ?hr ?_; (case hd => rfl); (case hg => rfl); (case hr => first | (go_simp; done) | (go_simp; rfl)); intro gb812 hg w4 hbox hb; have n0_ := Aside0.mk (below_step (by repeat (first | (with_reducible first | exact HB.out | apply below_alloc | apply pw_below_drewN | apply below_drew1) | exact HB.out)) hb); have n1_ := Aside0.mk (hbox); have n2_ := Aside0.mk ((by rw [hg]; exact (below_size (by repeat (first | (with_reducible first | exact HB.out | apply below_alloc | apply pw_below_drewN | apply below_drew1) | exact HB.out))) : w.heap.size ≤ gb812)); have n3_ := Aside0.mk ((by rw [hg]; exact (below_size (by repeat (first | (with_reducible first | exact HB.out | apply below_alloc | apply pw_below_drewN | apply below_drew1) | exact HB.out))) : w.heap.size ≤ gb812)); clear HB; have HB := n0_; have BK812 := n1_; have GW812 := n2_; have GE812 := n3_; clear n0_ n1_ n2_ n3_; clear hb hbox hg))
  go_ret
  exact ⟨by first | rfl | (simp [errW_none, errW_some] <;> rfl) | (simp [*, errW_none, errW_some] <;> rfl), by repeat (first | (with_reducible first | exact HB.out | apply below_alloc | apply pw_below_drewN | apply below_drew1 | refine below_set ?_ GE812.out) | exact HB.out)⟩
 rw [if_neg c3] at H
 have c3b0 : decide (1048576 < (l1.length : Int)) = false := decide_eq_false c3
 have c3b1 : decide (1048576 < l1.length) = false := decide_eq_false (by omega)
 clear c3
 replace H := Option.bind_eq_some_iff.mp H
 obtain ⟨t813, A50, H⟩ := H
 replace H : (if t813 < 0 then (some true) else ((laws_toNet.f k a0_0 l0_1).bind fun bt814 => ((laws_toBoolS.f k l1).bind fun t818 => ((spec_BridgeLines.f k bt814.1 bt814.2 t818).bind fun t821 => ((laws_toNet.f k a0_0 l0_1).bind fun bt824 => ((laws_toBoolS.f k l1).bind fun t829 => ((impl_BridgeLines.f k bt824.1 bt824.2 t829).bind fun t832 => ((laws_eqIntS.f k t832 t821).bind fun t835 => (if t835 = true then ((laws_toNet.f k a0_0 l0_1).bind fun bt836 => ((laws_eqNet.f k bt824.1 bt824.2 bt836.1 bt836.2).bind fun t840 => (if t840 = true then ((laws_toBoolS.f k l1).bind fun t841 => ((laws_eqBoolS.f k t829 t841).bind fun t844 => (if t844 = true then ((laws_markNet.f k bt824.1 bt824.2 1).bind fun bt845 => ((laws_markBoolS.f k t829 bt845.1).bind fun bt847 => (if bt847.1 < 0 then (laws_FnExactBridgeLines.j0 k l1 t821 t832 true a0_0 l0_1) else ((laws_eqIntS.f k t832 t821).bind fun t849 => (laws_FnExactBridgeLines.j0 k l1 t821 t832 (!t849) a0_0 l0_1))))) else (none)))) else (none)))) else (none)))))))))) = some r := H
 have A5 := Aside0.mk A50
 clear A50
 by_cases c6 : t813 < 0
 ·
  rw [if_pos c6] at H
  have c6b0 : decide (t813 < 0) = true := decide_eq_true c6
  clear c6
  obtain rfl := Option.some.inj H
  go_enter Try.func11, Try.ntmps11
  go_wp2_with (first | ((with_reducible refine gate_dst (N := 2) rfl ?_); refine box_event ?hg (N := 2) ?hd (cs := #[.int .i64 a0_0, .slice A0_1 l0_1.length c0_1]) (t := 24) ?hr ?_; (case hd => rfl); (case hg => rfl); (case hr => first | (go_simp; done) | (go_simp; rfl)); intro gb812 hg w7 hbox hb; have n0_ := Aside0.mk (below_step (by repeat (first | (with_reducible first | exact HB.out | apply below_alloc | apply pw_below_drewN | apply below_drew1) | exact HB.out)) hb); have n1_ := Aside0.mk (hbox); have n2_ := Aside0.mk ((by rw [hg]; exact (below_size (by repeat (first | (with_reducible first | exact HB.out | apply below_alloc | apply pw_below_drewN | apply below_drew1) | exact HB.out))) : w.heap.size ≤ gb812)); have n3_ := Aside0.mk ((by rw [hg]; exact (below_size (by repeat (first | (with_reducible first | exact HB.out | apply below_alloc | apply pw_below_drewN | apply below_drew1) | exact HB.out))) : w.heap.size ≤ gb812)); clear HB; have HB := n0_; have BK812 := n1_; have GW812 := n2_; have GE812 := n3_; clear n0_ n1_ n2_ n3_; clear hb hbox hg; have hcz8_0 : w7.cell? ⟨gb812, 0, none⟩ = some (.int .i64 a0_0) := (blk_cell BK812.out 0).trans rfl; have hcz8_1 : w7.cell? ⟨gb812, 1, none⟩ = some (.slice A0_1 l0_1.length c0_1) := (blk_cell BK812.out 1).trans rfl; have hfz8_0 := blk_frozen BK812.out 0; have hfz8_1 := blk_frozen BK812.out 1) | ((with_reducible refine gate_callee (f := 14) rfl ?_); refine goesL_ (some 19) rfl rfl Try.func14 (by kernel_rfl) rfl #[.agg #[.int .i64 a0_0, .slice A0_1 l0_1.length c0_1], .int .i64 1048576] rfl (by (try simp only [List.map_toArray, List.map_cons, List.map_nil]); first | done | rfl | (simp only [List.length_drop, List.length_take]; rfl)) ?_; (with_reducible refine (laws_szNet.calls a0_0 _ _ l0_1 1048576 t813 _ ?side1 ?side2 A5.out).mono ?_); (case side1 => repeat (first | exact (Kd.C_below HR0_1.out HB.out) | (with_reducible refine Kd.C_alloc ?_ _) | (with_reducible refine Kd.C_drewN ?_ _) | (with_reducible refine Kd.C_drew ?_))); (case side2 => exact HC0_1.out); rintro e w9 ⟨rfl, hb⟩; refine ⟨_, rfl, ?_⟩; have n0_ := Aside0.mk (blk_below (g := gb812) (o := .cells #[.int .i64 a0_0, .slice A0_1 l0_1.length c0_1] 24 (0, 0)) (by (with_reducible repeat (first | refine blk_drewN ?_ _ | refine blk_drew ?_ | refine blk_alloc ?_ _)); exact BK812.out) hb); have n1_ := Aside0.mk (below_step (by repeat (first | (with_reducible first | exact HB.out | apply below_alloc | apply pw_below_drewN | apply below_drew1 | refine below_set ?_ GE812.out) | exact HB.out)) hb); clear BK812; clear HB; have BK812 := n0_; have HB := n1_; clear n0_ n1_; (try clear hb); (try clear hb2); (try clear hk); (try clear hi)))
  go_ret
  exact ⟨by first | rfl | (simp [errW_none, errW_some] <;> rfl) | (simp [*, errW_none, errW_some] <;> rfl), by repeat (first | (with_reducible first | exact HB.out | apply below_alloc | apply pw_below_drewN | apply below_drew1 | refine below_set ?_ GE812.out) | exact HB.out)⟩
 rw [if_neg c6] at H
 have c6b0 : decide (t813 < 0) = false := decide_eq_false c6
 clear c6
 replace H := Option.bind_eq_some_iff.mp H
 obtain ⟨⟨t814, t815⟩, A100, H⟩ := H
 replace H : ((laws_toBoolS.f k l1).bind fun t818 => ((spec_BridgeLines.f k t814 t815 t818).bind fun t821 => ((laws_toNet.f k a0_0 l0_1).bind fun bt824 => ((laws_toBoolS.f k l1).bind fun t829 => ((impl_BridgeLines.f k bt824.1 bt824.2 t829).bind fun t832 => ((laws_eqIntS.f k t832 t821).bind fun t835 => (if t835 = true then ((laws_toNet.f k a0_0 l0_1).bind fun bt836 => ((laws_eqNet.f k bt824.1 bt824.2 bt836.1 bt836.2).bind fun t840 => (if t840 = true then ((laws_toBoolS.f k l1).bind fun t841 => ((laws_eqBoolS.f k t829 t841).bind fun t844 => (if t844 = true then ((laws_markNet.f k bt824.1 bt824.2 1).bind fun bt845 => ((laws_markBoolS.f k t829 bt845.1).bind fun bt847 => (if bt847.1 < 0 then (laws_FnExactBridgeLines.j0 k l1 t821 t832 true a0_0 l0_1) else ((laws_eqIntS.f k t832 t821).bind fun t849 => (laws_FnExactBridgeLines.j0 k l1 t821 t832 (!t849) a0_0 l0_1))))) else (none)))) else (none)))) else (none)))))))) = some r := H
 have A10 := Aside0.mk A100
 clear A100
 replace H := Option.bind_eq_some_iff.mp H
 obtain ⟨t818, A110, H⟩ := H
 replace H : ((spec_BridgeLines.f k t814 t815 t818).bind fun t821 => ((laws_toNet.f k a0_0 l0_1).bind fun bt824 => ((laws_toBoolS.f k l1).bind fun t829 => ((impl_BridgeLines.f k bt824.1 bt824.2 t829).bind fun t832 => ((laws_eqIntS.f k t832 t821).bind fun t835 => (if t835 = true then ((laws_toNet.f k a0_0 l0_1).bind fun bt836 => ((laws_eqNet.f k bt824.1 bt824.2 bt836.1 bt836.2).bind fun t840 => (if t840 = true then ((laws_toBoolS.f k l1).bind fun t841 => ((laws_eqBoolS.f k t829 t841).bind fun t844 => (if t844 = true then ((laws_markNet.f k bt824.1 bt824.2 1).bind fun bt845 => ((laws_markBoolS.f k t829 bt845.1).bind fun bt847 => (if bt847.1 < 0 then (laws_FnExactBridgeLines.j0 k l1 t821 t832 true a0_0 l0_1) else ((laws_eqIntS.f k t832 t821).bind fun t849 => (laws_FnExactBridgeLines.j0 k l1 t821 t832 (!t849) a0_0 l0_1))))) else (none)))) else (none)))) else (none))))))) = some r := H
 have A11 := Aside0.mk A110
 clear A110
 replace H := Option.bind_eq_some_iff.mp H
 obtain ⟨t821, A120, H⟩ := H
 replace H : ((laws_toNet.f k a0_0 l0_1).bind fun bt824 => ((laws_toBoolS.f k l1).bind fun t829 => ((impl_BridgeLines.f k bt824.1 bt824.2 t829).bind fun t832 => ((laws_eqIntS.f k t832 t821).bind fun t835 => (if t835 = true then ((laws_toNet.f k a0_0 l0_1).bind fun bt836 => ((laws_eqNet.f k bt824.1 bt824.2 bt836.1 bt836.2).bind fun t840 => (if t840 = true then ((laws_toBoolS.f k l1).bind fun t841 => ((laws_eqBoolS.f k t829 t841).bind fun t844 => (if t844 = true then ((laws_markNet.f k bt824.1 bt824.2 1).bind fun bt845 => ((laws_markBoolS.f k t829 bt845.1).bind fun bt847 => (if bt847.1 < 0 then (laws_FnExactBridgeLines.j0 k l1 t821 t832 true a0_0 l0_1) else ((laws_eqIntS.f k t832 t821).bind fun t849 => (laws_FnExactBridgeLines.j0 k l1 t821 t832 (!t849) a0_0 l0_1))))) else (none)))) else (none)))) else (none)))))) = some r := H
 have A12 := Aside0.mk A120
 clear A120
 replace H := Option.bind_eq_some_iff.mp H
 obtain ⟨⟨t824, t825⟩, A130, H⟩ := H
 replace H : ((laws_toBoolS.f k l1).bind fun t829 => ((impl_BridgeLines.f k t824 t825 t829).bind fun t832 => ((laws_eqIntS.f k t832 t821).bind fun t835 => (if t835 = true then ((laws_toNet.f k a0_0 l0_1).bind fun bt836 => ((laws_eqNet.f k t824 t825 bt836.1 bt836.2).bind fun t840 => (if t840 = true then ((laws_toBoolS.f k l1).bind fun t841 => ((laws_eqBoolS.f k t829 t841).bind fun t844 => (if t844 = true then ((laws_markNet.f k t824 t825 1).bind fun bt845 => ((laws_markBoolS.f k t829 bt845.1).bind fun bt847 => (if bt847.1 < 0 then (laws_FnExactBridgeLines.j0 k l1 t821 t832 true a0_0 l0_1) else ((laws_eqIntS.f k t832 t821).bind fun t849 => (laws_FnExactBridgeLines.j0 k l1 t821 t832 (!t849) a0_0 l0_1))))) else (none)))) else (none)))) else (none))))) = some r := H
 have A13 := Aside0.mk A130
 clear A130
 replace H := Option.bind_eq_some_iff.mp H
 obtain ⟨t829, A140, H⟩ := H
 replace H : ((impl_BridgeLines.f k t824 t825 t829).bind fun t832 => ((laws_eqIntS.f k t832 t821).bind fun t835 => (if t835 = true then ((laws_toNet.f k a0_0 l0_1).bind fun bt836 => ((laws_eqNet.f k t824 t825 bt836.1 bt836.2).bind fun t840 => (if t840 = true then ((laws_toBoolS.f k l1).bind fun t841 => ((laws_eqBoolS.f k t829 t841).bind fun t844 => (if t844 = true then ((laws_markNet.f k t824 t825 1).bind fun bt845 => ((laws_markBoolS.f k t829 bt845.1).bind fun bt847 => (if bt847.1 < 0 then (laws_FnExactBridgeLines.j0 k l1 t821 t832 true a0_0 l0_1) else ((laws_eqIntS.f k t832 t821).bind fun t849 => (laws_FnExactBridgeLines.j0 k l1 t821 t832 (!t849) a0_0 l0_1))))) else (none)))) else (none)))) else (none)))) = some r := H
 have A14 := Aside0.mk A140
 clear A140
 replace H := Option.bind_eq_some_iff.mp H
 obtain ⟨t832, A150, H⟩ := H
 replace H : ((laws_eqIntS.f k t832 t821).bind fun t835 => (if t835 = true then ((laws_toNet.f k a0_0 l0_1).bind fun bt836 => ((laws_eqNet.f k t824 t825 bt836.1 bt836.2).bind fun t840 => (if t840 = true then ((laws_toBoolS.f k l1).bind fun t841 => ((laws_eqBoolS.f k t829 t841).bind fun t844 => (if t844 = true then ((laws_markNet.f k t824 t825 1).bind fun bt845 => ((laws_markBoolS.f k t829 bt845.1).bind fun bt847 => (if bt847.1 < 0 then (laws_FnExactBridgeLines.j0 k l1 t821 t832 true a0_0 l0_1) else ((laws_eqIntS.f k t832 t821).bind fun t849 => (laws_FnExactBridgeLines.j0 k l1 t821 t832 (!t849) a0_0 l0_1))))) else (none)))) else (none)))) else (none))) = some r := H
 have A15 := Aside0.mk A150
 clear A150
 replace H := Option.bind_eq_some_iff.mp H
 obtain ⟨t835, A160, H⟩ := H
 replace H : (if t835 = true then ((laws_toNet.f k a0_0 l0_1).bind fun bt836 => ((laws_eqNet.f k t824 t825 bt836.1 bt836.2).bind fun t840 => (if t840 = true then ((laws_toBoolS.f k l1).bind fun t841 => ((laws_eqBoolS.f k t829 t841).bind fun t844 => (if t844 = true then ((laws_markNet.f k t824 t825 1).bind fun bt845 => ((laws_markBoolS.f k t829 bt845.1).bind fun bt847 => (if bt847.1 < 0 then (laws_FnExactBridgeLines.j0 k l1 t821 t832 true a0_0 l0_1) else ((laws_eqIntS.f k t832 t821).bind fun t849 => (laws_FnExactBridgeLines.j0 k l1 t821 t832 (!t849) a0_0 l0_1))))) else (none)))) else (none)))) else (none)) = some r := H
 have A16 := Aside0.mk A160
 clear A160
 by_cases c17 : t835 = true
 rotate_left
 ·
  replace c17 := Bool.eq_false_iff.mpr c17
  subst c17
  have H1 : (none) = some r := by rw [if_neg (show ¬ (false = true) by decide)] at H; exact H
  clear H
  have H := H1
  clear H1
  exact absurd H (by simp)
 subst c17
 have H1 : ((laws_toNet.f k a0_0 l0_1).bind fun bt836 => ((laws_eqNet.f k t824 t825 bt836.1 bt836.2).bind fun t840 => (if t840 = true then ((laws_toBoolS.f k l1).bind fun t841 => ((laws_eqBoolS.f k t829 t841).bind fun t844 => (if t844 = true then ((laws_markNet.f k t824 t825 1).bind fun bt845 => ((laws_markBoolS.f k t829 bt845.1).bind fun bt847 => (if bt847.1 < 0 then (laws_FnExactBridgeLines.j0 k l1 t821 t832 true a0_0 l0_1) else ((laws_eqIntS.f k t832 t821).bind fun t849 => (laws_FnExactBridgeLines.j0 k l1 t821 t832 (!t849) a0_0 l0_1))))) else (none)))) else (none)))) = some r := by rw [if_pos rfl] at H; exact H
 clear H
 have H := H1
 clear H1
 replace H := Option.bind_eq_some_iff.mp H
 obtain ⟨⟨t836, t837⟩, A180, H⟩ := H
 replace H : ((laws_eqNet.f k t824 t825 t836 t837).bind fun t840 => (if t840 = true then ((laws_toBoolS.f k l1).bind fun t841 => ((laws_eqBoolS.f k t829 t841).bind fun t844 => (if t844 = true then ((laws_markNet.f k t824 t825 1).bind fun bt845 => ((laws_markBoolS.f k t829 bt845.1).bind fun bt847 => (if bt847.1 < 0 then (laws_FnExactBridgeLines.j0 k l1 t821 t832 true a0_0 l0_1) else ((laws_eqIntS.f k t832 t821).bind fun t849 => (laws_FnExactBridgeLines.j0 k l1 t821 t832 (!t849) a0_0 l0_1))))) else (none)))) else (none))) = some r := H
 have A18 := Aside0.mk A180
 clear A180
 replace H := Option.bind_eq_some_iff.mp H
 obtain ⟨t840, A190, H⟩ := H
 replace H : (if t840 = true then ((laws_toBoolS.f k l1).bind fun t841 => ((laws_eqBoolS.f k t829 t841).bind fun t844 => (if t844 = true then ((laws_markNet.f k t824 t825 1).bind fun bt845 => ((laws_markBoolS.f k t829 bt845.1).bind fun bt847 => (if bt847.1 < 0 then (laws_FnExactBridgeLines.j0 k l1 t821 t832 true a0_0 l0_1) else ((laws_eqIntS.f k t832 t821).bind fun t849 => (laws_FnExactBridgeLines.j0 k l1 t821 t832 (!t849) a0_0 l0_1))))) else (none)))) else (none)) = some r := H
 have A19 := Aside0.mk A190
 clear A190
 by_cases c20 : t840 = true
 rotate_left
 ·
  replace c20 := Bool.eq_false_iff.mpr c20
  subst c20
  have H1 : (none) = some r := by rw [if_neg (show ¬ (false = true) by decide)] at H; exact H
  clear H
  have H := H1
  clear H1
  exact absurd H (by simp)
 subst c20
 have H1 : ((laws_toBoolS.f k l1).bind fun t841 => ((laws_eqBoolS.f k t829 t841).bind fun t844 => (if t844 = true then ((laws_markNet.f k t824 t825 1).bind fun bt845 => ((laws_markBoolS.f k t829 bt845.1).bind fun bt847 => (if bt847.1 < 0 then (laws_FnExactBridgeLines.j0 k l1 t821 t832 true a0_0 l0_1) else ((laws_eqIntS.f k t832 t821).bind fun t849 => (laws_FnExactBridgeLines.j0 k l1 t821 t832 (!t849) a0_0 l0_1))))) else (none)))) = some r := by rw [if_pos rfl] at H; exact H
 clear H
 have H := H1
 clear H1
 replace H := Option.bind_eq_some_iff.mp H
 obtain ⟨t841, A210, H⟩ := H
 replace H : ((laws_eqBoolS.f k t829 t841).bind fun t844 => (if t844 = true then ((laws_markNet.f k t824 t825 1).bind fun bt845 => ((laws_markBoolS.f k t829 bt845.1).bind fun bt847 => (if bt847.1 < 0 then (laws_FnExactBridgeLines.j0 k l1 t821 t832 true a0_0 l0_1) else ((laws_eqIntS.f k t832 t821).bind fun t849 => (laws_FnExactBridgeLines.j0 k l1 t821 t832 (!t849) a0_0 l0_1))))) else (none))) = some r := H
 have A21 := Aside0.mk A210
 clear A210
 replace H := Option.bind_eq_some_iff.mp H
 obtain ⟨t844, A220, H⟩ := H
 replace H : (if t844 = true then ((laws_markNet.f k t824 t825 1).bind fun bt845 => ((laws_markBoolS.f k t829 bt845.1).bind fun bt847 => (if bt847.1 < 0 then (laws_FnExactBridgeLines.j0 k l1 t821 t832 true a0_0 l0_1) else ((laws_eqIntS.f k t832 t821).bind fun t849 => (laws_FnExactBridgeLines.j0 k l1 t821 t832 (!t849) a0_0 l0_1))))) else (none)) = some r := H
 have A22 := Aside0.mk A220
 clear A220
 by_cases c23 : t844 = true
 rotate_left
 ·
  replace c23 := Bool.eq_false_iff.mpr c23
  subst c23
  have H1 : (none) = some r := by rw [if_neg (show ¬ (false = true) by decide)] at H; exact H
  clear H
  have H := H1
  clear H1
  exact absurd H (by simp)
 subst c23
 have H1 : ((laws_markNet.f k t824 t825 1).bind fun bt845 => ((laws_markBoolS.f k t829 bt845.1).bind fun bt847 => (if bt847.1 < 0 then (laws_FnExactBridgeLines.j0 k l1 t821 t832 true a0_0 l0_1) else ((laws_eqIntS.f k t832 t821).bind fun t849 => (laws_FnExactBridgeLines.j0 k l1 t821 t832 (!t849) a0_0 l0_1))))) = some r := by rw [if_pos rfl] at H; exact H
 clear H
 have H := H1
 clear H1
 replace H := Option.bind_eq_some_iff.mp H
 obtain ⟨⟨t845, t846⟩, A240, H⟩ := H
 replace H : ((laws_markBoolS.f k t829 t845).bind fun bt847 => (if bt847.1 < 0 then (laws_FnExactBridgeLines.j0 k l1 t821 t832 true a0_0 l0_1) else ((laws_eqIntS.f k t832 t821).bind fun t849 => (laws_FnExactBridgeLines.j0 k l1 t821 t832 (!t849) a0_0 l0_1)))) = some r := H
 have A24 := Aside0.mk A240
 clear A240
 replace H := Option.bind_eq_some_iff.mp H
 obtain ⟨⟨t847, t848⟩, A250, H⟩ := H
 replace H : (if t847 < 0 then (laws_FnExactBridgeLines.j0 k l1 t821 t832 true a0_0 l0_1) else ((laws_eqIntS.f k t832 t821).bind fun t849 => (laws_FnExactBridgeLines.j0 k l1 t821 t832 (!t849) a0_0 l0_1))) = some r := H
 have A25 := Aside0.mk A250
 clear A250
 have HC26 := Aside0.mk H
 clear H
 go_enter Try.func11, Try.ntmps11
 try go_wp2_with (first | ((with_reducible refine gate_dst (N := 2) rfl ?_); refine box_event ?hg (N := 2) ?hd (cs := #[.int .i64 a0_0, .slice A0_1 l0_1.length c0_1]) (t := 24) ?hr ?_; (case hd => rfl); (case hg => rfl); (case hr => first | (go_simp; done) | (go_simp; rfl)); intro gb812 hg w27 hbox hb; have n0_ := Aside0.mk (below_step (by repeat (first | (with_reducible first | exact HB.out | apply below_alloc | apply pw_below_drewN | apply below_drew1) | exact HB.out)) hb); have n1_ := Aside0.mk (hbox); have n2_ := Aside0.mk ((by rw [hg]; exact (below_size (by repeat (first | (with_reducible first | exact HB.out | apply below_alloc | apply pw_below_drewN | apply below_drew1) | exact HB.out))) : w.heap.size ≤ gb812)); have n3_ := Aside0.mk ((by rw [hg]; exact (below_size (by repeat (first | (with_reducible first | exact HB.out | apply below_alloc | apply pw_below_drewN | apply below_drew1) | exact HB.out))) : w.heap.size ≤ gb812)); clear HB; have HB := n0_; have BK812 := n1_; have GW812 := n2_; have GE812 := n3_; clear n0_ n1_ n2_ n3_; clear hb hbox hg; have hcz28_0 : w27.cell? ⟨gb812, 0, none⟩ = some (.int .i64 a0_0) := (blk_cell BK812.out 0).trans rfl; have hcz28_1 : w27.cell? ⟨gb812, 1, none⟩ = some (.slice A0_1 l0_1.length c0_1) := (blk_cell BK812.out 1).trans rfl; have hfz28_0 := blk_frozen BK812.out 0; have hfz28_1 := blk_frozen BK812.out 1) | ((with_reducible refine gate_callee (f := 14) rfl ?_); refine goesL_ (some 19) rfl rfl Try.func14 (by kernel_rfl) rfl #[.agg #[.int .i64 a0_0, .slice A0_1 l0_1.length c0_1], .int .i64 1048576] rfl (by (try simp only [List.map_toArray, List.map_cons, List.map_nil]); first | done | rfl | (simp only [List.length_drop, List.length_take]; rfl)) ?_; (with_reducible refine (laws_szNet.calls a0_0 _ _ l0_1 1048576 t813 _ ?side1 ?side2 A5.out).mono ?_); (case side1 => repeat (first | exact (Kd.C_below HR0_1.out HB.out) | (with_reducible refine Kd.C_alloc ?_ _) | (with_reducible refine Kd.C_drewN ?_ _) | (with_reducible refine Kd.C_drew ?_))); (case side2 => exact HC0_1.out); rintro e w29 ⟨rfl, hb⟩; refine ⟨_, rfl, ?_⟩; have n0_ := Aside0.mk (blk_below (g := gb812) (o := .cells #[.int .i64 a0_0, .slice A0_1 l0_1.length c0_1] 24 (0, 0)) (by (with_reducible repeat (first | refine blk_drewN ?_ _ | refine blk_drew ?_ | refine blk_alloc ?_ _)); exact BK812.out) hb); have n1_ := Aside0.mk (below_step (by repeat (first | (with_reducible first | exact HB.out | apply below_alloc | apply pw_below_drewN | apply below_drew1 | refine below_set ?_ GE812.out) | exact HB.out)) hb); clear BK812; clear HB; have BK812 := n0_; have HB := n1_; clear n0_ n1_; (try clear hb); (try clear hb2); (try clear hk); (try clear hi); have hcz30_0 : w29.cell? ⟨gb812, 0, none⟩ = some (.int .i64 a0_0) := (blk_cell BK812.out 0).trans rfl; have hcz30_1 : w29.cell? ⟨gb812, 1, none⟩ = some (.slice A0_1 l0_1.length c0_1) := (blk_cell BK812.out 1).trans rfl; have hfz30_0 := blk_frozen BK812.out 0; have hfz30_1 := blk_frozen BK812.out 1) | ((with_reducible refine gate_callee (f := 16) rfl ?_); refine goesL_ (some 23) rfl rfl Try.func16 (by kernel_rfl) rfl #[.agg #[.int .i64 a0_0, .slice A0_1 l0_1.length c0_1]] rfl (by (try simp only [List.map_toArray, List.map_cons, List.map_nil]); first | done | rfl | (simp only [List.length_drop, List.length_take]; rfl)) ?_; (with_reducible refine (laws_toNet.calls k a0_0 _ _ l0_1 t814 t815 _ ?side1 ?side2 A10.out).mono ?_); (case side1 => repeat (first | exact (Kd.C_below HR0_1.out HB.out) | (with_reducible refine Kd.C_alloc ?_ _) | (with_reducible refine Kd.C_drewN ?_ _) | (with_reducible refine Kd.C_drew ?_))); (case side2 => exact HC0_1.out); rintro e w31 ⟨v816, rfl, ho0, hb⟩; refine ⟨_, rfl, ?_⟩; have n0_ := Aside0.mk (Kd.R_lower ho0 (below_size (by repeat (first | (with_reducible first | exact HB.out | apply below_alloc | apply pw_below_drewN | apply below_drew1 | refine below_set ?_ GE812.out) | exact HB.out)))); have n1_ := Aside0.mk (blk_below (g := gb812) (o := .cells #[.int .i64 a0_0, .slice A0_1 l0_1.length c0_1] 24 (0, 0)) (by (with_reducible repeat (first | refine blk_drewN ?_ _ | refine blk_drew ?_ | refine blk_alloc ?_ _)); exact BK812.out) hb); have n2_ := Aside0.mk (below_step (by repeat (first | (with_reducible first | exact HB.out | apply below_alloc | apply pw_below_drewN | apply below_drew1 | refine below_set ?_ GE812.out) | exact HB.out)) hb); clear BK812; clear HB; have HO817 := n0_; have BK812 := n1_; have HB := n2_; clear n0_ n1_ n2_; (try clear hb); (try clear hb2); (try clear hk); (try clear hi); (try clear ho0)) | ((with_reducible refine gate_callee (f := 17) rfl ?_); refine goesL_ (some 25) rfl rfl Try.func17 (by kernel_rfl) rfl #[.slice A1 l1.length c1] rfl (by (try simp only [List.map_toArray, List.map_cons, List.map_nil]); first | done | rfl | (simp only [List.length_drop, List.length_take]; rfl)) ?_; (with_reducible refine (laws_toBoolS.calls k _ _ l1 t818 _ ?side1 ?side2 A11.out).mono ?_); (case side1 => repeat (first | exact (Kd.C_below HR1.out HB.out) | (with_reducible refine Kd.C_alloc ?_ _) | (with_reducible refine Kd.C_drewN ?_ _) | (with_reducible refine Kd.C_drew ?_))); (case side2 => exact HC1.out); rintro e w32 ⟨v819, rfl, ho0, hb⟩; refine ⟨_, rfl, ?_⟩; have n0_ := Aside0.mk (Kd.R_below (by (with_reducible repeat (first | apply Kd.R_alloc | apply Kd.R_drewN | apply Kd.R_drew)); exact HO817.out) hb); have n1_ := Aside0.mk (Kd.R_lower ho0 (below_size (by repeat (first | (with_reducible first | exact HB.out | apply below_alloc | apply pw_below_drewN | apply below_drew1 | refine below_set ?_ GE812.out) | exact HB.out)))); have n2_ := Aside0.mk (blk_below (g := gb812) (o := .cells #[.int .i64 a0_0, .slice A0_1 l0_1.length c0_1] 24 (0, 0)) (by (with_reducible repeat (first | refine blk_drewN ?_ _ | refine blk_drew ?_ | refine blk_alloc ?_ _)); exact BK812.out) hb); have n3_ := Aside0.mk (below_step (by repeat (first | (with_reducible first | exact HB.out | apply below_alloc | apply pw_below_drewN | apply below_drew1 | refine below_set ?_ GE812.out) | exact HB.out)) hb); clear HO817; clear BK812; clear HB; have HO817 := n0_; have HO820 := n1_; have BK812 := n2_; have HB := n3_; clear n0_ n1_ n2_ n3_; (try clear hb); (try clear hb2); (try clear hk); (try clear hi); (try clear ho0); obtain ⟨Ao33, co33, eo33⟩ := Kd.R_slice HO817.out; subst eo33; obtain ⟨Ao34, co34, eo34⟩ := Kd.R_slice HO820.out; subst eo34) | ((with_reducible refine gate_callee (f := 43) rfl ?_); refine goesL_ (some 26) rfl rfl Try.func43 (by kernel_rfl) rfl #[.agg #[.int .i64 t814, .slice Ao33 t815.length co33], .slice Ao34 t818.length co34] rfl (by (try simp only [List.map_toArray, List.map_cons, List.map_nil]); first | done | rfl | (simp only [List.length_drop, List.length_take]; rfl)) ?_; (with_reducible refine (spec_BridgeLines.calls k t814 _ _ t815 _ _ t818 t821 _ ?side1 ?side2 ?side3 ?side4 A12.out).mono ?_); (case side1 => repeat (first | exact (Kd.R_reads' HO817.out).2.2 | (with_reducible refine Kd.C_alloc ?_ _) | (with_reducible refine Kd.C_drewN ?_ _) | (with_reducible refine Kd.C_drew ?_))); (case side2 => exact (Kd.R_reads' HO817.out).2.1); (case side3 => repeat (first | exact (Kd.R_reads' HO820.out).2.2 | (with_reducible refine Kd.C_alloc ?_ _) | (with_reducible refine Kd.C_drewN ?_ _) | (with_reducible refine Kd.C_drew ?_))); (case side4 => exact (Kd.R_reads' HO820.out).2.1); rintro e w35 ⟨v822, rfl, ho0, hb⟩; refine ⟨_, rfl, ?_⟩; have n0_ := Aside0.mk (Kd.R_below (by (with_reducible repeat (first | apply Kd.R_alloc | apply Kd.R_drewN | apply Kd.R_drew)); exact HO817.out) hb); have n1_ := Aside0.mk (Kd.R_below (by (with_reducible repeat (first | apply Kd.R_alloc | apply Kd.R_drewN | apply Kd.R_drew)); exact HO820.out) hb); have n2_ := Aside0.mk (Kd.R_lower ho0 (below_size (by repeat (first | (with_reducible first | exact HB.out | apply below_alloc | apply pw_below_drewN | apply below_drew1 | refine below_set ?_ GE812.out) | exact HB.out)))); have n3_ := Aside0.mk (blk_below (g := gb812) (o := .cells #[.int .i64 a0_0, .slice A0_1 l0_1.length c0_1] 24 (0, 0)) (by (with_reducible repeat (first | refine blk_drewN ?_ _ | refine blk_drew ?_ | refine blk_alloc ?_ _)); exact BK812.out) hb); have n4_ := Aside0.mk (below_step (by repeat (first | (with_reducible first | exact HB.out | apply below_alloc | apply pw_below_drewN | apply below_drew1 | refine below_set ?_ GE812.out) | exact HB.out)) hb); clear HO817; clear HO820; clear BK812; clear HB; have HO817 := n0_; have HO820 := n1_; have HO823 := n2_; have BK812 := n3_; have HB := n4_; clear n0_ n1_ n2_ n3_ n4_; (try clear hb); (try clear hb2); (try clear hk); (try clear hi); (try clear ho0); have hcz36_0 : w35.cell? ⟨gb812, 0, none⟩ = some (.int .i64 a0_0) := (blk_cell BK812.out 0).trans rfl; have hcz36_1 : w35.cell? ⟨gb812, 1, none⟩ = some (.slice A0_1 l0_1.length c0_1) := (blk_cell BK812.out 1).trans rfl; have hfz36_0 := blk_frozen BK812.out 0; have hfz36_1 := blk_frozen BK812.out 1) | ((with_reducible refine gate_callee (f := 16) rfl ?_); refine goesL_ (some 28) rfl rfl Try.func16 (by kernel_rfl) rfl #[.agg #[.int .i64 a0_0, .slice A0_1 l0_1.length c0_1]] rfl (by (try simp only [List.map_toArray, List.map_cons, List.map_nil]); first | done | rfl | (simp only [List.length_drop, List.length_take]; rfl)) ?_; (with_reducible refine (laws_toNet.calls k a0_0 _ _ l0_1 t824 t825 _ ?side1 ?side2 A13.out).mono ?_); (case side1 => repeat (first | exact (Kd.C_below HR0_1.out HB.out) | (with_reducible refine Kd.C_alloc ?_ _) | (with_reducible refine Kd.C_drewN ?_ _) | (with_reducible refine Kd.C_drew ?_))); (case side2 => exact HC0_1.out); rintro e w37 ⟨v826, rfl, ho0, hb⟩; refine ⟨_, rfl, ?_⟩; have n0_ := Aside0.mk (Kd.R_elder' (by (with_reducible repeat (first | apply Kd.R_alloc | apply Kd.R_drewN | apply Kd.R_drew)); exact HO817.out) (Kd.R_base ho0) hb); have n1_ := Aside0.mk (Kd.R_below (by (with_reducible repeat (first | apply Kd.R_alloc | apply Kd.R_drewN | apply Kd.R_drew)); exact HO820.out) hb); have n2_ := Aside0.mk (Kd.R_below (by (with_reducible repeat (first | apply Kd.R_alloc | apply Kd.R_drewN | apply Kd.R_drew)); exact HO823.out) hb); have n3_ := Aside0.mk (Kd.R_lower (Kd.R_new' ho0 (Kd.R_lt (by (with_reducible repeat (first | apply Kd.R_alloc | apply Kd.R_drewN | apply Kd.R_drew)); exact HO817.out))) (below_size (by repeat (first | (with_reducible first | exact HB.out | apply below_alloc | apply pw_below_drewN | apply below_drew1 | refine below_set ?_ GE812.out) | exact HB.out)))); have n4_ := Aside0.mk (blk_below (g := gb812) (o := .cells #[.int .i64 a0_0, .slice A0_1 l0_1.length c0_1] 24 (0, 0)) (by (with_reducible repeat (first | refine blk_drewN ?_ _ | refine blk_drew ?_ | refine blk_alloc ?_ _)); exact BK812.out) hb); have n5_ := Aside0.mk (below_step (by repeat (first | (with_reducible first | exact HB.out | apply below_alloc | apply pw_below_drewN | apply below_drew1 | refine below_set ?_ GE812.out) | exact HB.out)) hb); clear HO817; clear HO820; clear HO823; clear BK812; clear HB; have HO817 := n0_; have HO820 := n1_; have HO823 := n2_; have HO827 := n3_; have BK812 := n4_; have HB := n5_; clear n0_ n1_ n2_ n3_ n4_ n5_; (try clear hb); (try clear hb2); (try clear hk); (try clear hi); (try clear ho0)) | ((with_reducible refine gate_dst (N := 7) rfl ?_); refine box_event ?hg (N := 7) ?hd (cs := #[.int .i64 0, .slice none 0 0]) (t := 30) ?hr ?_; (case hd => rfl); (case hg => rfl); (case hr => first | (go_simp; done) | (go_simp; rfl)); intro gb828 hg w38 hbox hb; have n0_ := Aside0.mk (Kd.R_below (by (with_reducible repeat (first | apply Kd.R_alloc | apply Kd.R_drewN | apply Kd.R_drew)); exact HO817.out) hb); have n1_ := Aside0.mk (Kd.R_below (by (with_reducible repeat (first | apply Kd.R_alloc | apply Kd.R_drewN | apply Kd.R_drew)); exact HO820.out) hb); have n2_ := Aside0.mk (Kd.R_below (by (with_reducible repeat (first | apply Kd.R_alloc | apply Kd.R_drewN | apply Kd.R_drew)); exact HO823.out) hb); have n3_ := Aside0.mk (Kd.R_below (by (with_reducible repeat (first | apply Kd.R_alloc | apply Kd.R_drewN | apply Kd.R_drew)); exact HO827.out) hb); have n4_ := Aside0.mk (blk_below (g := gb812) (o := .cells #[.int .i64 a0_0, .slice A0_1 l0_1.length c0_1] 24 (0, 0)) (by (with_reducible repeat (first | refine blk_drewN ?_ _ | refine blk_drew ?_ | refine blk_alloc ?_ _)); exact BK812.out) hb); have n5_ := Aside0.mk (below_step (by repeat (first | (with_reducible first | exact HB.out | apply below_alloc | apply pw_below_drewN | apply below_drew1 | refine below_set ?_ GE812.out) | exact HB.out)) hb); have n6_ := Aside0.mk (hbox); have n7_ := Aside0.mk ((by rw [hg]; exact (below_size (by repeat (first | (with_reducible first | exact HB.out | apply below_alloc | apply pw_below_drewN | apply below_drew1 | refine below_set ?_ GE812.out) | exact HB.out))) : w.heap.size ≤ gb828)); have n8_ := Aside0.mk ((by rw [hg]; exact (below_size (by repeat (first | (with_reducible first | exact HB.out | apply below_alloc | apply pw_below_drewN | apply below_drew1 | refine below_set ?_ GE812.out) | exact HB.out))) : w.heap.size ≤ gb828)); have n9_ := Aside0.mk ((by rw [hg]; exact Nat.ne_of_lt (blk_lt (g := gb812) (o := .cells #[.int .i64 a0_0, .slice A0_1 l0_1.length c0_1] 24 (0, 0)) (by (with_reducible repeat (first | refine blk_drewN ?_ _ | refine blk_drew ?_ | refine blk_alloc ?_ _)); exact BK812.out)) : gb812 ≠ gb828)); have n10_ := Aside0.mk ((by rw [hg]; exact Nat.ne_of_gt (blk_lt (g := gb812) (o := .cells #[.int .i64 a0_0, .slice A0_1 l0_1.length c0_1] 24 (0, 0)) (by (with_reducible repeat (first | refine blk_drewN ?_ _ | refine blk_drew ?_ | refine blk_alloc ?_ _)); exact BK812.out)) : gb828 ≠ gb812)); clear HO817; clear HO820; clear HO823; clear HO827; clear BK812; clear HB; have HO817 := n0_; have HO820 := n1_; have HO823 := n2_; have HO827 := n3_; have BK812 := n4_; have HB := n5_; have BK828 := n6_; have GW828 := n7_; have GE828 := n8_; have NB812_828 := n9_; have NB828_812 := n10_; clear n0_ n1_ n2_ n3_ n4_ n5_ n6_ n7_ n8_ n9_ n10_; clear hb hbox hg; have hnb39 := NB828_812.out; have hnc39 := NB812_828.out; have hcz40_0 : w38.cell? ⟨gb828, 0, none⟩ = some (.int .i64 0) := (blk_cell BK828.out 0).trans rfl; have hcz40_1 : w38.cell? ⟨gb828, 1, none⟩ = some (.slice none 0 0) := (blk_cell BK828.out 1).trans rfl; have hfz40_0 := blk_frozen BK828.out 0; have hfz40_1 := blk_frozen BK828.out 1; obtain ⟨Ao41, co41, eo41⟩ := Kd.R_slice HO827.out; subst eo41) | ((with_reducible refine gate_callee (f := 17) rfl ?_); refine goesL_ (some 30) rfl rfl Try.func17 (by kernel_rfl) rfl #[.slice A1 l1.length c1] rfl (by (try simp only [List.map_toArray, List.map_cons, List.map_nil]); first | done | rfl | (simp only [List.length_drop, List.length_take]; rfl)) ?_; (with_reducible refine (laws_toBoolS.calls k _ _ l1 t829 _ ?side1 ?side2 A14.out).mono ?_); (case side1 => exact Kd.C_below HR1.out (by repeat (first | (with_reducible first | exact HB.out | apply below_alloc | apply pw_below_drewN | apply below_drew1 | refine below_set ?_ GE812.out | refine below_set ?_ GE828.out) | exact HB.out))); (case side2 => exact HC1.out); rintro e w42 ⟨v830, rfl, ho0, hb⟩; refine ⟨_, rfl, ?_⟩; have n0_ := Aside0.mk (Kd.R_below (by (with_reducible repeat (first | apply Kd.R_alloc | apply Kd.R_drewN | apply Kd.R_drew)); exact (Kd.R_mono (Kd.R_far (p := ⟨gb828, 1, none⟩) (Kd.R_far (p := ⟨gb828, 0, none⟩) (Kd.R_types HO817.out BK828.out (by decide)) (fun _ hk => hk.2) (.int .i64 t824)) (fun _ hk => hk.2) (.slice Ao41 t825.length co41)) (fun _ h_ => h_.1))) hb); have n1_ := Aside0.mk (Kd.R_elder' (by (with_reducible repeat (first | apply Kd.R_alloc | apply Kd.R_drewN | apply Kd.R_drew)); exact (Kd.R_mono (Kd.R_far (p := ⟨gb828, 1, none⟩) (Kd.R_far (p := ⟨gb828, 0, none⟩) (Kd.R_types HO820.out BK828.out (by decide)) (fun _ hk => hk.2) (.int .i64 t824)) (fun _ hk => hk.2) (.slice Ao41 t825.length co41)) (fun _ h_ => h_.1))) (Kd.R_base ho0) hb); have n2_ := Aside0.mk (Kd.R_below (by (with_reducible repeat (first | apply Kd.R_alloc | apply Kd.R_drewN | apply Kd.R_drew)); exact (Kd.R_mono (Kd.R_far (p := ⟨gb828, 1, none⟩) (Kd.R_far (p := ⟨gb828, 0, none⟩) (Kd.R_types HO823.out BK828.out (by decide)) (fun _ hk => hk.2) (.int .i64 t824)) (fun _ hk => hk.2) (.slice Ao41 t825.length co41)) (fun _ h_ => h_.1))) hb); have n3_ := Aside0.mk (Kd.R_below (by (with_reducible repeat (first | apply Kd.R_alloc | apply Kd.R_drewN | apply Kd.R_drew)); exact (Kd.R_mono (Kd.R_far (p := ⟨gb828, 1, none⟩) (Kd.R_far (p := ⟨gb828, 0, none⟩) (Kd.R_types HO827.out BK828.out (by decide)) (fun _ hk => hk.2) (.int .i64 t824)) (fun _ hk => hk.2) (.slice Ao41 t825.length co41)) (fun _ h_ => h_.1))) hb); have n4_ := Aside0.mk (Kd.R_lower (Kd.R_new' ho0 (Kd.R_lt (by (with_reducible repeat (first | apply Kd.R_alloc | apply Kd.R_drewN | apply Kd.R_drew)); exact (Kd.R_mono (Kd.R_far (p := ⟨gb828, 1, none⟩) (Kd.R_far (p := ⟨gb828, 0, none⟩) (Kd.R_types HO820.out BK828.out (by decide)) (fun _ hk => hk.2) (.int .i64 t824)) (fun _ hk => hk.2) (.slice Ao41 t825.length co41)) (fun _ h_ => h_.1))))) (below_size (by repeat (first | (with_reducible first | exact HB.out | apply below_alloc | apply pw_below_drewN | apply below_drew1 | refine below_set ?_ GE812.out | refine below_set ?_ GE828.out) | exact HB.out)))); have n5_ := Aside0.mk (blk_below (g := gb812) (o := .cells #[.int .i64 a0_0, .slice A0_1 l0_1.length c0_1] 24 (0, 0)) (by (with_reducible repeat (first | refine blk_drewN ?_ _ | refine blk_drew ?_ | refine blk_alloc ?_ _)); refine blk_far ?_ NB812_828.out _; (with_reducible repeat (first | refine blk_drewN ?_ _ | refine blk_drew ?_ | refine blk_alloc ?_ _)); refine blk_far ?_ NB812_828.out _; (with_reducible repeat (first | refine blk_drewN ?_ _ | refine blk_drew ?_ | refine blk_alloc ?_ _)); exact BK812.out) hb); have n6_ := Aside0.mk (blk_below (g := gb828) (o := .cells #[.int .i64 t824, .slice Ao41 t825.length co41] 30 (0, 0)) (by (with_reducible repeat (first | refine blk_drewN ?_ _ | refine blk_drew ?_ | refine blk_alloc ?_ _)); refine blk_put (cs := #[.int .i64 t824, .slice none 0 0]) ?_ 1 _ rfl; (with_reducible repeat (first | refine blk_drewN ?_ _ | refine blk_drew ?_ | refine blk_alloc ?_ _)); refine blk_put (cs := #[.int .i64 0, .slice none 0 0]) ?_ 0 _ rfl; (with_reducible repeat (first | refine blk_drewN ?_ _ | refine blk_drew ?_ | refine blk_alloc ?_ _)); exact BK828.out) hb); have n7_ := Aside0.mk (below_step (by repeat (first | (with_reducible first | exact HB.out | apply below_alloc | apply pw_below_drewN | apply below_drew1 | refine below_set ?_ GE812.out | refine below_set ?_ GE828.out) | exact HB.out)) hb); clear HO817; clear HO820; clear HO823; clear HO827; clear BK812; clear BK828; clear HB; have HO817 := n0_; have HO820 := n1_; have HO823 := n2_; have HO827 := n3_; have HO831 := n4_; have BK812 := n5_; have BK828 := n6_; have HB := n7_; clear n0_ n1_ n2_ n3_ n4_ n5_ n6_ n7_; (try clear hb); (try clear hb2); (try clear hk); (try clear hi); (try clear ho0); have hcz43_0 : w42.cell? ⟨gb828, 0, none⟩ = some (.int .i64 t824) := (blk_cell BK828.out 0).trans rfl; have hcz43_1 : w42.cell? ⟨gb828, 1, none⟩ = some (.slice Ao41 t825.length co41) := (blk_cell BK828.out 1).trans rfl; have hfz43_0 := blk_frozen BK828.out 0; have hfz43_1 := blk_frozen BK828.out 1; obtain ⟨Ao44, co44, eo44⟩ := Kd.R_slice HO831.out; subst eo44) | ((with_reducible refine gate_callee (f := 44) rfl ?_); refine goesL_ (some 33) rfl rfl Try.func44 (by kernel_rfl) rfl #[.agg #[.int .i64 t824, .slice Ao41 t825.length co41], .slice Ao44 t829.length co44] rfl (by (try simp only [List.map_toArray, List.map_cons, List.map_nil]); first | done | rfl | (simp only [List.length_drop, List.length_take]; rfl)) ?_; (with_reducible refine (impl_BridgeLines.calls k t824 _ _ t825 _ _ t829 t832 _ ?side1 ?side2 ?side3 ?side4 A15.out).mono ?_); (case side1 => repeat (first | exact (Kd.R_reads' HO827.out).2.2 | (with_reducible refine Kd.C_alloc ?_ _) | (with_reducible refine Kd.C_drewN ?_ _) | (with_reducible refine Kd.C_drew ?_))); (case side2 => exact (Kd.R_reads' HO827.out).2.1); (case side3 => repeat (first | exact (Kd.R_reads' HO831.out).2.2 | (with_reducible refine Kd.C_alloc ?_ _) | (with_reducible refine Kd.C_drewN ?_ _) | (with_reducible refine Kd.C_drew ?_))); (case side4 => exact (Kd.R_reads' HO831.out).2.1); rintro e w45 ⟨v833, rfl, ho0, hb⟩; refine ⟨_, rfl, ?_⟩; have n0_ := Aside0.mk (Kd.R_below (by (with_reducible repeat (first | apply Kd.R_alloc | apply Kd.R_drewN | apply Kd.R_drew)); exact HO817.out) hb); have n1_ := Aside0.mk (Kd.R_below (by (with_reducible repeat (first | apply Kd.R_alloc | apply Kd.R_drewN | apply Kd.R_drew)); exact HO820.out) hb); have n2_ := Aside0.mk (Kd.R_elder' (by (with_reducible repeat (first | apply Kd.R_alloc | apply Kd.R_drewN | apply Kd.R_drew)); exact HO823.out) (Kd.R_base ho0) hb); have n3_ := Aside0.mk (Kd.R_below (by (with_reducible repeat (first | apply Kd.R_alloc | apply Kd.R_drewN | apply Kd.R_drew)); exact HO827.out) hb); have n4_ := Aside0.mk (Kd.R_below (by (with_reducible repeat (first | apply Kd.R_alloc | apply Kd.R_drewN | apply Kd.R_drew)); exact HO831.out) hb); have n5_ := Aside0.mk (Kd.R_lower (Kd.R_new' ho0 (Kd.R_lt (by (with_reducible repeat (first | apply Kd.R_alloc | apply Kd.R_drewN | apply Kd.R_drew)); exact HO823.out))) (below_size (by repeat (first | (with_reducible first | exact HB.out | apply below_alloc | apply pw_below_drewN | apply below_drew1 | refine below_set ?_ GE812.out | refine below_set ?_ GE828.out) | exact HB.out)))); have n6_ := Aside0.mk (blk_below (g := gb812) (o := .cells #[.int .i64 a0_0, .slice A0_1 l0_1.length c0_1] 24 (0, 0)) (by (with_reducible repeat (first | refine blk_drewN ?_ _ | refine blk_drew ?_ | refine blk_alloc ?_ _)); exact BK812.out) hb); have n7_ := Aside0.mk (blk_below (g := gb828) (o := .cells #[.int .i64 t824, .slice Ao41 t825.length co41] 30 (0, 0)) (by (with_reducible repeat (first | refine blk_drewN ?_ _ | refine blk_drew ?_ | refine blk_alloc ?_ _)); exact BK828.out) hb); have n8_ := Aside0.mk (below_step (by repeat (first | (with_reducible first | exact HB.out | apply below_alloc | apply pw_below_drewN | apply below_drew1 | refine below_set ?_ GE812.out | refine below_set ?_ GE828.out) | exact HB.out)) hb); clear HO817; clear HO820; clear HO823; clear HO827; clear HO831; clear BK812; clear BK828; clear HB; have HO817 := n0_; have HO820 := n1_; have HO823 := n2_; have HO827 := n3_; have HO831 := n4_; have HO834 := n5_; have BK812 := n6_; have BK828 := n7_; have HB := n8_; clear n0_ n1_ n2_ n3_ n4_ n5_ n6_ n7_ n8_; (try clear hb); (try clear hb2); (try clear hk); (try clear hi); (try clear ho0); obtain ⟨Ao46, co46, eo46⟩ := Kd.R_slice HO834.out; subst eo46; obtain ⟨Ao47, co47, eo47⟩ := Kd.R_slice HO823.out; subst eo47) | ((with_reducible refine gate_callee (f := 25) rfl ?_); refine goesL_ (some 36) rfl rfl Try.func25 (by kernel_rfl) rfl #[.slice Ao46 t832.length co46, .slice Ao47 t821.length co47] rfl (by (try simp only [List.map_toArray, List.map_cons, List.map_nil]); first | done | rfl | (simp only [List.length_drop, List.length_take]; rfl)) ?_; (with_reducible refine (laws_eqIntS.calls k _ _ t832 _ _ t821 true _ ?side1 ?side2 ?side3 ?side4 A16.out).mono ?_); (case side1 => repeat (first | exact (Kd.R_reads' HO834.out).2.2 | (with_reducible refine Kd.C_alloc ?_ _) | (with_reducible refine Kd.C_drewN ?_ _) | (with_reducible refine Kd.C_drew ?_))); (case side2 => exact (Kd.R_reads' HO834.out).2.1); (case side3 => repeat (first | exact (Kd.R_reads' HO823.out).2.2 | (with_reducible refine Kd.C_alloc ?_ _) | (with_reducible refine Kd.C_drewN ?_ _) | (with_reducible refine Kd.C_drew ?_))); (case side4 => exact (Kd.R_reads' HO823.out).2.1); rintro e w' ⟨rfl, ⟨nd, rfl⟩⟩; refine ⟨_, rfl, ?_⟩))
 (try (rw [drewN_self w45]; generalize hq_ : World.drewN w45 _ = w45; have n0_ : Aside0 (Kd.R k73 73 w45 w.heap.size (fun k_ => (True ∧ some k_ ≠ (.slice Ao41 t825.length co41 : Value).ownBlock)) (.slice Ao33 t815.length co33) t815) := ⟨by rw [← hq_]; exact (by (with_reducible repeat (first | apply Kd.R_alloc | apply Kd.R_drewN | apply Kd.R_drew)); exact HO817.out)⟩; have n1_ : Aside0 (Kd.R Kd.bool 4 w45 w.heap.size (fun k_ => (True ∧ some k_ ≠ (.slice Ao44 t829.length co44 : Value).ownBlock)) (.slice Ao34 t818.length co34) t818) := ⟨by rw [← hq_]; exact (by (with_reducible repeat (first | apply Kd.R_alloc | apply Kd.R_drewN | apply Kd.R_drew)); exact HO820.out)⟩; have n2_ : Aside0 (Kd.R (Kd.int .i64) 3 w45 w.heap.size (fun k_ => (True ∧ some k_ ≠ (.slice Ao46 t832.length co46 : Value).ownBlock)) (.slice Ao47 t821.length co47) t821) := ⟨by rw [← hq_]; exact (by (with_reducible repeat (first | apply Kd.R_alloc | apply Kd.R_drewN | apply Kd.R_drew)); exact HO823.out)⟩; have n3_ : Aside0 (Kd.R k73 73 w45 w.heap.size (fun k_ => (True ∧ some k_ ≠ (.slice Ao33 t815.length co33 : Value).ownBlock)) (.slice Ao41 t825.length co41) t825) := ⟨by rw [← hq_]; exact (by (with_reducible repeat (first | apply Kd.R_alloc | apply Kd.R_drewN | apply Kd.R_drew)); exact HO827.out)⟩; have n4_ : Aside0 (Kd.R Kd.bool 4 w45 w.heap.size (fun k_ => (True ∧ some k_ ≠ (.slice Ao34 t818.length co34 : Value).ownBlock)) (.slice Ao44 t829.length co44) t829) := ⟨by rw [← hq_]; exact (by (with_reducible repeat (first | apply Kd.R_alloc | apply Kd.R_drewN | apply Kd.R_drew)); exact HO831.out)⟩; have n5_ : Aside0 (Kd.R (Kd.int .i64) 3 w45 w.heap.size (fun k_ => (True ∧ some k_ ≠ (.slice Ao47 t821.length co47 : Value).ownBlock)) (.slice Ao46 t832.length co46) t832) := ⟨by rw [← hq_]; exact (by (with_reducible repeat (first | apply Kd.R_alloc | apply Kd.R_drewN | apply Kd.R_drew)); exact HO834.out)⟩; have n6_ : Aside0 (w45.heap[gb812]? = some (.cells #[.int .i64 a0_0, .slice A0_1 l0_1.length c0_1] 24 (0, 0))) := ⟨by rw [← hq_]; exact (by (with_reducible repeat (first | refine blk_drewN ?_ _ | refine blk_drew ?_ | refine blk_alloc ?_ _)); exact BK812.out)⟩; have n7_ : Aside0 (w45.heap[gb828]? = some (.cells #[.int .i64 t824, .slice Ao41 t825.length co41] 30 (0, 0))) := ⟨by rw [← hq_]; exact (by (with_reducible repeat (first | refine blk_drewN ?_ _ | refine blk_drew ?_ | refine blk_alloc ?_ _)); exact BK828.out)⟩; have n8_ : Aside0 (Below w.heap.size w w45) := ⟨by rw [← hq_]; exact (by repeat (first | (with_reducible first | exact HB.out | apply below_alloc | apply pw_below_drewN | apply below_drew1 | refine below_set ?_ GE812.out | refine below_set ?_ GE828.out) | exact HB.out))⟩; clear HO817 HO820 HO823 HO827 HO831 HO834 BK812 BK828 HB hq_; have HO817 := n0_; have HO820 := n1_; have HO823 := n2_; have HO827 := n3_; have HO831 := n4_; have HO834 := n5_; have BK812 := n6_; have BK828 := n7_; have HB := n8_; clear n0_ n1_ n2_ n3_ n4_ n5_ n6_ n7_ n8_))
 have n0_ := Aside0.mk (Kd.R_drew HO817.out)
 have n1_ := Aside0.mk (Kd.R_drew HO820.out)
 have n2_ := Aside0.mk (Kd.R_drew HO823.out)
 have n3_ := Aside0.mk (Kd.R_drew HO827.out)
 have n4_ := Aside0.mk (Kd.R_drew HO831.out)
 have n5_ := Aside0.mk (Kd.R_drew HO834.out)
 have n6_ := Aside0.mk (blk_drew BK812.out)
 have n7_ := Aside0.mk (blk_drew BK828.out)
 have n8_ := Aside0.mk (below_drew1 HB.out)
 clear HO817
 clear HO820
 clear HO823
 clear HO827
 clear HO831
 clear HO834
 clear BK812
 clear BK828
 clear HB
 have HO817 := n0_
 have HO820 := n1_
 have HO823 := n2_
 have HO827 := n3_
 have HO831 := n4_
 have HO834 := n5_
 have BK812 := n6_
 have BK828 := n7_
 have HB := n8_
 clear n0_ n1_ n2_ n3_ n4_ n5_ n6_ n7_ n8_
 refine start_ (n := 5) (S := fun w' => w'.cell? ⟨gb828, 0, none⟩ = some (.int .i64 t824) ∧ w'.cell? ⟨gb828, 1, none⟩ = some (.slice Ao41 t825.length co41) ∧ w'.cell? ⟨gb812, 0, none⟩ = some (.int .i64 a0_0) ∧ w'.cell? ⟨gb812, 1, none⟩ = some (.slice A0_1 l0_1.length c0_1)) (ds := []) #[false, false, false, false, false] (by kernel_rfl) rfl rfl ⟨(blk_cell BK828.out 0).trans rfl, (blk_cell BK828.out 1).trans rfl, (blk_cell BK812.out 0).trans rfl, (blk_cell BK812.out 1).trans rfl⟩ (fun hHeld => ?_)
 generalize w45.drew = w48 at HO817 HO820 HO823 HO827 HO831 HO834 BK812 BK828 HB hHeld ⊢
 refine take_ (i := 0) (N := some 38) (v := ?_) (a' := ?_) #[true, false, false, false, false] rfl rfl (by kernel_rfl) (fun _ _ _ h => h) (Or.inl ⟨by rfl, ?_⟩) hHeld ?_ ?_
 rotate_left
 ·
  rintro w' ⟨s0, s1, s2, s3⟩
  go_simp
  with_reducible rfl
 rotate_left
 ·
  simp only [Act.put, List.setIfInBounds_toArray, List.set_cons_zero, List.set_cons_succ, i64_w, i32_w]
  rfl
 refine take_ (i := 1) (N := some 39) (v := ?_) (a' := ?_) #[true, true, false, false, false] rfl rfl (by kernel_rfl) (fun _ _ _ h => h) (Or.inl ⟨by rfl, ?_⟩) hHeld ?_ ?_
 rotate_left
 ·
  rintro w' ⟨s0, s1, s2, s3⟩
  go_simp
  with_reducible rfl
 rotate_left
 ·
  simp only [Act.put, List.setIfInBounds_toArray, List.set_cons_zero, List.set_cons_succ, i64_w, i32_w]
  rfl
 refine one_ (i := 2) (N := some 40) #[true, true, true, false, false] rfl rfl (by kernel_rfl) (by decide) (fun K hK => ?_)
 refine goes_ Try.func16 (by kernel_rfl) rfl #[.agg #[.int .i64 a0_0, .slice A0_1 l0_1.length c0_1]] (by rfl) rfl rfl (by (try simp only [List.map_toArray, List.map_cons, List.map_nil]); first | done | rfl | (simp only [List.length_drop, List.length_take]; rfl)) ?_
 with_reducible refine (laws_toNet.calls k a0_0 _ _ l0_1 t836 t837 _ ?side1 ?side2 A18.out).mono ?_
 (case side1 => repeat (first | exact (Kd.C_below HR0_1.out HB.out) | (with_reducible refine Kd.C_alloc ?_ _) | (with_reducible refine Kd.C_drewN ?_ _) | (with_reducible refine Kd.C_drew ?_)))
 (case side2 => exact HC0_1.out)
 rintro e w49 ⟨v838, rfl, ho0, hb⟩
 refine ⟨_, rfl, ?_⟩
 have n0_ := Aside0.mk (Kd.R_elder' (by (with_reducible repeat (first | apply Kd.R_alloc | apply Kd.R_drewN | apply Kd.R_drew)); exact HO817.out) (Kd.R_base ho0) hb)
 have n1_ := Aside0.mk (Kd.R_below (by (with_reducible repeat (first | apply Kd.R_alloc | apply Kd.R_drewN | apply Kd.R_drew)); exact HO820.out) hb)
 have n2_ := Aside0.mk (Kd.R_below (by (with_reducible repeat (first | apply Kd.R_alloc | apply Kd.R_drewN | apply Kd.R_drew)); exact HO823.out) hb)
 have n3_ := Aside0.mk (Kd.R_elder' (by (with_reducible repeat (first | apply Kd.R_alloc | apply Kd.R_drewN | apply Kd.R_drew)); exact HO827.out) (Kd.R_base ho0) hb)
 have n4_ := Aside0.mk (Kd.R_below (by (with_reducible repeat (first | apply Kd.R_alloc | apply Kd.R_drewN | apply Kd.R_drew)); exact HO831.out) hb)
 have n5_ := Aside0.mk (Kd.R_below (by (with_reducible repeat (first | apply Kd.R_alloc | apply Kd.R_drewN | apply Kd.R_drew)); exact HO834.out) hb)
 have n6_ := Aside0.mk (Kd.R_lower (Kd.R_new' (Kd.R_new' ho0 (Kd.R_lt (by (with_reducible repeat (first | apply Kd.R_alloc | apply Kd.R_drewN | apply Kd.R_drew)); exact HO817.out))) (Kd.R_lt (by (with_reducible repeat (first | apply Kd.R_alloc | apply Kd.R_drewN | apply Kd.R_drew)); exact HO827.out))) (below_size (by repeat (first | (with_reducible first | exact HB.out | apply below_alloc | apply pw_below_drewN | apply below_drew1 | refine below_set ?_ GE812.out | refine below_set ?_ GE828.out) | exact HB.out))))
 have n7_ := Aside0.mk (blk_below (g := gb812) (o := .cells #[.int .i64 a0_0, .slice A0_1 l0_1.length c0_1] 24 (0, 0)) (by (with_reducible repeat (first | refine blk_drewN ?_ _ | refine blk_drew ?_ | refine blk_alloc ?_ _)); exact BK812.out) hb)
 have n8_ := Aside0.mk (blk_below (g := gb828) (o := .cells #[.int .i64 t824, .slice Ao41 t825.length co41] 30 (0, 0)) (by (with_reducible repeat (first | refine blk_drewN ?_ _ | refine blk_drew ?_ | refine blk_alloc ?_ _)); exact BK828.out) hb)
 have n9_ := Aside0.mk (below_step (by repeat (first | (with_reducible first | exact HB.out | apply below_alloc | apply pw_below_drewN | apply below_drew1 | refine below_set ?_ GE812.out | refine below_set ?_ GE828.out) | exact HB.out)) hb)
 clear HO817
 clear HO820
 clear HO823
 clear HO827
 clear HO831
 clear HO834
 clear BK812
 clear BK828
 clear HB
 have HO817 := n0_
 have HO820 := n1_
 have HO823 := n2_
 have HO827 := n3_
 have HO831 := n4_
 have HO834 := n5_
 have HO839 := n6_
 have BK812 := n7_
 have BK828 := n8_
 have HB := n9_
 clear n0_ n1_ n2_ n3_ n4_ n5_ n6_ n7_ n8_ n9_
 (try clear hb)
 (try clear hb2)
 (try clear hk)
 (try clear hi)
 (try clear ho0)
 obtain ⟨Ao50, co50, eo50⟩ := Kd.R_slice HO839.out
 (first | subst eo50 | (injection eo50 with f1_ f2_ f3_; have f4_ := f1_.symm; have f5_ := f3_.symm; clear f1_ f2_ f3_; subst f4_; subst f5_))
 refine hK.out _ _ ⟨(blk_cell BK828.out 0).trans rfl, (blk_cell BK828.out 1).trans rfl, (blk_cell BK812.out 0).trans rfl, (blk_cell BK812.out 1).trans rfl⟩ (fun hHeld => ?_)
 clear hK K
 refine norm_ (a' := ?_) ?_ ?_
 rotate_left
 ·
  show Act.put _ (some 40) _ = _
  simp only [Act.put, List.setIfInBounds_toArray, List.set_cons_zero, List.set_cons_succ, i64_w, i32_w]
  rfl
 refine one_ (i := 3) (N := some 41) #[true, true, true, true, false] rfl rfl (by kernel_rfl) (by decide) (fun K hK => ?_)
 refine goes_ Try.func19 (by kernel_rfl) rfl #[.agg #[.int .i64 t824, .slice Ao41 t825.length co41], .agg #[.int .i64 t836, .slice Ao50 t837.length co50]] (by rfl) rfl rfl (by (try simp only [List.map_toArray, List.map_cons, List.map_nil]); first | done | rfl | (simp only [List.length_drop, List.length_take]; rfl)) ?_
 with_reducible refine (laws_eqNet.calls k t824 _ _ t825 t836 _ _ t837 true _ ?side1 ?side2 ?side3 ?side4 A19.out).mono ?_
 (case side1 => repeat (first | exact (Kd.R_reads' HO827.out).2.2 | (with_reducible refine Kd.C_alloc ?_ _) | (with_reducible refine Kd.C_drewN ?_ _) | (with_reducible refine Kd.C_drew ?_)))
 (case side2 => exact (Kd.R_reads' HO827.out).2.1)
 (case side3 => repeat (first | exact (Kd.R_reads' HO839.out).2.2 | (with_reducible refine Kd.C_alloc ?_ _) | (with_reducible refine Kd.C_drewN ?_ _) | (with_reducible refine Kd.C_drew ?_)))
 (case side4 => exact (Kd.R_reads' HO839.out).2.1)
 rintro e w51 ⟨rfl, hb⟩
 refine ⟨_, rfl, ?_⟩
 have n0_ := Aside0.mk (Kd.R_below (by (with_reducible repeat (first | apply Kd.R_alloc | apply Kd.R_drewN | apply Kd.R_drew)); exact HO817.out) hb)
 have n1_ := Aside0.mk (Kd.R_below (by (with_reducible repeat (first | apply Kd.R_alloc | apply Kd.R_drewN | apply Kd.R_drew)); exact HO820.out) hb)
 have n2_ := Aside0.mk (Kd.R_below (by (with_reducible repeat (first | apply Kd.R_alloc | apply Kd.R_drewN | apply Kd.R_drew)); exact HO823.out) hb)
 have n3_ := Aside0.mk (Kd.R_below (by (with_reducible repeat (first | apply Kd.R_alloc | apply Kd.R_drewN | apply Kd.R_drew)); exact HO827.out) hb)
 have n4_ := Aside0.mk (Kd.R_below (by (with_reducible repeat (first | apply Kd.R_alloc | apply Kd.R_drewN | apply Kd.R_drew)); exact HO831.out) hb)
 have n5_ := Aside0.mk (Kd.R_below (by (with_reducible repeat (first | apply Kd.R_alloc | apply Kd.R_drewN | apply Kd.R_drew)); exact HO834.out) hb)
 have n6_ := Aside0.mk (Kd.R_below (by (with_reducible repeat (first | apply Kd.R_alloc | apply Kd.R_drewN | apply Kd.R_drew)); exact HO839.out) hb)
 have n7_ := Aside0.mk (blk_below (g := gb812) (o := .cells #[.int .i64 a0_0, .slice A0_1 l0_1.length c0_1] 24 (0, 0)) (by (with_reducible repeat (first | refine blk_drewN ?_ _ | refine blk_drew ?_ | refine blk_alloc ?_ _)); exact BK812.out) hb)
 have n8_ := Aside0.mk (blk_below (g := gb828) (o := .cells #[.int .i64 t824, .slice Ao41 t825.length co41] 30 (0, 0)) (by (with_reducible repeat (first | refine blk_drewN ?_ _ | refine blk_drew ?_ | refine blk_alloc ?_ _)); exact BK828.out) hb)
 have n9_ := Aside0.mk (below_step (by repeat (first | (with_reducible first | exact HB.out | apply below_alloc | apply pw_below_drewN | apply below_drew1 | refine below_set ?_ GE812.out | refine below_set ?_ GE828.out) | exact HB.out)) hb)
 clear HO817
 clear HO820
 clear HO823
 clear HO827
 clear HO831
 clear HO834
 clear HO839
 clear BK812
 clear BK828
 clear HB
 have HO817 := n0_
 have HO820 := n1_
 have HO823 := n2_
 have HO827 := n3_
 have HO831 := n4_
 have HO834 := n5_
 have HO839 := n6_
 have BK812 := n7_
 have BK828 := n8_
 have HB := n9_
 clear n0_ n1_ n2_ n3_ n4_ n5_ n6_ n7_ n8_ n9_
 (try clear hb)
 (try clear hb2)
 (try clear hk)
 (try clear hi)
 refine hK.out _ _ ⟨(blk_cell BK828.out 0).trans rfl, (blk_cell BK828.out 1).trans rfl, (blk_cell BK812.out 0).trans rfl, (blk_cell BK812.out 1).trans rfl⟩ (fun hHeld => ?_)
 clear hK K
 refine norm_ (a' := ?_) ?_ ?_
 rotate_left
 ·
  show Act.put _ (some 41) _ = _
  simp only [Act.put, List.setIfInBounds_toArray, List.set_cons_zero, List.set_cons_succ, i64_w, i32_w]
  rfl
 refine pure_ (i := 4) (N := some 42) (v := ?_) (a' := ?_) #[true, true, true, true, true] rfl rfl (by kernel_rfl) (fun _ _ _ h => h) (Or.inl ⟨by rfl, ?_⟩) ?_ ?_
 rotate_left
 ·
  intro w'
  go_simp
  with_reducible rfl
 rotate_left
 ·
  simp only [Act.put, List.setIfInBounds_toArray, List.set_cons_zero, List.set_cons_succ, i64_w, i32_w]
  rfl
 refine done_ (by kernel_rfl) ?_
 go_upto_region 20 with (first | ((with_reducible refine gate_callee (f := 17) rfl ?_); refine goesL_ (some 45) rfl rfl Try.func17 (by kernel_rfl) rfl #[.slice A1 l1.length c1] rfl (by (try simp only [List.map_toArray, List.map_cons, List.map_nil]); first | done | rfl | (simp only [List.length_drop, List.length_take]; rfl)) ?_; (with_reducible refine (laws_toBoolS.calls k _ _ l1 t841 _ ?side1 ?side2 A21.out).mono ?_); (case side1 => repeat (first | exact (Kd.C_below HR1.out HB.out) | (with_reducible refine Kd.C_alloc ?_ _) | (with_reducible refine Kd.C_drewN ?_ _) | (with_reducible refine Kd.C_drew ?_))); (case side2 => exact HC1.out); rintro e w52 ⟨v842, rfl, ho0, hb⟩; refine ⟨_, rfl, ?_⟩; have n0_ := Aside0.mk (Kd.R_below (by (with_reducible repeat (first | apply Kd.R_alloc | apply Kd.R_drewN | apply Kd.R_drew)); exact HO817.out) hb); have n1_ := Aside0.mk (Kd.R_elder' (by (with_reducible repeat (first | apply Kd.R_alloc | apply Kd.R_drewN | apply Kd.R_drew)); exact HO820.out) (Kd.R_base ho0) hb); have n2_ := Aside0.mk (Kd.R_below (by (with_reducible repeat (first | apply Kd.R_alloc | apply Kd.R_drewN | apply Kd.R_drew)); exact HO823.out) hb); have n3_ := Aside0.mk (Kd.R_below (by (with_reducible repeat (first | apply Kd.R_alloc | apply Kd.R_drewN | apply Kd.R_drew)); exact HO827.out) hb); have n4_ := Aside0.mk (Kd.R_elder' (by (with_reducible repeat (first | apply Kd.R_alloc | apply Kd.R_drewN | apply Kd.R_drew)); exact HO831.out) (Kd.R_base ho0) hb); have n5_ := Aside0.mk (Kd.R_below (by (with_reducible repeat (first | apply Kd.R_alloc | apply Kd.R_drewN | apply Kd.R_drew)); exact HO834.out) hb); have n6_ := Aside0.mk (Kd.R_below (by (with_reducible repeat (first | apply Kd.R_alloc | apply Kd.R_drewN | apply Kd.R_drew)); exact HO839.out) hb); have n7_ := Aside0.mk (Kd.R_lower (Kd.R_new' (Kd.R_new' ho0 (Kd.R_lt (by (with_reducible repeat (first | apply Kd.R_alloc | apply Kd.R_drewN | apply Kd.R_drew)); exact HO820.out))) (Kd.R_lt (by (with_reducible repeat (first | apply Kd.R_alloc | apply Kd.R_drewN | apply Kd.R_drew)); exact HO831.out))) (below_size (by repeat (first | (with_reducible first | exact HB.out | apply below_alloc | apply pw_below_drewN | apply below_drew1 | refine below_set ?_ GE812.out | refine below_set ?_ GE828.out) | exact HB.out)))); have n8_ := Aside0.mk (blk_below (g := gb812) (o := .cells #[.int .i64 a0_0, .slice A0_1 l0_1.length c0_1] 24 (0, 0)) (by (with_reducible repeat (first | refine blk_drewN ?_ _ | refine blk_drew ?_ | refine blk_alloc ?_ _)); exact BK812.out) hb); have n9_ := Aside0.mk (blk_below (g := gb828) (o := .cells #[.int .i64 t824, .slice Ao41 t825.length co41] 30 (0, 0)) (by (with_reducible repeat (first | refine blk_drewN ?_ _ | refine blk_drew ?_ | refine blk_alloc ?_ _)); exact BK828.out) hb); have n10_ := Aside0.mk (below_step (by repeat (first | (with_reducible first | exact HB.out | apply below_alloc | apply pw_below_drewN | apply below_drew1 | refine below_set ?_ GE812.out | refine below_set ?_ GE828.out) | exact HB.out)) hb); clear HO817; clear HO820; clear HO823; clear HO827; clear HO831; clear HO834; clear HO839; clear BK812; clear BK828; clear HB; have HO817 := n0_; have HO820 := n1_; have HO823 := n2_; have HO827 := n3_; have HO831 := n4_; have HO834 := n5_; have HO839 := n6_; have HO843 := n7_; have BK812 := n8_; have BK828 := n9_; have HB := n10_; clear n0_ n1_ n2_ n3_ n4_ n5_ n6_ n7_ n8_ n9_ n10_; (try clear hb); (try clear hb2); (try clear hk); (try clear hi); (try clear ho0); obtain ⟨Ao53, co53, eo53⟩ := Kd.R_slice HO843.out; subst eo53) | ((with_reducible refine gate_callee (f := 20) rfl ?_); refine goesL_ (some 46) rfl rfl Try.func20 (by kernel_rfl) rfl #[.slice Ao44 t829.length co44, .slice Ao53 t841.length co53] rfl (by (try simp only [List.map_toArray, List.map_cons, List.map_nil]); first | done | rfl | (simp only [List.length_drop, List.length_take]; rfl)) ?_; (with_reducible refine (laws_eqBoolS.calls k _ _ t829 _ _ t841 true _ ?side1 ?side2 ?side3 ?side4 A22.out).mono ?_); (case side1 => repeat (first | exact (Kd.R_reads' HO831.out).2.2 | (with_reducible refine Kd.C_alloc ?_ _) | (with_reducible refine Kd.C_drewN ?_ _) | (with_reducible refine Kd.C_drew ?_))); (case side2 => exact (Kd.R_reads' HO831.out).2.1); (case side3 => repeat (first | exact (Kd.R_reads' HO843.out).2.2 | (with_reducible refine Kd.C_alloc ?_ _) | (with_reducible refine Kd.C_drewN ?_ _) | (with_reducible refine Kd.C_drew ?_))); (case side4 => exact (Kd.R_reads' HO843.out).2.1); rintro e w' ⟨rfl, ⟨nd, rfl⟩⟩; refine ⟨_, rfl, ?_⟩; have hcz54_0 : w52.cell? ⟨gb828, 0, none⟩ = some (.int .i64 t824) := (blk_cell BK828.out 0).trans rfl; have hcz54_1 : w52.cell? ⟨gb828, 1, none⟩ = some (.slice Ao41 t825.length co41) := (blk_cell BK828.out 1).trans rfl; have hfz54_0 := blk_frozen BK828.out 0; have hfz54_1 := blk_frozen BK828.out 1) | ((with_reducible refine gate_callee (f := 26) rfl ?_); refine goesL_ (some 50) rfl rfl Try.func26 (by kernel_rfl) rfl #[.agg #[.int .i64 t824, .slice Ao41 t825.length co41], .int .i64 1] rfl (by (try simp only [List.map_toArray, List.map_cons, List.map_nil]); first | done | rfl | (simp only [List.length_drop, List.length_take]; rfl)) ?_; (with_reducible refine (laws_markNet.calls k t824 (fun k_ => some k_ = (.slice Ao41 t825.length co41 : Value).ownBlock) (.slice Ao41 t825.length co41) t825 1 t845 t846 w _ ?side1 ?side2 A24.out).mono ?_); (case side1 => repeat (first | (with_reducible first | exact HB.out | apply below_alloc | apply pw_below_drewN | apply below_drew1 | refine below_set ?_ GE812.out | refine below_set ?_ GE828.out) | exact HB.out)); (case side2 => exact Kd.R_tight rfl HO827.out); rintro e w55 ⟨rfl, hy0, hb, hkp⟩; refine ⟨_, rfl, ?_⟩; have n0_ := Aside0.mk (blk_kept (by (with_reducible repeat (first | refine blk_drewN ?_ _ | refine blk_drew ?_ | refine blk_alloc ?_ _)); exact BK812.out) hkp (fun hs_ => (fun e_ => (Kd.R_ne HO827.out BK812.out (by decide)) e_) hs_)); have n1_ := Aside0.mk (Kd.R_mono (ok' := fun k_ => some k_ ≠ (.slice Ao41 t825.length co41 : Value).ownBlock ∧ some k_ ≠ (.slice Ao50 t837.length co50 : Value).ownBlock) (Kd.R_keptB (HO817.out) hkp (fun k_ hk_ hs_ => (hk_.1.2) hs_)) (fun k_ hk_ => ⟨hk_.1.1.2, hk_.1.2⟩)); have n2_ := Aside0.mk (Kd.R_mono (ok' := fun k_ => some k_ ≠ (.slice Ao44 t829.length co44 : Value).ownBlock ∧ some k_ ≠ (.slice Ao53 t841.length co53 : Value).ownBlock) (Kd.R_keptB ((Kd.R_apart' HO820.out (Kd.R_typed HO827.out) (by decide))) hkp (fun k_ hk_ hs_ => (hk_.2) hs_)) (fun k_ hk_ => ⟨hk_.1.1.1.2, hk_.1.1.2⟩)); have n3_ := Aside0.mk (Kd.R_mono (ok' := fun k_ => some k_ ≠ (.slice Ao46 t832.length co46 : Value).ownBlock) (Kd.R_keptB ((Kd.R_apart' HO823.out (Kd.R_typed HO827.out) (by decide))) hkp (fun k_ hk_ hs_ => (hk_.2) hs_)) (fun k_ hk_ => hk_.1.1.2)); have n4_ := Aside0.mk (Kd.R_reok rfl hy0 (fun k_ e_ => HO827.out.1 k_ e_)); have n5_ := Aside0.mk (blk_kept (by (with_reducible repeat (first | refine blk_drewN ?_ _ | refine blk_drew ?_ | refine blk_alloc ?_ _)); exact BK828.out) hkp (fun hs_ => (fun e_ => (Kd.R_ne HO827.out BK828.out (by decide)) e_) hs_)); have n6_ := Aside0.mk (Kd.R_mono (ok' := fun k_ => some k_ ≠ (.slice Ao34 t818.length co34 : Value).ownBlock ∧ some k_ ≠ (.slice Ao53 t841.length co53 : Value).ownBlock) (Kd.R_keptB ((Kd.R_apart' HO831.out (Kd.R_typed HO827.out) (by decide))) hkp (fun k_ hk_ hs_ => (hk_.2) hs_)) (fun k_ hk_ => ⟨hk_.1.1.1.2, hk_.1.1.2⟩)); have n7_ := Aside0.mk (Kd.R_mono (ok' := fun k_ => some k_ ≠ (.slice Ao47 t821.length co47 : Value).ownBlock) (Kd.R_keptB ((Kd.R_apart' HO834.out (Kd.R_typed HO827.out) (by decide))) hkp (fun k_ hk_ hs_ => (hk_.2) hs_)) (fun k_ hk_ => hk_.1.1.2)); have n8_ := Aside0.mk (Kd.R_mono (ok' := fun k_ => some k_ ≠ (.slice Ao33 t815.length co33 : Value).ownBlock ∧ some k_ ≠ (.slice Ao41 t825.length co41 : Value).ownBlock) (Kd.R_keptB (HO839.out) hkp (fun k_ hk_ hs_ => (hk_.2) hs_)) (fun k_ hk_ => ⟨hk_.1.1.2, hk_.1.2⟩)); have n9_ := Aside0.mk (Kd.R_mono (ok' := fun k_ => some k_ ≠ (.slice Ao34 t818.length co34 : Value).ownBlock ∧ some k_ ≠ (.slice Ao44 t829.length co44 : Value).ownBlock) (Kd.R_keptB ((Kd.R_apart' HO843.out (Kd.R_typed HO827.out) (by decide))) hkp (fun k_ hk_ hs_ => (hk_.2) hs_)) (fun k_ hk_ => ⟨hk_.1.1.1.2, hk_.1.1.2⟩)); have n10_ := Aside0.mk (hb); clear BK812; clear HO817; clear HO820; clear HO823; clear HO827; clear BK828; clear HO831; clear HO834; clear HO839; clear HO843; clear HB; have BK812 := n0_; have HO817 := n1_; have HO820 := n2_; have HO823 := n3_; have HO827 := n4_; have BK828 := n5_; have HO831 := n6_; have HO834 := n7_; have HO839 := n8_; have HO843 := n9_; have HB := n10_; clear n0_ n1_ n2_ n3_ n4_ n5_ n6_ n7_ n8_ n9_ n10_; (try clear hb); (try clear hkp); (try clear hy0)) | ((with_reducible refine gate_callee (f := 27) rfl ?_); refine goesL_ (some 53) rfl rfl Try.func27 (by kernel_rfl) rfl #[.slice Ao44 t829.length co44, .int .i64 t845] rfl (by (try simp only [List.map_toArray, List.map_cons, List.map_nil]); first | done | rfl | (simp only [List.length_drop, List.length_take]; rfl)) ?_; (with_reducible refine (laws_markBoolS.calls k (fun k_ => some k_ = (.slice Ao44 t829.length co44 : Value).ownBlock) (.slice Ao44 t829.length co44) t829 t845 t847 t848 w _ ?side1 ?side2 A25.out).mono ?_); (case side1 => repeat (first | (with_reducible first | exact HB.out | apply below_alloc | apply pw_below_drewN | apply below_drew1 | refine below_set ?_ GE812.out | refine below_set ?_ GE828.out) | exact HB.out)); (case side2 => exact Kd.R_tight rfl HO831.out); rintro e w56 ⟨rfl, hy0, hb, hkp⟩; refine ⟨_, rfl, ?_⟩; have n0_ := Aside0.mk (blk_kept (by (with_reducible repeat (first | refine blk_drewN ?_ _ | refine blk_drew ?_ | refine blk_alloc ?_ _)); exact BK812.out) hkp (fun hs_ => (fun e_ => (Kd.R_ne HO831.out BK812.out (by decide)) e_) hs_)); have n1_ := Aside0.mk (Kd.R_mono (ok' := fun k_ => some k_ ≠ (.slice Ao41 t825.length co41 : Value).ownBlock ∧ some k_ ≠ (.slice Ao50 t837.length co50 : Value).ownBlock) (Kd.R_keptB ((Kd.R_apart' HO817.out (Kd.R_typed HO831.out) (by decide))) hkp (fun k_ hk_ hs_ => (hk_.2) hs_)) (fun k_ hk_ => ⟨hk_.1.1.1, hk_.1.1.2⟩)); have n2_ := Aside0.mk (Kd.R_mono (ok' := fun k_ => some k_ ≠ (.slice Ao44 t829.length co44 : Value).ownBlock ∧ some k_ ≠ (.slice Ao53 t841.length co53 : Value).ownBlock) (Kd.R_keptB (HO820.out) hkp (fun k_ hk_ hs_ => (hk_.1) hs_)) (fun k_ hk_ => ⟨hk_.1.1, hk_.1.2⟩)); have n3_ := Aside0.mk (Kd.R_mono (ok' := fun k_ => some k_ ≠ (.slice Ao46 t832.length co46 : Value).ownBlock) (Kd.R_keptB ((Kd.R_apart' HO823.out (Kd.R_typed HO831.out) (by decide))) hkp (fun k_ hk_ hs_ => (hk_.2) hs_)) (fun k_ hk_ => hk_.1.1)); have n4_ := Aside0.mk (Kd.R_mono (ok' := fun k_ => some k_ ≠ (.slice Ao33 t815.length co33 : Value).ownBlock ∧ some k_ ≠ (.slice Ao50 t837.length co50 : Value).ownBlock) (Kd.R_keptB ((Kd.R_apart' HO827.out (Kd.R_typed HO831.out) (by decide))) hkp (fun k_ hk_ hs_ => (hk_.2) hs_)) (fun k_ hk_ => ⟨hk_.1.1.1.2, hk_.1.1.2⟩)); have n5_ := Aside0.mk (blk_kept (by (with_reducible repeat (first | refine blk_drewN ?_ _ | refine blk_drew ?_ | refine blk_alloc ?_ _)); exact BK828.out) hkp (fun hs_ => (fun e_ => (Kd.R_ne HO831.out BK828.out (by decide)) e_) hs_)); have n6_ := Aside0.mk (Kd.R_reok rfl hy0 (fun k_ e_ => HO831.out.1 k_ e_)); have n7_ := Aside0.mk (Kd.R_mono (ok' := fun k_ => some k_ ≠ (.slice Ao47 t821.length co47 : Value).ownBlock) (Kd.R_keptB ((Kd.R_apart' HO834.out (Kd.R_typed HO831.out) (by decide))) hkp (fun k_ hk_ hs_ => (hk_.2) hs_)) (fun k_ hk_ => hk_.1.1)); have n8_ := Aside0.mk (Kd.R_mono (ok' := fun k_ => some k_ ≠ (.slice Ao33 t815.length co33 : Value).ownBlock ∧ some k_ ≠ (.slice Ao41 t825.length co41 : Value).ownBlock) (Kd.R_keptB ((Kd.R_apart' HO839.out (Kd.R_typed HO831.out) (by decide))) hkp (fun k_ hk_ hs_ => (hk_.2) hs_)) (fun k_ hk_ => ⟨hk_.1.1.1, hk_.1.1.2⟩)); have n9_ := Aside0.mk (Kd.R_mono (ok' := fun k_ => some k_ ≠ (.slice Ao34 t818.length co34 : Value).ownBlock ∧ some k_ ≠ (.slice Ao44 t829.length co44 : Value).ownBlock) (Kd.R_keptB (HO843.out) hkp (fun k_ hk_ hs_ => (hk_.2) hs_)) (fun k_ hk_ => ⟨hk_.1.1, hk_.1.2⟩)); have n10_ := Aside0.mk (hb); clear BK812; clear HO817; clear HO820; clear HO823; clear HO827; clear BK828; clear HO831; clear HO834; clear HO839; clear HO843; clear HB; have BK812 := n0_; have HO817 := n1_; have HO820 := n2_; have HO823 := n3_; have HO827 := n4_; have BK828 := n5_; have HO831 := n6_; have HO834 := n7_; have HO839 := n8_; have HO843 := n9_; have HB := n10_; clear n0_ n1_ n2_ n3_ n4_ n5_ n6_ n7_ n8_ n9_ n10_; (try clear hb); (try clear hkp); (try clear hy0)))
 (try simp only [Act.put, List.setIfInBounds_toArray, List.set_cons_zero, List.set_cons_succ])
 go_cut [61] (fun v61 wc => ∃ (kq : Nat) (x61_25 : Bool), v61 = .bool x61_25 ∧ Aside0 (laws_FnExactBridgeLines.j0 kq l1 t821 t832 x61_25 a0_0 l0_1 = some r) ∧ Aside0 (kq ≤ k) ∧ Aside0 (Kd.R (Kd.int .i64) 3 wc w.heap.size (fun k_ => some k_ ≠ ((.slice Ao46 t832.length co46) : Value).ownBlock) (.slice Ao47 t821.length co47) t821) ∧ Aside0 (Kd.R (Kd.int .i64) 3 wc w.heap.size (fun k_ => some k_ ≠ ((.slice Ao47 t821.length co47) : Value).ownBlock) (.slice Ao46 t832.length co46) t832) ∧ Aside0 (Kd.R k73 73 wc w.heap.size (fun _ => True) (.slice Ao41 t825.length co41) t846) ∧ Aside0 (wc.heap[gb812]? = some (.cells #[.int .i64 a0_0, (.slice A0_1 l0_1.length c0_1)] 24 (0, 0))) ∧ Aside0 (wc.heap[gb828]? = some (.cells #[.int .i64 t824, (.slice Ao41 t825.length co41)] 30 (0, 0))) ∧ Aside0 (Below w.heap.size w wc))
 case first =>
  have H := HC26.out
  clear HC26
  by_cases c57 : t847 < 0
  ·
   rw [if_pos c57] at H
   have c57b0 : decide (t847 < 0) = true := decide_eq_true c57
   clear c57
   (first | rw [c57b0] | (simp only [i64_w, i32_w]; rw [c57b0]) | skip)
   have H' := Aside0.mk H
   clear H
   go_wp2
   go_meet
   case rel => exact ⟨_, (true), (by first | rfl | (simp; done) | (simp [*]; done)), H', ⟨by first | omega | exact Nat.le_refl _⟩, ⟨by (with_reducible repeat (first | apply Kd.R_alloc | apply Kd.R_drewN | apply Kd.R_drew)); exact HO823.out⟩, ⟨by (with_reducible repeat (first | apply Kd.R_alloc | apply Kd.R_drewN | apply Kd.R_drew)); exact HO834.out⟩, ⟨by (with_reducible repeat (first | apply Kd.R_alloc | apply Kd.R_drewN | apply Kd.R_drew)); exact Kd.R_mono HO827.out (fun _ hk => trivial)⟩, ⟨by (with_reducible repeat (first | refine blk_drewN ?_ _ | refine blk_drew ?_ | refine blk_alloc ?_ _)); exact BK812.out⟩, ⟨by (with_reducible repeat (first | refine blk_drewN ?_ _ | refine blk_drew ?_ | refine blk_alloc ?_ _)); exact BK828.out⟩, ⟨by repeat (first | (with_reducible first | exact HB.out | apply below_alloc | apply pw_below_drewN | apply below_drew1 | refine below_set ?_ GE812.out | refine below_set ?_ GE828.out) | exact HB.out)⟩⟩
  rw [if_neg c57] at H
  have c57b0 : decide (t847 < 0) = false := decide_eq_false c57
  clear c57
  (first | rw [c57b0] | (simp only [i64_w, i32_w]; rw [c57b0]) | skip)
  replace H := Option.bind_eq_some_iff.mp H
  obtain ⟨t849, A580, H⟩ := H
  replace H : (laws_FnExactBridgeLines.j0 k l1 t821 t832 (!t849) a0_0 l0_1) = some r := H
  have A58 := Aside0.mk A580
  clear A580
  have H' := Aside0.mk H
  clear H
  go_wp2_with (first | (go_at_call 25; (with_reducible refine (laws_eqIntS.calls k _ _ t832 _ _ t821 t849 _ ?side1 ?side2 ?side3 ?side4 A58.out).mono ?_); (case side1 => repeat (first | exact (Kd.R_reads' HO834.out).2.2 | (with_reducible refine Kd.C_alloc ?_ _) | (with_reducible refine Kd.C_drewN ?_ _) | (with_reducible refine Kd.C_drew ?_))); (case side2 => exact (Kd.R_reads' HO834.out).2.1); (case side3 => repeat (first | exact (Kd.R_reads' HO823.out).2.2 | (with_reducible refine Kd.C_alloc ?_ _) | (with_reducible refine Kd.C_drewN ?_ _) | (with_reducible refine Kd.C_drew ?_))); (case side4 => exact (Kd.R_reads' HO823.out).2.1); rintro e w' ⟨rfl, ⟨nd, rfl⟩⟩))
  go_meet
  case rel => exact ⟨_, (!t849), (by first | rfl | (simp; done) | (simp [*]; done)), H', ⟨by first | omega | exact Nat.le_refl _⟩, ⟨by (with_reducible repeat (first | apply Kd.R_alloc | apply Kd.R_drewN | apply Kd.R_drew)); exact HO823.out⟩, ⟨by (with_reducible repeat (first | apply Kd.R_alloc | apply Kd.R_drewN | apply Kd.R_drew)); exact HO834.out⟩, ⟨by (with_reducible repeat (first | apply Kd.R_alloc | apply Kd.R_drewN | apply Kd.R_drew)); exact Kd.R_mono HO827.out (fun _ hk => trivial)⟩, ⟨by (with_reducible repeat (first | refine blk_drewN ?_ _ | refine blk_drew ?_ | refine blk_alloc ?_ _)); exact BK812.out⟩, ⟨by (with_reducible repeat (first | refine blk_drewN ?_ _ | refine blk_drew ?_ | refine blk_alloc ?_ _)); exact BK828.out⟩, ⟨by repeat (first | (with_reducible first | exact HB.out | apply below_alloc | apply pw_below_drewN | apply below_drew1 | refine below_set ?_ GE812.out | refine below_set ?_ GE828.out) | exact HB.out)⟩⟩
 case rest =>
  clear HC26
  try clear c1
  try clear c2
  try clear p2
  try clear c3
  try clear c3b0
  try clear c3b1
  try clear c4
  try clear c5
  try clear c6
  try clear c6b0
  try clear c11
  try clear c14
  try clear c16
  try clear c17
  try clear c19
  try clear c20
  try clear c23
  try clear c25
  try clear c26
  try clear c27
  try clear c39
  try clear c43
  try clear c44
  try clear c57
  try clear c57b0
  try clear hcz28_0
  try clear hcz28_1
  try clear hcz30_0
  try clear hcz30_1
  try clear hcz36_0
  try clear hcz36_1
  try clear hcz40_0
  try clear hcz40_1
  try clear hcz43_0
  try clear hcz43_1
  try clear hcz54_0
  try clear hcz54_1
  try clear hcz8_0
  try clear hcz8_1
  try clear hfz28_0
  try clear hfz28_1
  try clear hfz30_0
  try clear hfz30_1
  try clear hfz36_0
  try clear hfz36_1
  try clear hfz40_0
  try clear hfz40_1
  try clear hfz43_0
  try clear hfz43_1
  try clear hfz54_0
  try clear hfz54_1
  try clear hfz8_0
  try clear hfz8_1
  obtain ⟨kq, x61_25, rfl, HA, HJ25, HO_6, HO_9, HO_829001, BK812, BK828, HB⟩ := hcut
  have hl829001_25 := (Kd.R_reads' HO_829001.out).1
  rw [hl829001_25] at HO_829001
  (try simp only [hl829001_25])
  (try simp only [hl829001_25] at BK812)
  (try simp only [hl829001_25] at BK828)
  (try simp only [hl829001_25] at HO_6)
  (try simp only [hl829001_25] at HO_9)
  cases kq with
  | zero => exact absurd HA.out (by simp [laws_FnExactBridgeLines.j0])
  | succ kj25 =>
   have H := HA.out
   clear HA
   simp only [laws_FnExactBridgeLines.j0] at H
   by_cases c59 : x61_25 = true
   ·
    subst c59
    have H1 : (none) = some r := by rw [if_pos rfl] at H; exact H
    clear H
    have H := H1
    clear H1
    exact absurd H (by simp)
   replace c59 := Bool.eq_false_iff.mpr c59
   subst c59
   have H1 : ((laws_markIntS.f kj25 t832 1).bind fun bt850 => ((laws_heldIntS.f kj25 bt850.2 1).bind fun t852 => (if t852 < 0 then (none) else (if t852 = bt850.1 then ((laws_toNet.f kj25 a0_0 l0_1).bind fun bt853 => ((laws_toBoolS.f kj25 l1).bind fun t857 => ((impl_BridgeLines.f kj25 bt853.1 bt853.2 t857).bind fun t860 => ((laws_eqIntS.f kj25 t860 t821).bind fun t863 => (if t863 = true then ((laws_heldIntS.f kj25 bt850.2 1).bind fun t864 => (if t864 < 0 then (none) else (if t864 = bt850.1 then (some true) else (none)))) else (none)))))) else (none))))) = some r := by rw [if_neg (show ¬ (false = true) by decide)] at H; exact H
   clear H
   have H := H1
   clear H1
   replace H := Option.bind_eq_some_iff.mp H
   obtain ⟨⟨t850, t851⟩, A600, H⟩ := H
   replace H : ((laws_heldIntS.f kj25 t851 1).bind fun t852 => (if t852 < 0 then (none) else (if t852 = t850 then ((laws_toNet.f kj25 a0_0 l0_1).bind fun bt853 => ((laws_toBoolS.f kj25 l1).bind fun t857 => ((impl_BridgeLines.f kj25 bt853.1 bt853.2 t857).bind fun t860 => ((laws_eqIntS.f kj25 t860 t821).bind fun t863 => (if t863 = true then ((laws_heldIntS.f kj25 t851 1).bind fun t864 => (if t864 < 0 then (none) else (if t864 = t850 then (some true) else (none)))) else (none)))))) else (none)))) = some r := H
   have A60 := Aside0.mk A600
   clear A600
   replace H := Option.bind_eq_some_iff.mp H
   obtain ⟨t852, A610, H⟩ := H
   replace H : (if t852 < 0 then (none) else (if t852 = t850 then ((laws_toNet.f kj25 a0_0 l0_1).bind fun bt853 => ((laws_toBoolS.f kj25 l1).bind fun t857 => ((impl_BridgeLines.f kj25 bt853.1 bt853.2 t857).bind fun t860 => ((laws_eqIntS.f kj25 t860 t821).bind fun t863 => (if t863 = true then ((laws_heldIntS.f kj25 t851 1).bind fun t864 => (if t864 < 0 then (none) else (if t864 = t850 then (some true) else (none)))) else (none)))))) else (none))) = some r := H
   have A61 := Aside0.mk A610
   clear A610
   by_cases c62 : t852 < 0
   ·
    rw [if_pos c62] at H
    exact absurd H (by simp)
   rw [if_neg c62] at H
   have c62b0 : decide (t852 < 0) = false := decide_eq_false c62
   clear c62
   by_cases c63 : t852 = t850
   rotate_left
   ·
    rw [if_neg c63] at H
    exact absurd H (by simp)
   rw [if_pos c63] at H
   have c63b0 : (t852 == t850) = true := beq_iff_eq.mpr c63
   have c63b1 : (t852 != t850) = false := bne_eq_false_iff_eq.mpr c63
   clear c63
   replace H := Option.bind_eq_some_iff.mp H
   obtain ⟨⟨t853, t854⟩, A640, H⟩ := H
   replace H : ((laws_toBoolS.f kj25 l1).bind fun t857 => ((impl_BridgeLines.f kj25 t853 t854 t857).bind fun t860 => ((laws_eqIntS.f kj25 t860 t821).bind fun t863 => (if t863 = true then ((laws_heldIntS.f kj25 t851 1).bind fun t864 => (if t864 < 0 then (none) else (if t864 = t850 then (some true) else (none)))) else (none))))) = some r := H
   have A64 := Aside0.mk A640
   clear A640
   replace H := Option.bind_eq_some_iff.mp H
   obtain ⟨t857, A650, H⟩ := H
   replace H : ((impl_BridgeLines.f kj25 t853 t854 t857).bind fun t860 => ((laws_eqIntS.f kj25 t860 t821).bind fun t863 => (if t863 = true then ((laws_heldIntS.f kj25 t851 1).bind fun t864 => (if t864 < 0 then (none) else (if t864 = t850 then (some true) else (none)))) else (none)))) = some r := H
   have A65 := Aside0.mk A650
   clear A650
   replace H := Option.bind_eq_some_iff.mp H
   obtain ⟨t860, A660, H⟩ := H
   replace H : ((laws_eqIntS.f kj25 t860 t821).bind fun t863 => (if t863 = true then ((laws_heldIntS.f kj25 t851 1).bind fun t864 => (if t864 < 0 then (none) else (if t864 = t850 then (some true) else (none)))) else (none))) = some r := H
   have A66 := Aside0.mk A660
   clear A660
   replace H := Option.bind_eq_some_iff.mp H
   obtain ⟨t863, A670, H⟩ := H
   replace H : (if t863 = true then ((laws_heldIntS.f kj25 t851 1).bind fun t864 => (if t864 < 0 then (none) else (if t864 = t850 then (some true) else (none)))) else (none)) = some r := H
   have A67 := Aside0.mk A670
   clear A670
   by_cases c68 : t863 = true
   rotate_left
   ·
    replace c68 := Bool.eq_false_iff.mpr c68
    subst c68
    have H1 : (none) = some r := by rw [if_neg (show ¬ (false = true) by decide)] at H; exact H
    clear H
    have H := H1
    clear H1
    exact absurd H (by simp)
   subst c68
   have H1 : ((laws_heldIntS.f kj25 t851 1).bind fun t864 => (if t864 < 0 then (none) else (if t864 = t850 then (some true) else (none)))) = some r := by rw [if_pos rfl] at H; exact H
   clear H
   have H := H1
   clear H1
   replace H := Option.bind_eq_some_iff.mp H
   obtain ⟨t864, A690, H⟩ := H
   replace H : (if t864 < 0 then (none) else (if t864 = t850 then (some true) else (none))) = some r := H
   have A69 := Aside0.mk A690
   clear A690
   by_cases c70 : t864 < 0
   ·
    rw [if_pos c70] at H
    exact absurd H (by simp)
   rw [if_neg c70] at H
   have c70b0 : decide (t864 < 0) = false := decide_eq_false c70
   clear c70
   by_cases c71 : t864 = t850
   rotate_left
   ·
    rw [if_neg c71] at H
    exact absurd H (by simp)
   rw [if_pos c71] at H
   have c71b0 : (t864 == t850) = true := beq_iff_eq.mpr c71
   have c71b1 : (t864 != t850) = false := bne_eq_false_iff_eq.mpr c71
   clear c71
   obtain rfl := Option.some.inj H
   go_wp2_with (first | ((with_reducible refine gate_callee (f := 28) rfl ?_); refine goesL_ (some 64) rfl rfl Try.func28 (by kernel_rfl) rfl #[.slice Ao46 t832.length co46, .int .i64 1] rfl (by (try simp only [List.map_toArray, List.map_cons, List.map_nil]); first | done | rfl | (simp only [List.length_drop, List.length_take]; rfl)) ?_; (with_reducible refine (laws_markIntS.calls kj25 (fun k_ => some k_ = (.slice Ao46 t832.length co46 : Value).ownBlock) (.slice Ao46 t832.length co46) t832 1 t850 t851 w _ ?side1 ?side2 A60.out).mono ?_); (case side1 => repeat (first | (with_reducible first | exact HB.out | apply below_alloc | apply pw_below_drewN | apply below_drew1 | refine below_set ?_ GE812.out | refine below_set ?_ GE828.out) | exact HB.out)); (case side2 => exact Kd.R_tight rfl HO_9.out); rintro e w72 ⟨rfl, hy0, hb, hkp⟩; refine ⟨_, rfl, ?_⟩; have n0_ := Aside0.mk (Kd.R_mono (ok' := fun k_ => some k_ ≠ (.slice Ao46 t832.length co46 : Value).ownBlock) (Kd.R_keptB (HO_6.out) hkp (fun k_ hk_ hs_ => (hk_) hs_)) (fun k_ hk_ => hk_.1)); have n1_ := Aside0.mk (Kd.R_reok rfl hy0 (fun k_ e_ => HO_9.out.1 k_ e_)); have n2_ := Aside0.mk (Kd.R_mono (ok' := fun k_ => True) (Kd.R_keptB ((Kd.R_apart' HO_829001.out (Kd.R_typed HO_9.out) (by decide))) hkp (fun k_ hk_ hs_ => (hk_.2) hs_)) (fun k_ hk_ => trivial)); have n3_ := Aside0.mk (blk_kept (by (with_reducible repeat (first | refine blk_drewN ?_ _ | refine blk_drew ?_ | refine blk_alloc ?_ _)); exact BK812.out) hkp (fun hs_ => (fun e_ => (Kd.R_ne HO_9.out BK812.out (by decide)) e_) hs_)); have n4_ := Aside0.mk (blk_kept (by (with_reducible repeat (first | refine blk_drewN ?_ _ | refine blk_drew ?_ | refine blk_alloc ?_ _)); exact BK828.out) hkp (fun hs_ => (fun e_ => (Kd.R_ne HO_9.out BK828.out (by decide)) e_) hs_)); have n5_ := Aside0.mk (hb); clear HO_6; clear HO_9; clear HO_829001; clear BK812; clear BK828; clear HB; have HO_6 := n0_; have HO_9 := n1_; have HO_829001 := n2_; have BK812 := n3_; have BK828 := n4_; have HB := n5_; clear n0_ n1_ n2_ n3_ n4_ n5_; (try clear hb); (try clear hkp); (try clear hy0)) | ((with_reducible refine gate_callee (f := 29) rfl ?_); refine goesL_ (some 67) rfl rfl Try.func29 (by kernel_rfl) rfl #[.slice Ao46 t851.length co46, .int .i64 1] rfl (by (try simp only [List.map_toArray, List.map_cons, List.map_nil]); first | done | (rw [show t851.length = t832.length from (Kd.R_reads' HO_9.out).1.symm] <;> rfl) | rfl | (simp only [List.length_drop, List.length_take]; rfl)) ?_; (with_reducible refine (laws_heldIntS.calls kj25 _ _ t851 1 t852 _ ?side1 ?side2 A61.out).mono ?_); (case side1 => repeat (first | exact (Kd.R_reads' HO_9.out).2.2 | (with_reducible refine Kd.C_alloc ?_ _) | (with_reducible refine Kd.C_drewN ?_ _) | (with_reducible refine Kd.C_drew ?_))); (case side2 => rw [show t851.length = t832.length from (Kd.R_reads' HO_9.out).1.symm]; exact (Kd.R_reads' HO_9.out).2.1); rintro e w' ⟨rfl, ⟨nd, rfl⟩⟩; refine ⟨_, rfl, ?_⟩; have hnb73 := NB812_828.out; have hnc73 := NB828_812.out; have hcz74_0 : w72.cell? ⟨gb812, 0, none⟩ = some (.int .i64 a0_0) := (blk_cell BK812.out 0).trans rfl; have hcz74_1 : w72.cell? ⟨gb812, 1, none⟩ = some (.slice A0_1 l0_1.length c0_1) := (blk_cell BK812.out 1).trans rfl; have hfz74_0 := blk_frozen BK812.out 0; have hfz74_1 := blk_frozen BK812.out 1) | ((with_reducible refine gate_callee (f := 16) rfl ?_); refine goesL_ (some 74) rfl rfl Try.func16 (by kernel_rfl) rfl #[.agg #[.int .i64 a0_0, .slice A0_1 l0_1.length c0_1]] rfl (by (try simp only [List.map_toArray, List.map_cons, List.map_nil]); first | done | rfl | (simp only [List.length_drop, List.length_take]; rfl)) ?_; (with_reducible refine (laws_toNet.calls kj25 a0_0 _ _ l0_1 t853 t854 _ ?side1 ?side2 A64.out).mono ?_); (case side1 => repeat (first | exact (Kd.C_below HR0_1.out (by repeat (first | (with_reducible first | exact HB.out | apply below_alloc | apply pw_below_drewN | apply below_drew1 | refine below_set ?_ GE812.out | refine below_set ?_ GE828.out) | exact HB.out))) | (with_reducible refine Kd.C_alloc ?_ _) | (with_reducible refine Kd.C_drewN ?_ _) | (with_reducible refine Kd.C_drew ?_))); (case side2 => exact HC0_1.out); rintro e w75 ⟨v855, rfl, ho0, hb⟩; refine ⟨_, rfl, ?_⟩; have n0_ := Aside0.mk (Kd.R_below (by (with_reducible repeat (first | apply Kd.R_alloc | apply Kd.R_drewN | apply Kd.R_drew)); exact HO_6.out) hb); have n1_ := Aside0.mk (Kd.R_below (by (with_reducible repeat (first | apply Kd.R_alloc | apply Kd.R_drewN | apply Kd.R_drew)); exact HO_9.out) hb); have n2_ := Aside0.mk (Kd.R_elder' (by (with_reducible repeat (first | apply Kd.R_alloc | apply Kd.R_drewN | apply Kd.R_drew)); exact HO_829001.out) (Kd.R_base ho0) hb); have n3_ := Aside0.mk (Kd.R_lower (Kd.R_new' ho0 (Kd.R_lt (by (with_reducible repeat (first | apply Kd.R_alloc | apply Kd.R_drewN | apply Kd.R_drew)); exact HO_829001.out))) (below_size (by repeat (first | (with_reducible first | exact HB.out | apply below_alloc | apply pw_below_drewN | apply below_drew1 | refine below_set ?_ GE812.out | refine below_set ?_ GE828.out) | exact HB.out)))); have n4_ := Aside0.mk (blk_below (g := gb812) (o := .cells #[.int .i64 a0_0, .slice A0_1 l0_1.length c0_1] 24 (0, 0)) (by (with_reducible repeat (first | refine blk_drewN ?_ _ | refine blk_drew ?_ | refine blk_alloc ?_ _)); exact BK812.out) hb); have n5_ := Aside0.mk (blk_below (g := gb828) (o := .cells #[.int .i64 t824, .slice Ao41 t846.length co41] 30 (0, 0)) (by (with_reducible repeat (first | refine blk_drewN ?_ _ | refine blk_drew ?_ | refine blk_alloc ?_ _)); exact BK828.out) hb); have n6_ := Aside0.mk (below_step (by repeat (first | (with_reducible first | exact HB.out | apply below_alloc | apply pw_below_drewN | apply below_drew1 | refine below_set ?_ GE812.out | refine below_set ?_ GE828.out) | exact HB.out)) hb); clear HO_6; clear HO_9; clear HO_829001; clear BK812; clear BK828; clear HB; have HO_6 := n0_; have HO_9 := n1_; have HO_829001 := n2_; have HO856 := n3_; have BK812 := n4_; have BK828 := n5_; have HB := n6_; clear n0_ n1_ n2_ n3_ n4_ n5_ n6_; (try clear hb); (try clear hb2); (try clear hk); (try clear hi); (try clear ho0)) | ((with_reducible refine gate_callee (f := 17) rfl ?_); refine goesL_ (some 76) rfl rfl Try.func17 (by kernel_rfl) rfl #[.slice A1 l1.length c1] rfl (by (try simp only [List.map_toArray, List.map_cons, List.map_nil]); first | done | rfl | (simp only [List.length_drop, List.length_take]; rfl)) ?_; (with_reducible refine (laws_toBoolS.calls kj25 _ _ l1 t857 _ ?side1 ?side2 A65.out).mono ?_); (case side1 => repeat (first | exact (Kd.C_below HR1.out HB.out) | (with_reducible refine Kd.C_alloc ?_ _) | (with_reducible refine Kd.C_drewN ?_ _) | (with_reducible refine Kd.C_drew ?_))); (case side2 => exact HC1.out); rintro e w76 ⟨v858, rfl, ho0, hb⟩; refine ⟨_, rfl, ?_⟩; have n0_ := Aside0.mk (Kd.R_below (by (with_reducible repeat (first | apply Kd.R_alloc | apply Kd.R_drewN | apply Kd.R_drew)); exact HO_6.out) hb); have n1_ := Aside0.mk (Kd.R_below (by (with_reducible repeat (first | apply Kd.R_alloc | apply Kd.R_drewN | apply Kd.R_drew)); exact HO_9.out) hb); have n2_ := Aside0.mk (Kd.R_below (by (with_reducible repeat (first | apply Kd.R_alloc | apply Kd.R_drewN | apply Kd.R_drew)); exact HO_829001.out) hb); have n3_ := Aside0.mk (Kd.R_below (by (with_reducible repeat (first | apply Kd.R_alloc | apply Kd.R_drewN | apply Kd.R_drew)); exact HO856.out) hb); have n4_ := Aside0.mk (Kd.R_lower ho0 (below_size (by repeat (first | (with_reducible first | exact HB.out | apply below_alloc | apply pw_below_drewN | apply below_drew1 | refine below_set ?_ GE812.out | refine below_set ?_ GE828.out) | exact HB.out)))); have n5_ := Aside0.mk (blk_below (g := gb812) (o := .cells #[.int .i64 a0_0, .slice A0_1 l0_1.length c0_1] 24 (0, 0)) (by (with_reducible repeat (first | refine blk_drewN ?_ _ | refine blk_drew ?_ | refine blk_alloc ?_ _)); exact BK812.out) hb); have n6_ := Aside0.mk (blk_below (g := gb828) (o := .cells #[.int .i64 t824, .slice Ao41 t846.length co41] 30 (0, 0)) (by (with_reducible repeat (first | refine blk_drewN ?_ _ | refine blk_drew ?_ | refine blk_alloc ?_ _)); exact BK828.out) hb); have n7_ := Aside0.mk (below_step (by repeat (first | (with_reducible first | exact HB.out | apply below_alloc | apply pw_below_drewN | apply below_drew1 | refine below_set ?_ GE812.out | refine below_set ?_ GE828.out) | exact HB.out)) hb); clear HO_6; clear HO_9; clear HO_829001; clear HO856; clear BK812; clear BK828; clear HB; have HO_6 := n0_; have HO_9 := n1_; have HO_829001 := n2_; have HO856 := n3_; have HO859 := n4_; have BK812 := n5_; have BK828 := n6_; have HB := n7_; clear n0_ n1_ n2_ n3_ n4_ n5_ n6_ n7_; (try clear hb); (try clear hb2); (try clear hk); (try clear hi); (try clear ho0); obtain ⟨Ao77, co77, eo77⟩ := Kd.R_slice HO856.out; subst eo77; obtain ⟨Ao78, co78, eo78⟩ := Kd.R_slice HO859.out; subst eo78) | ((with_reducible refine gate_callee (f := 44) rfl ?_); refine goesL_ (some 77) rfl rfl Try.func44 (by kernel_rfl) rfl #[.agg #[.int .i64 t853, .slice Ao77 t854.length co77], .slice Ao78 t857.length co78] rfl (by (try simp only [List.map_toArray, List.map_cons, List.map_nil]); first | done | rfl | (simp only [List.length_drop, List.length_take]; rfl)) ?_; (with_reducible refine (impl_BridgeLines.calls kj25 t853 _ _ t854 _ _ t857 t860 _ ?side1 ?side2 ?side3 ?side4 A66.out).mono ?_); (case side1 => repeat (first | exact (Kd.R_reads' HO856.out).2.2 | (with_reducible refine Kd.C_alloc ?_ _) | (with_reducible refine Kd.C_drewN ?_ _) | (with_reducible refine Kd.C_drew ?_))); (case side2 => exact (Kd.R_reads' HO856.out).2.1); (case side3 => repeat (first | exact (Kd.R_reads' HO859.out).2.2 | (with_reducible refine Kd.C_alloc ?_ _) | (with_reducible refine Kd.C_drewN ?_ _) | (with_reducible refine Kd.C_drew ?_))); (case side4 => exact (Kd.R_reads' HO859.out).2.1); rintro e w79 ⟨v861, rfl, ho0, hb⟩; refine ⟨_, rfl, ?_⟩; have n0_ := Aside0.mk (Kd.R_elder' (by (with_reducible repeat (first | apply Kd.R_alloc | apply Kd.R_drewN | apply Kd.R_drew)); exact HO_6.out) (Kd.R_base ho0) hb); have n1_ := Aside0.mk (Kd.R_elder' (by (with_reducible repeat (first | apply Kd.R_alloc | apply Kd.R_drewN | apply Kd.R_drew)); exact HO_9.out) (Kd.R_base ho0) hb); have n2_ := Aside0.mk (Kd.R_below (by (with_reducible repeat (first | apply Kd.R_alloc | apply Kd.R_drewN | apply Kd.R_drew)); exact HO_829001.out) hb); have n3_ := Aside0.mk (Kd.R_below (by (with_reducible repeat (first | apply Kd.R_alloc | apply Kd.R_drewN | apply Kd.R_drew)); exact HO856.out) hb); have n4_ := Aside0.mk (Kd.R_below (by (with_reducible repeat (first | apply Kd.R_alloc | apply Kd.R_drewN | apply Kd.R_drew)); exact HO859.out) hb); have n5_ := Aside0.mk (Kd.R_lower (Kd.R_new' (Kd.R_new' ho0 (Kd.R_lt (by (with_reducible repeat (first | apply Kd.R_alloc | apply Kd.R_drewN | apply Kd.R_drew)); exact HO_6.out))) (Kd.R_lt (by (with_reducible repeat (first | apply Kd.R_alloc | apply Kd.R_drewN | apply Kd.R_drew)); exact HO_9.out))) (below_size (by repeat (first | (with_reducible first | exact HB.out | apply below_alloc | apply pw_below_drewN | apply below_drew1 | refine below_set ?_ GE812.out | refine below_set ?_ GE828.out) | exact HB.out)))); have n6_ := Aside0.mk (blk_below (g := gb812) (o := .cells #[.int .i64 a0_0, .slice A0_1 l0_1.length c0_1] 24 (0, 0)) (by (with_reducible repeat (first | refine blk_drewN ?_ _ | refine blk_drew ?_ | refine blk_alloc ?_ _)); exact BK812.out) hb); have n7_ := Aside0.mk (blk_below (g := gb828) (o := .cells #[.int .i64 t824, .slice Ao41 t846.length co41] 30 (0, 0)) (by (with_reducible repeat (first | refine blk_drewN ?_ _ | refine blk_drew ?_ | refine blk_alloc ?_ _)); exact BK828.out) hb); have n8_ := Aside0.mk (below_step (by repeat (first | (with_reducible first | exact HB.out | apply below_alloc | apply pw_below_drewN | apply below_drew1 | refine below_set ?_ GE812.out | refine below_set ?_ GE828.out) | exact HB.out)) hb); clear HO_6; clear HO_9; clear HO_829001; clear HO856; clear HO859; clear BK812; clear BK828; clear HB; have HO_6 := n0_; have HO_9 := n1_; have HO_829001 := n2_; have HO856 := n3_; have HO859 := n4_; have HO862 := n5_; have BK812 := n6_; have BK828 := n7_; have HB := n8_; clear n0_ n1_ n2_ n3_ n4_ n5_ n6_ n7_ n8_; (try clear hb); (try clear hb2); (try clear hk); (try clear hi); (try clear ho0); obtain ⟨Ao80, co80, eo80⟩ := Kd.R_slice HO862.out; subst eo80) | ((with_reducible refine gate_callee (f := 25) rfl ?_); refine goesL_ (some 80) rfl rfl Try.func25 (by kernel_rfl) rfl #[.slice Ao80 t860.length co80, .slice Ao47 t821.length co47] rfl (by (try simp only [List.map_toArray, List.map_cons, List.map_nil]); first | done | rfl | (simp only [List.length_drop, List.length_take]; rfl)) ?_; (with_reducible refine (laws_eqIntS.calls kj25 _ _ t860 _ _ t821 true _ ?side1 ?side2 ?side3 ?side4 A67.out).mono ?_); (case side1 => repeat (first | exact (Kd.R_reads' HO862.out).2.2 | (with_reducible refine Kd.C_alloc ?_ _) | (with_reducible refine Kd.C_drewN ?_ _) | (with_reducible refine Kd.C_drew ?_))); (case side2 => exact (Kd.R_reads' HO862.out).2.1); (case side3 => repeat (first | exact (Kd.R_reads' HO_6.out).2.2 | (with_reducible refine Kd.C_alloc ?_ _) | (with_reducible refine Kd.C_drewN ?_ _) | (with_reducible refine Kd.C_drew ?_))); (case side4 => exact (Kd.R_reads' HO_6.out).2.1); rintro e w' ⟨rfl, ⟨nd, rfl⟩⟩; refine ⟨_, rfl, ?_⟩) | ((with_reducible refine gate_callee (f := 29) rfl ?_); refine goesL_ (some 84) rfl rfl Try.func29 (by kernel_rfl) rfl #[.slice Ao46 t851.length co46, .int .i64 1] rfl (by (try simp only [List.map_toArray, List.map_cons, List.map_nil]); first | done | (rw [show t851.length = t832.length from (Kd.R_reads' HO_9.out).1.symm] <;> rfl) | rfl | (simp only [List.length_drop, List.length_take]; rfl)) ?_; (with_reducible refine (laws_heldIntS.calls kj25 _ _ t851 1 t864 _ ?side1 ?side2 A69.out).mono ?_); (case side1 => repeat (first | exact (Kd.R_reads' HO_9.out).2.2 | (with_reducible refine Kd.C_alloc ?_ _) | (with_reducible refine Kd.C_drewN ?_ _) | (with_reducible refine Kd.C_drew ?_))); (case side2 => rw [show t851.length = t832.length from (Kd.R_reads' HO_9.out).1.symm]; exact (Kd.R_reads' HO_9.out).2.1); rintro e w' ⟨rfl, ⟨nd, rfl⟩⟩; refine ⟨_, rfl, ?_⟩))
   go_ret
   exact ⟨by first | rfl | (simp [errW_none, errW_some] <;> rfl) | (simp [*, errW_none, errW_some] <;> rfl), by repeat (first | (with_reducible first | exact HB.out | apply below_alloc | apply pw_below_drewN | apply below_drew1 | refine below_set ?_ GE812.out | refine below_set ?_ GE828.out) | exact HB.out)⟩

end Go.Proofs.Ytknddipjabkfbaa.P

/- Contracts of Go functions of this seat's translation, written by this repo's wip/mk.py: it calls the kit's print.py with contracts typed by hand in place of functions that it does not take. Not trusted: Lean checks it. -/
import Derived.Test.YtpgjgbjkfgbpaaaDoorP0
import Derived.Test.YtpgjgbjkfgbpaaaDoorP16
import Derived.Test.YtpgjgbjkfgbpaaaDoorP5
import Derived.Test.YtpgjgbjkfgbpaaaDoorP21
import Derived.Test.YtpgjgbjkfgbpaaaDoorP22
import Derived.Test.YtpgjgbjkfgbpaaaDoorP23
import Derived.Test.YtpgjgbjkfgbpaaaDoorP25
import Derived.Test.YtpgjgbjkfgbpaaaDoorP29
import Derived.Test.YtpgjgbjkfgbpaaaDoorP32
namespace Go.Proofs.YtpgjgbjkfgbpaaaDoor.P
open Go.RowKit Go.Proofs.YtpgjgbjkfgbpaaaDoorW.PrintWords Go.Proofs.YtpgjgbjkfgbpaaaDoorW.PrintLast Go.Proofs.YtpgjgbjkfgbpaaaDoorW.PrintMore
attribute [local go_sem] max2_int min2_int max_two min_two max_three min_three max_four min_four   -- for this text's walks alone
set_option linter.unusedVariables false
set_option linter.unusedSimpArgs false

/-! ### spec_DrawIslandLoad: function 27 -/
def spec_DrawIslandLoad.f (k : Nat) (l0 : List Int) : Option (Int × (List (S79)) × List Bool × (List (S33)) × Int) := (spec_DrawIslandFeed.f k l0).bind fun bt541 => (some (bt541.1, bt541.2.1, bt541.2.2.1, bt541.2.2.2.1, bt541.2.2.2.2))
theorem spec_DrawIslandLoad.mono : ∀ a0 k, LeO (spec_DrawIslandLoad.f k a0) (spec_DrawIslandLoad.f (k + 1) a0) := by
 intro a0 k
 unfold spec_DrawIslandLoad.f
 repeat' first
   | (with_reducible exact spec_DrawIslandFeed.mono _ _)
   | (with_reducible exact LeO.refl _)
   | (with_reducible exact LeO.none _)
   | (with_reducible refine LeO.ite ?_ ?_)
   | (with_reducible refine LeO.bind ?_ (fun _ => ?_))
   | exact spec_DrawIslandFeed.mono _ _
   | exact LeO.none _
   | refine LeO.ite ?_ ?_
   | refine LeO.bind ?_ (fun _ => ?_)
set_option maxHeartbeats 8000000 in
set_option maxRecDepth 100000 in
theorem spec_DrawIslandLoad.calls (k : Nat) (A0 : Option Addr) (c0 : Nat) (l0 : List Int) (r1 : Int) (r2 : List (S79)) (r3 : List Bool) (r4 : List (S33)) (r5 : Int) (w : World) (hr0 : Kd.C (Kd.int .u8) w A0 l0.length l0) (hc0 : l0.length ≤ c0) (h : spec_DrawIslandLoad.f k l0 = some (r1, r2, r3, r4, r5)) :
  Calls Tryd.prog 27 #[.slice A0 l0.length c0] w fun e w' => ∃ v1_ v2_ v3_ : Value, e = .returned (.tuple #[.agg #[.int .i64 r1, v1_], v2_, v3_, .int .i64 r5]) ∧ Kd.R k79 79 w' w.heap.size (fun _ => True) v1_ r2 ∧ Kd.R Kd.bool 4 w' w.heap.size (fun _ => True) v2_ r3 ∧ Kd.R k33 33 w' w.heap.size (fun _ => True) v3_ r4 ∧ Below w.heap.size w w' := by
 have hu25 := Tryd.underlying25
 have HR0 := Aside0.mk hr0
 have HC0 := Aside0.mk hc0
 clear hr0 hc0
 have HB := aM (Below.refl w.heap.size w)
 have H : ((spec_DrawIslandFeed.f k l0).bind fun bt541 => (some (bt541.1, bt541.2.1, bt541.2.2.1, bt541.2.2.2.1, bt541.2.2.2.2))) = some (r1, r2, r3, r4, r5) := h
 clear h
 replace H := Option.bind_eq_some_iff.mp H
 obtain ⟨⟨t541, t542, t545, t548, t551⟩, A20, H⟩ := H
 replace H : (some (t541, t542, t545, t548, t551)) = some (r1, r2, r3, r4, r5) := H
 have A2 := Aside0.mk A20
 clear A20
 simp only [Option.some.injEq, Prod.mk.injEq] at H
 obtain ⟨rfl, rfl, rfl, rfl, rfl⟩ := H
 go_enter Tryd.func27, Tryd.ntmps27
 go_wp2_with (first | ((with_reducible refine gate_dst (N := 2) rfl ?_); refine box_event ?hg (N := 2) ?hd (cs := #[.int .i64 0, .slice none 0 0]) (t := 25) ?hr ?_; (case hd => rfl); (case hg => rfl); (case hr => exact hR); intro gb540 hg w3 hbox hb; have n0_ := aM (below_step (bl0 HB) hb); have n1_ := aM (hbox); have n2_ := aM ((by rw [hg]; exact (below_size (bl0 HB)) : w.heap.size ≤ gb540)); have n3_ := aM ((by rw [hg]; exact (below_size (bl0 HB)) : w.heap.size ≤ gb540)); clear HB; have HB := n0_; have BK540 := n1_; have GW540 := n2_; have GE540 := n3_; clear n0_ n1_ n2_ n3_; clear hb hbox hg) | ((with_reducible refine gate_callee (f := 14) rfl ?_); refine goesL_ (some 7) rfl rfl Tryd.func14 (by kernel_rfl) rfl #[.slice A0 l0.length c0] rfl mP ?_; (with_reducible refine (spec_DrawIslandFeed.calls k _ _ l0 t541 t542 t545 t548 t551 _ ?side1 ?side2 A2.out).mono ?_); (case side1 => exact gC ((Kd.C_below HR0.out HB.out))); (case side2 => exact HC0.out); rintro e w4 ⟨v543, v546, v549, rfl, ho0, ho1, ho2, hb⟩; refine ⟨_, rfl, ?_⟩; have n0_ := aM (Kd.R_lower ho0 (below_size (bl1 HB GE540))); have n1_ := aM (Kd.R_lower ho1 (below_size (bl1 HB GE540))); have n2_ := aM (Kd.R_lower ho2 (below_size (bl1 HB GE540))); have n3_ := aM (blk_below (g := gb540) (o := .cells #[.int .i64 0, .slice none 0 0] 25 (0, 0)) (gB (BK540.out)) hb); have n4_ := aM (below_step (bl1 HB GE540) hb); clear BK540; clear HB; have HO544 := n0_; have HO547 := n1_; have HO550 := n2_; have BK540 := n3_; have HB := n4_; clear n0_ n1_ n2_ n3_ n4_; (try clear hb); (try clear hb2); (try clear hk); (try clear hi); (try clear ho0); (try clear ho1); (try clear ho2); have hcz5_0 : w4.cell? ⟨gb540, 0, none⟩ = some (.int .i64 0) := (blk_cell BK540.out 0).trans rfl; have hcz5_1 : w4.cell? ⟨gb540, 1, none⟩ = some (.slice none 0 0) := (blk_cell BK540.out 1).trans rfl; have hfz5_0 := blk_frozen BK540.out 0; have hfz5_1 := blk_frozen BK540.out 1; obtain ⟨Ao6, co6, eo6⟩ := Kd.R_slice HO544.out; subst eo6))
 refine bodyPost_ret (results_list (rs := [.cell 2 25, .tmp 3, .tmp 4, .tmp 5]) rfl (by simp) (.cell gb540 25 #[.int .i64 t541, .slice Ao6 t542.length co6] (0, 0) _ rfl (by (with_reducible repeat (first | refine blk_drewN ?_ _ | refine blk_drew ?_ | refine blk_alloc ?_ _)); refine blk_put (cs := #[.int .i64 t541, .slice none 0 0]) ?_ 1 _ rfl; (with_reducible repeat (first | refine blk_drewN ?_ _ | refine blk_drew ?_ | refine blk_alloc ?_ _)); refine blk_put (cs := #[.int .i64 0, .slice none 0 0]) ?_ 0 _ rfl; (with_reducible repeat (first | refine blk_drewN ?_ _ | refine blk_drew ?_ | refine blk_alloc ?_ _)); exact BK540.out) Tryd.underlying25 rfl (by kernel_rfl) (.tmp (.tmp (.tmp .nil))))) rfl ?_
 exact ⟨_, _, _, fR, by (with_reducible repeat (first | apply Kd.R_alloc | apply Kd.R_drewN | apply Kd.R_drew)); exact Kd.R_mono (Kd.R_far (p := ⟨gb540, 1, none⟩) (Kd.R_far (p := ⟨gb540, 0, none⟩) (Kd.R_types HO544.out BK540.out (by decide)) (fun _ hk => hk.2) (.int .i64 t541)) (fun _ hk => hk.2) (.slice Ao6 t542.length co6)) (fun _ hk => trivial), by (with_reducible repeat (first | apply Kd.R_alloc | apply Kd.R_drewN | apply Kd.R_drew)); exact Kd.R_mono (Kd.R_far (p := ⟨gb540, 1, none⟩) (Kd.R_far (p := ⟨gb540, 0, none⟩) (Kd.R_types HO547.out BK540.out (by decide)) (fun _ hk => hk.2) (.int .i64 t541)) (fun _ hk => hk.2) (.slice Ao6 t542.length co6)) (fun _ hk => trivial), by (with_reducible repeat (first | apply Kd.R_alloc | apply Kd.R_drewN | apply Kd.R_drew)); exact Kd.R_mono (Kd.R_far (p := ⟨gb540, 1, none⟩) (Kd.R_far (p := ⟨gb540, 0, none⟩) (Kd.R_types HO550.out BK540.out (by decide)) (fun _ hk => hk.2) (.int .i64 t541)) (fun _ hk => hk.2) (.slice Ao6 t542.length co6)) (fun _ hk => trivial), bl1 HB GE540⟩

end Go.Proofs.YtpgjgbjkfgbpaaaDoor.P
namespace Go.Proofs.YtpgjgbjkfgbpaaaDoor.P
open Go.RowKit Go.Proofs.YtpgjgbjkfgbpaaaDoorW.PrintWords Go.Proofs.YtpgjgbjkfgbpaaaDoorW.PrintLast Go.Proofs.YtpgjgbjkfgbpaaaDoorW.PrintMore
attribute [local go_sem] max2_int min2_int max_two min_two max_three min_three max_four min_four   -- for this text's walks alone
set_option linter.unusedVariables false
set_option linter.unusedSimpArgs false

/-! ### impl_IslandLoad: function 28 -/

def impl_IslandLoad.f (k : Nat) (a0_0 : Int) (l0_1 : List S79) (l1 : List Bool) (l2 : List S33) (a3 : Int) : Option Int := (impl_fedValid.f k a0_0 l0_1 l1 l2).bind fun t => (if t = true then ((impl_Net_hasBus.f a0_0 l0_1 a3).bind fun t2 => (if t2 = true then ((impl_sumsOf.f k a0_0 l0_1 l1 l2).bind fun s => ((impl_unionOf.f k a0_0 l0_1 l1).bind fun u => ((impl_union_find.f k u a3).bind fun ru => (if 0 ≤ ru.1 then (if ru.1 < 8 then some (sAt s (8 + ru.1.toNat)) else none) else none)))) else some (-1))) else some (-1))
theorem impl_IslandLoad.mono : ∀ a0 a1 a2 a3 a4 k, LeO (impl_IslandLoad.f k a0 a1 a2 a3 a4) (impl_IslandLoad.f (k + 1) a0 a1 a2 a3 a4) := by
 intro a0 a1 a2 a3 a4 k
 unfold impl_IslandLoad.f
 exact LeO.bind (impl_fedValid.mono _ _ _ _ _) fun _ => LeO.ite (LeO.bind (LeO.refl _) fun _ => LeO.ite (LeO.bind (impl_sumsOf.mono _ _ _ _ _) fun _ => LeO.bind (impl_unionOf.mono _ _ _ _) fun _ => LeO.bind (impl_union_find.mono _ _ _) fun _ => LeO.refl _) (LeO.refl _)) (LeO.refl _)
def impl_IslandLoad.T3 : Bool × List (List Nat × List Nat) := (true, [([], []), ([], []), ([], []), ([0, 1, 2], [0, 1, 2]), ([3], [3]), ([], []), ([], []), ([5, 6, 3], [5, 6]), ([], []), ([7, 8, 7], [7, 8]), ([4, 9], [4, 9]), ([10, 9, 0, 1, 2, 3, 4, 5, 6, 7, 8, 9, 10], [10])])
def impl_IslandLoad.B3 : List Nat := [0, 0, 0, 7, 15, 0, 0, 111, 0, 495, 1023, 2047]
theorem impl_IslandLoad.tab3 : rtab .any (opsOf Tryd.f28 3) = impl_IslandLoad.T3 := by kernel_rfl
theorem impl_IslandLoad.bits3 : waitsOk impl_IslandLoad.T3.2 impl_IslandLoad.B3 = true := by kernel_rfl
set_option maxHeartbeats 8000000 in
set_option maxRecDepth 100000 in
theorem impl_IslandLoad.calls (k : Nat) (a0_0 : Int) (A0_1 : Option Addr) (c0_1 : Nat) (l0_1 : List S79) (A1 : Option Addr) (c1 : Nat) (l1 : List Bool) (A2 : Option Addr) (c2 : Nat) (l2 : List S33) (a3 : Int) (r : Int) (w : World) (hr0_1 : Kd.C k79 w A0_1 l0_1.length l0_1) (hc0_1 : l0_1.length ≤ c0_1) (hr1 : Kd.C Kd.bool w A1 l1.length l1) (hc1 : l1.length ≤ c1) (hr2 : Kd.C k33 w A2 l2.length l2) (hc2 : l2.length ≤ c2) (h : impl_IslandLoad.f k a0_0 l0_1 l1 l2 a3 = some r) :
  Calls Tryd.prog 28 #[.agg #[.int .i64 a0_0, .slice A0_1 l0_1.length c0_1], .slice A1 l1.length c1, .slice A2 l2.length c2, .int .i64 a3] w fun e w' => e = .returned (.int .i64 r) ∧ Below w.heap.size w w' := by
 have HR0 := Aside0.mk hr0_1
 have HC0 := Aside0.mk hc0_1
 have HR1 := Aside0.mk hr1
 have HC1 := Aside0.mk hc1
 have HR2 := Aside0.mk hr2
 have HC2 := Aside0.mk hc2
 clear hr0_1 hc0_1 hr1 hc1 hr2 hc2
 obtain ⟨t, A50, H⟩ := Option.bind_eq_some_iff.mp h
 have A5 := Aside0.mk A50
 clear A50 h
 have HB := aM (Below.refl w.heap.size w)
 by_cases ht : t = true
 rotate_left
 ·
  replace ht := Bool.eq_false_iff.mpr ht
  subst ht
  rw [if_neg (by decide)] at H
  obtain rfl := Option.some.inj H
  clear H
  go_enter Tryd.func28, Tryd.ntmps28
  go_wp2_with (first | ((with_reducible refine gate_dst (N := 4) rfl ?_); refine box_event ?hg (N := 4) ?hd (cs := #[.int .i64 a0_0, .slice A0_1 l0_1.length c0_1]) (t := 25) ?hr ?_; (case hd => rfl); (case hg => rfl); (case hr => exact hR); intro gb hg w5 hbox hb; have n0_ := aM (below_step HB.out hb); clear HB; have HB := n0_; have BN := Aside0.mk hbox; clear n0_ hb hbox hg; have hcz0 : w5.cell? ⟨gb, 0, none⟩ = some (.int .i64 a0_0) := (blk_cell BN.out 0).trans rfl; have hcz1 : w5.cell? ⟨gb, 1, none⟩ = some (.slice A0_1 l0_1.length c0_1) := (blk_cell BN.out 1).trans rfl) | ((with_reducible refine gate_callee (f := 69) rfl ?_); refine goesL_ (some 12) rfl rfl Tryd.func69 (by kernel_rfl) rfl #[.agg #[.int .i64 a0_0, .slice A0_1 l0_1.length c0_1], .slice A1 l1.length c1, .slice A2 l2.length c2] rfl (by (try simp only [List.map_toArray, List.map_cons, List.map_nil]); first | done | rfl) ?_; (with_reducible refine (impl_fedValid.calls k a0_0 _ _ l0_1 _ _ l1 _ _ l2 false _ ?side1 HC0.out ?side2 HC1.out ?side3 HC2.out A5.out).mono ?_); (case side1 => exact Kd.C_below HR0.out HB.out); (case side2 => exact Kd.C_below HR1.out HB.out); (case side3 => exact Kd.C_below HR2.out HB.out); rintro e w7 ⟨rfl, hb⟩; refine ⟨_, rfl, ?_⟩; have n0_ := aM (below_step HB.out hb); have n1_ := aM (blk_below BN.out hb); clear HB BN hcz0 hcz1; have HB := n0_; have BN := n1_; clear n0_ n1_ hb; have hcz0 : w7.cell? ⟨gb, 0, none⟩ = some (.int .i64 a0_0) := (blk_cell BN.out 0).trans rfl; have hcz1 : w7.cell? ⟨gb, 1, none⟩ = some (.slice A0_1 l0_1.length c0_1) := (blk_cell BN.out 1).trans rfl))
  go_ret
  exact ⟨rfl, HB.out⟩
 subst ht
 rw [if_pos rfl] at H
 obtain ⟨t2, A60, H⟩ := Option.bind_eq_some_iff.mp H
 have A6 := Aside0.mk A60
 clear A60
 by_cases ht : t2 = true
 rotate_left
 ·
  replace ht := Bool.eq_false_iff.mpr ht
  subst ht
  rw [if_neg (by decide)] at H
  obtain rfl := Option.some.inj H
  clear H
  go_enter Tryd.func28, Tryd.ntmps28
  go_wp2_with (first | ((with_reducible refine gate_dst (N := 4) rfl ?_); refine box_event ?hg (N := 4) ?hd (cs := #[.int .i64 a0_0, .slice A0_1 l0_1.length c0_1]) (t := 25) ?hr ?_; (case hd => rfl); (case hg => rfl); (case hr => exact hR); intro gb hg w5 hbox hb; have n0_ := aM (below_step HB.out hb); clear HB; have HB := n0_; have BN := Aside0.mk hbox; clear n0_ hb hbox hg; have hcz0 : w5.cell? ⟨gb, 0, none⟩ = some (.int .i64 a0_0) := (blk_cell BN.out 0).trans rfl; have hcz1 : w5.cell? ⟨gb, 1, none⟩ = some (.slice A0_1 l0_1.length c0_1) := (blk_cell BN.out 1).trans rfl) | ((with_reducible refine gate_callee (f := 69) rfl ?_); refine goesL_ (some 12) rfl rfl Tryd.func69 (by kernel_rfl) rfl #[.agg #[.int .i64 a0_0, .slice A0_1 l0_1.length c0_1], .slice A1 l1.length c1, .slice A2 l2.length c2] rfl (by (try simp only [List.map_toArray, List.map_cons, List.map_nil]); first | done | rfl) ?_; (with_reducible refine (impl_fedValid.calls k a0_0 _ _ l0_1 _ _ l1 _ _ l2 true _ ?side1 HC0.out ?side2 HC1.out ?side3 HC2.out A5.out).mono ?_); (case side1 => exact Kd.C_below HR0.out HB.out); (case side2 => exact Kd.C_below HR1.out HB.out); (case side3 => exact Kd.C_below HR2.out HB.out); rintro e w7 ⟨rfl, hb⟩; refine ⟨_, rfl, ?_⟩; have n0_ := aM (below_step HB.out hb); have n1_ := aM (blk_below BN.out hb); clear HB BN hcz0 hcz1; have HB := n0_; have BN := n1_; clear n0_ n1_ hb; have hcz0 : w7.cell? ⟨gb, 0, none⟩ = some (.int .i64 a0_0) := (blk_cell BN.out 0).trans rfl; have hcz1 : w7.cell? ⟨gb, 1, none⟩ = some (.slice A0_1 l0_1.length c0_1) := (blk_cell BN.out 1).trans rfl) | (go_at_call 70; (with_reducible refine (impl_Net_hasBus.calls a0_0 _ _ l0_1 a3 false _ ?side1 HC0.out A6.out).mono ?_); (case side1 => exact Kd.C_below HR0.out HB.out); rintro e w8 ⟨rfl, hb⟩; have n0_ := aM (below_step HB.out hb); have n1_ := aM (blk_below BN.out hb); clear HB BN hcz0 hcz1; have HB := n0_; have BN := n1_; clear n0_ n1_ hb))
  go_ret
  exact ⟨rfl, HB.out⟩
 subst ht
 rw [if_pos rfl] at H
 obtain ⟨s, A70, H⟩ := Option.bind_eq_some_iff.mp H
 obtain ⟨u, A80, H⟩ := Option.bind_eq_some_iff.mp H
 obtain ⟨⟨r1, u1⟩, A90, H⟩ := Option.bind_eq_some_iff.mp H
 have A17 := Aside0.mk A70
 have A18 := Aside0.mk A80
 have A19 := Aside0.mk A90
 clear A70 A80 A90
 by_cases c0 : 0 ≤ r1
 rotate_left
 ·
  rw [if_neg c0] at H
  exact absurd H (by simp)
 rw [if_pos c0] at H
 by_cases c1' : r1 < 8
 rotate_left
 ·
  rw [if_neg c1'] at H
  exact absurd H (by simp)
 rw [if_pos c1'] at H
 obtain rfl := Option.some.inj H
 have C0 := Aside0.mk c0
 have C1 := Aside0.mk c1'
 clear H c0 c1'
 go_enter Tryd.func28, Tryd.ntmps28
 go_wp2_with (first | ((with_reducible refine gate_dst (N := 4) rfl ?_); refine box_event ?hg (N := 4) ?hd (cs := #[.int .i64 a0_0, .slice A0_1 l0_1.length c0_1]) (t := 25) ?hr ?_; (case hd => rfl); (case hg => rfl); (case hr => exact hR); intro gb hg w5 hbox hb; have n0_ := aM (below_step HB.out hb); clear HB; have HB := n0_; have BN := Aside0.mk hbox; clear n0_ hb hbox hg; have hcz0 : w5.cell? ⟨gb, 0, none⟩ = some (.int .i64 a0_0) := (blk_cell BN.out 0).trans rfl; have hcz1 : w5.cell? ⟨gb, 1, none⟩ = some (.slice A0_1 l0_1.length c0_1) := (blk_cell BN.out 1).trans rfl) | ((with_reducible refine gate_callee (f := 69) rfl ?_); refine goesL_ (some 12) rfl rfl Tryd.func69 (by kernel_rfl) rfl #[.agg #[.int .i64 a0_0, .slice A0_1 l0_1.length c0_1], .slice A1 l1.length c1, .slice A2 l2.length c2] rfl (by (try simp only [List.map_toArray, List.map_cons, List.map_nil]); first | done | rfl) ?_; (with_reducible refine (impl_fedValid.calls k a0_0 _ _ l0_1 _ _ l1 _ _ l2 true _ ?side1 HC0.out ?side2 HC1.out ?side3 HC2.out A5.out).mono ?_); (case side1 => exact Kd.C_below HR0.out HB.out); (case side2 => exact Kd.C_below HR1.out HB.out); (case side3 => exact Kd.C_below HR2.out HB.out); rintro e w7 ⟨rfl, hb⟩; refine ⟨_, rfl, ?_⟩; have n0_ := aM (below_step HB.out hb); have n1_ := aM (blk_below BN.out hb); clear HB BN hcz0 hcz1; have HB := n0_; have BN := n1_; clear n0_ n1_ hb; have hcz0 : w7.cell? ⟨gb, 0, none⟩ = some (.int .i64 a0_0) := (blk_cell BN.out 0).trans rfl; have hcz1 : w7.cell? ⟨gb, 1, none⟩ = some (.slice A0_1 l0_1.length c0_1) := (blk_cell BN.out 1).trans rfl) | (go_at_call 70; (with_reducible refine (impl_Net_hasBus.calls a0_0 _ _ l0_1 a3 true _ ?side1 HC0.out A6.out).mono ?_); (case side1 => exact Kd.C_below HR0.out HB.out); rintro e w8 ⟨rfl, hb⟩; have n0_ := aM (below_step HB.out hb); have n1_ := aM (blk_below BN.out hb); clear HB BN hcz0 hcz1; have HB := n0_; have BN := n1_; clear n0_ n1_ hb))
 have n0_ := aM (blk_drew BN.out)
 have n1_ := aM (below_drew1 HB.out)
 clear BN HB
 have BN := n0_
 have HB := n1_
 clear n0_ n1_
 try clear hcz0 hcz1
 refine start_ (n := 12) (S := fun w' => w'.cell? ⟨gb, 0, none⟩ = some (.int .i64 a0_0) ∧ w'.cell? ⟨gb, 1, none⟩ = some (.slice A0_1 l0_1.length c0_1)) (ds := []) #[false, false, false, false, false, false, false, false, false, false, false, false] (by kernel_rfl) rfl rfl ⟨(blk_cell BN.out 0).trans rfl, (blk_cell BN.out 1).trans rfl⟩ (fun hHeld => ?_); refine with_tabW impl_IslandLoad.tab3 impl_IslandLoad.bits3 (fun HT_ HW_ => ?_)
 generalize w8.drew = w24 at BN HB hHeld ⊢
 refine pure_ (i := 1) (N := some 21) (v := ?_) (a' := ?_) #[false, true, false, false, false, false, false, false, false, false, false, false] rfl rfl (any_of HT_.out (by kernel_rfl)) (fun _ _ _ h => h) (Or.inl ⟨by rfl, ?_⟩) ?_ ?_
 rotate_left
 ·
  intro w'
  go_simp
  with_reducible rfl
 rotate_left
 ·
  simp only [Act.put, List.setIfInBounds_toArray, List.set_cons_zero, List.set_cons_succ, i64_w, i32_w]
  rfl
 refine pure_ (i := 2) (N := some 22) (v := ?_) (a' := ?_) #[false, true, true, false, false, false, false, false, false, false, false, false] rfl rfl (any_of HT_.out (by kernel_rfl)) (fun _ _ _ h => h) (Or.inl ⟨by rfl, ?_⟩) ?_ ?_
 rotate_left
 ·
  intro w'
  go_simp
  with_reducible rfl
 rotate_left
 ·
  simp only [Act.put, List.setIfInBounds_toArray, List.set_cons_zero, List.set_cons_succ, i64_w, i32_w]
  rfl
 refine pure_ (i := 6) (N := some 26) (v := ?_) (a' := ?_) #[false, true, true, false, false, false, true, false, false, false, false, false] rfl rfl (any_of HT_.out (by kernel_rfl)) (fun _ _ _ h => h) (Or.inl ⟨by rfl, ?_⟩) ?_ ?_
 rotate_left
 ·
  intro w'
  go_simp
  with_reducible rfl
 rotate_left
 ·
  simp only [Act.put, List.setIfInBounds_toArray, List.set_cons_zero, List.set_cons_succ, i64_w, i32_w]
  rfl
 refine pure_ (i := 8) (N := some 28) (v := ?_) (a' := ?_) #[false, true, true, false, false, false, true, false, true, false, false, false] rfl rfl (any_of HT_.out (by kernel_rfl)) (fun _ _ _ h => h) (Or.inl ⟨by rfl, ?_⟩) ?_ ?_
 rotate_left
 ·
  intro w'
  go_simp
  with_reducible rfl
 rotate_left
 ·
  simp only [Act.put, List.setIfInBounds_toArray, List.set_cons_zero, List.set_cons_succ, i64_w, i32_w]
  rfl
 refine take_ (i := 0) (N := some 20) (v := ?_) (a' := ?_) #[true, true, true, false, false, false, true, false, true, false, false, false] rfl rfl (take_ofW HT_.out HW_.out (by kernel_rfl)) (fun _ _ _ h => h) (Or.inl ⟨by rfl, ?_⟩) hHeld ?_ ?_
 rotate_left
 ·
  rintro w' ⟨s0, s1⟩
  go_simp
  with_reducible rfl
 rotate_left
 ·
  simp only [Act.put, List.setIfInBounds_toArray, List.set_cons_zero, List.set_cons_succ, i64_w, i32_w]
  rfl
 refine take_ (i := 5) (N := some 25) (v := ?_) (a' := ?_) #[true, true, true, false, false, true, true, false, true, false, false, false] rfl rfl (take_ofW HT_.out HW_.out (by kernel_rfl)) (fun _ _ _ h => h) (Or.inl ⟨by rfl, ?_⟩) hHeld ?_ ?_
 rotate_left
 ·
  rintro w' ⟨s0, s1⟩
  go_simp
  with_reducible rfl
 rotate_left
 ·
  simp only [Act.put, List.setIfInBounds_toArray, List.set_cons_zero, List.set_cons_succ, i64_w, i32_w]
  rfl
 refine one_ (i := 3) (N := some 23) #[true, true, true, true, false, true, true, false, true, false, false, false] rfl rfl (one_of HT_.out (by kernel_rfl)) (by decide) (fun K hK => ?_)
 refine goes_ Tryd.func71 (by kernel_rfl) rfl #[.agg #[.int .i64 a0_0, .slice A0_1 l0_1.length c0_1], .slice A1 l1.length c1, .slice A2 l2.length c2] (by rfl) rfl rfl (by (try simp only [List.map_toArray, List.map_cons, List.map_nil]); first | done | rfl) ?_
 with_reducible refine (impl_sumsOf.calls k a0_0 _ _ l0_1 _ _ l1 _ _ l2 s _ ?side1 HC0.out ?side3 HC1.out ?side5 HC2.out A17.out).mono ?_
 case side1 => exact Kd.C_below HR0.out HB.out
 case side3 => exact Kd.C_below HR1.out HB.out
 case side5 => exact Kd.C_below HR2.out HB.out
 rintro e w25 ⟨rfl, hb⟩
 refine ⟨_, rfl, ?_⟩
 have hff := sums_fieldL s
 have n0_ := aM (blk_below BN.out hb)
 have n1_ := aM (below_step HB.out hb)
 clear BN HB hb
 have BN := n0_
 have HB := n1_
 clear n0_ n1_
 refine hK.out _ _ ⟨(blk_cell BN.out 0).trans rfl, (blk_cell BN.out 1).trans rfl⟩ (fun hHeld => ?_)
 clear hK K
 refine norm_ (a' := ?_) ?_ ?_
 rotate_left
 ·
  show Act.put _ (some 23) _ = _
  simp only [Act.put, List.setIfInBounds_toArray, List.set_cons_zero, List.set_cons_succ, i64_w, i32_w]
  rfl
 refine pure_ (i := 4) (N := some 24) (v := ?_) (a' := ?_) #[true, true, true, true, true, true, true, false, true, false, false, false] rfl rfl (any_of HT_.out (by kernel_rfl)) (fun _ _ _ h => h) (Or.inl ⟨by rfl, ?_⟩) ?_ ?_
 rotate_left
 ·
  intro w'
  go_simp
  with_reducible rfl
 rotate_left
 ·
  simp only [Act.put, List.setIfInBounds_toArray, List.set_cons_zero, List.set_cons_succ, i64_w, i32_w]
  rfl
 clear hff
 refine one_ (i := 7) (N := some 27) #[true, true, true, true, true, true, true, true, true, false, false, false] rfl rfl (one_of HT_.out (by kernel_rfl)) (by decide) (fun K hK => ?_)
 refine goes_ Tryd.func72 (by kernel_rfl) rfl #[.agg #[.int .i64 a0_0, .slice A0_1 l0_1.length c0_1], .slice A1 l1.length c1] (by rfl) rfl rfl (by (try simp only [List.map_toArray, List.map_cons, List.map_nil]); first | done | rfl) ?_
 with_reducible refine (impl_unionOf.calls k a0_0 _ _ l0_1 _ _ l1 u _ ?side1 HC0.out ?side3 HC1.out A18.out).mono ?_
 case side1 => exact Kd.C_below HR0.out HB.out
 case side3 => exact Kd.C_below HR1.out HB.out
 rintro e w26 ⟨vu, rfl, ho0, hb⟩
 refine ⟨_, rfl, ?_⟩
 have NU := aM (show some gb = vu.ownBlock → False from fun e_ => by have h1 := Kd.R_base ho0 gb e_.symm; have h2 := blk_lt BN.out; omega)
 have HO := aM (Kd.R_lower ho0 HB.out.size)
 have n0_ := aM (blk_below BN.out hb)
 have n1_ := aM (below_step HB.out hb)
 clear BN HB hb ho0
 have BN := n0_
 have HB := n1_
 clear n0_ n1_
 refine hK.out _ _ ⟨(blk_cell BN.out 0).trans rfl, (blk_cell BN.out 1).trans rfl⟩ (fun hHeld => ?_)
 clear hK K
 refine norm_ (a' := ?_) ?_ ?_
 rotate_left
 ·
  show Act.put _ (some 27) _ = _
  simp only [Act.put, List.setIfInBounds_toArray, List.set_cons_zero, List.set_cons_succ, i64_w, i32_w]
  rfl
 refine one_ (i := 9) (N := some 29) #[true, true, true, true, true, true, true, true, true, true, false, false] rfl rfl (one_of HT_.out (by kernel_rfl)) (by decide) (fun K hK => ?_)
 refine goes_ Tryd.func73 (by kernel_rfl) rfl #[vu, .int .i64 a3] (by rfl) rfl rfl (by (try simp only [List.map_toArray, List.map_cons, List.map_nil]); first | done | rfl) ?_
 with_reducible refine (impl_union_find.calls k (ownS vu) vu u a3 r1 u1 w _ ?side1 ?side2 A19.out).mono ?_
 case side1 => exact HB.out
 case side2 => exact Kd.R_tight rfl HO.out
 rintro e w28 ⟨rfl, hy0, hb, hkp⟩
 refine ⟨_, rfl, ?_⟩
 have n0_ := aM (blk_kept BN.out hkp (fun e_ => (NU.out e_).elim))
 clear BN HB HO
 have BN := n0_
 have HB := Aside0.mk hb
 clear n0_ hb hkp hy0
 have hx23 := sums_load s r1 C0.out C1.out
 refine hK.out _ _ ⟨(blk_cell BN.out 0).trans rfl, (blk_cell BN.out 1).trans rfl⟩ (fun hHeld => ?_)
 clear hK K
 refine norm_ (a' := ?_) ?_ ?_
 rotate_left
 ·
  show Act.put _ (some 29) _ = _
  simp only [Act.put, List.setIfInBounds_toArray, List.set_cons_zero, List.set_cons_succ, i64_w, i32_w]
  rfl
 refine take_ (i := 10) (N := some 30) (v := ?_) (a' := ?_) #[true, true, true, true, true, true, true, true, true, true, true, false] rfl rfl (take_ofW HT_.out HW_.out (by kernel_rfl)) (fun _ _ _ h => h) (Or.inl ⟨by rfl, ?_⟩) hHeld ?_ ?_
 rotate_left
 ·
  rintro w' ⟨s0, s1⟩
  go_simp
  with_reducible rfl
 rotate_left
 ·
  simp only [Act.put, List.setIfInBounds_toArray, List.set_cons_zero, List.set_cons_succ, i64_w, i32_w]
  rfl
 refine pure_ (i := 11) (N := some 8) (v := ?_) (a' := ?_) #[true, true, true, true, true, true, true, true, true, true, true, true] rfl rfl (any_of HT_.out (by kernel_rfl)) (fun _ _ _ h => h) (Or.inl ⟨by rfl, ?_⟩) ?_ ?_
 rotate_left
 ·
  intro w'
  go_simp
  with_reducible rfl
 rotate_left
 ·
  simp only [Act.put, List.setIfInBounds_toArray, List.set_cons_zero, List.set_cons_succ, i64_w, i32_w]
  rfl
 refine done_ (done_of HT_.out (by kernel_rfl)) ?_
 try go_wp2
 go_ret
 exact ⟨rfl, HB.out⟩

end Go.Proofs.YtpgjgbjkfgbpaaaDoor.P
namespace Go.Proofs.YtpgjgbjkfgbpaaaDoor.P
open Go.RowKit Go.Proofs.YtpgjgbjkfgbpaaaDoorW.PrintWords Go.Proofs.YtpgjgbjkfgbpaaaDoorW.PrintLast Go.Proofs.YtpgjgbjkfgbpaaaDoorW.PrintMore
attribute [local go_sem] max2_int min2_int max_two min_two max_three min_three max_four min_four   -- for this text's walks alone
set_option linter.unusedVariables false
set_option linter.unusedSimpArgs false

/-! ### spec_IslandLoad: function 29 -/
mutual
def spec_IslandLoad.j0 : Nat → List Bool → List (S33) → Int → Bool → Int → List (S79) → Option (Int)
 | 0, _, _, _, _, _, _ => none
 | k + 1, x1, x2, x3, x24, x553000, x553001 => if x24 = true then (some (-1)) else ((spec_Reached.f k x553000 x553001 x1 x3).bind fun t555 => (spec_IslandLoad.l0 k x2 0 t555 0))
def spec_IslandLoad.l0 : Nat → List (S33) → Int → List Int → Int → Option (Int)
 | 0, _, _, _, _ => none
 | k + 1, x2, x9, x10, x11 => if x11 < (x10.length : Int) then (if 0 ≤ x11 then (if 0 ≤ (rd x10 x11) then (if (rd x10 x11) < (x2.length : Int) then (spec_IslandLoad.l0 k x2 (wrap64 (x9 + ((rd_T33 x2 (rd x10 x11)).f1))) x10 (wrap64 (x11 + 1))) else (none)) else (none)) else (none)) else (some x9)
end
def spec_IslandLoad.f (k : Nat) (a0_0 : Int) (l0_1 : List (S79)) (l1 : List Bool) (l2 : List (S33)) (a3 : Int) : Option (Int) := (spec_l5Ok.f k a0_0 l0_1 l1 l2).bind fun t553 => (if t553 = true then ((spec_l1In.f a3 0 (wrap64 (a0_0 - 1))).bind fun t554 => (spec_IslandLoad.j0 k l1 l2 a3 (!t554) a0_0 l0_1)) else (spec_IslandLoad.j0 k l1 l2 a3 true a0_0 l0_1))
theorem spec_IslandLoad.mono_l : ∀ k, (∀ y0 y1 y2 y3 y4 y5, LeO (spec_IslandLoad.j0 k y0 y1 y2 y3 y4 y5) (spec_IslandLoad.j0 (k + 1) y0 y1 y2 y3 y4 y5)) ∧ (∀ y0 y1 y2 y3, LeO (spec_IslandLoad.l0 k y0 y1 y2 y3) (spec_IslandLoad.l0 (k + 1) y0 y1 y2 y3))
 | 0 => ⟨fun _ _ _ _ _ _ r h => by simp [spec_IslandLoad.j0] at h, fun _ _ _ _ r h => by simp [spec_IslandLoad.l0] at h⟩
 | k + 1 => by
  obtain ⟨ih0, ih1⟩ := spec_IslandLoad.mono_l k
  refine ⟨?_, ?_⟩
  ·
   intro y0 y1 y2 y3 y4 y5
   unfold spec_IslandLoad.j0
   repeat' first
   | (with_reducible exact ih0 _ _ _ _ _ _)
   | (with_reducible exact ih1 _ _ _ _)
   | (with_reducible exact spec_Reached.mono _ _ _ _ _)
   | (with_reducible exact spec_l5Ok.mono _ _ _ _ _)
   | (with_reducible exact LeO.refl _)
   | (with_reducible exact LeO.none _)
   | (with_reducible refine LeO.ite ?_ ?_)
   | (with_reducible refine LeO.bind ?_ (fun _ => ?_))
   | exact ih0 _ _ _ _ _ _
   | exact ih1 _ _ _ _
   | exact spec_Reached.mono _ _ _ _ _
   | exact spec_l5Ok.mono _ _ _ _ _
   | exact LeO.none _
   | refine LeO.ite ?_ ?_
   | refine LeO.bind ?_ (fun _ => ?_)
  ·
   intro y0 y1 y2 y3
   unfold spec_IslandLoad.l0
   repeat' first
   | (with_reducible exact ih0 _ _ _ _ _ _)
   | (with_reducible exact ih1 _ _ _ _)
   | (with_reducible exact spec_Reached.mono _ _ _ _ _)
   | (with_reducible exact spec_l5Ok.mono _ _ _ _ _)
   | (with_reducible exact LeO.refl _)
   | (with_reducible exact LeO.none _)
   | (with_reducible refine LeO.ite ?_ ?_)
   | (with_reducible refine LeO.bind ?_ (fun _ => ?_))
   | exact ih0 _ _ _ _ _ _
   | exact ih1 _ _ _ _
   | exact spec_Reached.mono _ _ _ _ _
   | exact spec_l5Ok.mono _ _ _ _ _
   | exact LeO.none _
   | refine LeO.ite ?_ ?_
   | refine LeO.bind ?_ (fun _ => ?_)
theorem spec_IslandLoad.mono : ∀ a0 a1 a2 a3 a4 k, LeO (spec_IslandLoad.f k a0 a1 a2 a3 a4) (spec_IslandLoad.f (k + 1) a0 a1 a2 a3 a4) := by
 intro a0 a1 a2 a3 a4 k
 obtain ⟨ih0, ih1⟩ := spec_IslandLoad.mono_l k
 unfold spec_IslandLoad.f
 repeat' first
   | (with_reducible exact ih0 _ _ _ _ _ _)
   | (with_reducible exact ih1 _ _ _ _)
   | (with_reducible exact spec_Reached.mono _ _ _ _ _)
   | (with_reducible exact spec_l5Ok.mono _ _ _ _ _)
   | (with_reducible exact LeO.refl _)
   | (with_reducible exact LeO.none _)
   | (with_reducible refine LeO.ite ?_ ?_)
   | (with_reducible refine LeO.bind ?_ (fun _ => ?_))
   | exact ih0 _ _ _ _ _ _
   | exact ih1 _ _ _ _
   | exact spec_Reached.mono _ _ _ _ _
   | exact spec_l5Ok.mono _ _ _ _ _
   | exact LeO.none _
   | refine LeO.ite ?_ ?_
   | refine LeO.bind ?_ (fun _ => ?_)
set_option maxHeartbeats 8000000 in
set_option maxRecDepth 100000 in
theorem spec_IslandLoad.calls (k : Nat) (a0_0 : Int) (A0_1 : Option Addr) (c0_1 : Nat) (l0_1 : List (S79)) (A1 : Option Addr) (c1 : Nat) (l1 : List Bool) (A2 : Option Addr) (c2 : Nat) (l2 : List (S33)) (a3 : Int) (r : Int) (w : World) (hr0_1 : Kd.C k79 w A0_1 l0_1.length l0_1) (hc0_1 : l0_1.length ≤ c0_1) (hr1 : Kd.C Kd.bool w A1 l1.length l1) (hc1 : l1.length ≤ c1) (hr2 : Kd.C k33 w A2 l2.length l2) (hc2 : l2.length ≤ c2) (h : spec_IslandLoad.f k a0_0 l0_1 l1 l2 a3 = some r) :
  Calls Tryd.prog 29 #[.agg #[.int .i64 a0_0, .slice A0_1 l0_1.length c0_1], .slice A1 l1.length c1, .slice A2 l2.length c2, .int .i64 a3] w fun e w' => e = .returned (.int .i64 r) ∧ Below w.heap.size w w' := by
 have hu25 := Tryd.underlying25
 have HR0_1 := Aside0.mk hr0_1
 have HC0_1 := Aside0.mk hc0_1
 clear hr0_1 hc0_1
 have HR1 := Aside0.mk hr1
 have HC1 := Aside0.mk hc1
 clear hr1 hc1
 have HR2 := Aside0.mk hr2
 have HC2 := Aside0.mk hc2
 clear hr2 hc2
 have HB := aM (Below.refl w.heap.size w)
 have H : ((spec_l5Ok.f k a0_0 l0_1 l1 l2).bind fun t553 => (if t553 = true then ((spec_l1In.f a3 0 (wrap64 (a0_0 - 1))).bind fun t554 => (spec_IslandLoad.j0 k l1 l2 a3 (!t554) a0_0 l0_1)) else (spec_IslandLoad.j0 k l1 l2 a3 true a0_0 l0_1))) = some r := h
 clear h
 have HC5 := Aside0.mk H
 clear H
 go_enter Tryd.func29, Tryd.ntmps29
 go_upto_region 1 with (first | ((with_reducible refine gate_dst (N := 4) rfl ?_); refine box_event ?hg (N := 4) ?hd (cs := #[.int .i64 a0_0, .slice A0_1 l0_1.length c0_1]) (t := 25) ?hr ?_; (case hd => rfl); (case hg => rfl); (case hr => exact hR); intro gb552 hg w6 hbox hb; have n0_ := aM (below_step (bl0 HB) hb); have n1_ := aM (hbox); have n2_ := aM ((by rw [hg]; exact (below_size (bl0 HB)) : w.heap.size ≤ gb552)); have n3_ := aM ((by rw [hg]; exact (below_size (bl0 HB)) : w.heap.size ≤ gb552)); clear HB; have HB := n0_; have BK552 := n1_; have GW552 := n2_; have GE552 := n3_; clear n0_ n1_ n2_ n3_; clear hb hbox hg))
 (try simp only [Act.put, List.setIfInBounds_toArray, List.set_cons_zero, List.set_cons_succ])
 go_cut [24] (fun v24 wc => ∃ (kq : Nat) (x24_4 : Bool), v24 = .bool x24_4 ∧ Aside0 (spec_IslandLoad.j0 kq l1 l2 a3 x24_4 a0_0 l0_1 = some r) ∧ Aside0 (kq ≤ k) ∧ Aside0 (wc.heap[gb552]? = some (.cells #[.int .i64 a0_0, (.slice A0_1 l0_1.length c0_1)] 25 (0, 0))) ∧ Aside0 (Below w.heap.size w wc))
 case first =>
  have H := HC5.out
  clear HC5
  replace H := Option.bind_eq_some_iff.mp H
  obtain ⟨t553, A70, H⟩ := H
  replace H : (if t553 = true then ((spec_l1In.f a3 0 (wrap64 (a0_0 - 1))).bind fun t554 => (spec_IslandLoad.j0 k l1 l2 a3 (!t554) a0_0 l0_1)) else (spec_IslandLoad.j0 k l1 l2 a3 true a0_0 l0_1)) = some r := H
  have A7 := Aside0.mk A70
  clear A70
  by_cases c8 : t553 = true
  rotate_left
  ·
   replace c8 := Bool.eq_false_iff.mpr c8
   subst c8
   have H1 : (spec_IslandLoad.j0 k l1 l2 a3 true a0_0 l0_1) = some r := by rw [if_neg (show ¬ (false = true) by decide)] at H; exact H
   clear H
   have H := H1
   clear H1
   have H' := Aside0.mk H
   clear H
   have hcz13_0 : w6.cell? ⟨gb552, 0, none⟩ = some (.int .i64 a0_0) := (blk_cell BK552.out 0).trans rfl
   have hcz13_1 : w6.cell? ⟨gb552, 1, none⟩ = some (.slice A0_1 l0_1.length c0_1) := (blk_cell BK552.out 1).trans rfl
   have hfz13_0 := blk_frozen BK552.out 0
   have hfz13_1 := blk_frozen BK552.out 1
   go_wp2_with (first | ((with_reducible refine gate_callee (f := 74) rfl ?_); refine goesL_ (some 15) rfl rfl Tryd.func74 (by kernel_rfl) rfl #[.agg #[.int .i64 a0_0, .slice A0_1 l0_1.length c0_1], .slice A1 l1.length c1, .slice A2 l2.length c2] rfl mP ?_; (with_reducible refine (spec_l5Ok.calls k a0_0 _ _ l0_1 _ _ l1 _ _ l2 false _ ?side1 ?side2 ?side3 ?side4 ?side5 ?side6 A7.out).mono ?_); (case side1 => exact gC ((Kd.C_below HR0_1.out HB.out))); (case side2 => exact HC0_1.out); (case side3 => exact gC ((Kd.C_below HR1.out HB.out))); (case side4 => exact HC1.out); (case side5 => exact gC ((Kd.C_below HR2.out HB.out))); (case side6 => exact HC2.out); rintro e w14 ⟨rfl, hb⟩; refine ⟨_, rfl, ?_⟩; have n0_ := aM (blk_below (g := gb552) (o := .cells #[.int .i64 a0_0, .slice A0_1 l0_1.length c0_1] 25 (0, 0)) (gB (BK552.out)) hb); have n1_ := aM (below_step (bl1 HB GE552) hb); clear BK552; clear HB; have BK552 := n0_; have HB := n1_; clear n0_ n1_; (try clear hb); (try clear hb2); (try clear hk); (try clear hi)))
   go_meet
   case rel => exact ⟨_, (true), fS, H', ⟨by first | omega | exact Nat.le_refl _⟩, ⟨gB (BK552.out)⟩, ⟨bl1 HB GE552⟩⟩
  subst c8
  have H1 : ((spec_l1In.f a3 0 (wrap64 (a0_0 - 1))).bind fun t554 => (spec_IslandLoad.j0 k l1 l2 a3 (!t554) a0_0 l0_1)) = some r := by rw [if_pos rfl] at H; exact H
  clear H
  have H := H1
  clear H1
  replace H := Option.bind_eq_some_iff.mp H
  obtain ⟨t554, A90, H⟩ := H
  replace H : (spec_IslandLoad.j0 k l1 l2 a3 (!t554) a0_0 l0_1) = some r := H
  have A9 := Aside0.mk A90
  clear A90
  have H' := Aside0.mk H
  clear H
  have hcz10_0 : w6.cell? ⟨gb552, 0, none⟩ = some (.int .i64 a0_0) := (blk_cell BK552.out 0).trans rfl
  have hcz10_1 : w6.cell? ⟨gb552, 1, none⟩ = some (.slice A0_1 l0_1.length c0_1) := (blk_cell BK552.out 1).trans rfl
  have hfz10_0 := blk_frozen BK552.out 0
  have hfz10_1 := blk_frozen BK552.out 1
  go_wp2_with (first | ((with_reducible refine gate_callee (f := 74) rfl ?_); refine goesL_ (some 15) rfl rfl Tryd.func74 (by kernel_rfl) rfl #[.agg #[.int .i64 a0_0, .slice A0_1 l0_1.length c0_1], .slice A1 l1.length c1, .slice A2 l2.length c2] rfl mP ?_; (with_reducible refine (spec_l5Ok.calls k a0_0 _ _ l0_1 _ _ l1 _ _ l2 true _ ?side1 ?side2 ?side3 ?side4 ?side5 ?side6 A7.out).mono ?_); (case side1 => exact gC ((Kd.C_below HR0_1.out HB.out))); (case side2 => exact HC0_1.out); (case side3 => exact gC ((Kd.C_below HR1.out HB.out))); (case side4 => exact HC1.out); (case side5 => exact gC ((Kd.C_below HR2.out HB.out))); (case side6 => exact HC2.out); rintro e w11 ⟨rfl, hb⟩; refine ⟨_, rfl, ?_⟩; have n0_ := aM (blk_below (g := gb552) (o := .cells #[.int .i64 a0_0, .slice A0_1 l0_1.length c0_1] 25 (0, 0)) (gB (BK552.out)) hb); have n1_ := aM (below_step (bl1 HB GE552) hb); clear BK552; clear HB; have BK552 := n0_; have HB := n1_; clear n0_ n1_; (try clear hb); (try clear hb2); (try clear hk); (try clear hi); have hcz12_0 : w11.cell? ⟨gb552, 0, none⟩ = some (.int .i64 a0_0) := (blk_cell BK552.out 0).trans rfl; have hcz12_1 : w11.cell? ⟨gb552, 1, none⟩ = some (.slice A0_1 l0_1.length c0_1) := (blk_cell BK552.out 1).trans rfl; have hfz12_0 := blk_frozen BK552.out 0; have hfz12_1 := blk_frozen BK552.out 1) | (go_at_call 75; (with_reducible refine (spec_l1In.calls a3 0 (wrap64 (a0_0 - 1)) t554 _ A9.out).mono ?_); rintro e w' ⟨rfl, ⟨nd, rfl⟩⟩))
  go_meet
  case rel => exact ⟨_, (!t554), fS, H', ⟨by first | omega | exact Nat.le_refl _⟩, ⟨gB (BK552.out)⟩, ⟨bl1 HB GE552⟩⟩
 case rest =>
  clear HC5
  try clear c1
  try clear c2
  try clear p2
  try clear p6
  try clear c7
  try clear c8
  try clear hcz10_0
  try clear hcz10_1
  try clear hcz12_0
  try clear hcz12_1
  try clear hcz13_0
  try clear hcz13_1
  try clear hfz10_0
  try clear hfz10_1
  try clear hfz12_0
  try clear hfz12_1
  try clear hfz13_0
  try clear hfz13_1
  obtain ⟨kq, x24_4, rfl, HA, HJ4, BK552, HB⟩ := hcut
  cases kq with
  | zero => exact absurd HA.out (by simp [spec_IslandLoad.j0])
  | succ kj4 =>
   have H := HA.out
   clear HA
   simp only [spec_IslandLoad.j0] at H
   by_cases c15 : x24_4 = true
   ·
    subst c15
    have H1 : (some (-1)) = some r := by rw [if_pos rfl] at H; exact H
    clear H
    have H := H1
    clear H1
    obtain rfl := Option.some.inj H
    go_wp2
    go_ret
    exact ⟨fR, bl1 HB GE552⟩
   replace c15 := Bool.eq_false_iff.mpr c15
   subst c15
   have H1 : ((spec_Reached.f kj4 a0_0 l0_1 l1 a3).bind fun t555 => (spec_IslandLoad.l0 kj4 l2 0 t555 0)) = some r := by rw [if_neg (show ¬ (false = true) by decide)] at H; exact H
   clear H
   have H := H1
   clear H1
   replace H := Option.bind_eq_some_iff.mp H
   obtain ⟨t555, A160, H⟩ := H
   replace H : (spec_IslandLoad.l0 kj4 l2 0 t555 0) = some r := H
   have A16 := Aside0.mk A160
   clear A160
   have H' := Aside0.mk H
   clear H
   have hcz17_0 : wc.cell? ⟨gb552, 0, none⟩ = some (.int .i64 a0_0) := (blk_cell BK552.out 0).trans rfl
   have hcz17_1 : wc.cell? ⟨gb552, 1, none⟩ = some (.slice A0_1 l0_1.length c0_1) := (blk_cell BK552.out 1).trans rfl
   have hfz17_0 := blk_frozen BK552.out 0
   have hfz17_1 := blk_frozen BK552.out 1
   go_wp2_with (first | ((with_reducible refine gate_callee (f := 76) rfl ?_); refine goesL_ (some 28) rfl rfl Tryd.func76 (by kernel_rfl) rfl #[.agg #[.int .i64 a0_0, .slice A0_1 l0_1.length c0_1], .slice A1 l1.length c1, .int .i64 a3] rfl mP ?_; (with_reducible refine (spec_Reached.calls kj4 a0_0 _ _ l0_1 _ _ l1 a3 t555 _ ?side1 ?side2 ?side3 ?side4 A16.out).mono ?_); (case side1 => exact gC ((Kd.C_below HR0_1.out HB.out))); (case side2 => exact HC0_1.out); (case side3 => exact gC ((Kd.C_below HR1.out HB.out))); (case side4 => exact HC1.out); rintro e w18 ⟨v556, rfl, ho0, hb⟩; refine ⟨_, rfl, ?_⟩; have n0_ := aM (Kd.R_lower ho0 (below_size (bl1 HB GE552))); have n1_ := aM (blk_below (g := gb552) (o := .cells #[.int .i64 a0_0, .slice A0_1 l0_1.length c0_1] 25 (0, 0)) (gB (BK552.out)) hb); have n2_ := aM (below_step (bl1 HB GE552) hb); clear BK552; clear HB; have HO557 := n0_; have BK552 := n1_; have HB := n2_; clear n0_ n1_ n2_; (try clear hb); (try clear hb2); (try clear hk); (try clear hi); (try clear ho0)))
   go_loopg [9, 11] kj4 (fun kq v9 v11 w' => ∃ (x9_2 : Int) (x11_2 : Int), v9 = .int .i64 x9_2 ∧ v11 = .int .i64 x11_2 ∧ Aside0 (spec_IslandLoad.l0 kq l2 x9_2 t555 x11_2 = some r) ∧ Aside0 (kq ≤ kj4) ∧ Aside0 (Kd.R (Kd.int .i64) 3 w' w.heap.size (fun _ => True) v556 t555) ∧ Aside0 (w'.heap[gb552]? = some (.cells #[.int .i64 a0_0, (.slice A0_1 l0_1.length c0_1)] 25 (0, 0))) ∧ Aside0 (Below w.heap.size w w'))
   case atStart => exact ⟨(0), (0), fS, fS, H', ⟨Nat.le_refl _⟩, ⟨gR (HO557.out)⟩, ⟨gB (BK552.out)⟩, ⟨bl1 HB GE552⟩⟩
   case round =>
    clear H'
    try clear c1
    try clear c2
    try clear p2
    try clear p6
    try clear c7
    try clear c8
    try clear c15
    try clear hcz10_0
    try clear hcz10_1
    try clear hcz12_0
    try clear hcz12_1
    try clear hcz13_0
    try clear hcz13_1
    try clear hcz17_0
    try clear hcz17_1
    try clear hfz10_0
    try clear hfz10_1
    try clear hfz12_0
    try clear hfz12_1
    try clear hfz13_0
    try clear hfz13_1
    try clear hfz17_0
    try clear hfz17_1
    try clear p2
    try clear p6
    obtain ⟨x9_2, x11_2, rfl, rfl, HA, HK2, HO_10, BK552, HB⟩ := hrel
    cases gk with
    | zero => exact absurd HA.out (by simp [spec_IslandLoad.l0])
    | succ k2 =>
     have H := HA.out
     clear HA
     simp only [spec_IslandLoad.l0] at H
     by_cases c19 : x11_2 < (t555.length : Int)
     rotate_left
     ·
      rw [if_neg c19] at H
      have c19b0 : decide (x11_2 < (t555.length : Int)) = false := decide_eq_false c19
      clear c19
      obtain rfl := Option.some.inj H
      obtain ⟨Ao24, co24, eo24⟩ := Kd.R_slice HO_10.out
      subst eo24
      go_wp2
      go_ret
      exact ⟨fR, bl1 HB GE552⟩
     rw [if_pos c19] at H
     have c19b0 : decide (x11_2 < (t555.length : Int)) = true := decide_eq_true c19
     clear c19
     by_cases c20 : 0 ≤ x11_2
     rotate_left
     ·
      rw [if_neg c20] at H
      exact absurd H (by simp)
     rw [if_pos c20] at H
     have c20b0 : decide (0 ≤ x11_2) = true := decide_eq_true c20
     clear c20
     by_cases c21 : 0 ≤ (rd t555 x11_2)
     rotate_left
     ·
      rw [if_neg c21] at H
      exact absurd H (by simp)
     rw [if_pos c21] at H
     have c21b0 : decide (0 ≤ (rd t555 x11_2)) = true := decide_eq_true c21
     clear c21
     by_cases c22 : (rd t555 x11_2) < (l2.length : Int)
     rotate_left
     ·
      rw [if_neg c22] at H
      exact absurd H (by simp)
     rw [if_pos c22] at H
     have c22b0 : decide ((rd t555 x11_2) < (l2.length : Int)) = true := decide_eq_true c22
     clear c22
     have H' := Aside0.mk H
     clear H
     obtain ⟨Ao23, co23, eo23⟩ := Kd.R_slice HO_10.out
     subst eo23
     have p558 : 0 ≤ (x11_2 : Int) := oD
     have q558 : x11_2 < (t555.length : Int) := oD
     obtain ⟨ad558, e558, hx558_0⟩ := Kd.at_int (Kd.R_reads' HO_10.out).2.2 x11_2 p558 q558
     cases e558
     replace p558 := eq_true p558
     replace q558 := eq_true q558
     have p559 : 0 ≤ ((rd t555 x11_2) : Int) := oD
     have q559 : (rd t555 x11_2) < (l2.length : Int) := oD
     obtain ⟨ad559, e559, hx559_0, hx559_1⟩ := at_T33 HR2.out (rd t555 x11_2) p559 q559
     cases e559
     replace hx559_0 := (HB.out.cell (World.block_lt_of_cell? w _ hx559_0)).trans hx559_0
     replace hx559_1 := (HB.out.cell (World.block_lt_of_cell? w _ hx559_1)).trans hx559_1
     replace p559 := eq_true p559
     replace q559 := eq_true q559
     go_wp2
     go_roundg k2
     case measure => have := HJ4.out; have := HK2.out; omega
     case rel => exact ⟨(wrap64 (x9_2 + ((rd_T33 l2 (rd t555 x11_2)).f1))), (wrap64 (x11_2 + 1)), fS, fS, H', ⟨by have := HJ4.out; have := HK2.out; omega⟩, ⟨gR (HO_10.out)⟩, ⟨gB (BK552.out)⟩, ⟨bl1 HB GE552⟩⟩

end Go.Proofs.YtpgjgbjkfgbpaaaDoor.P

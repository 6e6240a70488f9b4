/- Contracts of Go functions of this seat's translation, written by this repo's wip/mk.py: it calls the kit's print.py with contracts typed by hand in place of functions that it does not take. Not trusted: Lean checks it. -/
import Derived.Test.YtpgjgbjkfgbpaaaDoorP0
import Derived.Test.YtpgjgbjkfgbpaaaDoorP9
import Derived.Test.YtpgjgbjkfgbpaaaDoorP12
import Derived.Test.YtpgjgbjkfgbpaaaDoorP6
import Derived.Test.YtpgjgbjkfgbpaaaDoorP25
import Derived.Test.YtpgjgbjkfgbpaaaDoorP44
import Derived.Test.YtpgjgbjkfgbpaaaDoorP27
import Derived.Test.YtpgjgbjkfgbpaaaDoorP49
import Derived.Test.YtpgjgbjkfgbpaaaDoorP50
namespace Go.Proofs.YtpgjgbjkfgbpaaaDoor.P
open Go.RowKit Go.Proofs.YtpgjgbjkfgbpaaaDoorW.PrintWords Go.Proofs.YtpgjgbjkfgbpaaaDoorW.PrintLast Go.Proofs.YtpgjgbjkfgbpaaaDoorW.PrintMore
attribute [local go_sem] max2_int min2_int max_two min_two max_three min_three max_four min_four   -- for this text's walks alone
set_option linter.unusedVariables false
set_option linter.unusedSimpArgs false

/-! ### spec_DrawBridgeLines: function 38 -/
def spec_DrawBridgeLines.f (k : Nat) (l0 : List Int) : Option (Int × (List (S79)) × List Bool) := (spec_l20Open.f l0).bind fun bt669 => ((spec_l20Switched.f k bt669.1 bt669.2 6).bind fun bt672 => (some (bt672.1, bt672.2.1, bt672.2.2.1)))
theorem spec_DrawBridgeLines.mono : ∀ a0 k, LeO (spec_DrawBridgeLines.f k a0) (spec_DrawBridgeLines.f (k + 1) a0) := by
 intro a0 k
 unfold spec_DrawBridgeLines.f
 repeat' first
   | (with_reducible exact spec_l20Switched.mono _ _ _ _)
   | (with_reducible exact LeO.refl _)
   | (with_reducible exact LeO.none _)
   | (with_reducible refine LeO.ite ?_ ?_)
   | (with_reducible refine LeO.bind ?_ (fun _ => ?_))
   | exact spec_l20Switched.mono _ _ _ _
   | exact LeO.none _
   | refine LeO.ite ?_ ?_
   | refine LeO.bind ?_ (fun _ => ?_)
set_option maxHeartbeats 8000000 in
set_option maxRecDepth 100000 in
theorem spec_DrawBridgeLines.calls (k : Nat) (A0 : Option Addr) (c0 : Nat) (l0 : List Int) (r1 : Int) (r2 : List (S79)) (r3 : List Bool) (w : World) (hr0 : Kd.C (Kd.int .u8) w A0 l0.length l0) (hc0 : l0.length ≤ c0) (h : spec_DrawBridgeLines.f k l0 = some (r1, r2, r3)) :
  Calls Tryd.prog 38 #[.slice A0 l0.length c0] w fun e w' => ∃ v1_ v2_ : Value, e = .returned (.tuple #[.agg #[.int .i64 r1, v1_], v2_]) ∧ Kd.R k79 79 w' w.heap.size (fun _ => True) v1_ r2 ∧ Kd.R Kd.bool 4 w' w.heap.size (fun _ => True) v2_ r3 ∧ Below w.heap.size w w' := by
 have hu25 := Tryd.underlying25
 have HR0 := Aside0.mk hr0
 have HC0 := Aside0.mk hc0
 clear hr0 hc0
 have HB := aM (Below.refl w.heap.size w)
 have H : ((spec_l20Open.f l0).bind fun bt669 => ((spec_l20Switched.f k bt669.1 bt669.2 6).bind fun bt672 => (some (bt672.1, bt672.2.1, bt672.2.2.1)))) = some (r1, r2, r3) := h
 clear h
 replace H := Option.bind_eq_some_iff.mp H
 obtain ⟨⟨t669, t670⟩, A20, H⟩ := H
 replace H : ((spec_l20Switched.f k t669 t670 6).bind fun bt672 => (some (bt672.1, bt672.2.1, bt672.2.2.1))) = some (r1, r2, r3) := H
 have A2 := Aside0.mk A20
 clear A20
 replace H := Option.bind_eq_some_iff.mp H
 obtain ⟨⟨t672, t673, t676, t679⟩, A30, H⟩ := H
 replace H : (some (t672, t673, t676)) = some (r1, r2, r3) := H
 have A3 := Aside0.mk A30
 clear A30
 simp only [Option.some.injEq, Prod.mk.injEq] at H
 obtain ⟨rfl, rfl, rfl⟩ := H
 go_enter Tryd.func38, Tryd.ntmps38
 go_wp2_with (first | ((with_reducible refine gate_dst (N := 2) rfl ?_); refine box_event ?hg (N := 2) ?hd (cs := #[.int .i64 0, .slice none 0 0]) (t := 25) ?hr ?_; (case hd => rfl); (case hg => rfl); (case hr => exact hR); intro gb668 hg w4 hbox hb; have n0_ := aM (below_step (bl0 HB) hb); have n1_ := aM (hbox); have n2_ := aM ((by rw [hg]; exact (below_size (bl0 HB)) : w.heap.size ≤ gb668)); have n3_ := aM ((by rw [hg]; exact (below_size (bl0 HB)) : w.heap.size ≤ gb668)); clear HB; have HB := n0_; have BK668 := n1_; have GW668 := n2_; have GE668 := n3_; clear n0_ n1_ n2_ n3_; clear hb hbox hg) | ((with_reducible refine gate_callee (f := 66) rfl ?_); refine goesL_ (some 5) rfl rfl Tryd.func66 (by kernel_rfl) rfl #[.slice A0 l0.length c0] rfl mP ?_; (with_reducible refine (spec_l20Open.calls _ _ l0 t669 t670 w _ ?side1 ?side2 ?side3 A2.out).mono ?_); (case side1 => repeat (first | (with_reducible first | exact HB.out | apply below_alloc | apply pw_below_drewN | apply below_drew1 | refine below_set ?_ GE668.out) | exact HB.out)); (case side2 => exact HR0.out); (case side3 => exact HC0.out); rintro e w5 ⟨g671, rfl, hi, hb, hb2⟩; refine ⟨_, rfl, ?_⟩; have n0_ := aM (blk_below (g := gb668) (o := .cells #[.int .i64 0, .slice none 0 0] 25 (0, 0)) (gB (BK668.out)) hb2); have n1_ := aM (hb); have n2_ := aM (hi); have n3_ := aM (IsS111.ne_blk hi (blk_below (g := gb668) (o := .cells #[.int .i64 0, .slice none 0 0] 25 (0, 0)) (gB (BK668.out)) hb2) (by decide)); have n4_ := aM (Ne.symm (IsS111.ne_blk hi (blk_below (g := gb668) (o := .cells #[.int .i64 0, .slice none 0 0] 25 (0, 0)) (gB (BK668.out)) hb2) (by decide))); clear BK668; clear HB; have BK668 := n0_; have HB := n1_; have HI671 := n2_; have NB671_668 := n3_; have NB668_671 := n4_; clear n0_ n1_ n2_ n3_ n4_; (try clear hb); (try clear hb2); (try clear hk); (try clear hi)) | ((with_reducible refine gate_callee (f := 80) rfl ?_); refine goesL_ (some 6) rfl rfl Tryd.func80 (by kernel_rfl) rfl #[.pointer (some ⟨g671, 0, none⟩), .int .i64 6] rfl mP ?_; (with_reducible refine (spec_l20Switched.calls k g671 t669 t670 6 t672 t673 t676 t679 w _ ?side1 ?side2 A3.out).mono ?_); (case side1 => repeat (first | (with_reducible first | exact HI671.out | apply IsS111.alloc | apply IsS111.drewN | apply IsS111.drew | apply IsS111.set_1 | refine IsS111.far ?_ NB671_668.out _) | exact HI671.out)); (case side2 => repeat (first | (with_reducible first | exact HB.out | apply below_alloc | apply pw_below_drewN | apply below_drew1 | refine below_set ?_ (IsS111.ge HI671.out) | refine below_set ?_ GE668.out) | exact HB.out)); rintro e w6 ⟨v674, v677, rfl, ho0, ho1, hi, hb, hk⟩; refine ⟨_, rfl, ?_⟩; have n0_ := aM (KeepBut.blk hk (g' := gb668) (o := .cells #[.int .i64 0, .slice none 0 0] 25 (0, 0)) (gB (BK668.out)) NB668_671.out (by simp)); have n1_ := aM (Kd.R_lower ho0 (below_size (bl2 HB (aM (IsS111.ge HI671.out)) GE668))); have n2_ := aM (Kd.R_lower ho1 (below_size (bl2 HB (aM (IsS111.ge HI671.out)) GE668))); have n3_ := aM (hb); have n4_ := aM (hi); clear BK668; clear HB; clear HI671; have BK668 := n0_; have HO675 := n1_; have HO678 := n2_; have HB := n3_; have HI671 := n4_; clear n0_ n1_ n2_ n3_ n4_; (try clear hb); (try clear hb2); (try clear hk); (try clear hi); (try clear ho0); (try clear ho1); have hnb7 := NB668_671.out; have hnc7 := NB671_668.out; have hcz8_0 : w6.cell? ⟨gb668, 0, none⟩ = some (.int .i64 0) := (blk_cell BK668.out 0).trans rfl; have hcz8_1 : w6.cell? ⟨gb668, 1, none⟩ = some (.slice none 0 0) := (blk_cell BK668.out 1).trans rfl; have hfz8_0 := blk_frozen BK668.out 0; have hfz8_1 := blk_frozen BK668.out 1; obtain ⟨Ao9, co9, eo9⟩ := Kd.R_slice HO675.out; subst eo9))
 refine bodyPost_ret (results_ct rfl _ _ gb668 25 #[.int .i64 t672, .slice Ao9 t673.length co9] (0, 0) _ rfl (by (with_reducible repeat (first | refine blk_drewN ?_ _ | refine blk_drew ?_ | refine blk_alloc ?_ _)); refine blk_put (cs := #[.int .i64 t672, .slice none 0 0]) ?_ 1 _ rfl; (with_reducible repeat (first | refine blk_drewN ?_ _ | refine blk_drew ?_ | refine blk_alloc ?_ _)); refine blk_put (cs := #[.int .i64 0, .slice none 0 0]) ?_ 0 _ rfl; (with_reducible repeat (first | refine blk_drewN ?_ _ | refine blk_drew ?_ | refine blk_alloc ?_ _)); exact BK668.out) Tryd.underlying25 rfl (by kernel_rfl)) rfl ?_
 exact ⟨_, _, fR, by (with_reducible repeat (first | apply Kd.R_alloc | apply Kd.R_drewN | apply Kd.R_drew)); exact Kd.R_mono (Kd.R_far (p := ⟨gb668, 1, none⟩) (Kd.R_far (p := ⟨gb668, 0, none⟩) (Kd.R_types HO675.out BK668.out (by decide)) (fun _ hk => hk.2) (.int .i64 t672)) (fun _ hk => hk.2) (.slice Ao9 t673.length co9)) (fun _ hk => trivial), by (with_reducible repeat (first | apply Kd.R_alloc | apply Kd.R_drewN | apply Kd.R_drew)); exact Kd.R_mono (Kd.R_far (p := ⟨gb668, 1, none⟩) (Kd.R_far (p := ⟨gb668, 0, none⟩) (Kd.R_types HO678.out BK668.out (by decide)) (fun _ hk => hk.2) (.int .i64 t672)) (fun _ hk => hk.2) (.slice Ao9 t673.length co9)) (fun _ hk => trivial), bl2 HB (aM (IsS111.ge HI671.out)) GE668⟩

end Go.Proofs.YtpgjgbjkfgbpaaaDoor.P
namespace Go.Proofs.YtpgjgbjkfgbpaaaDoor.P
open Go.RowKit Go.Proofs.YtpgjgbjkfgbpaaaDoorW.PrintWords Go.Proofs.YtpgjgbjkfgbpaaaDoorW.PrintLast Go.Proofs.YtpgjgbjkfgbpaaaDoorW.PrintMore
attribute [local go_sem] max2_int min2_int max_two min_two max_three min_three max_four min_four   -- for this text's walks alone
set_option linter.unusedVariables false
set_option linter.unusedSimpArgs false

/-! ### impl_BridgeLines: function 39 -/
def impl_BridgeLines_1.f (k : Nat) (x : Int) (a0 : Int) (l0 : List S79) (l1 : List Bool) : Option Bool := if 0 ≤ x then (if x < (l1.length : Int) then (if rdOf false l1 x = true then ((impl_onCycle.f k a0 l0 l1 x).map fun b => !b) else some false) else none) else none
set_option maxHeartbeats 8000000 in
set_option maxRecDepth 100000 in
theorem impl_BridgeLines_1.calls (k : Nat) (gb gu : Nat) (x : Int) (a0_0 : Int) (A0_1 : Option Addr) (c0_1 : Nat) (l0_1 : List S79) (A1 : Option Addr) (c1 : Nat) (l1 : List Bool) (r : Bool) (w : World) (hn : w.heap[gb]? = some (.cells #[.int .i64 a0_0, .slice A0_1 l0_1.length c0_1] 25 (0, 0))) (ho : w.heap[gu]? = some (.cells #[.slice A1 l1.length c1] 26 (0, 0)))
  (hr0_1 : Kd.C k79 w A0_1 l0_1.length l0_1) (hc0_1 : l0_1.length ≤ c0_1) (hr1 : Kd.C Kd.bool w A1 l1.length l1) (hc1 : l1.length ≤ c1) (h : impl_BridgeLines_1.f k x a0_0 l0_1 l1 = some r) :
  Calls Tryd.prog 92 #[.int .i64 x, .pointer (some ⟨gu, 0, none⟩), .pointer (some ⟨gb, 0, none⟩)] w fun e w' => e = .returned (.bool r) ∧ Below w.heap.size w w' := by
 unfold impl_BridgeLines_1.f at h
 by_cases p : 0 ≤ x
 rotate_left
 ·
  rw [if_neg p] at h
  exact absurd h (by simp)
 rw [if_pos p] at h
 by_cases q : x < (l1.length : Int)
 rotate_left
 ·
  rw [if_neg q] at h
  exact absurd h (by simp)
 rw [if_pos q] at h
 obtain ⟨ad, eA, hx⟩ := Kd.at_bool hr1 x p q
 subst eA
 have HR0 := Aside0.mk hr0_1
 have HC0 := Aside0.mk hc0_1
 have HR1 := Aside0.mk hr1
 have HC1 := Aside0.mk hc1
 clear hr0_1 hc0_1 hr1 hc1
 have hcz0 : w.cell? ⟨gb, 0, none⟩ = some (.int .i64 a0_0) := (blk_cell hn 0).trans rfl
 have hcz1 : w.cell? ⟨gb, 1, none⟩ = some (.slice A0_1 l0_1.length c0_1) := (blk_cell hn 1).trans rfl
 have hco0 : w.cell? ⟨gu, 0, none⟩ = some (.slice (some ad) l1.length c1) := (blk_cell ho 0).trans rfl
 clear hn ho
 replace p := eq_true p
 replace q := eq_true q
 by_cases b : rdOf false l1 x = true
 rotate_left
 ·
  rw [if_neg b] at h
  rw [Bool.eq_false_iff.mpr b] at hx
  clear b
  obtain rfl := Option.some.inj h
  clear h
  go_enter Tryd.func92, Tryd.ntmps92
  go_wp2
  go_ret
  exact ⟨rfl, Below.refl _ _⟩
 rw [if_pos b] at h
 rw [b] at hx
 clear b
 obtain ⟨b, A50, h⟩ := Option.map_eq_some_iff.mp h
 subst h
 have A5 := Aside0.mk A50
 clear A50
 go_enter Tryd.func92, Tryd.ntmps92
 go_wp2_with (first | (go_at_call 83; (with_reducible refine (impl_onCycle.calls k a0_0 _ _ l0_1 _ _ l1 x b _ ?side1 HC0.out ?side2 HC1.out A5.out).mono ?_); (case side1 => exact HR0.out); (case side2 => exact HR1.out); rintro e w8 ⟨rfl, hb⟩; have HB := Aside0.mk hb; clear hb hx hcz0 hcz1 hco0 p q))
 go_ret
 exact ⟨rfl, HB.out⟩
def impl_BridgeLines.f (k : Nat) (a0_0 : Int) (l0_1 : List S79) (l1 : List Bool) : Option (List Int) := (impl_StateValid.f k a0_0 l0_1 l1).bind fun t => (if t = true then ((impl_linesWhere.l (fun (_ : Unit) i => (impl_BridgeLines_1.f k i a0_0 l0_1 l1).map fun b => (b, ())) k () [] (l0_1.length : Int) 0).map fun x => x.1) else some [])
theorem impl_BridgeLines.mono : ∀ a0 a1 a2 k, LeO (impl_BridgeLines.f k a0 a1 a2) (impl_BridgeLines.f (k + 1) a0 a1 a2) := by
 intro a0 a1 a2 k
 unfold impl_BridgeLines.f
 refine LeO.bind (impl_StateValid.mono _ _ _ _) (fun t => LeO.ite ?_ (LeO.refl _))
 refine leO_map _ (impl_linesWhere.mono (fun s i => leO_map _ ?_) k _ _ _ _)
 unfold impl_BridgeLines_1.f
 exact LeO.ite (LeO.ite (LeO.ite (leO_map _ (impl_onCycle.mono _ _ _ _ _)) (LeO.refl _)) (LeO.refl _)) (LeO.refl _)
set_option maxHeartbeats 8000000 in
set_option maxRecDepth 100000 in
theorem impl_BridgeLines.calls (k : Nat) (a0_0 : Int) (A0_1 : Option Addr) (c0_1 : Nat) (l0_1 : List S79) (A1 : Option Addr) (c1 : Nat) (l1 : List Bool) (r : List Int) (w : World) (hr0_1 : Kd.C k79 w A0_1 l0_1.length l0_1) (hc0_1 : l0_1.length ≤ c0_1) (hr1 : Kd.C Kd.bool w A1 l1.length l1) (hc1 : l1.length ≤ c1) (h : impl_BridgeLines.f k a0_0 l0_1 l1 = some r) :
  Calls Tryd.prog 39 #[.agg #[.int .i64 a0_0, .slice A0_1 l0_1.length c0_1], .slice A1 l1.length c1] w fun e w' => ∃ v0_ : Value, e = .returned (v0_) ∧ Kd.R (Kd.int .i64) 3 w' w.heap.size (fun _ => True) v0_ r ∧ Below w.heap.size w w' := by
 have HR0 := Aside0.mk hr0_1
 have HC0 := Aside0.mk hc0_1
 have HR1 := Aside0.mk hr1
 have HC1 := Aside0.mk hc1
 clear hr0_1 hc0_1 hr1 hc1
 obtain ⟨t, A50, H⟩ := Option.bind_eq_some_iff.mp h
 have A5 := Aside0.mk A50
 clear A50 h
 have HB := aM (Below.refl w.heap.size w)
 by_cases ht : t = true
 rotate_left
 ·
  replace ht := Bool.eq_false_iff.mpr ht
  subst ht
  rw [if_neg (by decide)] at H
  obtain rfl := Option.some.inj H
  clear H
  go_enter Tryd.func39, Tryd.ntmps39
  go_wp2_with (first | ((with_reducible refine gate_dst (N := 2) rfl ?_); refine box_event ?hg (N := 2) ?hd (cs := #[.int .i64 a0_0, .slice A0_1 l0_1.length c0_1]) (t := 25) ?hr ?_; (case hd => rfl); (case hg => rfl); (case hr => exact hR); intro gb hg w5 hbox hb; have n0_ := aM (below_step HB.out hb); clear HB; have HB := n0_; have BN := Aside0.mk hbox; clear n0_ hb hbox hg) | ((with_reducible refine gate_dst (N := 3) rfl ?_); refine box_event ?hg (N := 3) ?hd (cs := #[.slice A1 l1.length c1]) (t := 26) ?hr ?_; (case hd => rfl); (case hg => rfl); (case hr => exact hR); intro gu hg w6 hbox hb; have n0_ := aM (below_step HB.out hb); have n1_ := aM (blk_below BN.out hb); clear HB BN; have HB := n0_; have BN := n1_; have BO := Aside0.mk hbox; clear n0_ n1_ hb hbox hg; have hcz0 : w6.cell? ⟨gb, 0, none⟩ = some (.int .i64 a0_0) := (blk_cell BN.out 0).trans rfl; have hcz1 : w6.cell? ⟨gb, 1, none⟩ = some (.slice A0_1 l0_1.length c0_1) := (blk_cell BN.out 1).trans rfl; have hco0 : w6.cell? ⟨gu, 0, none⟩ = some (.slice A1 l1.length c1) := (blk_cell BO.out 0).trans rfl) | ((with_reducible refine gate_callee (f := 77) rfl ?_); refine goesL_ (some 7) rfl rfl Tryd.func77 (by kernel_rfl) rfl #[.agg #[.int .i64 a0_0, .slice A0_1 l0_1.length c0_1], .slice A1 l1.length c1] rfl (by (try simp only [List.map_toArray, List.map_cons, List.map_nil]); first | done | rfl) ?_; (with_reducible refine (impl_StateValid.calls k a0_0 _ _ l0_1 _ _ l1 false _ ?side1 HC0.out ?side2 HC1.out A5.out).mono ?_); (case side1 => exact Kd.C_below HR0.out HB.out); (case side2 => exact Kd.C_below HR1.out HB.out); rintro e w7 ⟨rfl, hb⟩; refine ⟨_, rfl, ?_⟩; have n0_ := aM (below_step HB.out hb); have n1_ := aM (blk_below BN.out hb); have n2_ := aM (blk_below BO.out hb); clear HB BN BO hcz0 hcz1 hco0; have HB := n0_; have BN := n1_; have BO := n2_; clear n0_ n1_ n2_ hb; have hcz0 : w7.cell? ⟨gb, 0, none⟩ = some (.int .i64 a0_0) := (blk_cell BN.out 0).trans rfl; have hcz1 : w7.cell? ⟨gb, 1, none⟩ = some (.slice A0_1 l0_1.length c0_1) := (blk_cell BN.out 1).trans rfl; have hco0 : w7.cell? ⟨gu, 0, none⟩ = some (.slice A1 l1.length c1) := (blk_cell BO.out 0).trans rfl))
  go_ret
  exact ⟨_, rfl, Kd.R_nil _ _ _ _ _, HB.out⟩
 subst ht
 rw [if_pos rfl] at H
 obtain ⟨⟨r', u⟩, A60, H⟩ := Option.map_eq_some_iff.mp H
 subst H
 have A6 := Aside0.mk A60
 clear A60
 go_enter Tryd.func39, Tryd.ntmps39
 go_wp2_with (first | ((with_reducible refine gate_dst (N := 2) rfl ?_); refine box_event ?hg (N := 2) ?hd (cs := #[.int .i64 a0_0, .slice A0_1 l0_1.length c0_1]) (t := 25) ?hr ?_; (case hd => rfl); (case hg => rfl); (case hr => exact hR); intro gb hg w5 hbox hb; have n0_ := aM (below_step HB.out hb); clear HB; have HB := n0_; have BN := Aside0.mk hbox; clear n0_ hb hbox hg) | ((with_reducible refine gate_dst (N := 3) rfl ?_); refine box_event ?hg (N := 3) ?hd (cs := #[.slice A1 l1.length c1]) (t := 26) ?hr ?_; (case hd => rfl); (case hg => rfl); (case hr => exact hR); intro gu hg w6 hbox hb; have n0_ := aM (below_step HB.out hb); have n1_ := aM (blk_below BN.out hb); clear HB BN; have HB := n0_; have BN := n1_; have BO := Aside0.mk hbox; clear n0_ n1_ hb hbox hg; have hcz0 : w6.cell? ⟨gb, 0, none⟩ = some (.int .i64 a0_0) := (blk_cell BN.out 0).trans rfl; have hcz1 : w6.cell? ⟨gb, 1, none⟩ = some (.slice A0_1 l0_1.length c0_1) := (blk_cell BN.out 1).trans rfl; have hco0 : w6.cell? ⟨gu, 0, none⟩ = some (.slice A1 l1.length c1) := (blk_cell BO.out 0).trans rfl) | ((with_reducible refine gate_callee (f := 77) rfl ?_); refine goesL_ (some 7) rfl rfl Tryd.func77 (by kernel_rfl) rfl #[.agg #[.int .i64 a0_0, .slice A0_1 l0_1.length c0_1], .slice A1 l1.length c1] rfl (by (try simp only [List.map_toArray, List.map_cons, List.map_nil]); first | done | rfl) ?_; (with_reducible refine (impl_StateValid.calls k a0_0 _ _ l0_1 _ _ l1 true _ ?side1 HC0.out ?side2 HC1.out A5.out).mono ?_); (case side1 => exact Kd.C_below HR0.out HB.out); (case side2 => exact Kd.C_below HR1.out HB.out); rintro e w7 ⟨rfl, hb⟩; refine ⟨_, rfl, ?_⟩; have n0_ := aM (below_step HB.out hb); have n1_ := aM (blk_below BN.out hb); have n2_ := aM (blk_below BO.out hb); clear HB BN BO hcz0 hcz1 hco0; have HB := n0_; have BN := n1_; have BO := n2_; clear n0_ n1_ n2_ hb; have hcz0 : w7.cell? ⟨gb, 0, none⟩ = some (.int .i64 a0_0) := (blk_cell BN.out 0).trans rfl; have hcz1 : w7.cell? ⟨gb, 1, none⟩ = some (.slice A0_1 l0_1.length c0_1) := (blk_cell BN.out 1).trans rfl; have hco0 : w7.cell? ⟨gu, 0, none⟩ = some (.slice A1 l1.length c1) := (blk_cell BO.out 0).trans rfl) | ((with_reducible refine gate_callee (f := 81) rfl ?_); refine goesL_ (some 11) rfl rfl Tryd.func81 (by kernel_rfl) rfl #[.agg #[.int .i64 a0_0, .slice A0_1 l0_1.length c0_1], .func (.func 92) #[] #[.pointer (some ⟨gu, 0, none⟩), .pointer (some ⟨gb, 0, none⟩)]] rfl (by (try simp only [List.map_toArray, List.map_cons, List.map_nil]); first | done | rfl) ?_; refine (impl_linesWhere.calls (fun (_ : Unit) i => (impl_BridgeLines_1.f k i a0_0 l0_1 l1).map fun b => (b, ())) (fun _ W => W.heap[gb]? = some (.cells #[.int .i64 a0_0, .slice A0_1 l0_1.length c0_1] 25 (0, 0)) ∧ W.heap[gu]? = some (.cells #[.slice A1 l1.length c1] 26 (0, 0)) ∧ Below w.heap.size w W) 92 _ #[.pointer (some ⟨gu, 0, none⟩), .pointer (some ⟨gb, 0, none⟩)] k a0_0 A0_1 l0_1.length c0_1 () u r' _ Tryd.func92 (by kernel_rfl) rfl ⟨BN.out, BO.out, HB.out⟩ ?hst ?hcl A6.out).mono ?_; (case hst => exact fun _ W W' hI hb => ⟨(hb.block _ (blk_lt BN.out)).trans hI.1, (hb.block _ (blk_lt BO.out)).trans hI.2.1, hI.2.2.trans (hb.mono HB.out.size)⟩); (case hcl => intro s s' x b W hle hI hp; obtain ⟨b', hb', e_⟩ := Option.map_eq_some_iff.mp hp; obtain ⟨rfl, rfl⟩ := Prod.mk.injEq _ _ _ _ ▸ e_; exact (impl_BridgeLines_1.calls k gb gu x a0_0 _ _ l0_1 _ _ l1 _ W hI.1 hI.2.1 (Kd.C_below HR0.out hI.2.2) HC0.out (Kd.C_below HR1.out hI.2.2) HC1.out hb').mono (fun e W' hh => ⟨hh.1, ⟨blk_below hI.1 hh.2, blk_below hI.2.1 hh.2, below_step hI.2.2 hh.2⟩, hh.2.size, fun i _ hi => hh.2.block i hi⟩)); rintro e w9 ⟨v, rfl, hr, hi⟩; refine ⟨_, rfl, ?_⟩; have HO := aM (Kd.R_lower hr HB.out.size); clear HB; have HB := Aside0.mk hi.2.2; clear hi hr BN BO))
 go_ret
 exact ⟨_, rfl, HO.out, HB.out⟩




end Go.Proofs.YtpgjgbjkfgbpaaaDoor.P
namespace Go.Proofs.YtpgjgbjkfgbpaaaDoor.P
open Go.RowKit Go.Proofs.YtpgjgbjkfgbpaaaDoorW.PrintWords Go.Proofs.YtpgjgbjkfgbpaaaDoorW.PrintLast Go.Proofs.YtpgjgbjkfgbpaaaDoorW.PrintMore
attribute [local go_sem] max2_int min2_int max_two min_two max_three min_three max_four min_four   -- for this text's walks alone
set_option linter.unusedVariables false
set_option linter.unusedSimpArgs false

/-! ### spec_BridgeLines: function 40 -/
mutual
def spec_BridgeLines.l0 : Nat → List Bool → List Int → List Int → Int → Int → List (S79) → Option (List Int)
 | 0, _, _, _, _, _, _ => none
 | k + 1, x1, x5, x6, x7, x681000, x681001 => if x7 < (x1.length : Int) then ((spec_StateValid.f k x681000 x681001 x1).bind fun t687 => (spec_BridgeLines.j1 k x1 x5 x6 x7 t687 x681000 x681001)) else (spec_BridgeLines.j1 k x1 x5 x6 x7 false x681000 x681001)
def spec_BridgeLines.j1 : Nat → List Bool → List Int → List Int → Int → Bool → Int → List (S79) → Option (List Int)
 | 0, _, _, _, _, _, _, _ => none
 | k + 1, x1, x5, x6, x7, x20, x681000, x681001 => if x20 = true then (if 0 ≤ x7 then (if x7 < (x1.length : Int) then (if rdOf false x1 x7 = true then ((spec_l1Has.f k x6 x7).bind fun t689 => (if t689 = true then (spec_BridgeLines.l0 k x1 x5 x6 (wrap64 (x7 + 1)) x681000 x681001) else (if x5.length < 17592186044416 then (spec_BridgeLines.l0 k x1 (x5 ++ [x7]) x6 (wrap64 (x7 + 1)) x681000 x681001) else (none)))) else (spec_BridgeLines.l0 k x1 x5 x6 (wrap64 (x7 + 1)) x681000 x681001)) else (none)) else (none)) else (some x5)
end
def spec_BridgeLines.f (k : Nat) (a0_0 : Int) (l0_1 : List (S79)) (l1 : List Bool) : Option (List Int) := (spec_CycleLines.f k a0_0 l0_1 l1).bind fun t684 => (spec_BridgeLines.l0 k l1 (([] : List Int)) t684 0 a0_0 l0_1)
theorem spec_BridgeLines.mono_l : ∀ k, (∀ y0 y1 y2 y3 y4 y5, LeO (spec_BridgeLines.l0 k y0 y1 y2 y3 y4 y5) (spec_BridgeLines.l0 (k + 1) y0 y1 y2 y3 y4 y5)) ∧ (∀ y0 y1 y2 y3 y4 y5 y6, LeO (spec_BridgeLines.j1 k y0 y1 y2 y3 y4 y5 y6) (spec_BridgeLines.j1 (k + 1) y0 y1 y2 y3 y4 y5 y6))
 | 0 => ⟨fun _ _ _ _ _ _ r h => by simp [spec_BridgeLines.l0] at h, fun _ _ _ _ _ _ _ r h => by simp [spec_BridgeLines.j1] at h⟩
 | k + 1 => by
  obtain ⟨ih0, ih1⟩ := spec_BridgeLines.mono_l k
  refine ⟨?_, ?_⟩
  ·
   intro y0 y1 y2 y3 y4 y5
   unfold spec_BridgeLines.l0
   repeat' first
   | (with_reducible exact ih0 _ _ _ _ _ _)
   | (with_reducible exact ih1 _ _ _ _ _ _ _)
   | (with_reducible exact spec_CycleLines.mono _ _ _ _)
   | (with_reducible exact spec_StateValid.mono _ _ _ _)
   | (with_reducible exact spec_l1Has.mono _ _ _)
   | (with_reducible exact LeO.refl _)
   | (with_reducible exact LeO.none _)
   | (with_reducible refine LeO.ite ?_ ?_)
   | (with_reducible refine LeO.bind ?_ (fun _ => ?_))
   | exact ih0 _ _ _ _ _ _
   | exact ih1 _ _ _ _ _ _ _
   | exact spec_CycleLines.mono _ _ _ _
   | exact spec_StateValid.mono _ _ _ _
   | exact spec_l1Has.mono _ _ _
   | exact LeO.none _
   | refine LeO.ite ?_ ?_
   | refine LeO.bind ?_ (fun _ => ?_)
  ·
   intro y0 y1 y2 y3 y4 y5 y6
   unfold spec_BridgeLines.j1
   repeat' first
   | (with_reducible exact ih0 _ _ _ _ _ _)
   | (with_reducible exact ih1 _ _ _ _ _ _ _)
   | (with_reducible exact spec_CycleLines.mono _ _ _ _)
   | (with_reducible exact spec_StateValid.mono _ _ _ _)
   | (with_reducible exact spec_l1Has.mono _ _ _)
   | (with_reducible exact LeO.refl _)
   | (with_reducible exact LeO.none _)
   | (with_reducible refine LeO.ite ?_ ?_)
   | (with_reducible refine LeO.bind ?_ (fun _ => ?_))
   | exact ih0 _ _ _ _ _ _
   | exact ih1 _ _ _ _ _ _ _
   | exact spec_CycleLines.mono _ _ _ _
   | exact spec_StateValid.mono _ _ _ _
   | exact spec_l1Has.mono _ _ _
   | exact LeO.none _
   | refine LeO.ite ?_ ?_
   | refine LeO.bind ?_ (fun _ => ?_)
theorem spec_BridgeLines.mono : ∀ a0 a1 a2 k, LeO (spec_BridgeLines.f k a0 a1 a2) (spec_BridgeLines.f (k + 1) a0 a1 a2) := by
 intro a0 a1 a2 k
 obtain ⟨ih0, ih1⟩ := spec_BridgeLines.mono_l k
 unfold spec_BridgeLines.f
 repeat' first
   | (with_reducible exact ih0 _ _ _ _ _ _)
   | (with_reducible exact ih1 _ _ _ _ _ _ _)
   | (with_reducible exact spec_CycleLines.mono _ _ _ _)
   | (with_reducible exact spec_StateValid.mono _ _ _ _)
   | (with_reducible exact spec_l1Has.mono _ _ _)
   | (with_reducible exact LeO.refl _)
   | (with_reducible exact LeO.none _)
   | (with_reducible refine LeO.ite ?_ ?_)
   | (with_reducible refine LeO.bind ?_ (fun _ => ?_))
   | exact ih0 _ _ _ _ _ _
   | exact ih1 _ _ _ _ _ _ _
   | exact spec_CycleLines.mono _ _ _ _
   | exact spec_StateValid.mono _ _ _ _
   | exact spec_l1Has.mono _ _ _
   | exact LeO.none _
   | refine LeO.ite ?_ ?_
   | refine LeO.bind ?_ (fun _ => ?_)
set_option maxHeartbeats 8000000 in
set_option maxRecDepth 100000 in
theorem spec_BridgeLines.calls (k : Nat) (a0_0 : Int) (A0_1 : Option Addr) (c0_1 : Nat) (l0_1 : List (S79)) (A1 : Option Addr) (c1 : Nat) (l1 : List Bool) (r : List Int) (w : World) (hr0_1 : Kd.C k79 w A0_1 l0_1.length l0_1) (hc0_1 : l0_1.length ≤ c0_1) (hr1 : Kd.C Kd.bool w A1 l1.length l1) (hc1 : l1.length ≤ c1) (h : spec_BridgeLines.f k a0_0 l0_1 l1 = some r) :
  Calls Tryd.prog 40 #[.agg #[.int .i64 a0_0, .slice A0_1 l0_1.length c0_1], .slice A1 l1.length c1] w fun e w' => ∃ v0_ : Value, e = .returned (v0_) ∧ Kd.R (Kd.int .i64) 3 w' w.heap.size (fun _ => True) v0_ r ∧ Below w.heap.size w w' := by
 have hu25 := Tryd.underlying25
 have HR0_1 := Aside0.mk hr0_1
 have HC0_1 := Aside0.mk hc0_1
 clear hr0_1 hc0_1
 have HR1 := Aside0.mk hr1
 have HC1 := Aside0.mk hc1
 clear hr1 hc1
 have HB := aM (Below.refl w.heap.size w)
 have H : ((spec_CycleLines.f k a0_0 l0_1 l1).bind fun t684 => (spec_BridgeLines.l0 k l1 (([] : List Int)) t684 0 a0_0 l0_1)) = some r := h
 clear h
 obtain ⟨y681, hy681⟩ : ∃ y_ : List Int, y_ = (([] : List Int)) := ⟨_, rfl⟩
 replace H : ((spec_CycleLines.f k a0_0 l0_1 l1).bind fun t684 => (spec_BridgeLines.l0 k l1 y681 t684 0 a0_0 l0_1)) = some r := by first | (rw [hy681]; with_reducible exact H) | (have H2_ := (Option.bind_some _ _).symm.trans H; rw [hy681]; with_reducible exact H2_) | (have H2_ := (Option.bind_some _ _).symm.trans H; with_reducible exact H2_) | with_reducible exact H | (rw [hy681]; exact H) | exact H
 have Ny681 := Aside0.mk hy681
 clear hy681
 replace H := Option.bind_eq_some_iff.mp H
 obtain ⟨t684, A30, H⟩ := H
 replace H : (spec_BridgeLines.l0 k l1 y681 t684 0 a0_0 l0_1) = some r := H
 have A3 := Aside0.mk A30
 clear A30
 have H' := Aside0.mk H
 clear H
 go_enter Tryd.func40, Tryd.ntmps40
 go_wp2_with (first | ((with_reducible refine gate_dst (N := 2) rfl ?_); refine box_event ?hg (N := 2) ?hd (cs := #[.int .i64 a0_0, .slice A0_1 l0_1.length c0_1]) (t := 25) ?hr ?_; (case hd => rfl); (case hg => rfl); (case hr => exact hR); intro gb680 hg w4 hbox hb; have n0_ := aM (below_step (bl0 HB) hb); have n1_ := aM (hbox); have n2_ := aM ((by rw [hg]; exact (below_size (bl0 HB)) : w.heap.size ≤ gb680)); have n3_ := aM ((by rw [hg]; exact (below_size (bl0 HB)) : w.heap.size ≤ gb680)); clear HB; have HB := n0_; have BK680 := n1_; have GW680 := n2_; have GE680 := n3_; clear n0_ n1_ n2_ n3_; clear hb hbox hg) | ((with_reducible refine gate_dst (N := 8) rfl ?_); refine Kd.R_lit (Kd.int .i64) _ 3 ?hg (N := 8) ?hd (xs := ([] : List Int)) (inner := []) (ok := fun _ => True) (okp := fun _ => True) ?hr ?hp (fun _ hk => hk) trivial (Below.refl _ _) (Nat.le_refl _) (by simp) ?_; (case hd => rfl); (case hg => rfl); (case hr => exact hR); (case hp => exact (Reps.none _ _)); intro v682 w5 ho6 hb hg_ hnew_; clear hg_ hnew_; (first | rw [← Ny681.out] at ho6 | (simp only [Int.reduceToNat] at ho6; rw [← Ny681.out] at ho6)); have n0_ := aM (Kd.R_lower ho6 (below_size (bl1 HB GE680))); have n1_ := aM (blk_below (g := gb680) (o := .cells #[.int .i64 a0_0, .slice A0_1 l0_1.length c0_1] 25 (0, 0)) (gB (BK680.out)) hb); have n2_ := aM (below_step (bl1 HB GE680) hb); clear BK680; clear HB; have HO683 := n0_; have BK680 := n1_; have HB := n2_; clear n0_ n1_ n2_; clear hb ho6; have hcz7_0 : w5.cell? ⟨gb680, 0, none⟩ = some (.int .i64 a0_0) := (blk_cell BK680.out 0).trans rfl; have hcz7_1 : w5.cell? ⟨gb680, 1, none⟩ = some (.slice A0_1 l0_1.length c0_1) := (blk_cell BK680.out 1).trans rfl; have hfz7_0 := blk_frozen BK680.out 0; have hfz7_1 := blk_frozen BK680.out 1) | ((with_reducible refine gate_callee (f := 23) rfl ?_); refine goesL_ (some 11) rfl rfl Tryd.func23 (by kernel_rfl) rfl #[.agg #[.int .i64 a0_0, .slice A0_1 l0_1.length c0_1], .slice A1 l1.length c1] rfl mP ?_; (with_reducible refine (spec_CycleLines.calls k a0_0 _ _ l0_1 _ _ l1 t684 _ ?side1 ?side2 ?side3 ?side4 A3.out).mono ?_); (case side1 => exact gC ((Kd.C_below HR0_1.out HB.out))); (case side2 => exact HC0_1.out); (case side3 => exact gC ((Kd.C_below HR1.out HB.out))); (case side4 => exact HC1.out); rintro e w8 ⟨v685, rfl, ho0, hb⟩; refine ⟨_, rfl, ?_⟩; have n0_ := aM (Kd.R_elder' (gR (HO683.out)) (Kd.R_base ho0) hb); have n1_ := aM (Kd.R_lower (Kd.R_new' ho0 (Kd.R_lt (gR (HO683.out)))) (below_size (bl1 HB GE680))); have n2_ := aM (blk_below (g := gb680) (o := .cells #[.int .i64 a0_0, .slice A0_1 l0_1.length c0_1] 25 (0, 0)) (gB (BK680.out)) hb); have n3_ := aM (below_step (bl1 HB GE680) hb); clear HO683; clear BK680; clear HB; have HO683 := n0_; have HO686 := n1_; have BK680 := n2_; have HB := n3_; clear n0_ n1_ n2_ n3_; (try clear hb); (try clear hb2); (try clear hk); (try clear hi); (try clear ho0)))
 go_loopg [5, 7] k (fun kq v5 v7 w' => ∃ (x5_1 : List Int) (x7_1 : Int), v7 = .int .i64 x7_1 ∧ Aside0 (spec_BridgeLines.l0 kq l1 x5_1 t684 x7_1 a0_0 l0_1 = some r) ∧ Aside0 (kq ≤ k) ∧ Aside0 (Kd.R (Kd.int .i64) 3 w' w.heap.size (fun k_ => some k_ ≠ (v685 : Value).ownBlock) v5 x5_1) ∧ Aside0 (Kd.R (Kd.int .i64) 3 w' w.heap.size (fun k_ => some k_ ≠ (v5 : Value).ownBlock) v685 t684) ∧ Aside0 (w'.heap[gb680]? = some (.cells #[.int .i64 a0_0, (.slice A0_1 l0_1.length c0_1)] 25 (0, 0))) ∧ Aside0 (Below w.heap.size w w'))
 case atStart => exact ⟨(y681), (0), fS, H', ⟨Nat.le_refl _⟩, ⟨by (with_reducible repeat (first | apply Kd.R_alloc | apply Kd.R_drewN | apply Kd.R_drew)); exact Kd.R_mono HO683.out (fun _ hk => hk.2)⟩, ⟨by (with_reducible repeat (first | apply Kd.R_alloc | apply Kd.R_drewN | apply Kd.R_drew)); exact Kd.R_mono HO686.out (fun _ hk => hk.2)⟩, ⟨gB (BK680.out)⟩, ⟨bl1 HB GE680⟩⟩
 case round =>
  clear H'
  try clear c1
  try clear c2
  try clear p2
  try clear c4
  try clear hcz7_0
  try clear hcz7_1
  try clear hfz7_0
  try clear hfz7_1
  obtain ⟨x5_1, x7_1, rfl, HA, HK1, HO_5, HO_6, BK680, HB⟩ := hrel
  cases gk with
  | zero => exact absurd HA.out (by simp [spec_BridgeLines.l0])
  | succ k1 =>
   have H := HA.out
   clear HA
   simp only [spec_BridgeLines.l0] at H
   have HC9 := Aside0.mk H
   clear H
   go_upto_region 4 with (fail)
   go_cut [20] (fun v20 wc => ∃ (kq : Nat) (x20_8 : Bool), v20 = .bool x20_8 ∧ Aside0 (spec_BridgeLines.j1 kq l1 x5_1 t684 x7_1 x20_8 a0_0 l0_1 = some r) ∧ Aside0 (kq ≤ k1) ∧ Aside0 (Kd.R (Kd.int .i64) 3 wc w.heap.size (fun k_ => some k_ ≠ (v685 : Value).ownBlock) u5 x5_1) ∧ Aside0 (Kd.R (Kd.int .i64) 3 wc w.heap.size (fun k_ => some k_ ≠ (u5 : Value).ownBlock) v685 t684) ∧ Aside0 (wc.heap[gb680]? = some (.cells #[.int .i64 a0_0, (.slice A0_1 l0_1.length c0_1)] 25 (0, 0))) ∧ Aside0 (Below w.heap.size w wc))
   case first =>
    have H := HC9.out
    clear HC9
    by_cases c10 : x7_1 < (l1.length : Int)
    rotate_left
    ·
     rw [if_neg c10] at H
     have c10b0 : decide (x7_1 < (l1.length : Int)) = false := decide_eq_false c10
     clear c10
     (first | rw [c10b0] | (simp only [i64_w, i32_w]; rw [c10b0]) | skip)
     have H' := Aside0.mk H
     clear H
     go_wp2
     go_meet
     case rel => exact ⟨_, (false), fS, H', ⟨by have := HK1.out; first | omega | exact Nat.le_refl _⟩, ⟨gR (HO_5.out)⟩, ⟨gR (HO_6.out)⟩, ⟨gB (BK680.out)⟩, ⟨bl1 HB GE680⟩⟩
    rw [if_pos c10] at H
    have c10b0 : decide (x7_1 < (l1.length : Int)) = true := decide_eq_true c10
    clear c10
    (first | rw [c10b0] | (simp only [i64_w, i32_w]; rw [c10b0]) | skip)
    replace H := Option.bind_eq_some_iff.mp H
    obtain ⟨t687, A110, H⟩ := H
    replace H : (spec_BridgeLines.j1 k1 l1 x5_1 t684 x7_1 t687 a0_0 l0_1) = some r := H
    have A11 := Aside0.mk A110
    clear A110
    have H' := Aside0.mk H
    clear H
    have hcz12_0 : wr.cell? ⟨gb680, 0, none⟩ = some (.int .i64 a0_0) := (blk_cell BK680.out 0).trans rfl
    have hcz12_1 : wr.cell? ⟨gb680, 1, none⟩ = some (.slice A0_1 l0_1.length c0_1) := (blk_cell BK680.out 1).trans rfl
    have hfz12_0 := blk_frozen BK680.out 0
    have hfz12_1 := blk_frozen BK680.out 1
    go_wp2_with (first | (go_at_call 34; (with_reducible refine (spec_StateValid.calls k1 a0_0 _ _ l0_1 _ _ l1 t687 _ ?side1 ?side2 ?side3 ?side4 A11.out).mono ?_); (case side1 => exact gC ((Kd.C_below HR0_1.out HB.out))); (case side2 => exact HC0_1.out); (case side3 => exact gC ((Kd.C_below HR1.out HB.out))); (case side4 => exact HC1.out); rintro e w13 ⟨rfl, hb⟩; have n0_ := aM (Kd.R_below (gR (HO_5.out)) hb); have n1_ := aM (Kd.R_below (gR (HO_6.out)) hb); have n2_ := aM (blk_below (g := gb680) (o := .cells #[.int .i64 a0_0, .slice A0_1 l0_1.length c0_1] 25 (0, 0)) (gB (BK680.out)) hb); have n3_ := aM (below_step (bl1 HB GE680) hb); clear HO_5; clear HO_6; clear BK680; clear HB; have HO_5 := n0_; have HO_6 := n1_; have BK680 := n2_; have HB := n3_; clear n0_ n1_ n2_ n3_; (try clear hb); (try clear hb2); (try clear hk); (try clear hi)))
    go_meet
    case rel => exact ⟨_, (t687), fS, H', ⟨by have := HK1.out; first | omega | exact Nat.le_refl _⟩, ⟨gR (HO_5.out)⟩, ⟨gR (HO_6.out)⟩, ⟨gB (BK680.out)⟩, ⟨bl1 HB GE680⟩⟩
   case rest =>
    clear HC9
    try clear c1
    try clear c2
    try clear p2
    try clear c4
    try clear c10
    try clear c10b0
    try clear hcz12_0
    try clear hcz12_1
    try clear hcz7_0
    try clear hcz7_1
    try clear hfz12_0
    try clear hfz12_1
    try clear hfz7_0
    try clear hfz7_1
    try clear p2
    obtain ⟨kq, x20_8, rfl, HA, HJ8, HO_5, HO_6, BK680, HB⟩ := hcut
    cases kq with
    | zero => exact absurd HA.out (by simp [spec_BridgeLines.j1])
    | succ kj8 =>
     have H := HA.out
     clear HA
     simp only [spec_BridgeLines.j1] at H
     by_cases c14 : x20_8 = true
     rotate_left
     ·
      replace c14 := Bool.eq_false_iff.mpr c14
      subst c14
      have H1 : (some x5_1) = some r := by rw [if_neg (show ¬ (false = true) by decide)] at H; exact H
      clear H
      have H := H1
      clear H1
      obtain rfl := Option.some.inj H
      go_wp2
      go_ret
      exact ⟨_, fR, by (with_reducible repeat (first | apply Kd.R_alloc | apply Kd.R_drewN | apply Kd.R_drew)); exact Kd.R_mono HO_5.out (fun _ hk => trivial), bl1 HB GE680⟩
     subst c14
     have H1 : (if 0 ≤ x7_1 then (if x7_1 < (l1.length : Int) then (if rdOf false l1 x7_1 = true then ((spec_l1Has.f kj8 t684 x7_1).bind fun t689 => (if t689 = true then (spec_BridgeLines.l0 kj8 l1 x5_1 t684 (wrap64 (x7_1 + 1)) a0_0 l0_1) else (if x5_1.length < 17592186044416 then (spec_BridgeLines.l0 kj8 l1 (x5_1 ++ [x7_1]) t684 (wrap64 (x7_1 + 1)) a0_0 l0_1) else (none)))) else (spec_BridgeLines.l0 kj8 l1 x5_1 t684 (wrap64 (x7_1 + 1)) a0_0 l0_1)) else (none)) else (none)) = some r := by rw [if_pos rfl] at H; exact H
     clear H
     have H := H1
     clear H1
     by_cases c15 : 0 ≤ x7_1
     rotate_left
     ·
      rw [if_neg c15] at H
      exact absurd H (by simp)
     rw [if_pos c15] at H
     have c15b0 : decide (0 ≤ x7_1) = true := decide_eq_true c15
     clear c15
     by_cases c16 : x7_1 < (l1.length : Int)
     rotate_left
     ·
      rw [if_neg c16] at H
      exact absurd H (by simp)
     rw [if_pos c16] at H
     have c16b0 : decide (x7_1 < (l1.length : Int)) = true := decide_eq_true c16
     clear c16
     obtain ⟨bq17, hbq17⟩ : ∃ b_ : Bool, b_ = (rdOf false l1 x7_1) := ⟨_, rfl⟩
     replace H : (if bq17 = true then ((spec_l1Has.f kj8 t684 x7_1).bind fun t689 => (if t689 = true then (spec_BridgeLines.l0 kj8 l1 x5_1 t684 (wrap64 (x7_1 + 1)) a0_0 l0_1) else (if x5_1.length < 17592186044416 then (spec_BridgeLines.l0 kj8 l1 (x5_1 ++ [x7_1]) t684 (wrap64 (x7_1 + 1)) a0_0 l0_1) else (none)))) else (spec_BridgeLines.l0 kj8 l1 x5_1 t684 (wrap64 (x7_1 + 1)) a0_0 l0_1)) = some r := by rw [← hbq17] at H; exact H
     have Nbq17 := Aside0.mk hbq17
     clear hbq17
     by_cases c18 : bq17 = true
     rotate_left
     ·
      replace c18 := Bool.eq_false_iff.mpr c18
      subst c18
      have H1 : (spec_BridgeLines.l0 kj8 l1 x5_1 t684 (wrap64 (x7_1 + 1)) a0_0 l0_1) = some r := by rw [if_neg (show ¬ (false = true) by decide)] at H; exact H
      clear H
      have H := H1
      clear H1
      have H' := Aside0.mk H
      clear H
      have p688 : 0 ≤ (x7_1 : Int) := oD
      have q688 : x7_1 < (l1.length : Int) := oD
      obtain ⟨ad688, e688, hx688_0⟩ := Kd.at_bool HR1.out x7_1 p688 q688
      (try rw [← Nbq17.out] at hx688_0)
      cases e688
      replace hx688_0 := (HB.out.cell (World.block_lt_of_cell? w _ hx688_0)).trans hx688_0
      replace p688 := eq_true p688
      replace q688 := eq_true q688
      go_wp2
      go_roundg kj8
      case measure => have := HK1.out; have := HJ8.out; omega
      case rel => exact ⟨(x5_1), (wrap64 (x7_1 + 1)), fS, H', ⟨by have := HK1.out; have := HJ8.out; omega⟩, ⟨gR (HO_5.out)⟩, ⟨gR (HO_6.out)⟩, ⟨gB (BK680.out)⟩, ⟨bl1 HB GE680⟩⟩
     subst c18
     have H1 : ((spec_l1Has.f kj8 t684 x7_1).bind fun t689 => (if t689 = true then (spec_BridgeLines.l0 kj8 l1 x5_1 t684 (wrap64 (x7_1 + 1)) a0_0 l0_1) else (if x5_1.length < 17592186044416 then (spec_BridgeLines.l0 kj8 l1 (x5_1 ++ [x7_1]) t684 (wrap64 (x7_1 + 1)) a0_0 l0_1) else (none)))) = some r := by rw [if_pos rfl] at H; exact H
     clear H
     have H := H1
     clear H1
     replace H := Option.bind_eq_some_iff.mp H
     obtain ⟨t689, A190, H⟩ := H
     replace H : (if t689 = true then (spec_BridgeLines.l0 kj8 l1 x5_1 t684 (wrap64 (x7_1 + 1)) a0_0 l0_1) else (if x5_1.length < 17592186044416 then (spec_BridgeLines.l0 kj8 l1 (x5_1 ++ [x7_1]) t684 (wrap64 (x7_1 + 1)) a0_0 l0_1) else (none))) = some r := H
     have A19 := Aside0.mk A190
     clear A190
     by_cases c20 : t689 = true
     ·
      subst c20
      have H1 : (spec_BridgeLines.l0 kj8 l1 x5_1 t684 (wrap64 (x7_1 + 1)) a0_0 l0_1) = some r := by rw [if_pos rfl] at H; exact H
      clear H
      have H := H1
      clear H1
      have H' := Aside0.mk H
      clear H
      have p688 : 0 ≤ (x7_1 : Int) := oD
      have q688 : x7_1 < (l1.length : Int) := oD
      obtain ⟨ad688, e688, hx688_0⟩ := Kd.at_bool HR1.out x7_1 p688 q688
      (try rw [← Nbq17.out] at hx688_0)
      cases e688
      replace hx688_0 := (HB.out.cell (World.block_lt_of_cell? w _ hx688_0)).trans hx688_0
      replace p688 := eq_true p688
      replace q688 := eq_true q688
      obtain ⟨Ao21, co21, eo21⟩ := Kd.R_slice HO_6.out
      subst eo21
      go_wp2_with (first | (go_at_call 93; (with_reducible refine (spec_l1Has.calls kj8 _ _ t684 x7_1 true _ ?side1 ?side2 A19.out).mono ?_); (case side1 => exact gC ((Kd.R_reads' HO_6.out).2.2)); (case side2 => exact (Kd.R_reads' HO_6.out).2.1); rintro e w' ⟨rfl, ⟨nd, rfl⟩⟩))
      go_roundg kj8
      case measure => have := HK1.out; have := HJ8.out; omega
      case rel => exact ⟨(x5_1), (wrap64 (x7_1 + 1)), fS, H', ⟨by have := HK1.out; have := HJ8.out; omega⟩, ⟨gR (HO_5.out)⟩, ⟨gR (HO_6.out)⟩, ⟨gB (BK680.out)⟩, ⟨bl1 HB GE680⟩⟩
     replace c20 := Bool.eq_false_iff.mpr c20
     subst c20
     have H1 : (if x5_1.length < 17592186044416 then (spec_BridgeLines.l0 kj8 l1 (x5_1 ++ [x7_1]) t684 (wrap64 (x7_1 + 1)) a0_0 l0_1) else (none)) = some r := by rw [if_neg (show ¬ (false = true) by decide)] at H; exact H
     clear H
     have H := H1
     clear H1
     by_cases c22 : x5_1.length < 17592186044416
     rotate_left
     ·
      rw [if_neg c22] at H
      exact absurd H (by simp)
     rw [if_pos c22] at H
     have LMc22 := Aside0.mk c22
     clear c22
     obtain ⟨y690, hy690⟩ : ∃ y_ : List Int, y_ = (x5_1 ++ [x7_1]) := ⟨_, rfl⟩
     replace H : (spec_BridgeLines.l0 kj8 l1 y690 t684 (wrap64 (x7_1 + 1)) a0_0 l0_1) = some r := by first | (rw [hy690]; with_reducible exact H) | (have H2_ := (Option.bind_some _ _).symm.trans H; rw [hy690]; with_reducible exact H2_) | (have H2_ := (Option.bind_some _ _).symm.trans H; with_reducible exact H2_) | with_reducible exact H | (rw [hy690]; exact H) | exact H
     have Ny690 := Aside0.mk hy690
     clear hy690
     have H' := Aside0.mk H
     clear H
     have p688 : 0 ≤ (x7_1 : Int) := oD
     have q688 : x7_1 < (l1.length : Int) := oD
     obtain ⟨ad688, e688, hx688_0⟩ := Kd.at_bool HR1.out x7_1 p688 q688
     (try rw [← Nbq17.out] at hx688_0)
     cases e688
     replace hx688_0 := (HB.out.cell (World.block_lt_of_cell? w _ hx688_0)).trans hx688_0
     replace p688 := eq_true p688
     replace q688 := eq_true q688
     obtain ⟨Ao23, co23, eo23⟩ := Kd.R_slice HO_6.out
     subst eo23
     go_wp2_with (first | (go_at_call 93; (with_reducible refine (spec_l1Has.calls kj8 _ _ t684 x7_1 false _ ?side1 ?side2 A19.out).mono ?_); (case side1 => exact gC ((Kd.R_reads' HO_6.out).2.2)); (case side2 => exact (Kd.R_reads' HO_6.out).2.1); rintro e w' ⟨rfl, ⟨nd, rfl⟩⟩) | ((with_reducible refine gate_builtin (b := .append) (xs := #[.tmp 33, .tmp 35]) rfl ?_); at_builtin; refine Kd.R_append (Kd.int .i64) (w0 := w) w.heap.size rfl (.tmp 33) (.tmp 35) 37 3 (.int .i64 0) 8 rfl Tryd.underlying37 info3 rfl (by decide) (by omega) u5 x5_1 x7_1 [.int .i64 x7_1] (fun k_ => some k_ ≠ (.slice Ao23 t684.length co23 : Value).ownBlock) (fun _ => False) rfl rfl ?aP (fun _ hk => hk.elim) ?aF ?aO ?aB ?aS ?aL ?_; (case aP => exact rfl); (case aB => exact (bl1 HB GE680)); (case aF => exact (fun k_ hk => Kd.fresh' (Kd.R_lt (gR (HO_6.out))) k_ hk)); (case aO => exact (gR (HO_5.out))); (case aS => exact (below_size (bl1 HB GE680))); (case aL => have := LMc22.out; omega); intro v691 w24 ho hb hg hat; rw [← Ny690.out] at ho; have n0_ := aM (Kd.R_after (ok := (fun _ => True)) (by (with_reducible repeat (first | apply Kd.R_alloc | apply Kd.R_drewN | apply Kd.R_drew)); exact Kd.R_mono HO_6.out (fun _ hk => ⟨trivial, hk⟩)) hg hat); have n1_ := aM (blk_grown (g := gb680) (o := .cells #[.int .i64 a0_0, .slice A0_1 l0_1.length c0_1] 25 (0, 0)) (gB (BK680.out)) hg (Kd.R_ne HO_5.out BK680.out (by decide))); have n2_ := aM (hb); have n3_ := aM (ho); clear HO_6; clear BK680; clear HB; clear HO_5; have HO_6 := n0_; have BK680 := n1_; have HB := n2_; have HO692 := n3_; clear n0_ n1_ n2_ n3_; clear ho hb hg hat))
     go_roundg kj8
     case measure => have := HK1.out; have := HJ8.out; omega
     case rel => exact ⟨(y690), (wrap64 (x7_1 + 1)), fS, H', ⟨by have := HK1.out; have := HJ8.out; omega⟩, ⟨gR (HO692.out)⟩, ⟨by (with_reducible repeat (first | apply Kd.R_alloc | apply Kd.R_drewN | apply Kd.R_drew)); exact Kd.R_mono HO_6.out (fun _ hk => hk.2)⟩, ⟨gB (BK680.out)⟩, ⟨bl1 HB GE680⟩⟩

end Go.Proofs.YtpgjgbjkfgbpaaaDoor.P

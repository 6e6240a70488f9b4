/- Contracts of Go functions of this seat's translation, written by this repo's wip/mk.py: it calls the kit's print.py with contracts typed by hand in place of functions that it does not take. Not trusted: Lean checks it. -/
import Derived.Test.YtpgjgbjkfgbpaaaDoorP0
import Derived.Test.YtpgjgbjkfgbpaaaDoorP53
import Derived.Test.YtpgjgbjkfgbpaaaDoorP9
import Derived.Test.YtpgjgbjkfgbpaaaDoorP12
namespace Go.Proofs.YtpgjgbjkfgbpaaaDoor.P
open Go.RowKit Go.Proofs.YtpgjgbjkfgbpaaaDoorW.PrintWords Go.Proofs.YtpgjgbjkfgbpaaaDoorW.PrintLast Go.Proofs.YtpgjgbjkfgbpaaaDoorW.PrintMore
attribute [local go_sem] max2_int min2_int max_two min_two max_three min_three max_four min_four   -- for this text's walks alone
set_option linter.unusedVariables false
set_option linter.unusedSimpArgs false

/-! ### laws_offOn: function 25 -/
def laws_offOn.f (k : Nat) (a0_0 : Int) (l0_1 : List (S79)) (l1 : List Bool) (a2 : Int) : Option (List Bool × List Bool) := (impl_SwitchLine.f k a0_0 l0_1 l1 a2 false).bind fun bt497 => ((impl_SwitchLine.f k a0_0 l0_1 l1 a2 true).bind fun bt501 => (some (bt497.1, bt501.1)))
theorem laws_offOn.mono : ∀ a0 a1 a2 a3 k, LeO (laws_offOn.f k a0 a1 a2 a3) (laws_offOn.f (k + 1) a0 a1 a2 a3) := by
 intro a0 a1 a2 a3 k
 unfold laws_offOn.f
 repeat' first
   | (with_reducible exact impl_SwitchLine.mono _ _ _ _ _ _)
   | (with_reducible exact LeO.refl _)
   | (with_reducible exact LeO.none _)
   | (with_reducible refine LeO.ite ?_ ?_)
   | (with_reducible refine LeO.bind ?_ (fun _ => ?_))
   | exact impl_SwitchLine.mono _ _ _ _ _ _
   | exact LeO.none _
   | refine LeO.ite ?_ ?_
   | refine LeO.bind ?_ (fun _ => ?_)
set_option maxHeartbeats 8000000 in
set_option maxRecDepth 100000 in
theorem laws_offOn.calls (k : Nat) (a0_0 : Int) (A0_1 : Option Addr) (c0_1 : Nat) (l0_1 : List (S79)) (A1 : Option Addr) (c1 : Nat) (l1 : List Bool) (a2 : Int) (r1 : List Bool) (r2 : List Bool) (w : World) (hr0_1 : Kd.C k79 w A0_1 l0_1.length l0_1) (hc0_1 : l0_1.length ≤ c0_1) (hr1 : Kd.C Kd.bool w A1 l1.length l1) (hc1 : l1.length ≤ c1) (h : laws_offOn.f k a0_0 l0_1 l1 a2 = some (r1, r2)) :
  Calls Tryd.prog 25 #[.agg #[.int .i64 a0_0, .slice A0_1 l0_1.length c0_1], .slice A1 l1.length c1, .int .i64 a2] w fun e w' => ∃ v0_ v1_ : Value, e = .returned (.tuple #[v0_, v1_]) ∧ Kd.R Kd.bool 4 w' w.heap.size (fun k_ => some k_ ≠ (v1_ : Value).ownBlock) v0_ r1 ∧ Kd.R Kd.bool 4 w' w.heap.size (fun k_ => some k_ ≠ (v0_ : Value).ownBlock) v1_ r2 ∧ Below w.heap.size w w' := by
 have hu25 := Tryd.underlying25
 have HR0_1 := Aside0.mk hr0_1
 have HC0_1 := Aside0.mk hc0_1
 clear hr0_1 hc0_1
 have HR1 := Aside0.mk hr1
 have HC1 := Aside0.mk hc1
 clear hr1 hc1
 have HB := aM (Below.refl w.heap.size w)
 have H : ((impl_SwitchLine.f k a0_0 l0_1 l1 a2 false).bind fun bt497 => ((impl_SwitchLine.f k a0_0 l0_1 l1 a2 true).bind fun bt501 => (some (bt497.1, bt501.1)))) = some (r1, r2) := h
 clear h
 replace H := Option.bind_eq_some_iff.mp H
 obtain ⟨⟨t497, t500⟩, A40, H⟩ := H
 replace H : ((impl_SwitchLine.f k a0_0 l0_1 l1 a2 true).bind fun bt501 => (some (t497, bt501.1))) = some (r1, r2) := H
 have A4 := Aside0.mk A40
 clear A40
 replace H := Option.bind_eq_some_iff.mp H
 obtain ⟨⟨t501, t504⟩, A50, H⟩ := H
 replace H : (some (t497, t501)) = some (r1, r2) := H
 have A5 := Aside0.mk A50
 clear A50
 simp only [Option.some.injEq, Prod.mk.injEq] at H
 obtain ⟨rfl, rfl⟩ := H
 go_enter Tryd.func25, Tryd.ntmps25
 go_wp2_with (first | ((with_reducible refine gate_dst (N := 3) rfl ?_); refine box_event ?hg (N := 3) ?hd (cs := #[.int .i64 a0_0, .slice A0_1 l0_1.length c0_1]) (t := 25) ?hr ?_; (case hd => rfl); (case hg => rfl); (case hr => exact hR); intro gb496 hg w6 hbox hb; have n0_ := aM (below_step (bl0 HB) hb); have n1_ := aM (hbox); have n2_ := aM ((by rw [hg]; exact (below_size (bl0 HB)) : w.heap.size ≤ gb496)); have n3_ := aM ((by rw [hg]; exact (below_size (bl0 HB)) : w.heap.size ≤ gb496)); clear HB; have HB := n0_; have BK496 := n1_; have GW496 := n2_; have GE496 := n3_; clear n0_ n1_ n2_ n3_; clear hb hbox hg; have hcz7_0 : w6.cell? ⟨gb496, 0, none⟩ = some (.int .i64 a0_0) := (blk_cell BK496.out 0).trans rfl; have hcz7_1 : w6.cell? ⟨gb496, 1, none⟩ = some (.slice A0_1 l0_1.length c0_1) := (blk_cell BK496.out 1).trans rfl; have hfz7_0 := blk_frozen BK496.out 0; have hfz7_1 := blk_frozen BK496.out 1) | ((with_reducible refine gate_callee (f := 86) rfl ?_); refine goesL_ (some 16) rfl rfl Tryd.func86 (by kernel_rfl) rfl #[.agg #[.int .i64 a0_0, .slice A0_1 l0_1.length c0_1], .slice A1 l1.length c1, .int .i64 a2, .bool false] rfl mP ?_; (with_reducible refine (impl_SwitchLine.calls k a0_0 _ _ l0_1 _ _ l1 a2 false t497 t500 _ ?side1 ?side2 ?side3 ?side4 A4.out).mono ?_); (case side1 => exact gC ((Kd.C_below HR0_1.out HB.out))); (case side2 => exact HC0_1.out); (case side3 => exact gC ((Kd.C_below HR1.out HB.out))); (case side4 => exact HC1.out); rintro e w8 ⟨v498, rfl, ho0, hb⟩; refine ⟨_, rfl, ?_⟩; have n0_ := aM (Kd.R_lower ho0 (below_size (bl1 HB GE496))); have n1_ := aM (blk_below (g := gb496) (o := .cells #[.int .i64 a0_0, .slice A0_1 l0_1.length c0_1] 25 (0, 0)) (gB (BK496.out)) hb); have n2_ := aM (below_step (bl1 HB GE496) hb); clear BK496; clear HB; have HO499 := n0_; have BK496 := n1_; have HB := n2_; clear n0_ n1_ n2_; (try clear hb); (try clear hb2); (try clear hk); (try clear hi); (try clear ho0); have hcz9_0 : w8.cell? ⟨gb496, 0, none⟩ = some (.int .i64 a0_0) := (blk_cell BK496.out 0).trans rfl; have hcz9_1 : w8.cell? ⟨gb496, 1, none⟩ = some (.slice A0_1 l0_1.length c0_1) := (blk_cell BK496.out 1).trans rfl; have hfz9_0 := blk_frozen BK496.out 0; have hfz9_1 := blk_frozen BK496.out 1) | ((with_reducible refine gate_callee (f := 86) rfl ?_); refine goesL_ (some 23) rfl rfl Tryd.func86 (by kernel_rfl) rfl #[.agg #[.int .i64 a0_0, .slice A0_1 l0_1.length c0_1], .slice A1 l1.length c1, .int .i64 a2, .bool true] rfl mP ?_; (with_reducible refine (impl_SwitchLine.calls k a0_0 _ _ l0_1 _ _ l1 a2 true t501 t504 _ ?side1 ?side2 ?side3 ?side4 A5.out).mono ?_); (case side1 => exact gC ((Kd.C_below HR0_1.out HB.out))); (case side2 => exact HC0_1.out); (case side3 => exact gC ((Kd.C_below HR1.out HB.out))); (case side4 => exact HC1.out); rintro e w10 ⟨v502, rfl, ho0, hb⟩; refine ⟨_, rfl, ?_⟩; have n0_ := aM (Kd.R_elder' (gR (HO499.out)) (Kd.R_base ho0) hb); have n1_ := aM (Kd.R_lower (Kd.R_new' ho0 (Kd.R_lt (gR (HO499.out)))) (below_size (bl1 HB GE496))); have n2_ := aM (blk_below (g := gb496) (o := .cells #[.int .i64 a0_0, .slice A0_1 l0_1.length c0_1] 25 (0, 0)) (gB (BK496.out)) hb); have n3_ := aM (below_step (bl1 HB GE496) hb); clear HO499; clear BK496; clear HB; have HO499 := n0_; have HO503 := n1_; have BK496 := n2_; have HB := n3_; clear n0_ n1_ n2_ n3_; (try clear hb); (try clear hb2); (try clear hk); (try clear hi); (try clear ho0)))
 go_ret2
 exact ⟨_, _, fR, by (with_reducible repeat (first | apply Kd.R_alloc | apply Kd.R_drewN | apply Kd.R_drew)); exact Kd.R_mono HO499.out (fun _ hk => hk.2), by (with_reducible repeat (first | apply Kd.R_alloc | apply Kd.R_drewN | apply Kd.R_drew)); exact Kd.R_mono HO503.out (fun _ hk => hk.2), bl1 HB GE496⟩

end Go.Proofs.YtpgjgbjkfgbpaaaDoor.P
namespace Go.Proofs.YtpgjgbjkfgbpaaaDoor.P
open Go.RowKit Go.Proofs.YtpgjgbjkfgbpaaaDoorW.PrintWords Go.Proofs.YtpgjgbjkfgbpaaaDoorW.PrintLast Go.Proofs.YtpgjgbjkfgbpaaaDoorW.PrintMore
attribute [local go_sem] max2_int min2_int max_two min_two max_three min_three max_four min_four   -- for this text's walks alone
set_option linter.unusedVariables false
set_option linter.unusedSimpArgs false

/-! ### laws_ascend: function 26 -/
def laws_ascend.l0 : Nat → List Int → Int → Option (Bool)
 | 0, _, _ => none
 | k + 1, x0, x3 => if x3 < (x0.length : Int) then (if 0 ≤ (wrap64 (x3 - 1)) then (if (wrap64 (x3 - 1)) < (x0.length : Int) then (if 0 ≤ x3 then (if (rd x0 (wrap64 (x3 - 1))) ≥ (rd x0 x3) then (some false) else (laws_ascend.l0 k x0 (wrap64 (x3 + 1)))) else (none)) else (none)) else (none)) else (some true)
def laws_ascend.f (k : Nat) (l0 : List Int) : Option (Bool) := laws_ascend.l0 k l0 1
theorem laws_ascend.mono_l : ∀ k, (∀ y0 y1, LeO (laws_ascend.l0 k y0 y1) (laws_ascend.l0 (k + 1) y0 y1))
 | 0 => fun _ _ r h => by simp [laws_ascend.l0] at h
 | k + 1 => by
  have ih0 := laws_ascend.mono_l k
  ·
   intro y0 y1
   unfold laws_ascend.l0
   repeat' first
   | (with_reducible exact ih0 _ _)
   | (with_reducible exact LeO.refl _)
   | (with_reducible exact LeO.none _)
   | (with_reducible refine LeO.ite ?_ ?_)
   | (with_reducible refine LeO.bind ?_ (fun _ => ?_))
   | exact ih0 _ _
   | exact LeO.none _
   | refine LeO.ite ?_ ?_
   | refine LeO.bind ?_ (fun _ => ?_)
theorem laws_ascend.mono : ∀ a0 k, LeO (laws_ascend.f k a0) (laws_ascend.f (k + 1) a0) := by
 intro a0 k
 have ih0 := laws_ascend.mono_l k
 unfold laws_ascend.f
 repeat' first
   | (with_reducible exact ih0 _ _)
   | (with_reducible exact LeO.refl _)
   | (with_reducible exact LeO.none _)
   | (with_reducible refine LeO.ite ?_ ?_)
   | (with_reducible refine LeO.bind ?_ (fun _ => ?_))
   | exact ih0 _ _
   | exact LeO.none _
   | refine LeO.ite ?_ ?_
   | refine LeO.bind ?_ (fun _ => ?_)
set_option maxHeartbeats 8000000 in
set_option maxRecDepth 100000 in
theorem laws_ascend.calls (k : Nat) (A0 : Option Addr) (c0 : Nat) (l0 : List Int) (r : Bool) (w : World) (hr0 : Kd.C (Kd.int .i64) w A0 l0.length l0) (hc0 : l0.length ≤ c0) (h : laws_ascend.f k l0 = some r) :
  Calls Tryd.prog 26 #[.slice A0 l0.length c0] w fun e w' => e = .returned (.bool r) ∧ Drawn0 w w' := by
 have HR0 := Aside0.mk hr0
 have HC0 := Aside0.mk hc0
 clear hr0 hc0
 have H : (laws_ascend.l0 k l0 1) = some r := h
 clear h
 have H' := Aside0.mk H
 clear H
 go_enter Tryd.func26, Tryd.ntmps26
 go_wp2
 repeat (go_quiet (fail); try go_wp2)
 go_loopg [3] k (fun kq v3 w' => ∃ (x3_1 : Int), v3 = .int .i64 x3_1 ∧ Aside0 (laws_ascend.l0 kq l0 x3_1 = some r) ∧ Aside0 (kq ≤ k) ∧ Drawn0 w w')
 case atStart => exact ⟨(1), fS, H', ⟨Nat.le_refl _⟩, by repeat (first | exact Drawn0.refl _ | apply Drawn0.step)⟩
 case round =>
  clear H'
  obtain ⟨x3_1, rfl, HA, HK1, ⟨m1, rfl⟩⟩ := hrel
  cases gk with
  | zero => exact absurd HA.out (by simp [laws_ascend.l0])
  | succ k1 =>
   have H := HA.out
   clear HA
   simp only [laws_ascend.l0] at H
   by_cases c2 : x3_1 < (l0.length : Int)
   rotate_left
   ·
    rw [if_neg c2] at H
    have c2b0 : decide (x3_1 < (l0.length : Int)) = false := decide_eq_false c2
    clear c2
    obtain rfl := Option.some.inj H
    go_wp2
    repeat (go_quiet (fail); try go_wp2)
    go_ret
    exact ⟨by first | rfl | (simp; done) | (simp [*]; done), by repeat (first | exact Drawn0.refl _ | apply Drawn0.step)⟩
   rw [if_pos c2] at H
   have c2b0 : decide (x3_1 < (l0.length : Int)) = true := decide_eq_true c2
   clear c2
   obtain ⟨ji3, hji3⟩ : ∃ j_ : Int, (wrap64 (x3_1 - 1)) = j_ := ⟨_, rfl⟩
   replace H : (if 0 ≤ (ji3) then (if (ji3) < (l0.length : Int) then (if 0 ≤ x3_1 then (if (rd l0 (ji3)) ≥ (rd l0 x3_1) then (some false) else (laws_ascend.l0 k1 l0 (wrap64 (x3_1 + 1)))) else (none)) else (none)) else (none)) = some r := by first | (rw [hji3] at H; exact H) | (simp only [hji3] at H ⊢; exact H)
   have hji3w : (IntKind.i64.wrap (x3_1 - 1)) = ji3 := (i64_w _).trans hji3
   by_cases c4 : 0 ≤ (ji3)
   rotate_left
   ·
    rw [if_neg c4] at H
    exact absurd H (by simp)
   rw [if_pos c4] at H
   have c4b0 : decide (0 ≤ (ji3)) = true := decide_eq_true c4
   clear c4
   by_cases c5 : (ji3) < (l0.length : Int)
   rotate_left
   ·
    rw [if_neg c5] at H
    exact absurd H (by simp)
   rw [if_pos c5] at H
   have c5b0 : decide ((ji3) < (l0.length : Int)) = true := decide_eq_true c5
   clear c5
   by_cases c6 : 0 ≤ x3_1
   rotate_left
   ·
    rw [if_neg c6] at H
    exact absurd H (by simp)
   rw [if_pos c6] at H
   have c6b0 : decide (0 ≤ x3_1) = true := decide_eq_true c6
   clear c6
   by_cases c7 : (rd l0 (ji3)) ≥ (rd l0 x3_1)
   ·
    rw [if_pos c7] at H
    have c7b0 : decide ((rd l0 x3_1) ≤ (rd l0 (ji3))) = true := decide_eq_true c7
    clear c7
    obtain rfl := Option.some.inj H
    have p505 : 0 ≤ ((ji3) : Int) := oD
    have q505 : (ji3) < (l0.length : Int) := oD
    obtain ⟨ad505, e505, hx505_0⟩ := Kd.at_int HR0.out (ji3) p505 q505
    cases e505
    replace p505 := eq_true p505
    replace q505 := eq_true q505
    have p506 : 0 ≤ (x3_1 : Int) := oD
    have q506 : x3_1 < (l0.length : Int) := oD
    obtain ⟨ad506, e506, hx506_0⟩ := Kd.at_int HR0.out x3_1 p506 q506
    obtain rfl : ad505 = ad506 := (by injection e506)
    replace p506 := eq_true p506
    replace q506 := eq_true q506
    go_wp2
    repeat (go_quiet (fail); try go_wp2)
    go_ret
    exact ⟨by first | rfl | (simp; done) | (simp only [← hji3] <;> (first | rfl | simp)) | (simp [*]; done), by repeat (first | exact Drawn0.refl _ | apply Drawn0.step)⟩
   rw [if_neg c7] at H
   have c7b0 : decide ((rd l0 x3_1) ≤ (rd l0 (ji3))) = false := decide_eq_false c7
   clear c7
   have H' := Aside0.mk H
   clear H
   have p505 : 0 ≤ ((ji3) : Int) := oD
   have q505 : (ji3) < (l0.length : Int) := oD
   obtain ⟨ad505, e505, hx505_0⟩ := Kd.at_int HR0.out (ji3) p505 q505
   cases e505
   replace p505 := eq_true p505
   replace q505 := eq_true q505
   have p506 : 0 ≤ (x3_1 : Int) := oD
   have q506 : x3_1 < (l0.length : Int) := oD
   obtain ⟨ad506, e506, hx506_0⟩ := Kd.at_int HR0.out x3_1 p506 q506
   obtain rfl : ad505 = ad506 := (by injection e506)
   replace p506 := eq_true p506
   replace q506 := eq_true q506
   go_wp2
   repeat (go_quiet (fail); try go_wp2)
   go_roundg k1
   case measure => have := HK1.out; omega
   case rel => exact ⟨(wrap64 (x3_1 + 1)), fS, H', ⟨by have := HK1.out; omega⟩, by repeat (first | exact Drawn0.refl _ | apply Drawn0.step)⟩

end Go.Proofs.YtpgjgbjkfgbpaaaDoor.P
namespace Go.Proofs.YtpgjgbjkfgbpaaaDoor.P
open Go.RowKit Go.Proofs.YtpgjgbjkfgbpaaaDoorW.PrintWords Go.Proofs.YtpgjgbjkfgbpaaaDoorW.PrintLast Go.Proofs.YtpgjgbjkfgbpaaaDoorW.PrintMore
attribute [local go_sem] max2_int min2_int max_two min_two max_three min_three max_four min_four   -- for this text's walks alone
set_option linter.unusedVariables false
set_option linter.unusedSimpArgs false

/-! ### spec_DrawSpanningLines: function 31 -/
def spec_DrawSpanningLines.f (k : Nat) (l0 : List Int) : Option (Int × (List (S79)) × List Bool) := (spec_l20Open.f l0).bind fun bt587 => ((spec_l20Switched.f k bt587.1 bt587.2 6).bind fun bt590 => (some (bt590.1, bt590.2.1, bt590.2.2.1)))
theorem spec_DrawSpanningLines.mono : ∀ a0 k, LeO (spec_DrawSpanningLines.f k a0) (spec_DrawSpanningLines.f (k + 1) a0) := by
 intro a0 k
 unfold spec_DrawSpanningLines.f
 repeat' first
   | (with_reducible exact spec_l20Switched.mono _ _ _ _)
   | (with_reducible exact LeO.refl _)
   | (with_reducible exact LeO.none _)
   | (with_reducible refine LeO.ite ?_ ?_)
   | (with_reducible refine LeO.bind ?_ (fun _ => ?_))
   | exact spec_l20Switched.mono _ _ _ _
   | exact LeO.none _
   | refine LeO.ite ?_ ?_
   | refine LeO.bind ?_ (fun _ => ?_)
set_option maxHeartbeats 8000000 in
set_option maxRecDepth 100000 in
theorem spec_DrawSpanningLines.calls (k : Nat) (A0 : Option Addr) (c0 : Nat) (l0 : List Int) (r1 : Int) (r2 : List (S79)) (r3 : List Bool) (w : World) (hr0 : Kd.C (Kd.int .u8) w A0 l0.length l0) (hc0 : l0.length ≤ c0) (h : spec_DrawSpanningLines.f k l0 = some (r1, r2, r3)) :
  Calls Tryd.prog 31 #[.slice A0 l0.length c0] w fun e w' => ∃ v1_ v2_ : Value, e = .returned (.tuple #[.agg #[.int .i64 r1, v1_], v2_]) ∧ Kd.R k79 79 w' w.heap.size (fun _ => True) v1_ r2 ∧ Kd.R Kd.bool 4 w' w.heap.size (fun _ => True) v2_ r3 ∧ Below w.heap.size w w' := by
 have hu25 := Tryd.underlying25
 have HR0 := Aside0.mk hr0
 have HC0 := Aside0.mk hc0
 clear hr0 hc0
 have HB := aM (Below.refl w.heap.size w)
 have H : ((spec_l20Open.f l0).bind fun bt587 => ((spec_l20Switched.f k bt587.1 bt587.2 6).bind fun bt590 => (some (bt590.1, bt590.2.1, bt590.2.2.1)))) = some (r1, r2, r3) := h
 clear h
 replace H := Option.bind_eq_some_iff.mp H
 obtain ⟨⟨t587, t588⟩, A20, H⟩ := H
 replace H : ((spec_l20Switched.f k t587 t588 6).bind fun bt590 => (some (bt590.1, bt590.2.1, bt590.2.2.1))) = some (r1, r2, r3) := H
 have A2 := Aside0.mk A20
 clear A20
 replace H := Option.bind_eq_some_iff.mp H
 obtain ⟨⟨t590, t591, t594, t597⟩, A30, H⟩ := H
 replace H : (some (t590, t591, t594)) = some (r1, r2, r3) := H
 have A3 := Aside0.mk A30
 clear A30
 simp only [Option.some.injEq, Prod.mk.injEq] at H
 obtain ⟨rfl, rfl, rfl⟩ := H
 go_enter Tryd.func31, Tryd.ntmps31
 go_wp2_with (first | ((with_reducible refine gate_dst (N := 2) rfl ?_); refine box_event ?hg (N := 2) ?hd (cs := #[.int .i64 0, .slice none 0 0]) (t := 25) ?hr ?_; (case hd => rfl); (case hg => rfl); (case hr => exact hR); intro gb586 hg w4 hbox hb; have n0_ := aM (below_step (bl0 HB) hb); have n1_ := aM (hbox); have n2_ := aM ((by rw [hg]; exact (below_size (bl0 HB)) : w.heap.size ≤ gb586)); have n3_ := aM ((by rw [hg]; exact (below_size (bl0 HB)) : w.heap.size ≤ gb586)); clear HB; have HB := n0_; have BK586 := n1_; have GW586 := n2_; have GE586 := n3_; clear n0_ n1_ n2_ n3_; clear hb hbox hg) | ((with_reducible refine gate_callee (f := 66) rfl ?_); refine goesL_ (some 5) rfl rfl Tryd.func66 (by kernel_rfl) rfl #[.slice A0 l0.length c0] rfl mP ?_; (with_reducible refine (spec_l20Open.calls _ _ l0 t587 t588 w _ ?side1 ?side2 ?side3 A2.out).mono ?_); (case side1 => repeat (first | (with_reducible first | exact HB.out | apply below_alloc | apply pw_below_drewN | apply below_drew1 | refine below_set ?_ GE586.out) | exact HB.out)); (case side2 => exact HR0.out); (case side3 => exact HC0.out); rintro e w5 ⟨g589, rfl, hi, hb, hb2⟩; refine ⟨_, rfl, ?_⟩; have n0_ := aM (blk_below (g := gb586) (o := .cells #[.int .i64 0, .slice none 0 0] 25 (0, 0)) (gB (BK586.out)) hb2); have n1_ := aM (hb); have n2_ := aM (hi); have n3_ := aM (IsS111.ne_blk hi (blk_below (g := gb586) (o := .cells #[.int .i64 0, .slice none 0 0] 25 (0, 0)) (gB (BK586.out)) hb2) (by decide)); have n4_ := aM (Ne.symm (IsS111.ne_blk hi (blk_below (g := gb586) (o := .cells #[.int .i64 0, .slice none 0 0] 25 (0, 0)) (gB (BK586.out)) hb2) (by decide))); clear BK586; clear HB; have BK586 := n0_; have HB := n1_; have HI589 := n2_; have NB589_586 := n3_; have NB586_589 := n4_; clear n0_ n1_ n2_ n3_ n4_; (try clear hb); (try clear hb2); (try clear hk); (try clear hi)) | ((with_reducible refine gate_callee (f := 80) rfl ?_); refine goesL_ (some 6) rfl rfl Tryd.func80 (by kernel_rfl) rfl #[.pointer (some ⟨g589, 0, none⟩), .int .i64 6] rfl mP ?_; (with_reducible refine (spec_l20Switched.calls k g589 t587 t588 6 t590 t591 t594 t597 w _ ?side1 ?side2 A3.out).mono ?_); (case side1 => repeat (first | (with_reducible first | exact HI589.out | apply IsS111.alloc | apply IsS111.drewN | apply IsS111.drew | apply IsS111.set_1 | refine IsS111.far ?_ NB589_586.out _) | exact HI589.out)); (case side2 => repeat (first | (with_reducible first | exact HB.out | apply below_alloc | apply pw_below_drewN | apply below_drew1 | refine below_set ?_ (IsS111.ge HI589.out) | refine below_set ?_ GE586.out) | exact HB.out)); rintro e w6 ⟨v592, v595, rfl, ho0, ho1, hi, hb, hk⟩; refine ⟨_, rfl, ?_⟩; have n0_ := aM (KeepBut.blk hk (g' := gb586) (o := .cells #[.int .i64 0, .slice none 0 0] 25 (0, 0)) (gB (BK586.out)) NB586_589.out (by simp)); have n1_ := aM (Kd.R_lower ho0 (below_size (bl2 HB (aM (IsS111.ge HI589.out)) GE586))); have n2_ := aM (Kd.R_lower ho1 (below_size (bl2 HB (aM (IsS111.ge HI589.out)) GE586))); have n3_ := aM (hb); have n4_ := aM (hi); clear BK586; clear HB; clear HI589; have BK586 := n0_; have HO593 := n1_; have HO596 := n2_; have HB := n3_; have HI589 := n4_; clear n0_ n1_ n2_ n3_ n4_; (try clear hb); (try clear hb2); (try clear hk); (try clear hi); (try clear ho0); (try clear ho1); have hnb7 := NB586_589.out; have hnc7 := NB589_586.out; have hcz8_0 : w6.cell? ⟨gb586, 0, none⟩ = some (.int .i64 0) := (blk_cell BK586.out 0).trans rfl; have hcz8_1 : w6.cell? ⟨gb586, 1, none⟩ = some (.slice none 0 0) := (blk_cell BK586.out 1).trans rfl; have hfz8_0 := blk_frozen BK586.out 0; have hfz8_1 := blk_frozen BK586.out 1; obtain ⟨Ao9, co9, eo9⟩ := Kd.R_slice HO593.out; subst eo9))
 refine bodyPost_ret (results_ct rfl _ _ gb586 25 #[.int .i64 t590, .slice Ao9 t591.length co9] (0, 0) _ rfl (by (with_reducible repeat (first | refine blk_drewN ?_ _ | refine blk_drew ?_ | refine blk_alloc ?_ _)); refine blk_put (cs := #[.int .i64 t590, .slice none 0 0]) ?_ 1 _ rfl; (with_reducible repeat (first | refine blk_drewN ?_ _ | refine blk_drew ?_ | refine blk_alloc ?_ _)); refine blk_put (cs := #[.int .i64 0, .slice none 0 0]) ?_ 0 _ rfl; (with_reducible repeat (first | refine blk_drewN ?_ _ | refine blk_drew ?_ | refine blk_alloc ?_ _)); exact BK586.out) Tryd.underlying25 rfl (by kernel_rfl)) rfl ?_
 exact ⟨_, _, fR, by (with_reducible repeat (first | apply Kd.R_alloc | apply Kd.R_drewN | apply Kd.R_drew)); exact Kd.R_mono (Kd.R_far (p := ⟨gb586, 1, none⟩) (Kd.R_far (p := ⟨gb586, 0, none⟩) (Kd.R_types HO593.out BK586.out (by decide)) (fun _ hk => hk.2) (.int .i64 t590)) (fun _ hk => hk.2) (.slice Ao9 t591.length co9)) (fun _ hk => trivial), by (with_reducible repeat (first | apply Kd.R_alloc | apply Kd.R_drewN | apply Kd.R_drew)); exact Kd.R_mono (Kd.R_far (p := ⟨gb586, 1, none⟩) (Kd.R_far (p := ⟨gb586, 0, none⟩) (Kd.R_types HO596.out BK586.out (by decide)) (fun _ hk => hk.2) (.int .i64 t590)) (fun _ hk => hk.2) (.slice Ao9 t591.length co9)) (fun _ hk => trivial), bl2 HB (aM (IsS111.ge HI589.out)) GE586⟩

end Go.Proofs.YtpgjgbjkfgbpaaaDoor.P

/- Contracts of Go functions of this seat's translation, written by this repo's wip/mk.py: it calls the kit's print.py with contracts typed by hand in place of functions that it does not take. Not trusted: Lean checks it. -/
import Derived.Test.YtpgjgbjkfgbpaaaDoorP0
import Derived.Test.YtpgjgbjkfgbpaaaDoorP5
import Derived.Test.YtpgjgbjkfgbpaaaDoorP25
import Derived.Test.YtpgjgbjkfgbpaaaDoorP39
import Derived.Test.YtpgjgbjkfgbpaaaDoorP6
namespace Go.Proofs.YtpgjgbjkfgbpaaaDoor.P
open Go.RowKit Go.Proofs.YtpgjgbjkfgbpaaaDoorW.PrintWords Go.Proofs.YtpgjgbjkfgbpaaaDoorW.PrintLast Go.Proofs.YtpgjgbjkfgbpaaaDoorW.PrintMore
attribute [local go_sem] max2_int min2_int max_two min_two max_three min_three max_four min_four   -- for this text's walks alone
set_option linter.unusedVariables false
set_option linter.unusedSimpArgs false

/-! ### impl_IslandsOf: function 19 -/
def impl_IslandsOf.l0 : Nat → List Int → List (List Int) → Int → Int → Option ((List (List Int)))
 | 0, _, _, _, _ => none
 | k + 1, x5, x6, x16, x17 => if x17 < x16 then ((impl_union_find.f k x5 x17).bind fun bt392 => (if bt392.1 = x17 then ((impl_union_members.f k bt392.2 x17).bind fun bt394 => (if x6.length < 5864062014805 then (impl_IslandsOf.l0 k bt394.2 (x6 ++ [bt394.1]) x16 (wrap64 (x17 + 1))) else (none))) else (impl_IslandsOf.l0 k bt392.2 x6 x16 (wrap64 (x17 + 1))))) else (some x6)
def impl_IslandsOf.f (k : Nat) (a0_0 : Int) (l0_1 : List (S79)) (l1 : List Bool) : Option ((List (List Int))) := (impl_StateValid.f k a0_0 l0_1 l1).bind fun t388 => (if t388 = true then ((impl_unionOf.f k a0_0 l0_1 l1).bind fun t389 => (impl_IslandsOf.l0 k t389 ([] : List (List Int)) a0_0 0)) else (some ([] : List (List Int))))
theorem impl_IslandsOf.mono_l : ∀ k, (∀ y0 y1 y2 y3, LeO (impl_IslandsOf.l0 k y0 y1 y2 y3) (impl_IslandsOf.l0 (k + 1) y0 y1 y2 y3))
 | 0 => fun _ _ _ _ r h => by simp [impl_IslandsOf.l0] at h
 | k + 1 => by
  have ih0 := impl_IslandsOf.mono_l k
  ·
   intro y0 y1 y2 y3
   unfold impl_IslandsOf.l0
   repeat' first
   | (with_reducible exact ih0 _ _ _ _)
   | (with_reducible exact impl_StateValid.mono _ _ _ _)
   | (with_reducible exact impl_unionOf.mono _ _ _ _)
   | (with_reducible exact impl_union_find.mono _ _ _)
   | (with_reducible exact impl_union_members.mono _ _ _)
   | (with_reducible exact LeO.refl _)
   | (with_reducible exact LeO.none _)
   | (with_reducible refine LeO.ite ?_ ?_)
   | (with_reducible refine LeO.bind ?_ (fun _ => ?_))
   | exact ih0 _ _ _ _
   | exact impl_StateValid.mono _ _ _ _
   | exact impl_unionOf.mono _ _ _ _
   | exact impl_union_find.mono _ _ _
   | exact impl_union_members.mono _ _ _
   | exact LeO.none _
   | refine LeO.ite ?_ ?_
   | refine LeO.bind ?_ (fun _ => ?_)
theorem impl_IslandsOf.mono : ∀ a0 a1 a2 k, LeO (impl_IslandsOf.f k a0 a1 a2) (impl_IslandsOf.f (k + 1) a0 a1 a2) := by
 intro a0 a1 a2 k
 have ih0 := impl_IslandsOf.mono_l k
 unfold impl_IslandsOf.f
 repeat' first
   | (with_reducible exact ih0 _ _ _ _)
   | (with_reducible exact impl_StateValid.mono _ _ _ _)
   | (with_reducible exact impl_unionOf.mono _ _ _ _)
   | (with_reducible exact impl_union_find.mono _ _ _)
   | (with_reducible exact impl_union_members.mono _ _ _)
   | (with_reducible exact LeO.refl _)
   | (with_reducible exact LeO.none _)
   | (with_reducible refine LeO.ite ?_ ?_)
   | (with_reducible refine LeO.bind ?_ (fun _ => ?_))
   | exact ih0 _ _ _ _
   | exact impl_StateValid.mono _ _ _ _
   | exact impl_unionOf.mono _ _ _ _
   | exact impl_union_find.mono _ _ _
   | exact impl_union_members.mono _ _ _
   | exact LeO.none _
   | refine LeO.ite ?_ ?_
   | refine LeO.bind ?_ (fun _ => ?_)
set_option maxHeartbeats 8000000 in
set_option maxRecDepth 100000 in
theorem impl_IslandsOf.calls (k : Nat) (a0_0 : Int) (A0_1 : Option Addr) (c0_1 : Nat) (l0_1 : List (S79)) (A1 : Option Addr) (c1 : Nat) (l1 : List Bool) (r : List (List Int)) (w : World) (hr0_1 : Kd.C k79 w A0_1 l0_1.length l0_1) (hc0_1 : l0_1.length ≤ c0_1) (hr1 : Kd.C Kd.bool w A1 l1.length l1) (hc1 : l1.length ≤ c1) (h : impl_IslandsOf.f k a0_0 l0_1 l1 = some r) :
  Calls Tryd.prog 19 #[.agg #[.int .i64 a0_0, .slice A0_1 l0_1.length c0_1], .slice A1 l1.length c1] w fun e w' => ∃ v0_ : Value, e = .returned (v0_) ∧ Kd.S (Kd.slice 3 (Kd.int .i64)) 37 w' w.heap.size (fun _ => True) v0_ r ∧ Below w.heap.size w w' := by
 have hu25 := Tryd.underlying25
 have HR0_1 := Aside0.mk hr0_1
 have HC0_1 := Aside0.mk hc0_1
 clear hr0_1 hc0_1
 have HR1 := Aside0.mk hr1
 have HC1 := Aside0.mk hc1
 clear hr1 hc1
 have HB := aM (Below.refl w.heap.size w)
 have H : ((impl_StateValid.f k a0_0 l0_1 l1).bind fun t388 => (if t388 = true then ((impl_unionOf.f k a0_0 l0_1 l1).bind fun t389 => (impl_IslandsOf.l0 k t389 ([] : List (List Int)) a0_0 0)) else (some ([] : List (List Int))))) = some r := h
 clear h
 replace H := Option.bind_eq_some_iff.mp H
 obtain ⟨t388, A30, H⟩ := H
 replace H : (if t388 = true then ((impl_unionOf.f k a0_0 l0_1 l1).bind fun t389 => (impl_IslandsOf.l0 k t389 ([] : List (List Int)) a0_0 0)) else (some ([] : List (List Int)))) = some r := H
 have A3 := Aside0.mk A30
 clear A30
 by_cases c4 : t388 = true
 rotate_left
 ·
  replace c4 := Bool.eq_false_iff.mpr c4
  subst c4
  have H1 : (some ([] : List (List Int))) = some r := by rw [if_neg (show ¬ (false = true) by decide)] at H; exact H
  clear H
  have H := H1
  clear H1
  obtain rfl := Option.some.inj H
  go_enter Tryd.func19, Tryd.ntmps19
  go_wp2_with (first | ((with_reducible refine gate_dst (N := 2) rfl ?_); refine box_event ?hg (N := 2) ?hd (cs := #[.int .i64 a0_0, .slice A0_1 l0_1.length c0_1]) (t := 25) ?hr ?_; (case hd => rfl); (case hg => rfl); (case hr => exact hR); intro gb387 hg w24 hbox hb; have n0_ := aM (below_step (bl0 HB) hb); have n1_ := aM (hbox); have n2_ := aM ((by rw [hg]; exact (below_size (bl0 HB)) : w.heap.size ≤ gb387)); have n3_ := aM ((by rw [hg]; exact (below_size (bl0 HB)) : w.heap.size ≤ gb387)); clear HB; have HB := n0_; have BK387 := n1_; have GW387 := n2_; have GE387 := n3_; clear n0_ n1_ n2_ n3_; clear hb hbox hg; have hcz25_0 : w24.cell? ⟨gb387, 0, none⟩ = some (.int .i64 a0_0) := (blk_cell BK387.out 0).trans rfl; have hcz25_1 : w24.cell? ⟨gb387, 1, none⟩ = some (.slice A0_1 l0_1.length c0_1) := (blk_cell BK387.out 1).trans rfl; have hfz25_0 := blk_frozen BK387.out 0; have hfz25_1 := blk_frozen BK387.out 1) | ((with_reducible refine gate_callee (f := 77) rfl ?_); refine goesL_ (some 10) rfl rfl Tryd.func77 (by kernel_rfl) rfl #[.agg #[.int .i64 a0_0, .slice A0_1 l0_1.length c0_1], .slice A1 l1.length c1] rfl mP ?_; (with_reducible refine (impl_StateValid.calls k a0_0 _ _ l0_1 _ _ l1 false _ ?side1 ?side2 ?side3 ?side4 A3.out).mono ?_); (case side1 => exact gC ((Kd.C_below HR0_1.out HB.out))); (case side2 => exact HC0_1.out); (case side3 => exact gC ((Kd.C_below HR1.out HB.out))); (case side4 => exact HC1.out); rintro e w26 ⟨rfl, hb⟩; refine ⟨_, rfl, ?_⟩; have n0_ := aM (blk_below (g := gb387) (o := .cells #[.int .i64 a0_0, .slice A0_1 l0_1.length c0_1] 25 (0, 0)) (gB (BK387.out)) hb); have n1_ := aM (below_step (bl1 HB GE387) hb); clear BK387; clear HB; have BK387 := n0_; have HB := n1_; clear n0_ n1_; (try clear hb); (try clear hb2); (try clear hk); (try clear hi)))
  go_ret
  exact ⟨_, fR, by first | exact Kd.S_nil _ _ _ _ _ | exact Kd.N_nil _ _ _ _ _ | exact Kd.V_nil _ _ _ _ _ | exact Kd.Q_nil _ _ _ _ _ | exact Kd.R_nil _ _ _ _ _, bl1 HB GE387⟩
 subst c4
 have H1 : ((impl_unionOf.f k a0_0 l0_1 l1).bind fun t389 => (impl_IslandsOf.l0 k t389 ([] : List (List Int)) a0_0 0)) = some r := by rw [if_pos rfl] at H; exact H
 clear H
 have H := H1
 clear H1
 replace H := Option.bind_eq_some_iff.mp H
 obtain ⟨t389, A50, H⟩ := H
 replace H : (impl_IslandsOf.l0 k t389 ([] : List (List Int)) a0_0 0) = some r := H
 have A5 := Aside0.mk A50
 clear A50
 have H' := Aside0.mk H
 clear H
 go_enter Tryd.func19, Tryd.ntmps19
 go_wp2_with (first | ((with_reducible refine gate_dst (N := 2) rfl ?_); refine box_event ?hg (N := 2) ?hd (cs := #[.int .i64 a0_0, .slice A0_1 l0_1.length c0_1]) (t := 25) ?hr ?_; (case hd => rfl); (case hg => rfl); (case hr => exact hR); intro gb387 hg w6 hbox hb; have n0_ := aM (below_step (bl0 HB) hb); have n1_ := aM (hbox); have n2_ := aM ((by rw [hg]; exact (below_size (bl0 HB)) : w.heap.size ≤ gb387)); have n3_ := aM ((by rw [hg]; exact (below_size (bl0 HB)) : w.heap.size ≤ gb387)); clear HB; have HB := n0_; have BK387 := n1_; have GW387 := n2_; have GE387 := n3_; clear n0_ n1_ n2_ n3_; clear hb hbox hg; have hcz7_0 : w6.cell? ⟨gb387, 0, none⟩ = some (.int .i64 a0_0) := (blk_cell BK387.out 0).trans rfl; have hcz7_1 : w6.cell? ⟨gb387, 1, none⟩ = some (.slice A0_1 l0_1.length c0_1) := (blk_cell BK387.out 1).trans rfl; have hfz7_0 := blk_frozen BK387.out 0; have hfz7_1 := blk_frozen BK387.out 1) | ((with_reducible refine gate_callee (f := 77) rfl ?_); refine goesL_ (some 10) rfl rfl Tryd.func77 (by kernel_rfl) rfl #[.agg #[.int .i64 a0_0, .slice A0_1 l0_1.length c0_1], .slice A1 l1.length c1] rfl mP ?_; (with_reducible refine (impl_StateValid.calls k a0_0 _ _ l0_1 _ _ l1 true _ ?side1 ?side2 ?side3 ?side4 A3.out).mono ?_); (case side1 => exact gC ((Kd.C_below HR0_1.out HB.out))); (case side2 => exact HC0_1.out); (case side3 => exact gC ((Kd.C_below HR1.out HB.out))); (case side4 => exact HC1.out); rintro e w8 ⟨rfl, hb⟩; refine ⟨_, rfl, ?_⟩; have n0_ := aM (blk_below (g := gb387) (o := .cells #[.int .i64 a0_0, .slice A0_1 l0_1.length c0_1] 25 (0, 0)) (gB (BK387.out)) hb); have n1_ := aM (below_step (bl1 HB GE387) hb); clear BK387; clear HB; have BK387 := n0_; have HB := n1_; clear n0_ n1_; (try clear hb); (try clear hb2); (try clear hk); (try clear hi); have hcz9_0 : w8.cell? ⟨gb387, 0, none⟩ = some (.int .i64 a0_0) := (blk_cell BK387.out 0).trans rfl; have hcz9_1 : w8.cell? ⟨gb387, 1, none⟩ = some (.slice A0_1 l0_1.length c0_1) := (blk_cell BK387.out 1).trans rfl; have hfz9_0 := blk_frozen BK387.out 0; have hfz9_1 := blk_frozen BK387.out 1) | ((with_reducible refine gate_callee (f := 72) rfl ?_); refine goesL_ (some 14) rfl rfl Tryd.func72 (by kernel_rfl) rfl #[.agg #[.int .i64 a0_0, .slice A0_1 l0_1.length c0_1], .slice A1 l1.length c1] rfl mP ?_; (with_reducible refine (impl_unionOf.calls k a0_0 _ _ l0_1 _ _ l1 t389 _ ?side1 ?side2 ?side3 ?side4 A5.out).mono ?_); (case side1 => exact gC ((Kd.C_below HR0_1.out HB.out))); (case side2 => exact HC0_1.out); (case side3 => exact gC ((Kd.C_below HR1.out HB.out))); (case side4 => exact HC1.out); rintro e w10 ⟨v390, rfl, ho0, hb⟩; refine ⟨_, rfl, ?_⟩; have n0_ := aM (Kd.R_lower ho0 (below_size (bl1 HB GE387))); have n1_ := aM (blk_below (g := gb387) (o := .cells #[.int .i64 a0_0, .slice A0_1 l0_1.length c0_1] 25 (0, 0)) (gB (BK387.out)) hb); have n2_ := aM (below_step (bl1 HB GE387) hb); clear BK387; clear HB; have HO391 := n0_; have BK387 := n1_; have HB := n2_; clear n0_ n1_ n2_; (try clear hb); (try clear hb2); (try clear hk); (try clear hi); (try clear ho0); have hcz11_0 : w10.cell? ⟨gb387, 0, none⟩ = some (.int .i64 a0_0) := (blk_cell BK387.out 0).trans rfl; have hcz11_1 : w10.cell? ⟨gb387, 1, none⟩ = some (.slice A0_1 l0_1.length c0_1) := (blk_cell BK387.out 1).trans rfl; have hfz11_0 := blk_frozen BK387.out 0; have hfz11_1 := blk_frozen BK387.out 1))
 go_loopg [6, 17] k (fun kq v6 v17 w' => ∃ (x5_1 : List Int) (x6_1 : List (List Int)) (x17_1 : Int), v17 = .int .i64 x17_1 ∧ Aside0 (impl_IslandsOf.l0 kq x5_1 x6_1 a0_0 x17_1 = some r) ∧ Aside0 (kq ≤ k) ∧ Aside0 (Kd.R (Kd.int .i64) 3 w' w.heap.size (fun _ => True) v390 x5_1) ∧ Aside0 (Kd.S (Kd.slice 3 (Kd.int .i64)) 37 w' w.heap.size (fun k_ => some k_ ≠ (v390 : Value).ownBlock) v6 x6_1) ∧ Aside0 (w'.heap[gb387]? = some (.cells #[.int .i64 a0_0, (.slice A0_1 l0_1.length c0_1)] 25 (0, 0))) ∧ Aside0 (Below w.heap.size w w'))
 case atStart => exact ⟨(t389), (([] : List (List Int))), (0), fS, H', ⟨Nat.le_refl _⟩, ⟨gR (HO391.out)⟩, ⟨by first | exact Kd.S_nil _ _ _ _ _ | exact Kd.N_nil _ _ _ _ _ | exact Kd.V_nil _ _ _ _ _ | exact Kd.Q_nil _ _ _ _ _ | exact Kd.R_nil _ _ _ _ _⟩, ⟨gB (BK387.out)⟩, ⟨bl1 HB GE387⟩⟩
 case round =>
  clear H'
  try clear c1
  try clear p2
  try clear c4
  try clear c7
  try clear hcz11_0
  try clear hcz11_1
  try clear hcz7_0
  try clear hcz7_1
  try clear hcz9_0
  try clear hcz9_1
  try clear hfz11_0
  try clear hfz11_1
  try clear hfz7_0
  try clear hfz7_1
  try clear hfz9_0
  try clear hfz9_1
  obtain ⟨x5_1, x6_1, x17_1, rfl, HA, HK1, HO_5, HO_6, BK387, HB⟩ := hrel
  cases gk with
  | zero => exact absurd HA.out (by simp [impl_IslandsOf.l0])
  | succ k1 =>
   have H := HA.out
   clear HA
   simp only [impl_IslandsOf.l0] at H
   by_cases c12 : x17_1 < a0_0
   rotate_left
   ·
    rw [if_neg c12] at H
    have c12b0 : decide (x17_1 < a0_0) = false := decide_eq_false c12
    clear c12
    obtain rfl := Option.some.inj H
    go_wp2
    go_ret
    exact ⟨_, fR, by (with_reducible repeat (first | apply Kd.S_alloc | apply Kd.S_drewN | apply Kd.S_drew)); exact Kd.S_mono HO_6.out (fun _ hk => trivial), bl1 HB GE387⟩
   rw [if_pos c12] at H
   have c12b0 : decide (x17_1 < a0_0) = true := decide_eq_true c12
   clear c12
   replace H := Option.bind_eq_some_iff.mp H
   obtain ⟨⟨t392, t393⟩, A130, H⟩ := H
   replace H : (if t392 = x17_1 then ((impl_union_members.f k1 t393 x17_1).bind fun bt394 => (if x6_1.length < 5864062014805 then (impl_IslandsOf.l0 k1 bt394.2 (x6_1 ++ [bt394.1]) a0_0 (wrap64 (x17_1 + 1))) else (none))) else (impl_IslandsOf.l0 k1 t393 x6_1 a0_0 (wrap64 (x17_1 + 1)))) = some r := H
   have A13 := Aside0.mk A130
   clear A130
   by_cases c14 : t392 = x17_1
   rotate_left
   ·
    rw [if_neg c14] at H
    have c14b0 : (t392 == x17_1) = false := beq_eq_false_iff_ne.mpr c14
    have c14b1 : (t392 != x17_1) = true := bne_iff_ne.mpr c14
    have H' := Aside0.mk H
    clear H
    obtain ⟨Ao22, co22, eo22⟩ := Kd.R_slice HO_5.out
    subst eo22
    go_wp2_with (first | ((with_reducible refine gate_callee (f := 73) rfl ?_); refine goesL_ (some 22) rfl rfl Tryd.func73 (by kernel_rfl) rfl #[.slice Ao22 x5_1.length co22, .int .i64 x17_1] rfl mP ?_; (with_reducible refine (impl_union_find.calls k1 (fun k_ => some k_ = (.slice Ao22 x5_1.length co22 : Value).ownBlock) (.slice Ao22 x5_1.length co22) x5_1 x17_1 t392 t393 w _ ?side1 ?side2 A13.out).mono ?_); (case side1 => repeat (first | (with_reducible first | exact HB.out | apply below_alloc | apply pw_below_drewN | apply below_drew1 | refine below_set ?_ GE387.out) | exact HB.out)); (case side2 => exact Kd.R_tight rfl HO_5.out); rintro e w23 ⟨rfl, hy0, hb, hkp⟩; refine ⟨_, rfl, ?_⟩; have n0_ := aM (Kd.R_reok rfl hy0 (fun k_ e_ => HO_5.out.1 k_ e_)); have n1_ := aM (Kd.S_mono (ok' := fun k_ => some k_ ≠ (.slice Ao22 x5_1.length co22 : Value).ownBlock) (Kd.S_keptB (HO_6.out) hkp (fun k_ hk_ hs_ => (hk_) hs_)) (fun k_ hk_ => hk_.1)); have n2_ := aM (blk_kept (gB (BK387.out)) hkp (fun hs_ => (fun e_ => (Kd.R_ne HO_5.out BK387.out (by decide)) e_) hs_)); have n3_ := aM (hb); clear HO_5; clear HO_6; clear BK387; clear HB; have HO_5 := n0_; have HO_6 := n1_; have BK387 := n2_; have HB := n3_; clear n0_ n1_ n2_ n3_; (try clear hb); (try clear hkp); (try clear hy0)))
    go_roundg k1
    case measure => have := HK1.out; omega
    case rel => exact ⟨(t393), (x6_1), (wrap64 (x17_1 + 1)), fS, H', ⟨by have := HK1.out; omega⟩, ⟨gR (HO_5.out)⟩, ⟨gS (HO_6.out)⟩, ⟨gB (BK387.out)⟩, ⟨bl1 HB GE387⟩⟩
   rw [if_pos c14] at H
   have c14b0 : (t392 == x17_1) = true := beq_iff_eq.mpr c14
   have c14b1 : (t392 != x17_1) = false := bne_eq_false_iff_eq.mpr c14
   clear c14
   replace H := Option.bind_eq_some_iff.mp H
   obtain ⟨⟨t394, t397⟩, A150, H⟩ := H
   replace H : (if x6_1.length < 5864062014805 then (impl_IslandsOf.l0 k1 t397 (x6_1 ++ [t394]) a0_0 (wrap64 (x17_1 + 1))) else (none)) = some r := H
   have A15 := Aside0.mk A150
   clear A150
   by_cases c16 : x6_1.length < 5864062014805
   rotate_left
   ·
    rw [if_neg c16] at H
    exact absurd H (by simp)
   rw [if_pos c16] at H
   have LMc16 := Aside0.mk c16
   clear c16
   obtain ⟨y398, hy398⟩ : ∃ y_ : List (List Int), y_ = (x6_1 ++ [t394]) := ⟨_, rfl⟩
   replace H : (impl_IslandsOf.l0 k1 t397 y398 a0_0 (wrap64 (x17_1 + 1))) = some r := by first | (rw [hy398]; with_reducible exact H) | (have H2_ := (Option.bind_some _ _).symm.trans H; rw [hy398]; with_reducible exact H2_) | (have H2_ := (Option.bind_some _ _).symm.trans H; with_reducible exact H2_) | with_reducible exact H | (rw [hy398]; exact H) | exact H
   have Ny398 := Aside0.mk hy398
   clear hy398
   have H' := Aside0.mk H
   clear H
   obtain ⟨Ao17, co17, eo17⟩ := Kd.R_slice HO_5.out
   subst eo17
   go_wp2_with (first | ((with_reducible refine gate_callee (f := 73) rfl ?_); refine goesL_ (some 22) rfl rfl Tryd.func73 (by kernel_rfl) rfl #[.slice Ao17 x5_1.length co17, .int .i64 x17_1] rfl mP ?_; (with_reducible refine (impl_union_find.calls k1 (fun k_ => some k_ = (.slice Ao17 x5_1.length co17 : Value).ownBlock) (.slice Ao17 x5_1.length co17) x5_1 x17_1 t392 t393 w _ ?side1 ?side2 A13.out).mono ?_); (case side1 => repeat (first | (with_reducible first | exact HB.out | apply below_alloc | apply pw_below_drewN | apply below_drew1 | refine below_set ?_ GE387.out) | exact HB.out)); (case side2 => exact Kd.R_tight rfl HO_5.out); rintro e w18 ⟨rfl, hy0, hb, hkp⟩; refine ⟨_, rfl, ?_⟩; have n0_ := aM (Kd.R_reok rfl hy0 (fun k_ e_ => HO_5.out.1 k_ e_)); have n1_ := aM (Kd.S_mono (ok' := fun k_ => some k_ ≠ (.slice Ao17 x5_1.length co17 : Value).ownBlock) (Kd.S_keptB (HO_6.out) hkp (fun k_ hk_ hs_ => (hk_) hs_)) (fun k_ hk_ => hk_.1)); have n2_ := aM (blk_kept (gB (BK387.out)) hkp (fun hs_ => (fun e_ => (Kd.R_ne HO_5.out BK387.out (by decide)) e_) hs_)); have n3_ := aM (hb); clear HO_5; clear HO_6; clear BK387; clear HB; have HO_5 := n0_; have HO_6 := n1_; have BK387 := n2_; have HB := n3_; clear n0_ n1_ n2_ n3_; (try clear hb); (try clear hkp); (try clear hy0)) | ((with_reducible refine gate_callee (f := 79) rfl ?_); refine goesL_ (some 28) rfl rfl Tryd.func79 (by kernel_rfl) rfl #[.slice Ao17 x5_1.length co17, .int .i64 x17_1] rfl mP ?_; (with_reducible refine (impl_union_members.calls k1 (fun k_ => some k_ = (.slice Ao17 x5_1.length co17 : Value).ownBlock) (.slice Ao17 x5_1.length co17) t393 x17_1 t394 t397 w _ ?side1 ?side2 A15.out).mono ?_); (case side1 => repeat (first | (with_reducible first | exact HB.out | apply below_alloc | apply pw_below_drewN | apply below_drew1 | refine below_set ?_ GE387.out) | exact HB.out)); (case side2 => exact Kd.R_tight rfl HO_5.out); rintro e w19 ⟨v395, rfl, ho0, hy0, hb, hkp⟩; refine ⟨_, rfl, ?_⟩; have n0_ := aM (Kd.R_reok rfl hy0 (fun k_ e_ => HO_5.out.1 k_ e_)); have n1_ := aM (Kd.S_mono (ok' := fun k_ => some k_ ≠ (.slice Ao17 x5_1.length co17 : Value).ownBlock ∧ some k_ ≠ (v395 : Value).ownBlock) (Kd.S_keptB (HO_6.out) hkp (fun k_ hk_ hs_ => (hk_) hs_)) (fun k_ hk_ => ⟨hk_.1, fun e_ => Or.elim (ho0.1 k_ e_.symm).1 (fun hs_ => hk_.2.1 hs_) (fun hn_ => Nat.not_le.2 hk_.2.2 hn_)⟩)); have n2_ := aM (blk_kept (gB (BK387.out)) hkp (fun hs_ => (fun e_ => (Kd.R_ne HO_5.out BK387.out (by decide)) e_) hs_)); have n3_ := aM (Kd.R_mono (ok' := fun k_ => some k_ ≠ (.slice Ao17 x5_1.length co17 : Value).ownBlock) ho0 (fun k_ hk_ => hk_.2)); have n4_ := aM (hb); clear HO_5; clear HO_6; clear BK387; clear HB; have HO_5 := n0_; have HO_6 := n1_; have BK387 := n2_; have HO396 := n3_; have HB := n4_; clear n0_ n1_ n2_ n3_ n4_; (try clear hb); (try clear hkp); (try clear ho0); (try clear hy0); obtain ⟨Ao21, co21, eo21⟩ := Kd.R_slice HO396.out; subst eo21) | ((with_reducible refine gate_builtin (b := .append) (xs := #[.tmp 25, .tmp 29]) rfl ?_); at_builtin; refine Kd.S_append (Kd.slice 3 (Kd.int .i64)) (w0 := w) w.heap.size rfl (.tmp 25) (.tmp 29) 35 37 (.slice none 0 0) 24 rfl Tryd.underlying35 info37 rfl (by decide) (by omega) u6 x6_1 t394 [.slice Ao21 t394.length co21] (fun k_ => some k_ ≠ (.slice Ao17 x5_1.length co17 : Value).ownBlock) (fun k_ => some k_ = (.slice Ao21 t394.length co21 : Value).ownBlock) rfl rfl ?aP (fun k_ hk_ => ((Kd.R_mono (ok' := fun k_ => ((fun k_ => some k_ ≠ (.slice Ao17 x5_1.length co17 : Value).ownBlock)) k_ ∧ some k_ ≠ (u6 : Value).ownBlock) (Kd.R_apart' (HO396.out) (Kd.S_typed HO_6.out) (by decide)) (fun k_ hk => ⟨hk.1, hk.2⟩))).1 k_ hk_.symm) ?aF ?aO ?aB ?aS ?aL ?_; (case aP => exact Kd.M_row (Kd.R_mono (Kd.R_tight rfl (Kd.R_mono (ok' := fun k_ => ((fun k_ => some k_ ≠ (.slice Ao17 x5_1.length co17 : Value).ownBlock)) k_ ∧ some k_ ≠ (u6 : Value).ownBlock) (Kd.R_apart' (HO396.out) (Kd.S_typed HO_6.out) (by decide)) (fun k_ hk => ⟨hk.1, hk.2⟩))) (fun _ h_ => h_))); (case aB => exact (bl1 HB GE387)); (case aF => exact (fun k_ hk => Kd.fresh' (Kd.R_lt (gR (HO_5.out))) k_ hk)); (case aO => exact (by (with_reducible repeat (first | apply Kd.S_alloc | apply Kd.S_drewN | apply Kd.S_drew)); exact Kd.S_mono HO_6.out (fun k_ hk => ⟨hk.1, fun e_ => hk.2 e_⟩))); (case aS => exact (below_size (bl1 HB GE387))); (case aL => have := LMc16.out; omega); intro v399 w20 ho hb hg hat; rw [← Ny398.out] at ho; have n0_ := aM (Kd.R_over' (gR (HO_5.out)) (Kd.S_typed (gS (HO_6.out))) (by decide) hg); have n1_ := aM (blk_grown (g := gb387) (o := .cells #[.int .i64 a0_0, .slice A0_1 l0_1.length c0_1] 25 (0, 0)) (gB (BK387.out)) hg (Kd.S_ne HO_6.out BK387.out (by decide))); have n2_ := aM (hb); have n3_ := aM (ho); clear HO_5; clear BK387; clear HB; clear HO_6; clear HO396; have HO_5 := n0_; have BK387 := n1_; have HB := n2_; have HO400 := n3_; clear n0_ n1_ n2_ n3_; clear ho hb hg hat))
   go_roundg k1
   case measure => have := HK1.out; omega
   case rel => exact ⟨(t397), (y398), (wrap64 (x17_1 + 1)), fS, H', ⟨by have := HK1.out; omega⟩, ⟨gR (HO_5.out)⟩, ⟨gS (HO400.out)⟩, ⟨gB (BK387.out)⟩, ⟨bl1 HB GE387⟩⟩

end Go.Proofs.YtpgjgbjkfgbpaaaDoor.P
namespace Go.Proofs.YtpgjgbjkfgbpaaaDoor.P
open Go.RowKit Go.Proofs.YtpgjgbjkfgbpaaaDoorW.PrintWords Go.Proofs.YtpgjgbjkfgbpaaaDoorW.PrintLast Go.Proofs.YtpgjgbjkfgbpaaaDoorW.PrintMore
attribute [local go_sem] max2_int min2_int max_two min_two max_three min_three max_four min_four   -- for this text's walks alone
set_option linter.unusedVariables false
set_option linter.unusedSimpArgs false

/-! ### impl_linesWhere: function 81 -/
section
variable {P : Program} {ops : Array Oper} {o : Oper} {rest : List Oper} {a : Act} {Q : Exit → Act → World → Prop} {w : World}
theorem gate_value {t : Tmp} {ar : Array Operand} {ts : Array TypeId} (_ho : o.op = .call { callee := .value (.tmp t), args := ar, argTypes := ts }) (h : wpList P ops Q (o :: rest) a w) : wpList P ops Q (o :: rest) a w := h
theorem goesV_ (N : Option Tmp) (hd : o.dst = N) (hg : o.guard = none) {c : FuncId} {fn : Func} {t : Operand} {ar : Array Operand} {ts : Array TypeId} {caps : Array Value} (hf : P.funcs[c]? = some fn) (hname : (fn.name == "runtime.NumGoroutine") = false) (hb : fn.body.isSome = true) (args : Array Value)
  (hop : o.op = .call { callee := .value t, args := ar, argTypes := ts }) (ht : a.eval t = .func (.func c) #[] caps) (hargs : ar.map a.eval = args)
  (h : Calls P c (args ++ caps) w fun e w' => ∃ v, e = .returned v ∧ wpList P ops Q rest (a.put N v) w') : wpList P ops Q (o :: rest) a w := by
 refine wpList_plain hg fun K hK => ?_
 have he := enters_ hf hname hb (args ++ caps) w
 have hrun : (execOp a.eval o).run P w = .ok (.enter c (args ++ caps)) w := by
  unfold execOp
  simp [hop, resolve, Deferred.ofValue, invoke, ht, hargs, he]
 unfold Oper.wp
 rw [hrun, Oper.upon_enter]
 refine h.mono fun e w'' hh => ?_
 obtain ⟨v, rfl, hk⟩ := hh
 rw [hd]
 exact hK _ _ hk
end
def impl_linesWhere.l {σ : Type} (p : σ → Int → Option (Bool × σ)) : Nat → σ → List Int → Int → Int → Option (List Int × σ)
 | 0, _, _, _, _ => none
 | k + 1, s, x5, n, x10 => if x10 < n then ((p s x10).bind fun bs => (if bs.1 = true then (if x5.length < 17592186044416 then (impl_linesWhere.l p k bs.2 (x5 ++ [x10]) n (wrap64 (x10 + 1))) else none) else (impl_linesWhere.l p k bs.2 x5 n (wrap64 (x10 + 1))))) else some (x5, s)
theorem impl_linesWhere.mono {σ : Type} {p q : σ → Int → Option (Bool × σ)} (h : ∀ s i, LeO (p s i) (q s i)) : ∀ k s x n i, LeO (impl_linesWhere.l p k s x n i) (impl_linesWhere.l q (k + 1) s x n i)
 | 0, _, _, _, _ => LeO.none _
 | k + 1, s, x, n, i => by
  rw [impl_linesWhere.l, impl_linesWhere.l.eq_2 q]
  refine LeO.ite ?_ (LeO.refl _)
  refine LeO.bind (h s i) (fun bs => ?_)
  exact LeO.ite (LeO.ite (impl_linesWhere.mono h k _ _ _ _) (LeO.none _)) (impl_linesWhere.mono h k _ _ _ _)
set_option maxHeartbeats 8000000 in
set_option maxRecDepth 100000 in
theorem impl_linesWhere.calls {σ : Type} (p : σ → Int → Option (Bool × σ)) (Inv : σ → World → Prop) (c : FuncId) (fn : Func) (caps : Array Value) (k : Nat) (a0 : Int) (A0 : Option Addr) (n0 c0 : Nat) (s s' : σ) (r : List Int) (w : World)
  (hf : Tryd.prog.funcs[c]? = some fn) (hname : (fn.name == "runtime.NumGoroutine") = false) (hb : fn.body.isSome = true) (hI : Inv s w)
  (hst : ∀ s W W', Inv s W → Below w.heap.size W W' → Inv s W')
  (hcl : ∀ s s' x b W, w.heap.size ≤ W.heap.size → Inv s W → p s x = some (b, s') → Calls Tryd.prog c (#[.int .i64 x] ++ caps) W fun e W' => e = .returned (.bool b) ∧ Inv s' W' ∧ W.heap.size ≤ W'.heap.size ∧ ∀ i, w.heap.size ≤ i → i < W.heap.size → W'.heap[i]? = W.heap[i]?)
  (h : impl_linesWhere.l p k s [] (n0 : Int) 0 = some (r, s')) :
  Calls Tryd.prog 81 #[.agg #[.int .i64 a0, .slice A0 n0 c0], .func (.func c) #[] caps] w fun e w' => ∃ v, e = .returned v ∧ Kd.R (Kd.int .i64) 3 w' w.heap.size (fun _ => True) v r ∧ Inv s' w' := by
 have HI := Aside0.mk hI
 have HST := Aside0.mk hst
 have HCL := Aside0.mk hcl
 have HF := Aside0.mk hf
 have HN := Aside0.mk hname
 have HBO := Aside0.mk hb
 clear hI hst hcl hf hname hb
 have HB := aM (Below.refl w.heap.size w)
 have H' := Aside0.mk h
 clear h
 go_enter Tryd.func81, Tryd.ntmps81
 go_wp2_with (first | ((with_reducible refine gate_dst (N := 2) rfl ?_); refine box_event ?hg (N := 2) ?hd (cs := #[.int .i64 a0, .slice A0 n0 c0]) (t := 25) ?hr ?_; (case hd => rfl); (case hg => rfl); (case hr => exact hR); intro gb hg w5 hbox hb; have n0_ := aM (below_step (bl0 HB) hb); have n1_ := aM (HST.out _ _ _ HI.out hb); clear HB HI; have HB := n0_; have HI := n1_; clear n0_ n1_; have hcz0 : w5.cell? ⟨gb, 0, none⟩ = some (.int .i64 a0) := (blk_cell hbox 0).trans rfl; have hcz1 : w5.cell? ⟨gb, 1, none⟩ = some (.slice A0 n0 c0) := (blk_cell hbox 1).trans rfl; have hfz0 := blk_frozen hbox 0; have hfz1 := blk_frozen hbox 1; clear hb hbox hg))
 go_loopg [5, 10] k (fun kq v5 v10 W => ∃ (s1 : σ) (x5 : List Int) (x10 : Int), v10 = .int .i64 x10 ∧ Aside0 (impl_linesWhere.l p kq s1 x5 (n0 : Int) x10 = some (r, s')) ∧ Aside0 (kq ≤ k) ∧ Aside0 (Kd.R (Kd.int .i64) 3 W w.heap.size (fun _ => True) v5 x5) ∧ Aside0 (Inv s1 W) ∧ Aside0 (w.heap.size ≤ W.heap.size))
 case atStart => exact ⟨s, [], 0, rfl, H', ⟨Nat.le_refl _⟩, ⟨Kd.R_nil _ _ _ _ _⟩, ⟨HI.out⟩, ⟨HB.out.size⟩⟩
 case round =>
  clear H' HI HB
  try clear hcz0
  try clear hcz1
  try clear hfz0
  try clear hfz1
  obtain ⟨s1, x5, x10, rfl, HA, HK1, HO, HI, HB⟩ := hrel
  cases gk with
  | zero => exact absurd HA.out (by simp [impl_linesWhere.l])
  | succ k1 =>
   have H := HA.out
   clear HA
   simp only [impl_linesWhere.l] at H
   by_cases c4 : x10 < (n0 : Int)
   rotate_left
   ·
    rw [if_neg c4] at H
    have c4b : decide (x10 < (n0 : Int)) = false := decide_eq_false c4
    clear c4
    simp only [Option.some.injEq, Prod.mk.injEq] at H
    obtain ⟨rfl, rfl⟩ := H
    go_wp2
    go_ret
    exact ⟨_, rfl, HO.out, HI.out⟩
   rw [if_pos c4] at H
   have c4b : decide (x10 < (n0 : Int)) = true := decide_eq_true c4
   clear c4
   replace H := Option.bind_eq_some_iff.mp H
   obtain ⟨⟨b, s2⟩, A50, H⟩ := H
   have A5 := Aside0.mk A50
   clear A50
   by_cases c6 : b = true
   rotate_left
   ·
    replace c6 := Bool.eq_false_iff.mpr c6
    subst c6
    replace H : (impl_linesWhere.l p k1 s2 x5 (n0 : Int) (wrap64 (x10 + 1))) = some (r, s') := H
    have H' := Aside0.mk H
    clear H
    go_wp2_with (first | ((with_reducible refine gate_value (t := 13) rfl ?_); refine goesV_ (some 15) rfl rfl HF.out HN.out HBO.out #[.int .i64 x10] rfl rfl (by (try simp only [List.map_toArray, List.map_cons, List.map_nil]); first | done | rfl) ?_; refine (HCL.out _ _ _ _ _ ?g1 ?g2 A5.out).mono ?_; (case g1 => exact HB.out); (case g2 => exact HI.out); rintro e w8 ⟨rfl, hi, hb, hk⟩; refine ⟨_, rfl, ?_⟩; have n0_ := aM (Kd.R_mono (Kd.R_step (Kd.R_bound HO.out) (fun k_ hk_ hlt => hk k_ hk_.2.1 hlt)) (fun _ _ => trivial)); have n1_ := Aside0.mk hi; have n2_ := aM (Nat.le_trans HB.out hb); clear HO HI HB hi hb hk; have HO := n0_; have HI := n1_; have HB := n2_; clear n0_ n1_ n2_))
    go_roundg k1
    case measure => have := HK1.out; omega
    case rel => exact ⟨s2, x5, wrap64 (x10 + 1), rfl, H', ⟨by have := HK1.out; omega⟩, HO, HI, HB⟩
   subst c6
   replace H : (if x5.length < 17592186044416 then (impl_linesWhere.l p k1 s2 (x5 ++ [x10]) (n0 : Int) (wrap64 (x10 + 1))) else none) = some (r, s') := H
   by_cases c7 : x5.length < 17592186044416
   rotate_left
   ·
    rw [if_neg c7] at H
    exact absurd H (by simp)
   rw [if_pos c7] at H
   have LM := Aside0.mk c7
   clear c7
   have H' := Aside0.mk H
   clear H
   go_wp2_with (first | ((with_reducible refine gate_value (t := 13) rfl ?_); refine goesV_ (some 15) rfl rfl HF.out HN.out HBO.out #[.int .i64 x10] rfl rfl (by (try simp only [List.map_toArray, List.map_cons, List.map_nil]); first | done | rfl) ?_; refine (HCL.out _ _ _ _ _ ?g1 ?g2 A5.out).mono ?_; (case g1 => exact HB.out); (case g2 => exact HI.out); rintro e w8 ⟨rfl, hi, hb, hk⟩; refine ⟨_, rfl, ?_⟩; have n0_ := aM (Kd.R_mono (Kd.R_step (Kd.R_bound HO.out) (fun k_ hk_ hlt => hk k_ hk_.2.1 hlt)) (fun _ _ => trivial)); have n1_ := Aside0.mk hi; have n2_ := aM (Nat.le_trans HB.out hb); clear HO HI HB hi hb hk; have HO := n0_; have HI := n1_; have HB := n2_; clear n0_ n1_ n2_) | ((with_reducible refine gate_builtin (b := .append) (xs := #[.tmp 16, .tmp 18]) rfl ?_); at_builtin; refine Kd.R_append (Kd.int .i64) (w0 := w8) w.heap.size rfl (.tmp 16) (.tmp 18) 37 3 (.int .i64 0) 8 rfl Tryd.underlying37 info3 rfl (by decide) (by omega) u5 x5 x10 [.int .i64 x10] (fun _ => True) (fun _ => False) rfl rfl ?aP (fun _ hk => hk.elim) ?aF ?aO ?aB ?aS ?aL ?_; (case aP => exact rfl); (case aF => exact fun _ _ => trivial); (case aO => exact (gR (HO.out))); (case aB => exact (by repeat (first | (with_reducible first | exact Below.refl _ _ | apply below_alloc | apply pw_below_drewN | apply below_drew1) | exact Below.refl _ _))); (case aS => exact HB.out); (case aL => have := LM.out; omega); intro v9 w9 ho hb hg hat; have n1_ := aM (HST.out _ _ _ HI.out hb); have n2_ := aM (Nat.le_trans HB.out hb.size); clear HO HI HB; have HO := Aside0.mk ho; have HI := n1_; have HB := n2_; clear n1_ n2_ ho hb hg hat))
   go_roundg k1
   case measure => have := HK1.out; omega
   case rel => exact ⟨s2, x5 ++ [x10], wrap64 (x10 + 1), rfl, H', ⟨by have := HK1.out; omega⟩, HO, HI, HB⟩
theorem leO_map {α β : Type} {a b : Option α} (f : α → β) (h : LeO a b) : LeO (a.map f) (b.map f) := fun r hr => by
 obtain ⟨x, hx, rfl⟩ := Option.map_eq_some_iff.mp hr
 rw [h x hx]; rfl


end Go.Proofs.YtpgjgbjkfgbpaaaDoor.P
namespace Go.Proofs.YtpgjgbjkfgbpaaaDoor.P
open Go.RowKit Go.Proofs.YtpgjgbjkfgbpaaaDoorW.PrintWords Go.Proofs.YtpgjgbjkfgbpaaaDoorW.PrintLast Go.Proofs.YtpgjgbjkfgbpaaaDoorW.PrintMore
attribute [local go_sem] max2_int min2_int max_two min_two max_three min_three max_four min_four   -- for this text's walks alone
set_option linter.unusedVariables false
set_option linter.unusedSimpArgs false

/-! ### impl_CycleLines: function 21 -/
def impl_CycleLines_1.f (k : Nat) (x : Int) (a0 : Int) (l0 : List S79) (l1 : List Bool) : Option Bool := if 0 ≤ x then (if x < (l1.length : Int) then (if rdOf false l1 x = true then ((impl_onCycle.f k a0 l0 l1 x).map fun b => b) else some false) else none) else none
set_option maxHeartbeats 8000000 in
set_option maxRecDepth 100000 in
theorem impl_CycleLines_1.calls (k : Nat) (gb gu : Nat) (x : Int) (a0_0 : Int) (A0_1 : Option Addr) (c0_1 : Nat) (l0_1 : List S79) (A1 : Option Addr) (c1 : Nat) (l1 : List Bool) (r : Bool) (w : World) (hn : w.heap[gb]? = some (.cells #[.int .i64 a0_0, .slice A0_1 l0_1.length c0_1] 25 (0, 0))) (ho : w.heap[gu]? = some (.cells #[.slice A1 l1.length c1] 26 (0, 0)))
  (hr0_1 : Kd.C k79 w A0_1 l0_1.length l0_1) (hc0_1 : l0_1.length ≤ c0_1) (hr1 : Kd.C Kd.bool w A1 l1.length l1) (hc1 : l1.length ≤ c1) (h : impl_CycleLines_1.f k x a0_0 l0_1 l1 = some r) :
  Calls Tryd.prog 82 #[.int .i64 x, .pointer (some ⟨gu, 0, none⟩), .pointer (some ⟨gb, 0, none⟩)] w fun e w' => e = .returned (.bool r) ∧ Below w.heap.size w w' := by
 unfold impl_CycleLines_1.f at h
 by_cases p : 0 ≤ x
 rotate_left
 ·
  rw [if_neg p] at h
  exact absurd h (by simp)
 rw [if_pos p] at h
 by_cases q : x < (l1.length : Int)
 rotate_left
 ·
  rw [if_neg q] at h
  exact absurd h (by simp)
 rw [if_pos q] at h
 obtain ⟨ad, eA, hx⟩ := Kd.at_bool hr1 x p q
 subst eA
 have HR0 := Aside0.mk hr0_1
 have HC0 := Aside0.mk hc0_1
 have HR1 := Aside0.mk hr1
 have HC1 := Aside0.mk hc1
 clear hr0_1 hc0_1 hr1 hc1
 have hcz0 : w.cell? ⟨gb, 0, none⟩ = some (.int .i64 a0_0) := (blk_cell hn 0).trans rfl
 have hcz1 : w.cell? ⟨gb, 1, none⟩ = some (.slice A0_1 l0_1.length c0_1) := (blk_cell hn 1).trans rfl
 have hco0 : w.cell? ⟨gu, 0, none⟩ = some (.slice (some ad) l1.length c1) := (blk_cell ho 0).trans rfl
 clear hn ho
 replace p := eq_true p
 replace q := eq_true q
 by_cases b : rdOf false l1 x = true
 rotate_left
 ·
  rw [if_neg b] at h
  rw [Bool.eq_false_iff.mpr b] at hx
  clear b
  obtain rfl := Option.some.inj h
  clear h
  go_enter Tryd.func82, Tryd.ntmps82
  go_wp2
  go_ret
  exact ⟨rfl, Below.refl _ _⟩
 rw [if_pos b] at h
 rw [b] at hx
 clear b
 obtain ⟨b, A50, h⟩ := Option.map_eq_some_iff.mp h
 subst h
 have A5 := Aside0.mk A50
 clear A50
 go_enter Tryd.func82, Tryd.ntmps82
 go_wp2_with (first | (go_at_call 83; (with_reducible refine (impl_onCycle.calls k a0_0 _ _ l0_1 _ _ l1 x b _ ?side1 HC0.out ?side2 HC1.out A5.out).mono ?_); (case side1 => exact HR0.out); (case side2 => exact HR1.out); rintro e w8 ⟨rfl, hb⟩; have HB := Aside0.mk hb; clear hb hx hcz0 hcz1 hco0 p q))
 go_ret
 exact ⟨rfl, HB.out⟩
def impl_CycleLines.f (k : Nat) (a0_0 : Int) (l0_1 : List S79) (l1 : List Bool) : Option (List Int) := (impl_StateValid.f k a0_0 l0_1 l1).bind fun t => (if t = true then ((impl_linesWhere.l (fun (_ : Unit) i => (impl_CycleLines_1.f k i a0_0 l0_1 l1).map fun b => (b, ())) k () [] (l0_1.length : Int) 0).map fun x => x.1) else some [])
theorem impl_CycleLines.mono : ∀ a0 a1 a2 k, LeO (impl_CycleLines.f k a0 a1 a2) (impl_CycleLines.f (k + 1) a0 a1 a2) := by
 intro a0 a1 a2 k
 unfold impl_CycleLines.f
 refine LeO.bind (impl_StateValid.mono _ _ _ _) (fun t => LeO.ite ?_ (LeO.refl _))
 refine leO_map _ (impl_linesWhere.mono (fun s i => leO_map _ ?_) k _ _ _ _)
 unfold impl_CycleLines_1.f
 exact LeO.ite (LeO.ite (LeO.ite (leO_map _ (impl_onCycle.mono _ _ _ _ _)) (LeO.refl _)) (LeO.refl _)) (LeO.refl _)
set_option maxHeartbeats 8000000 in
set_option maxRecDepth 100000 in
theorem impl_CycleLines.calls (k : Nat) (a0_0 : Int) (A0_1 : Option Addr) (c0_1 : Nat) (l0_1 : List S79) (A1 : Option Addr) (c1 : Nat) (l1 : List Bool) (r : List Int) (w : World) (hr0_1 : Kd.C k79 w A0_1 l0_1.length l0_1) (hc0_1 : l0_1.length ≤ c0_1) (hr1 : Kd.C Kd.bool w A1 l1.length l1) (hc1 : l1.length ≤ c1) (h : impl_CycleLines.f k a0_0 l0_1 l1 = some r) :
  Calls Tryd.prog 21 #[.agg #[.int .i64 a0_0, .slice A0_1 l0_1.length c0_1], .slice A1 l1.length c1] w fun e w' => ∃ v0_ : Value, e = .returned (v0_) ∧ Kd.R (Kd.int .i64) 3 w' w.heap.size (fun _ => True) v0_ r ∧ Below w.heap.size w w' := by
 have HR0 := Aside0.mk hr0_1
 have HC0 := Aside0.mk hc0_1
 have HR1 := Aside0.mk hr1
 have HC1 := Aside0.mk hc1
 clear hr0_1 hc0_1 hr1 hc1
 obtain ⟨t, A50, H⟩ := Option.bind_eq_some_iff.mp h
 have A5 := Aside0.mk A50
 clear A50 h
 have HB := aM (Below.refl w.heap.size w)
 by_cases ht : t = true
 rotate_left
 ·
  replace ht := Bool.eq_false_iff.mpr ht
  subst ht
  rw [if_neg (by decide)] at H
  obtain rfl := Option.some.inj H
  clear H
  go_enter Tryd.func21, Tryd.ntmps21
  go_wp2_with (first | ((with_reducible refine gate_dst (N := 2) rfl ?_); refine box_event ?hg (N := 2) ?hd (cs := #[.int .i64 a0_0, .slice A0_1 l0_1.length c0_1]) (t := 25) ?hr ?_; (case hd => rfl); (case hg => rfl); (case hr => exact hR); intro gb hg w5 hbox hb; have n0_ := aM (below_step HB.out hb); clear HB; have HB := n0_; have BN := Aside0.mk hbox; clear n0_ hb hbox hg) | ((with_reducible refine gate_dst (N := 3) rfl ?_); refine box_event ?hg (N := 3) ?hd (cs := #[.slice A1 l1.length c1]) (t := 26) ?hr ?_; (case hd => rfl); (case hg => rfl); (case hr => exact hR); intro gu hg w6 hbox hb; have n0_ := aM (below_step HB.out hb); have n1_ := aM (blk_below BN.out hb); clear HB BN; have HB := n0_; have BN := n1_; have BO := Aside0.mk hbox; clear n0_ n1_ hb hbox hg; have hcz0 : w6.cell? ⟨gb, 0, none⟩ = some (.int .i64 a0_0) := (blk_cell BN.out 0).trans rfl; have hcz1 : w6.cell? ⟨gb, 1, none⟩ = some (.slice A0_1 l0_1.length c0_1) := (blk_cell BN.out 1).trans rfl; have hco0 : w6.cell? ⟨gu, 0, none⟩ = some (.slice A1 l1.length c1) := (blk_cell BO.out 0).trans rfl) | ((with_reducible refine gate_callee (f := 77) rfl ?_); refine goesL_ (some 7) rfl rfl Tryd.func77 (by kernel_rfl) rfl #[.agg #[.int .i64 a0_0, .slice A0_1 l0_1.length c0_1], .slice A1 l1.length c1] rfl (by (try simp only [List.map_toArray, List.map_cons, List.map_nil]); first | done | rfl) ?_; (with_reducible refine (impl_StateValid.calls k a0_0 _ _ l0_1 _ _ l1 false _ ?side1 HC0.out ?side2 HC1.out A5.out).mono ?_); (case side1 => exact Kd.C_below HR0.out HB.out); (case side2 => exact Kd.C_below HR1.out HB.out); rintro e w7 ⟨rfl, hb⟩; refine ⟨_, rfl, ?_⟩; have n0_ := aM (below_step HB.out hb); have n1_ := aM (blk_below BN.out hb); have n2_ := aM (blk_below BO.out hb); clear HB BN BO hcz0 hcz1 hco0; have HB := n0_; have BN := n1_; have BO := n2_; clear n0_ n1_ n2_ hb; have hcz0 : w7.cell? ⟨gb, 0, none⟩ = some (.int .i64 a0_0) := (blk_cell BN.out 0).trans rfl; have hcz1 : w7.cell? ⟨gb, 1, none⟩ = some (.slice A0_1 l0_1.length c0_1) := (blk_cell BN.out 1).trans rfl; have hco0 : w7.cell? ⟨gu, 0, none⟩ = some (.slice A1 l1.length c1) := (blk_cell BO.out 0).trans rfl))
  go_ret
  exact ⟨_, rfl, Kd.R_nil _ _ _ _ _, HB.out⟩
 subst ht
 rw [if_pos rfl] at H
 obtain ⟨⟨r', u⟩, A60, H⟩ := Option.map_eq_some_iff.mp H
 subst H
 have A6 := Aside0.mk A60
 clear A60
 go_enter Tryd.func21, Tryd.ntmps21
 go_wp2_with (first | ((with_reducible refine gate_dst (N := 2) rfl ?_); refine box_event ?hg (N := 2) ?hd (cs := #[.int .i64 a0_0, .slice A0_1 l0_1.length c0_1]) (t := 25) ?hr ?_; (case hd => rfl); (case hg => rfl); (case hr => exact hR); intro gb hg w5 hbox hb; have n0_ := aM (below_step HB.out hb); clear HB; have HB := n0_; have BN := Aside0.mk hbox; clear n0_ hb hbox hg) | ((with_reducible refine gate_dst (N := 3) rfl ?_); refine box_event ?hg (N := 3) ?hd (cs := #[.slice A1 l1.length c1]) (t := 26) ?hr ?_; (case hd => rfl); (case hg => rfl); (case hr => exact hR); intro gu hg w6 hbox hb; have n0_ := aM (below_step HB.out hb); have n1_ := aM (blk_below BN.out hb); clear HB BN; have HB := n0_; have BN := n1_; have BO := Aside0.mk hbox; clear n0_ n1_ hb hbox hg; have hcz0 : w6.cell? ⟨gb, 0, none⟩ = some (.int .i64 a0_0) := (blk_cell BN.out 0).trans rfl; have hcz1 : w6.cell? ⟨gb, 1, none⟩ = some (.slice A0_1 l0_1.length c0_1) := (blk_cell BN.out 1).trans rfl; have hco0 : w6.cell? ⟨gu, 0, none⟩ = some (.slice A1 l1.length c1) := (blk_cell BO.out 0).trans rfl) | ((with_reducible refine gate_callee (f := 77) rfl ?_); refine goesL_ (some 7) rfl rfl Tryd.func77 (by kernel_rfl) rfl #[.agg #[.int .i64 a0_0, .slice A0_1 l0_1.length c0_1], .slice A1 l1.length c1] rfl (by (try simp only [List.map_toArray, List.map_cons, List.map_nil]); first | done | rfl) ?_; (with_reducible refine (impl_StateValid.calls k a0_0 _ _ l0_1 _ _ l1 true _ ?side1 HC0.out ?side2 HC1.out A5.out).mono ?_); (case side1 => exact Kd.C_below HR0.out HB.out); (case side2 => exact Kd.C_below HR1.out HB.out); rintro e w7 ⟨rfl, hb⟩; refine ⟨_, rfl, ?_⟩; have n0_ := aM (below_step HB.out hb); have n1_ := aM (blk_below BN.out hb); have n2_ := aM (blk_below BO.out hb); clear HB BN BO hcz0 hcz1 hco0; have HB := n0_; have BN := n1_; have BO := n2_; clear n0_ n1_ n2_ hb; have hcz0 : w7.cell? ⟨gb, 0, none⟩ = some (.int .i64 a0_0) := (blk_cell BN.out 0).trans rfl; have hcz1 : w7.cell? ⟨gb, 1, none⟩ = some (.slice A0_1 l0_1.length c0_1) := (blk_cell BN.out 1).trans rfl; have hco0 : w7.cell? ⟨gu, 0, none⟩ = some (.slice A1 l1.length c1) := (blk_cell BO.out 0).trans rfl) | ((with_reducible refine gate_callee (f := 81) rfl ?_); refine goesL_ (some 11) rfl rfl Tryd.func81 (by kernel_rfl) rfl #[.agg #[.int .i64 a0_0, .slice A0_1 l0_1.length c0_1], .func (.func 82) #[] #[.pointer (some ⟨gu, 0, none⟩), .pointer (some ⟨gb, 0, none⟩)]] rfl (by (try simp only [List.map_toArray, List.map_cons, List.map_nil]); first | done | rfl) ?_; refine (impl_linesWhere.calls (fun (_ : Unit) i => (impl_CycleLines_1.f k i a0_0 l0_1 l1).map fun b => (b, ())) (fun _ W => W.heap[gb]? = some (.cells #[.int .i64 a0_0, .slice A0_1 l0_1.length c0_1] 25 (0, 0)) ∧ W.heap[gu]? = some (.cells #[.slice A1 l1.length c1] 26 (0, 0)) ∧ Below w.heap.size w W) 82 _ #[.pointer (some ⟨gu, 0, none⟩), .pointer (some ⟨gb, 0, none⟩)] k a0_0 A0_1 l0_1.length c0_1 () u r' _ Tryd.func82 (by kernel_rfl) rfl ⟨BN.out, BO.out, HB.out⟩ ?hst ?hcl A6.out).mono ?_; (case hst => exact fun _ W W' hI hb => ⟨(hb.block _ (blk_lt BN.out)).trans hI.1, (hb.block _ (blk_lt BO.out)).trans hI.2.1, hI.2.2.trans (hb.mono HB.out.size)⟩); (case hcl => intro s s' x b W hle hI hp; obtain ⟨b', hb', e_⟩ := Option.map_eq_some_iff.mp hp; obtain ⟨rfl, rfl⟩ := Prod.mk.injEq _ _ _ _ ▸ e_; exact (impl_CycleLines_1.calls k gb gu x a0_0 _ _ l0_1 _ _ l1 _ W hI.1 hI.2.1 (Kd.C_below HR0.out hI.2.2) HC0.out (Kd.C_below HR1.out hI.2.2) HC1.out hb').mono (fun e W' hh => ⟨hh.1, ⟨blk_below hI.1 hh.2, blk_below hI.2.1 hh.2, below_step hI.2.2 hh.2⟩, hh.2.size, fun i _ hi => hh.2.block i hi⟩)); rintro e w9 ⟨v, rfl, hr, hi⟩; refine ⟨_, rfl, ?_⟩; have HO := aM (Kd.R_lower hr HB.out.size); clear HB; have HB := Aside0.mk hi.2.2; clear hi hr BN BO))
 go_ret
 exact ⟨_, rfl, HO.out, HB.out⟩




end Go.Proofs.YtpgjgbjkfgbpaaaDoor.P

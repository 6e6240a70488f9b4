/- Contracts of Go functions of this seat's translation, written by this repo's wip/mk.py: it calls the kit's print.py with contracts typed by hand in place of functions that it does not take. Not trusted: Lean checks it. -/
import Derived.Test.YtpgjgbjkfgbpaaaDoorP0
import Derived.Test.YtpgjgbjkfgbpaaaDoorP5
import Derived.Test.YtpgjgbjkfgbpaaaDoorP25
import Derived.Test.YtpgjgbjkfgbpaaaDoorP34
namespace Go.Proofs.YtpgjgbjkfgbpaaaDoor.P
open Go.RowKit Go.Proofs.YtpgjgbjkfgbpaaaDoorW.PrintWords Go.Proofs.YtpgjgbjkfgbpaaaDoorW.PrintLast Go.Proofs.YtpgjgbjkfgbpaaaDoorW.PrintMore
attribute [local go_sem] max2_int min2_int max_two min_two max_three min_three max_four min_four   -- for this text's walks alone
set_option linter.unusedVariables false
set_option linter.unusedSimpArgs false

/-! ### impl_IslandNumbers: function 24 -/
def impl_IslandNumbers.l0 : Nat → List Int → List Int → Int → Int → Option (List Int)
 | 0, _, _, _, _ => none
 | k + 1, x5, x6, x19, x20 => if x20 < x19 then ((impl_union_find.f k x5 x20).bind fun bt486 => (if 0 ≤ x20 then (if x20 < (x6.length : Int) then (impl_IslandNumbers.l0 k bt486.2 (x6.set (x20 : Int).toNat bt486.1) x19 (wrap64 (x20 + 1))) else (none)) else (none))) else (some x6)
def impl_IslandNumbers.f (k : Nat) (a0_0 : Int) (l0_1 : List (S79)) (l1 : List Bool) : Option (List Int) := (impl_StateValid.f k a0_0 l0_1 l1).bind fun t479 => (if t479 = true then ((impl_unionOf.f k a0_0 l0_1 l1).bind fun t480 => (if 0 ≤ a0_0 then (if (a0_0 : Int).toNat ≤ 35184372088832 then ((some (List.replicate (a0_0 : Int).toNat 0 : List Int)).bind fun y483 => (impl_IslandNumbers.l0 k t480 y483 (y483.length : Int) 0)) else (none)) else (none))) else (some ([] : List Int)))
theorem impl_IslandNumbers.mono_l : ∀ k, (∀ y0 y1 y2 y3, LeO (impl_IslandNumbers.l0 k y0 y1 y2 y3) (impl_IslandNumbers.l0 (k + 1) y0 y1 y2 y3))
 | 0 => fun _ _ _ _ r h => by simp [impl_IslandNumbers.l0] at h
 | k + 1 => by
  have ih0 := impl_IslandNumbers.mono_l k
  ·
   intro y0 y1 y2 y3
   unfold impl_IslandNumbers.l0
   repeat' first
   | (with_reducible exact ih0 _ _ _ _)
   | (with_reducible exact impl_StateValid.mono _ _ _ _)
   | (with_reducible exact impl_unionOf.mono _ _ _ _)
   | (with_reducible exact impl_union_find.mono _ _ _)
   | (with_reducible exact LeO.refl _)
   | (with_reducible exact LeO.none _)
   | (with_reducible refine LeO.ite ?_ ?_)
   | (with_reducible refine LeO.bind ?_ (fun _ => ?_))
   | exact ih0 _ _ _ _
   | exact impl_StateValid.mono _ _ _ _
   | exact impl_unionOf.mono _ _ _ _
   | exact impl_union_find.mono _ _ _
   | exact LeO.none _
   | refine LeO.ite ?_ ?_
   | refine LeO.bind ?_ (fun _ => ?_)
theorem impl_IslandNumbers.mono : ∀ a0 a1 a2 k, LeO (impl_IslandNumbers.f k a0 a1 a2) (impl_IslandNumbers.f (k + 1) a0 a1 a2) := by
 intro a0 a1 a2 k
 have ih0 := impl_IslandNumbers.mono_l k
 unfold impl_IslandNumbers.f
 repeat' first
   | (with_reducible exact ih0 _ _ _ _)
   | (with_reducible exact impl_StateValid.mono _ _ _ _)
   | (with_reducible exact impl_unionOf.mono _ _ _ _)
   | (with_reducible exact impl_union_find.mono _ _ _)
   | (with_reducible exact LeO.refl _)
   | (with_reducible exact LeO.none _)
   | (with_reducible refine LeO.ite ?_ ?_)
   | (with_reducible refine LeO.bind ?_ (fun _ => ?_))
   | exact ih0 _ _ _ _
   | exact impl_StateValid.mono _ _ _ _
   | exact impl_unionOf.mono _ _ _ _
   | exact impl_union_find.mono _ _ _
   | exact LeO.none _
   | refine LeO.ite ?_ ?_
   | refine LeO.bind ?_ (fun _ => ?_)
set_option maxHeartbeats 8000000 in
set_option maxRecDepth 100000 in
theorem impl_IslandNumbers.calls (k : Nat) (a0_0 : Int) (A0_1 : Option Addr) (c0_1 : Nat) (l0_1 : List (S79)) (A1 : Option Addr) (c1 : Nat) (l1 : List Bool) (r : List Int) (w : World) (hr0_1 : Kd.C k79 w A0_1 l0_1.length l0_1) (hc0_1 : l0_1.length ≤ c0_1) (hr1 : Kd.C Kd.bool w A1 l1.length l1) (hc1 : l1.length ≤ c1) (h : impl_IslandNumbers.f k a0_0 l0_1 l1 = some r) :
  Calls Tryd.prog 24 #[.agg #[.int .i64 a0_0, .slice A0_1 l0_1.length c0_1], .slice A1 l1.length c1] w fun e w' => ∃ v0_ : Value, e = .returned (v0_) ∧ Kd.R (Kd.int .i64) 3 w' w.heap.size (fun _ => True) v0_ r ∧ Below w.heap.size w w' := by
 have hu25 := Tryd.underlying25
 have HR0_1 := Aside0.mk hr0_1
 have HC0_1 := Aside0.mk hc0_1
 clear hr0_1 hc0_1
 have HR1 := Aside0.mk hr1
 have HC1 := Aside0.mk hc1
 clear hr1 hc1
 have HB := aM (Below.refl w.heap.size w)
 have H : ((impl_StateValid.f k a0_0 l0_1 l1).bind fun t479 => (if t479 = true then ((impl_unionOf.f k a0_0 l0_1 l1).bind fun t480 => (if 0 ≤ a0_0 then (if (a0_0 : Int).toNat ≤ 35184372088832 then ((some (List.replicate (a0_0 : Int).toNat 0 : List Int)).bind fun y483 => (impl_IslandNumbers.l0 k t480 y483 (y483.length : Int) 0)) else (none)) else (none))) else (some ([] : List Int)))) = some r := h
 clear h
 replace H := Option.bind_eq_some_iff.mp H
 obtain ⟨t479, A30, H⟩ := H
 replace H : (if t479 = true then ((impl_unionOf.f k a0_0 l0_1 l1).bind fun t480 => (if 0 ≤ a0_0 then (if (a0_0 : Int).toNat ≤ 35184372088832 then ((some (List.replicate (a0_0 : Int).toNat 0 : List Int)).bind fun y483 => (impl_IslandNumbers.l0 k t480 y483 (y483.length : Int) 0)) else (none)) else (none))) else (some ([] : List Int))) = some r := H
 have A3 := Aside0.mk A30
 clear A30
 by_cases c4 : t479 = true
 rotate_left
 ·
  replace c4 := Bool.eq_false_iff.mpr c4
  subst c4
  have H1 : (some ([] : List Int)) = some r := by rw [if_neg (show ¬ (false = true) by decide)] at H; exact H
  clear H
  have H := H1
  clear H1
  obtain rfl := Option.some.inj H
  go_enter Tryd.func24, Tryd.ntmps24
  go_wp2_with (first | ((with_reducible refine gate_dst (N := 2) rfl ?_); refine box_event ?hg (N := 2) ?hd (cs := #[.int .i64 a0_0, .slice A0_1 l0_1.length c0_1]) (t := 25) ?hr ?_; (case hd => rfl); (case hg => rfl); (case hr => exact hR); intro gb478 hg w26 hbox hb; have n0_ := aM (below_step (bl0 HB) hb); have n1_ := aM (hbox); have n2_ := aM ((by rw [hg]; exact (below_size (bl0 HB)) : w.heap.size ≤ gb478)); have n3_ := aM ((by rw [hg]; exact (below_size (bl0 HB)) : w.heap.size ≤ gb478)); clear HB; have HB := n0_; have BK478 := n1_; have GW478 := n2_; have GE478 := n3_; clear n0_ n1_ n2_ n3_; clear hb hbox hg; have hcz27_0 : w26.cell? ⟨gb478, 0, none⟩ = some (.int .i64 a0_0) := (blk_cell BK478.out 0).trans rfl; have hcz27_1 : w26.cell? ⟨gb478, 1, none⟩ = some (.slice A0_1 l0_1.length c0_1) := (blk_cell BK478.out 1).trans rfl; have hfz27_0 := blk_frozen BK478.out 0; have hfz27_1 := blk_frozen BK478.out 1) | ((with_reducible refine gate_callee (f := 77) rfl ?_); refine goesL_ (some 10) rfl rfl Tryd.func77 (by kernel_rfl) rfl #[.agg #[.int .i64 a0_0, .slice A0_1 l0_1.length c0_1], .slice A1 l1.length c1] rfl mP ?_; (with_reducible refine (impl_StateValid.calls k a0_0 _ _ l0_1 _ _ l1 false _ ?side1 ?side2 ?side3 ?side4 A3.out).mono ?_); (case side1 => exact gC ((Kd.C_below HR0_1.out HB.out))); (case side2 => exact HC0_1.out); (case side3 => exact gC ((Kd.C_below HR1.out HB.out))); (case side4 => exact HC1.out); rintro e w28 ⟨rfl, hb⟩; refine ⟨_, rfl, ?_⟩; have n0_ := aM (blk_below (g := gb478) (o := .cells #[.int .i64 a0_0, .slice A0_1 l0_1.length c0_1] 25 (0, 0)) (gB (BK478.out)) hb); have n1_ := aM (below_step (bl1 HB GE478) hb); clear BK478; clear HB; have BK478 := n0_; have HB := n1_; clear n0_ n1_; (try clear hb); (try clear hb2); (try clear hk); (try clear hi)))
  go_ret
  exact ⟨_, fR, by first | exact Kd.R_nil _ _ _ _ _ | exact Kd.N_nil _ _ _ _ _ | exact Kd.V_nil _ _ _ _ _ | exact Kd.Q_nil _ _ _ _ _ | exact Kd.S_nil _ _ _ _ _, bl1 HB GE478⟩
 subst c4
 have H1 : ((impl_unionOf.f k a0_0 l0_1 l1).bind fun t480 => (if 0 ≤ a0_0 then (if (a0_0 : Int).toNat ≤ 35184372088832 then ((some (List.replicate (a0_0 : Int).toNat 0 : List Int)).bind fun y483 => (impl_IslandNumbers.l0 k t480 y483 (y483.length : Int) 0)) else (none)) else (none))) = some r := by rw [if_pos rfl] at H; exact H
 clear H
 have H := H1
 clear H1
 replace H := Option.bind_eq_some_iff.mp H
 obtain ⟨t480, A50, H⟩ := H
 replace H : (if 0 ≤ a0_0 then (if (a0_0 : Int).toNat ≤ 35184372088832 then ((some (List.replicate (a0_0 : Int).toNat 0 : List Int)).bind fun y483 => (impl_IslandNumbers.l0 k t480 y483 (y483.length : Int) 0)) else (none)) else (none)) = some r := H
 have A5 := Aside0.mk A50
 clear A50
 by_cases c6 : 0 ≤ a0_0
 rotate_left
 ·
  rw [if_neg c6] at H
  exact absurd H (by simp)
 rw [if_pos c6] at H
 have c6b0 := eq_true c6
 have c6b1 : decide (0 ≤ a0_0) = true := decide_eq_true c6
 clear c6
 by_cases c7 : (a0_0 : Int).toNat ≤ 35184372088832
 rotate_left
 ·
  rw [if_neg c7] at H
  exact absurd H (by simp)
 rw [if_pos c7] at H
 have c7b0 := eq_true c7
 have c7b1 : decide ((a0_0 : Int).toNat ≤ 35184372088832) = true := decide_eq_true c7
 clear c7
 obtain ⟨y483, hy483⟩ : ∃ y_ : List Int, y_ = (List.replicate (a0_0 : Int).toNat 0) := ⟨_, rfl⟩
 replace H : (impl_IslandNumbers.l0 k t480 y483 (y483.length : Int) 0) = some r := by first | (rw [hy483]; with_reducible exact H) | (have H2_ := (Option.bind_some _ _).symm.trans H; rw [hy483]; with_reducible exact H2_) | (have H2_ := (Option.bind_some _ _).symm.trans H; with_reducible exact H2_) | with_reducible exact H | (rw [hy483]; exact H) | exact H
 have Ny483 := Aside0.mk hy483
 clear hy483
 have H' := Aside0.mk H
 clear H
 go_enter Tryd.func24, Tryd.ntmps24
 go_wp2_with (first | ((with_reducible refine gate_dst (N := 2) rfl ?_); refine box_event ?hg (N := 2) ?hd (cs := #[.int .i64 a0_0, .slice A0_1 l0_1.length c0_1]) (t := 25) ?hr ?_; (case hd => rfl); (case hg => rfl); (case hr => exact hR); intro gb478 hg w8 hbox hb; have n0_ := aM (below_step (bl0 HB) hb); have n1_ := aM (hbox); have n2_ := aM ((by rw [hg]; exact (below_size (bl0 HB)) : w.heap.size ≤ gb478)); have n3_ := aM ((by rw [hg]; exact (below_size (bl0 HB)) : w.heap.size ≤ gb478)); clear HB; have HB := n0_; have BK478 := n1_; have GW478 := n2_; have GE478 := n3_; clear n0_ n1_ n2_ n3_; clear hb hbox hg; have hcz9_0 : w8.cell? ⟨gb478, 0, none⟩ = some (.int .i64 a0_0) := (blk_cell BK478.out 0).trans rfl; have hcz9_1 : w8.cell? ⟨gb478, 1, none⟩ = some (.slice A0_1 l0_1.length c0_1) := (blk_cell BK478.out 1).trans rfl; have hfz9_0 := blk_frozen BK478.out 0; have hfz9_1 := blk_frozen BK478.out 1) | ((with_reducible refine gate_callee (f := 77) rfl ?_); refine goesL_ (some 10) rfl rfl Tryd.func77 (by kernel_rfl) rfl #[.agg #[.int .i64 a0_0, .slice A0_1 l0_1.length c0_1], .slice A1 l1.length c1] rfl mP ?_; (with_reducible refine (impl_StateValid.calls k a0_0 _ _ l0_1 _ _ l1 true _ ?side1 ?side2 ?side3 ?side4 A3.out).mono ?_); (case side1 => exact gC ((Kd.C_below HR0_1.out HB.out))); (case side2 => exact HC0_1.out); (case side3 => exact gC ((Kd.C_below HR1.out HB.out))); (case side4 => exact HC1.out); rintro e w10 ⟨rfl, hb⟩; refine ⟨_, rfl, ?_⟩; have n0_ := aM (blk_below (g := gb478) (o := .cells #[.int .i64 a0_0, .slice A0_1 l0_1.length c0_1] 25 (0, 0)) (gB (BK478.out)) hb); have n1_ := aM (below_step (bl1 HB GE478) hb); clear BK478; clear HB; have BK478 := n0_; have HB := n1_; clear n0_ n1_; (try clear hb); (try clear hb2); (try clear hk); (try clear hi); have hcz11_0 : w10.cell? ⟨gb478, 0, none⟩ = some (.int .i64 a0_0) := (blk_cell BK478.out 0).trans rfl; have hcz11_1 : w10.cell? ⟨gb478, 1, none⟩ = some (.slice A0_1 l0_1.length c0_1) := (blk_cell BK478.out 1).trans rfl; have hfz11_0 := blk_frozen BK478.out 0; have hfz11_1 := blk_frozen BK478.out 1) | ((with_reducible refine gate_callee (f := 72) rfl ?_); refine goesL_ (some 14) rfl rfl Tryd.func72 (by kernel_rfl) rfl #[.agg #[.int .i64 a0_0, .slice A0_1 l0_1.length c0_1], .slice A1 l1.length c1] rfl mP ?_; (with_reducible refine (impl_unionOf.calls k a0_0 _ _ l0_1 _ _ l1 t480 _ ?side1 ?side2 ?side3 ?side4 A5.out).mono ?_); (case side1 => exact gC ((Kd.C_below HR0_1.out HB.out))); (case side2 => exact HC0_1.out); (case side3 => exact gC ((Kd.C_below HR1.out HB.out))); (case side4 => exact HC1.out); rintro e w12 ⟨v481, rfl, ho0, hb⟩; refine ⟨_, rfl, ?_⟩; have n0_ := aM (Kd.R_lower ho0 (below_size (bl1 HB GE478))); have n1_ := aM (blk_below (g := gb478) (o := .cells #[.int .i64 a0_0, .slice A0_1 l0_1.length c0_1] 25 (0, 0)) (gB (BK478.out)) hb); have n2_ := aM (below_step (bl1 HB GE478) hb); clear BK478; clear HB; have HO482 := n0_; have BK478 := n1_; have HB := n2_; clear n0_ n1_ n2_; (try clear hb); (try clear hb2); (try clear hk); (try clear hi); (try clear ho0); have hcz13_0 : w12.cell? ⟨gb478, 0, none⟩ = some (.int .i64 a0_0) := (blk_cell BK478.out 0).trans rfl; have hcz13_1 : w12.cell? ⟨gb478, 1, none⟩ = some (.slice A0_1 l0_1.length c0_1) := (blk_cell BK478.out 1).trans rfl; have hfz13_0 := blk_frozen BK478.out 0; have hfz13_1 := blk_frozen BK478.out 1) | ((with_reducible refine gate_dst (N := 17) rfl ?_); refine Kd.R_make (Kd.int .i64) _ 3 rfl (N := 17) rfl 37 _ _ rfl a0_0 rfl rfl Tryd.underlying37 (.int .i64 0) 8 info3 rfl (by decide) (by omega) 0 (ok := fun _ => True) (okp := fun _ => True) rfl (fun _ hk => hk) trivial (oD) (Nat.le_trans (Nat.mul_le_mul_right _ (oD : a0_0.toNat ≤ 35184372088832)) (by omega)) (Below.refl _ _) (Nat.le_refl _) ?_; intro v484 w14 ho15 hb hg_ hnew_; clear hg_ hnew_; (first | rw [← Ny483.out] at ho15 | (simp only [Int.reduceToNat] at ho15; rw [← Ny483.out] at ho15)); have n0_ := aM (Kd.R_elder' (gR (HO482.out)) (Kd.R_base ho15) hb); have n1_ := aM (Kd.R_lower (Kd.R_new' ho15 (Kd.R_lt (gR (HO482.out)))) (below_size (bl1 HB GE478))); have n2_ := aM (blk_below (g := gb478) (o := .cells #[.int .i64 a0_0, .slice A0_1 l0_1.length c0_1] 25 (0, 0)) (gB (BK478.out)) hb); have n3_ := aM (below_step (bl1 HB GE478) hb); clear HO482; clear BK478; clear HB; have HO482 := n0_; have HO485 := n1_; have BK478 := n2_; have HB := n3_; clear n0_ n1_ n2_ n3_; clear hb ho15; obtain ⟨Ao16, co16, eo16⟩ := Kd.R_slice HO485.out; subst eo16))
 go_loopg [20] k (fun kq v20 w' => ∃ (x5_1 : List Int) (x6_1 : List Int) (x20_1 : Int), v20 = .int .i64 x20_1 ∧ Aside0 (impl_IslandNumbers.l0 kq x5_1 x6_1 (y483.length : Int) x20_1 = some r) ∧ Aside0 (kq ≤ k) ∧ Aside0 (Kd.R (Kd.int .i64) 3 w' w.heap.size (fun k_ => some k_ ≠ ((.slice Ao16 y483.length co16) : Value).ownBlock) v481 x5_1) ∧ Aside0 (Kd.R (Kd.int .i64) 3 w' w.heap.size (fun k_ => some k_ ≠ (v481 : Value).ownBlock) (.slice Ao16 y483.length co16) x6_1) ∧ Aside0 (w'.heap[gb478]? = some (.cells #[.int .i64 a0_0, (.slice A0_1 l0_1.length c0_1)] 25 (0, 0))) ∧ Aside0 (Below w.heap.size w w'))
 case atStart => exact ⟨(t480), (y483), (0), fS, H', ⟨Nat.le_refl _⟩, ⟨by (with_reducible repeat (first | apply Kd.R_alloc | apply Kd.R_drewN | apply Kd.R_drew)); exact Kd.R_mono HO482.out (fun _ hk => hk.2)⟩, ⟨by (with_reducible repeat (first | apply Kd.R_alloc | apply Kd.R_drewN | apply Kd.R_drew)); exact Kd.R_mono HO485.out (fun _ hk => hk.2)⟩, ⟨gB (BK478.out)⟩, ⟨bl1 HB GE478⟩⟩
 case round =>
  clear H'
  try clear c1
  try clear c2
  try clear p2
  try clear c4
  try clear c6
  try clear c6b0
  try clear c6b1
  try clear c7
  try clear c7b0
  try clear c7b1
  try clear hcz11_0
  try clear hcz11_1
  try clear hcz13_0
  try clear hcz13_1
  try clear hcz9_0
  try clear hcz9_1
  try clear hfz11_0
  try clear hfz11_1
  try clear hfz13_0
  try clear hfz13_1
  try clear hfz9_0
  try clear hfz9_1
  obtain ⟨x5_1, x6_1, x20_1, rfl, HA, HK1, HO_5, HO_6, BK478, HB⟩ := hrel
  have hl6_1 := (Kd.R_reads' HO_6.out).1
  rw [hl6_1] at HO_6
  (try simp only [hl6_1])
  (try simp only [hl6_1] at BK478)
  (try simp only [hl6_1] at HO_5)
  cases gk with
  | zero => exact absurd HA.out (by simp [impl_IslandNumbers.l0])
  | succ k1 =>
   have H := HA.out
   clear HA
   simp only [impl_IslandNumbers.l0] at H
   by_cases c17 : x20_1 < (y483.length : Int)
   rotate_left
   ·
    rw [if_neg c17] at H
    have c17b0 : decide (x20_1 < (y483.length : Int)) = false := decide_eq_false c17
    have c17b0t0 : decide (x20_1 < (x6_1.length : Int)) = false := by have z_ := c17b0; rw [hl6_1] at z_; exact z_
    clear c17
    obtain rfl := Option.some.inj H
    go_wp2
    go_ret
    exact ⟨_, fR, by (with_reducible repeat (first | apply Kd.R_alloc | apply Kd.R_drewN | apply Kd.R_drew)); exact Kd.R_mono HO_6.out (fun _ hk => trivial), bl1 HB GE478⟩
   rw [if_pos c17] at H
   have c17b0 : decide (x20_1 < (y483.length : Int)) = true := decide_eq_true c17
   have c17b0t0 : decide (x20_1 < (x6_1.length : Int)) = true := by have z_ := c17b0; rw [hl6_1] at z_; exact z_
   clear c17
   replace H := Option.bind_eq_some_iff.mp H
   obtain ⟨⟨t486, t487⟩, A180, H⟩ := H
   replace H : (if 0 ≤ x20_1 then (if x20_1 < (x6_1.length : Int) then (impl_IslandNumbers.l0 k1 t487 (x6_1.set (x20_1 : Int).toNat t486) (y483.length : Int) (wrap64 (x20_1 + 1))) else (none)) else (none)) = some r := H
   have A18 := Aside0.mk A180
   clear A180
   by_cases c19 : 0 ≤ x20_1
   rotate_left
   ·
    rw [if_neg c19] at H
    exact absurd H (by simp)
   rw [if_pos c19] at H
   have c19b0 : decide (0 ≤ x20_1) = true := decide_eq_true c19
   clear c19
   by_cases c20 : x20_1 < (x6_1.length : Int)
   rotate_left
   ·
    rw [if_neg c20] at H
    exact absurd H (by simp)
   rw [if_pos c20] at H
   have c20b0 : decide (x20_1 < (x6_1.length : Int)) = true := decide_eq_true c20
   clear c20
   obtain ⟨y488, hy488⟩ : ∃ y_ : List Int, y_ = (x6_1.set (x20_1 : Int).toNat t486) := ⟨_, rfl⟩
   replace H : (impl_IslandNumbers.l0 k1 t487 y488 (y483.length : Int) (wrap64 (x20_1 + 1))) = some r := by first | (rw [hy488]; with_reducible exact H) | (have H2_ := (Option.bind_some _ _).symm.trans H; rw [hy488]; with_reducible exact H2_) | (have H2_ := (Option.bind_some _ _).symm.trans H; with_reducible exact H2_) | with_reducible exact H | (rw [hy488]; exact H) | exact H
   have Ny488 := Aside0.mk hy488
   clear hy488
   have H' := Aside0.mk H
   clear H
   obtain ⟨Ao22, co22, eo22⟩ := Kd.R_slice HO_5.out
   subst eo22
   go_wp2_with (first | ((with_reducible refine gate_callee (f := 73) rfl ?_); refine goesL_ (some 27) rfl rfl Tryd.func73 (by kernel_rfl) rfl #[.slice Ao22 x5_1.length co22, .int .i64 x20_1] rfl mP ?_; (with_reducible refine (impl_union_find.calls k1 (fun k_ => some k_ = (.slice Ao22 x5_1.length co22 : Value).ownBlock) (.slice Ao22 x5_1.length co22) x5_1 x20_1 t486 t487 w _ ?side1 ?side2 A18.out).mono ?_); (case side1 => repeat (first | (with_reducible first | exact HB.out | apply below_alloc | apply pw_below_drewN | apply below_drew1 | refine below_set ?_ GE478.out) | exact HB.out)); (case side2 => exact Kd.R_tight rfl HO_5.out); rintro e w23 ⟨rfl, hy0, hb, hkp⟩; refine ⟨_, rfl, ?_⟩; have n0_ := aM (Kd.R_reok rfl hy0 (fun k_ e_ => HO_5.out.1 k_ e_)); have n1_ := aM (Kd.R_mono (ok' := fun k_ => some k_ ≠ (.slice Ao22 x5_1.length co22 : Value).ownBlock) (Kd.R_keptB (HO_6.out) hkp (fun k_ hk_ hs_ => (hk_) hs_)) (fun k_ hk_ => hk_.1)); have n2_ := aM (blk_kept (gB (BK478.out)) hkp (fun hs_ => (fun e_ => (Kd.R_ne HO_5.out BK478.out (by decide)) e_) hs_)); have n3_ := aM (hb); clear HO_5; clear HO_6; clear BK478; clear HB; have HO_5 := n0_; have HO_6 := n1_; have BK478 := n2_; have HB := n3_; clear n0_ n1_ n2_ n3_; (try clear hb); (try clear hkp); (try clear hy0); have p21 : 0 ≤ (x20_1 : Int) := oD; have q21 : (x20_1 : Int) < ((x6_1.length : Int) : Int) := oD; obtain ⟨go21, co21, eo21, gb21, gl21, cl21, HG21⟩ := Kd.R_form HO_6.out (by first | omega | (obtain ⟨_, _, e_⟩ := Kd.R_slice HO_6.out; injection e_ with _ e_ _; omega)); (first | cases eo21 | (injection eo21 with ea_ en_ ec_; (first | subst ea_ | (injection ea_ with ea_; subst ea_)); subst ec_; clear en_)); have GB21 := Aside0.mk gb21; have GG21 := Aside0.mk HG21; clear gb21 gl21 HG21; obtain ⟨hx21_0, hf21_0⟩ := Kd.R_celln 0 HO_6.out (x20_1 : Int) p21 q21; replace p21 := eq_true p21; replace q21 := eq_true q21; obtain ⟨hy24_, hz24_⟩ := Kd.R_celln 0 HO_6.out (x20_1 : Int) (oD) (oD); have HP24 := Kd.R_putg HO_6.out (x20_1 : Int) t486) | ((with_reducible refine gate_store (t := 3) (p := 28) rfl ?_); refine store_event (t := 3) (p := 28) (v := ?vo_w25) (w1 := (w23.setCell ⟨go21, (x20_1 : Int).toNat, none⟩ (.int .i64 t486))) ?hg ?ho ?hn ?hr ?_; (case ho => rfl); (case hg => rfl); (case hn => rfl); (case hr => exact hR); intro w25 hw; have hg : w23.grownBy w25 (some go21) := (by rw [hw]; exact HP24.2); have hp_ : Kd.R (Kd.int .i64) 3 w25 w.heap.size (fun k_ => some k_ ≠ (.slice Ao22 x5_1.length co22 : Value).ownBlock) (.slice (some ⟨go21, 0, none⟩) x6_1.length co16) y488 := (by rw [hw, Ny488.out]; exact HP24.1); clear HP24; have n0_ := aM (Kd.R_after (v := (.slice (some ⟨go21, 0, none⟩) x6_1.length co16)) (v1 := (.slice (some ⟨go21, 0, none⟩) x6_1.length co16)) (ok := (fun _ => True)) (by (with_reducible repeat (first | apply Kd.R_alloc | apply Kd.R_drewN | apply Kd.R_drew)); exact Kd.R_mono HO_5.out (fun _ hk => ⟨trivial, hk⟩)) hg (.inl rfl)); have n1_ := aM (hp_); have n2_ := aM (blk_grown (g := gb478) (o := .cells #[.int .i64 a0_0, .slice A0_1 l0_1.length c0_1] 25 (0, 0)) (gB (BK478.out)) hg (Kd.R_ne HO_6.out BK478.out (by decide))); have n3_ := aM ((by rw [hw]; exact below_set (HB.out) GB21.out : Below w.heap.size w w25)); clear HO_5; clear HO_6; clear BK478; clear HB; have HO_5 := n0_; have HO_6 := n1_; have BK478 := n2_; have HB := n3_; clear n0_ n1_ n2_ n3_; clear hg hw hp_))
   (try simp only [← hl6_1])
   go_roundg k1
   case measure => have := HK1.out; omega
   case rel => exact ⟨(t487), (y488), (wrap64 (x20_1 + 1)), fS, H', ⟨by have := HK1.out; omega⟩, ⟨by (try simp only [hl6_1]); (with_reducible repeat (first | apply Kd.R_alloc | apply Kd.R_drewN | apply Kd.R_drew)); exact Kd.R_mono HO_5.out (fun _ hk => hk.2)⟩, ⟨by (try simp only [hl6_1]); (with_reducible repeat (first | apply Kd.R_alloc | apply Kd.R_drewN | apply Kd.R_drew)); exact HO_6.out⟩, ⟨by (try simp only [hl6_1]); (with_reducible repeat (first | refine blk_drewN ?_ _ | refine blk_drew ?_ | refine blk_alloc ?_ _)); exact BK478.out⟩, ⟨bl1 HB GE478⟩⟩

end Go.Proofs.YtpgjgbjkfgbpaaaDoor.P
namespace Go.Proofs.YtpgjgbjkfgbpaaaDoor.P
open Go.RowKit Go.Proofs.YtpgjgbjkfgbpaaaDoorW.PrintWords Go.Proofs.YtpgjgbjkfgbpaaaDoorW.PrintLast Go.Proofs.YtpgjgbjkfgbpaaaDoorW.PrintMore
attribute [local go_sem] max2_int min2_int max_two min_two max_three min_three max_four min_four   -- for this text's walks alone
set_option linter.unusedVariables false
set_option linter.unusedSimpArgs false

/-! ### slices_Clone_bool_bool: function 118 -/
def slices_Clone_bool_bool.f (l0 : List Bool) : Option (List Bool) := if l0.length < 140737488355328 then (some l0) else (none)
set_option maxHeartbeats 8000000 in
set_option maxRecDepth 100000 in
theorem slices_Clone_bool_bool.calls (A0 : Option Addr) (c0 : Nat) (l0 : List Bool) (r : List Bool) (w : World) (hr0 : Kd.C Kd.bool w A0 l0.length l0) (hc0 : l0.length ≤ c0) (h : slices_Clone_bool_bool.f l0 = some r) :
  Calls Tryd.prog 118 #[.slice A0 l0.length c0] w fun e w' => ∃ v0_ : Value, e = .returned (v0_) ∧ Kd.R Kd.bool 4 w' w.heap.size (fun _ => True) v0_ r ∧ Below w.heap.size w w' := by
 have H : (if l0.length < 140737488355328 then (some l0) else (none)) = some r := h
 clear h
 by_cases c2 : l0.length < 140737488355328
 rotate_left
 ·
  rw [if_neg c2] at H
  exact absurd H (by simp)
 rw [if_pos c2] at H
 have LMc2 := Aside0.mk c2
 clear c2
 have HE := aM (Option.some.inj H)
 clear H
 cases A0 with
 | none =>
  have h0 : l0 = [] := by
   cases hl : l0 with
   | nil => rfl
   | cons a l =>
    obtain ⟨ad, e, _⟩ := hr0.2.2 (by rw [hl]; simp)
    cases e
  have HE' := HE.out
  subst h0
  subst HE'
  clear HE hr0 hc0
  have hnil := fun (W : World) => Lib.run_eql_slice_nil (P := Tryd.prog) W 26 4 none 0 c0 0 0 Tryd.underlying26
  go_enter Tryd.func118, Tryd.ntmps118
  go_wp2
  go_ret
  exact ⟨_, rfl, Kd.R_nil _ _ _ _ _, Below.refl _ _⟩
 | some ad =>
  have HR0 := Aside0.mk hr0
  have HC0 := Aside0.mk hc0
  clear hr0 hc0
  have HB := aM (Below.refl w.heap.size w)
  obtain ⟨y152, hy152⟩ : ∃ y_ : List Bool, y_ = (([] : List Bool)) := ⟨_, rfl⟩
  have Ny152 := Aside0.mk hy152
  clear hy152
  have hnil := fun (W : World) => Lib.run_eql_slice_nil (P := Tryd.prog) W 26 4 (some ad) l0.length c0 0 0 Tryd.underlying26
  simp only [Option.isNone_some] at hnil
  go_enter Tryd.func118, Tryd.ntmps118
  go_wp2_with (first | ((with_reducible refine gate_dst (N := 5) rfl ?_); refine Kd.R_lit Kd.bool _ 4 ?hg (N := 5) ?hd (xs := ([] : List Bool)) (inner := []) (ok := fun _ => True) (okp := fun _ => True) ?hr ?hp (fun _ hk => hk) trivial (Below.refl _ _) (Nat.le_refl _) (by simp) ?_; (case hd => rfl); (case hg => rfl); (case hr => exact hR); (case hp => exact (Reps.none _ _)); intro v153 w3 ho4 hb hg_ hnew_; clear hg_ hnew_; (first | rw [← Ny152.out] at ho4 | (simp only [Int.reduceToNat] at ho4; rw [← Ny152.out] at ho4)); have n0_ := aM (Kd.R_lower ho4 (below_size (bl0 HB))); have n1_ := aM (below_step (bl0 HB) hb); clear HB; have HO154 := n0_; have HB := n1_; clear n0_ n1_; clear hb ho4) | ((with_reducible refine gate_builtin (b := .append) (xs := #[.tmp 5, .tmp 6]) rfl ?_); at_builtin; refine Kd.R_append_rows Kd.bool (w0 := w) w.heap.size rfl (.tmp 5) (.tmp 6) 26 4 (.bool false) 1 rfl Tryd.underlying26 info4 rfl (by decide) (by omega) v153 y152 l0 _ _ _ (fun _ => True) (fun _ => False) rfl rfl ?aO ?aR (fun _ _ h => h) (fun _ h => h.elim) ?aF ?aB ?aS ?aL ?_; (case aR => repeat (first | exact (Kd.C_below HR0.out HB.out) | (with_reducible refine Kd.C_alloc ?_ _) | (with_reducible refine Kd.C_drewN ?_ _) | (with_reducible refine Kd.C_drew ?_))); (case aB => exact (bl0 HB)); (case aF => exact (fun _ _ => trivial)); (case aO => exact (gR (HO154.out))); (case aS => exact (below_size (bl0 HB))); (case aL => have := LMc2.out; have e_ : y152.length = 0 := (by rw [Ny152.out]; rfl); omega); intro v156 w5 ho hb hg hat; have n0_ := aM (hb); have n1_ := aM (ho); clear HB; clear HO154; have HB := n0_; have HO157 := n1_; clear n0_ n1_; clear ho hb hg hat))
  go_ret
  have hr := HO157.out
  rw [Ny152.out, HE.out] at hr
  exact ⟨_, rfl, hr, HB.out⟩

end Go.Proofs.YtpgjgbjkfgbpaaaDoor.P
namespace Go.Proofs.YtpgjgbjkfgbpaaaDoor.P
open Go.RowKit Go.Proofs.YtpgjgbjkfgbpaaaDoorW.PrintWords Go.Proofs.YtpgjgbjkfgbpaaaDoorW.PrintLast Go.Proofs.YtpgjgbjkfgbpaaaDoorW.PrintMore
attribute [local go_sem] max2_int min2_int max_two min_two max_three min_three max_four min_four   -- for this text's walks alone
set_option linter.unusedVariables false
set_option linter.unusedSimpArgs false

/-! ### impl_SwitchLine: function 86 -/
def impl_SwitchLine.f (k : Nat) (a0_0 : Int) (l0_1 : List (S79)) (l1 : List Bool) (a2 : Int) (a3 : Bool) : Option (List Bool × Bool) := (impl_StateValid.f k a0_0 l0_1 l1).bind fun t490 => (if t490 = true then ((slices_Clone_bool_bool.f l1).bind fun t491 => ((impl_Net_hasLine.f a0_0 l0_1 a2).bind fun t494 => (if t494 = true then (if 0 ≤ a2 then (if a2 < (t491.length : Int) then (some ((t491.set (a2 : Int).toNat a3), true)) else (none)) else (none)) else (some (t491, false))))) else (some (([] : List Bool), false)))
theorem impl_SwitchLine.mono : ∀ a0 a1 a2 a3 a4 k, LeO (impl_SwitchLine.f k a0 a1 a2 a3 a4) (impl_SwitchLine.f (k + 1) a0 a1 a2 a3 a4) := by
 intro a0 a1 a2 a3 a4 k
 unfold impl_SwitchLine.f
 repeat' first
   | (with_reducible exact impl_StateValid.mono _ _ _ _)
   | (with_reducible exact LeO.refl _)
   | (with_reducible exact LeO.none _)
   | (with_reducible refine LeO.ite ?_ ?_)
   | (with_reducible refine LeO.bind ?_ (fun _ => ?_))
   | exact impl_StateValid.mono _ _ _ _
   | exact LeO.none _
   | refine LeO.ite ?_ ?_
   | refine LeO.bind ?_ (fun _ => ?_)
set_option maxHeartbeats 8000000 in
set_option maxRecDepth 100000 in
theorem impl_SwitchLine.calls (k : Nat) (a0_0 : Int) (A0_1 : Option Addr) (c0_1 : Nat) (l0_1 : List (S79)) (A1 : Option Addr) (c1 : Nat) (l1 : List Bool) (a2 : Int) (a3 : Bool) (r1 : List Bool) (r2 : Bool) (w : World) (hr0_1 : Kd.C k79 w A0_1 l0_1.length l0_1) (hc0_1 : l0_1.length ≤ c0_1) (hr1 : Kd.C Kd.bool w A1 l1.length l1) (hc1 : l1.length ≤ c1) (h : impl_SwitchLine.f k a0_0 l0_1 l1 a2 a3 = some (r1, r2)) :
  Calls Tryd.prog 86 #[.agg #[.int .i64 a0_0, .slice A0_1 l0_1.length c0_1], .slice A1 l1.length c1, .int .i64 a2, .bool a3] w fun e w' => ∃ v0_ : Value, e = .returned (.tuple #[v0_, .bool r2]) ∧ Kd.R Kd.bool 4 w' w.heap.size (fun _ => True) v0_ r1 ∧ Below w.heap.size w w' := by
 have hu25 := Tryd.underlying25
 have HR0_1 := Aside0.mk hr0_1
 have HC0_1 := Aside0.mk hc0_1
 clear hr0_1 hc0_1
 have HR1 := Aside0.mk hr1
 have HC1 := Aside0.mk hc1
 clear hr1 hc1
 have HB := aM (Below.refl w.heap.size w)
 have H : ((impl_StateValid.f k a0_0 l0_1 l1).bind fun t490 => (if t490 = true then ((slices_Clone_bool_bool.f l1).bind fun t491 => ((impl_Net_hasLine.f a0_0 l0_1 a2).bind fun t494 => (if t494 = true then (if 0 ≤ a2 then (if a2 < (t491.length : Int) then (some ((t491.set (a2 : Int).toNat a3), true)) else (none)) else (none)) else (some (t491, false))))) else (some (([] : List Bool), false)))) = some (r1, r2) := h
 clear h
 replace H := Option.bind_eq_some_iff.mp H
 obtain ⟨t490, A50, H⟩ := H
 replace H : (if t490 = true then ((slices_Clone_bool_bool.f l1).bind fun t491 => ((impl_Net_hasLine.f a0_0 l0_1 a2).bind fun t494 => (if t494 = true then (if 0 ≤ a2 then (if a2 < (t491.length : Int) then (some ((t491.set (a2 : Int).toNat a3), true)) else (none)) else (none)) else (some (t491, false))))) else (some (([] : List Bool), false))) = some (r1, r2) := H
 have A5 := Aside0.mk A50
 clear A50
 by_cases c6 : t490 = true
 rotate_left
 ·
  replace c6 := Bool.eq_false_iff.mpr c6
  subst c6
  have H1 : (some (([] : List Bool), false)) = some (r1, r2) := by rw [if_neg (show ¬ (false = true) by decide)] at H; exact H
  clear H
  have H := H1
  clear H1
  simp only [Option.some.injEq, Prod.mk.injEq] at H
  obtain ⟨rfl, rfl⟩ := H
  go_enter Tryd.func86, Tryd.ntmps86
  go_wp2_with (first | ((with_reducible refine gate_dst (N := 4) rfl ?_); refine box_event ?hg (N := 4) ?hd (cs := #[.int .i64 a0_0, .slice A0_1 l0_1.length c0_1]) (t := 25) ?hr ?_; (case hd => rfl); (case hg => rfl); (case hr => exact hR); intro gb489 hg w27 hbox hb; have n0_ := aM (below_step (bl0 HB) hb); have n1_ := aM (hbox); have n2_ := aM ((by rw [hg]; exact (below_size (bl0 HB)) : w.heap.size ≤ gb489)); have n3_ := aM ((by rw [hg]; exact (below_size (bl0 HB)) : w.heap.size ≤ gb489)); clear HB; have HB := n0_; have BK489 := n1_; have GW489 := n2_; have GE489 := n3_; clear n0_ n1_ n2_ n3_; clear hb hbox hg; have hcz28_0 : w27.cell? ⟨gb489, 0, none⟩ = some (.int .i64 a0_0) := (blk_cell BK489.out 0).trans rfl; have hcz28_1 : w27.cell? ⟨gb489, 1, none⟩ = some (.slice A0_1 l0_1.length c0_1) := (blk_cell BK489.out 1).trans rfl; have hfz28_0 := blk_frozen BK489.out 0; have hfz28_1 := blk_frozen BK489.out 1) | ((with_reducible refine gate_callee (f := 77) rfl ?_); refine goesL_ (some 13) rfl rfl Tryd.func77 (by kernel_rfl) rfl #[.agg #[.int .i64 a0_0, .slice A0_1 l0_1.length c0_1], .slice A1 l1.length c1] rfl mP ?_; (with_reducible refine (impl_StateValid.calls k a0_0 _ _ l0_1 _ _ l1 false _ ?side1 ?side2 ?side3 ?side4 A5.out).mono ?_); (case side1 => exact gC ((Kd.C_below HR0_1.out HB.out))); (case side2 => exact HC0_1.out); (case side3 => exact gC ((Kd.C_below HR1.out HB.out))); (case side4 => exact HC1.out); rintro e w29 ⟨rfl, hb⟩; refine ⟨_, rfl, ?_⟩; have n0_ := aM (blk_below (g := gb489) (o := .cells #[.int .i64 a0_0, .slice A0_1 l0_1.length c0_1] 25 (0, 0)) (gB (BK489.out)) hb); have n1_ := aM (below_step (bl1 HB GE489) hb); clear BK489; clear HB; have BK489 := n0_; have HB := n1_; clear n0_ n1_; (try clear hb); (try clear hb2); (try clear hk); (try clear hi)))
  go_ret2
  exact ⟨_, fR, by first | exact Kd.R_nil _ _ _ _ _ | exact Kd.N_nil _ _ _ _ _ | exact Kd.V_nil _ _ _ _ _ | exact Kd.Q_nil _ _ _ _ _ | exact Kd.S_nil _ _ _ _ _, bl1 HB GE489⟩
 subst c6
 have H1 : ((slices_Clone_bool_bool.f l1).bind fun t491 => ((impl_Net_hasLine.f a0_0 l0_1 a2).bind fun t494 => (if t494 = true then (if 0 ≤ a2 then (if a2 < (t491.length : Int) then (some ((t491.set (a2 : Int).toNat a3), true)) else (none)) else (none)) else (some (t491, false))))) = some (r1, r2) := by rw [if_pos rfl] at H; exact H
 clear H
 have H := H1
 clear H1
 replace H := Option.bind_eq_some_iff.mp H
 obtain ⟨t491, A70, H⟩ := H
 replace H : ((impl_Net_hasLine.f a0_0 l0_1 a2).bind fun t494 => (if t494 = true then (if 0 ≤ a2 then (if a2 < (t491.length : Int) then (some ((t491.set (a2 : Int).toNat a3), true)) else (none)) else (none)) else (some (t491, false)))) = some (r1, r2) := H
 have A7 := Aside0.mk A70
 clear A70
 replace H := Option.bind_eq_some_iff.mp H
 obtain ⟨t494, A80, H⟩ := H
 replace H : (if t494 = true then (if 0 ≤ a2 then (if a2 < (t491.length : Int) then (some ((t491.set (a2 : Int).toNat a3), true)) else (none)) else (none)) else (some (t491, false))) = some (r1, r2) := H
 have A8 := Aside0.mk A80
 clear A80
 by_cases c9 : t494 = true
 rotate_left
 ·
  replace c9 := Bool.eq_false_iff.mpr c9
  subst c9
  have H1 : (some (t491, false)) = some (r1, r2) := by rw [if_neg (show ¬ (false = true) by decide)] at H; exact H
  clear H
  have H := H1
  clear H1
  simp only [Option.some.injEq, Prod.mk.injEq] at H
  obtain ⟨rfl, rfl⟩ := H
  go_enter Tryd.func86, Tryd.ntmps86
  go_wp2_with (first | ((with_reducible refine gate_dst (N := 4) rfl ?_); refine box_event ?hg (N := 4) ?hd (cs := #[.int .i64 a0_0, .slice A0_1 l0_1.length c0_1]) (t := 25) ?hr ?_; (case hd => rfl); (case hg => rfl); (case hr => exact hR); intro gb489 hg w21 hbox hb; have n0_ := aM (below_step (bl0 HB) hb); have n1_ := aM (hbox); have n2_ := aM ((by rw [hg]; exact (below_size (bl0 HB)) : w.heap.size ≤ gb489)); have n3_ := aM ((by rw [hg]; exact (below_size (bl0 HB)) : w.heap.size ≤ gb489)); clear HB; have HB := n0_; have BK489 := n1_; have GW489 := n2_; have GE489 := n3_; clear n0_ n1_ n2_ n3_; clear hb hbox hg; have hcz22_0 : w21.cell? ⟨gb489, 0, none⟩ = some (.int .i64 a0_0) := (blk_cell BK489.out 0).trans rfl; have hcz22_1 : w21.cell? ⟨gb489, 1, none⟩ = some (.slice A0_1 l0_1.length c0_1) := (blk_cell BK489.out 1).trans rfl; have hfz22_0 := blk_frozen BK489.out 0; have hfz22_1 := blk_frozen BK489.out 1) | ((with_reducible refine gate_callee (f := 77) rfl ?_); refine goesL_ (some 13) rfl rfl Tryd.func77 (by kernel_rfl) rfl #[.agg #[.int .i64 a0_0, .slice A0_1 l0_1.length c0_1], .slice A1 l1.length c1] rfl mP ?_; (with_reducible refine (impl_StateValid.calls k a0_0 _ _ l0_1 _ _ l1 true _ ?side1 ?side2 ?side3 ?side4 A5.out).mono ?_); (case side1 => exact gC ((Kd.C_below HR0_1.out HB.out))); (case side2 => exact HC0_1.out); (case side3 => exact gC ((Kd.C_below HR1.out HB.out))); (case side4 => exact HC1.out); rintro e w23 ⟨rfl, hb⟩; refine ⟨_, rfl, ?_⟩; have n0_ := aM (blk_below (g := gb489) (o := .cells #[.int .i64 a0_0, .slice A0_1 l0_1.length c0_1] 25 (0, 0)) (gB (BK489.out)) hb); have n1_ := aM (below_step (bl1 HB GE489) hb); clear BK489; clear HB; have BK489 := n0_; have HB := n1_; clear n0_ n1_; (try clear hb); (try clear hb2); (try clear hk); (try clear hi)) | ((with_reducible refine gate_callee (f := 118) rfl ?_); refine goesL_ (some 16) rfl rfl Tryd.func118 (by kernel_rfl) rfl #[.slice A1 l1.length c1] rfl mP ?_; (with_reducible refine (slices_Clone_bool_bool.calls _ _ l1 t491 _ ?side1 ?side2 A7.out).mono ?_); (case side1 => exact gC ((Kd.C_below HR1.out HB.out))); (case side2 => exact HC1.out); rintro e w24 ⟨v492, rfl, ho0, hb⟩; refine ⟨_, rfl, ?_⟩; have n0_ := aM (Kd.R_lower ho0 (below_size (bl1 HB GE489))); have n1_ := aM (blk_below (g := gb489) (o := .cells #[.int .i64 a0_0, .slice A0_1 l0_1.length c0_1] 25 (0, 0)) (gB (BK489.out)) hb); have n2_ := aM (below_step (bl1 HB GE489) hb); clear BK489; clear HB; have HO493 := n0_; have BK489 := n1_; have HB := n2_; clear n0_ n1_ n2_; (try clear hb); (try clear hb2); (try clear hk); (try clear hi); (try clear ho0); have hcz25_0 : w24.cell? ⟨gb489, 0, none⟩ = some (.int .i64 a0_0) := (blk_cell BK489.out 0).trans rfl; have hcz25_1 : w24.cell? ⟨gb489, 1, none⟩ = some (.slice A0_1 l0_1.length c0_1) := (blk_cell BK489.out 1).trans rfl; have hfz25_0 := blk_frozen BK489.out 0; have hfz25_1 := blk_frozen BK489.out 1) | ((with_reducible refine gate_callee (f := 99) rfl ?_); refine goesL_ (some 19) rfl rfl Tryd.func99 (by kernel_rfl) rfl #[.agg #[.int .i64 a0_0, .slice A0_1 l0_1.length c0_1], .int .i64 a2] rfl mP ?_; (with_reducible refine (impl_Net_hasLine.calls a0_0 _ _ l0_1 a2 false _ ?side1 ?side2 A8.out).mono ?_); (case side1 => exact gC ((Kd.C_below HR0_1.out HB.out))); (case side2 => exact HC0_1.out); rintro e w26 ⟨rfl, hb⟩; refine ⟨_, rfl, ?_⟩; have n0_ := aM (Kd.R_below (gR (HO493.out)) hb); have n1_ := aM (blk_below (g := gb489) (o := .cells #[.int .i64 a0_0, .slice A0_1 l0_1.length c0_1] 25 (0, 0)) (gB (BK489.out)) hb); have n2_ := aM (below_step (bl1 HB GE489) hb); clear HO493; clear BK489; clear HB; have HO493 := n0_; have BK489 := n1_; have HB := n2_; clear n0_ n1_ n2_; (try clear hb); (try clear hb2); (try clear hk); (try clear hi)))
  go_ret2
  exact ⟨_, fR, gR (HO493.out), bl1 HB GE489⟩
 subst c9
 have H1 : (if 0 ≤ a2 then (if a2 < (t491.length : Int) then (some ((t491.set (a2 : Int).toNat a3), true)) else (none)) else (none)) = some (r1, r2) := by rw [if_pos rfl] at H; exact H
 clear H
 have H := H1
 clear H1
 by_cases c10 : 0 ≤ a2
 rotate_left
 ·
  rw [if_neg c10] at H
  exact absurd H (by simp)
 rw [if_pos c10] at H
 have c10b0 : decide (0 ≤ a2) = true := decide_eq_true c10
 clear c10
 by_cases c11 : a2 < (t491.length : Int)
 rotate_left
 ·
  rw [if_neg c11] at H
  exact absurd H (by simp)
 rw [if_pos c11] at H
 have c11b0 : decide (a2 < (t491.length : Int)) = true := decide_eq_true c11
 clear c11
 obtain ⟨y495, hy495⟩ : ∃ y_ : List Bool, y_ = (t491.set (a2 : Int).toNat a3) := ⟨_, rfl⟩
 replace H : (some (y495, true)) = some (r1, r2) := by first | (rw [hy495]; with_reducible exact H) | (have H2_ := (Option.bind_some _ _).symm.trans H; rw [hy495]; with_reducible exact H2_) | (have H2_ := (Option.bind_some _ _).symm.trans H; with_reducible exact H2_) | with_reducible exact H | (rw [hy495]; exact H) | exact H
 have Ny495 := Aside0.mk hy495
 clear hy495
 simp only [Option.some.injEq, Prod.mk.injEq] at H
 obtain ⟨rfl, rfl⟩ := H
 go_enter Tryd.func86, Tryd.ntmps86
 go_wp2_with (first | ((with_reducible refine gate_dst (N := 4) rfl ?_); refine box_event ?hg (N := 4) ?hd (cs := #[.int .i64 a0_0, .slice A0_1 l0_1.length c0_1]) (t := 25) ?hr ?_; (case hd => rfl); (case hg => rfl); (case hr => exact hR); intro gb489 hg w13 hbox hb; have n0_ := aM (below_step (bl0 HB) hb); have n1_ := aM (hbox); have n2_ := aM ((by rw [hg]; exact (below_size (bl0 HB)) : w.heap.size ≤ gb489)); have n3_ := aM ((by rw [hg]; exact (below_size (bl0 HB)) : w.heap.size ≤ gb489)); clear HB; have HB := n0_; have BK489 := n1_; have GW489 := n2_; have GE489 := n3_; clear n0_ n1_ n2_ n3_; clear hb hbox hg; have hcz14_0 : w13.cell? ⟨gb489, 0, none⟩ = some (.int .i64 a0_0) := (blk_cell BK489.out 0).trans rfl; have hcz14_1 : w13.cell? ⟨gb489, 1, none⟩ = some (.slice A0_1 l0_1.length c0_1) := (blk_cell BK489.out 1).trans rfl; have hfz14_0 := blk_frozen BK489.out 0; have hfz14_1 := blk_frozen BK489.out 1) | ((with_reducible refine gate_callee (f := 77) rfl ?_); refine goesL_ (some 13) rfl rfl Tryd.func77 (by kernel_rfl) rfl #[.agg #[.int .i64 a0_0, .slice A0_1 l0_1.length c0_1], .slice A1 l1.length c1] rfl mP ?_; (with_reducible refine (impl_StateValid.calls k a0_0 _ _ l0_1 _ _ l1 true _ ?side1 ?side2 ?side3 ?side4 A5.out).mono ?_); (case side1 => exact gC ((Kd.C_below HR0_1.out HB.out))); (case side2 => exact HC0_1.out); (case side3 => exact gC ((Kd.C_below HR1.out HB.out))); (case side4 => exact HC1.out); rintro e w15 ⟨rfl, hb⟩; refine ⟨_, rfl, ?_⟩; have n0_ := aM (blk_below (g := gb489) (o := .cells #[.int .i64 a0_0, .slice A0_1 l0_1.length c0_1] 25 (0, 0)) (gB (BK489.out)) hb); have n1_ := aM (below_step (bl1 HB GE489) hb); clear BK489; clear HB; have BK489 := n0_; have HB := n1_; clear n0_ n1_; (try clear hb); (try clear hb2); (try clear hk); (try clear hi)) | ((with_reducible refine gate_callee (f := 118) rfl ?_); refine goesL_ (some 16) rfl rfl Tryd.func118 (by kernel_rfl) rfl #[.slice A1 l1.length c1] rfl mP ?_; (with_reducible refine (slices_Clone_bool_bool.calls _ _ l1 t491 _ ?side1 ?side2 A7.out).mono ?_); (case side1 => exact gC ((Kd.C_below HR1.out HB.out))); (case side2 => exact HC1.out); rintro e w16 ⟨v492, rfl, ho0, hb⟩; refine ⟨_, rfl, ?_⟩; have n0_ := aM (Kd.R_lower ho0 (below_size (bl1 HB GE489))); have n1_ := aM (blk_below (g := gb489) (o := .cells #[.int .i64 a0_0, .slice A0_1 l0_1.length c0_1] 25 (0, 0)) (gB (BK489.out)) hb); have n2_ := aM (below_step (bl1 HB GE489) hb); clear BK489; clear HB; have HO493 := n0_; have BK489 := n1_; have HB := n2_; clear n0_ n1_ n2_; (try clear hb); (try clear hb2); (try clear hk); (try clear hi); (try clear ho0); have hcz17_0 : w16.cell? ⟨gb489, 0, none⟩ = some (.int .i64 a0_0) := (blk_cell BK489.out 0).trans rfl; have hcz17_1 : w16.cell? ⟨gb489, 1, none⟩ = some (.slice A0_1 l0_1.length c0_1) := (blk_cell BK489.out 1).trans rfl; have hfz17_0 := blk_frozen BK489.out 0; have hfz17_1 := blk_frozen BK489.out 1) | ((with_reducible refine gate_callee (f := 99) rfl ?_); refine goesL_ (some 19) rfl rfl Tryd.func99 (by kernel_rfl) rfl #[.agg #[.int .i64 a0_0, .slice A0_1 l0_1.length c0_1], .int .i64 a2] rfl mP ?_; (with_reducible refine (impl_Net_hasLine.calls a0_0 _ _ l0_1 a2 true _ ?side1 ?side2 A8.out).mono ?_); (case side1 => exact gC ((Kd.C_below HR0_1.out HB.out))); (case side2 => exact HC0_1.out); rintro e w18 ⟨rfl, hb⟩; refine ⟨_, rfl, ?_⟩; have n0_ := aM (Kd.R_below (gR (HO493.out)) hb); have n1_ := aM (blk_below (g := gb489) (o := .cells #[.int .i64 a0_0, .slice A0_1 l0_1.length c0_1] 25 (0, 0)) (gB (BK489.out)) hb); have n2_ := aM (below_step (bl1 HB GE489) hb); clear HO493; clear BK489; clear HB; have HO493 := n0_; have BK489 := n1_; have HB := n2_; clear n0_ n1_ n2_; (try clear hb); (try clear hb2); (try clear hk); (try clear hi); have p12 : 0 ≤ (a2 : Int) := oD; have q12 : (a2 : Int) < ((t491.length : Int) : Int) := oD; obtain ⟨go12, co12, eo12, gb12, gl12, cl12, HG12⟩ := Kd.R_form HO493.out (by first | omega | (obtain ⟨_, _, e_⟩ := Kd.R_slice HO493.out; injection e_ with _ e_ _; omega)); (first | cases eo12 | (injection eo12 with ea_ en_ ec_; (first | subst ea_ | (injection ea_ with ea_; subst ea_)); subst ec_; clear en_)); have GB12 := Aside0.mk gb12; have GG12 := Aside0.mk HG12; clear gb12 gl12 HG12; obtain ⟨hx12_0, hf12_0⟩ := Kd.R_celln false HO493.out (a2 : Int) p12 q12; replace p12 := eq_true p12; replace q12 := eq_true q12; obtain ⟨hy19_, hz19_⟩ := Kd.R_celln false HO493.out (a2 : Int) (oD) (oD); have HP19 := Kd.R_putg HO493.out (a2 : Int) a3) | ((with_reducible refine gate_store (t := 4) (p := 25) rfl ?_); refine store_event (t := 4) (p := 25) (v := ?vo_w20) (w1 := (w18.setCell ⟨go12, (a2 : Int).toNat, none⟩ (.bool a3))) ?hg ?ho ?hn ?hr ?_; (case ho => rfl); (case hg => rfl); (case hn => rfl); (case hr => exact hR); intro w20 hw; have hg : w18.grownBy w20 (some go12) := (by rw [hw]; exact HP19.2); have hp_ : Kd.R Kd.bool 4 w20 w.heap.size (fun _ => True) (.slice (some ⟨go12, 0, none⟩) t491.length co12) y495 := (by rw [hw, Ny495.out]; exact HP19.1); clear HP19; have n0_ := aM (blk_grown (g := gb489) (o := .cells #[.int .i64 a0_0, .slice A0_1 l0_1.length c0_1] 25 (0, 0)) (gB (BK489.out)) hg (Kd.R_ne HO493.out BK489.out (by decide))); have n1_ := aM (hp_); have n2_ := aM ((by rw [hw]; exact below_set (HB.out) GB12.out : Below w.heap.size w w20)); clear BK489; clear HO493; clear HB; have BK489 := n0_; have HO493 := n1_; have HB := n2_; clear n0_ n1_ n2_; clear hg hw hp_))
 go_ret2
 exact ⟨_, fR, gR (HO493.out), bl1 HB GE489⟩

end Go.Proofs.YtpgjgbjkfgbpaaaDoor.P

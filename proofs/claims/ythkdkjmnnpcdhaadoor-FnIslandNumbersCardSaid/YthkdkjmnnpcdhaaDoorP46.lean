/- Contracts of Go functions of this seat's translation, written by this repo's wip/mk.py: it calls the kit's print.py with contracts typed by hand in place of functions that it does not take. Not trusted: Lean checks it. -/
import Derived.Test.YthkdkjmnnpcdhaaDoorP0
import Derived.Test.YthkdkjmnnpcdhaaDoorP28
import Derived.Test.YthkdkjmnnpcdhaaDoorP38
import Derived.Test.YthkdkjmnnpcdhaaDoorP40
namespace Go.Proofs.YthkdkjmnnpcdhaaDoor.P
open Go.RowKit Go.Proofs.YthkdkjmnnpcdhaaDoorW.PrintWords Go.Proofs.YthkdkjmnnpcdhaaDoorW.PrintLast Go.Proofs.YthkdkjmnnpcdhaaDoorW.PrintMore
attribute [local go_sem] max2_int min2_int max_two min_two max_three min_three max_four min_four   -- for this text's walks alone
set_option linter.unusedVariables false
set_option linter.unusedSimpArgs false

/-! ### impl_IslandNumbers: function 27 -/
def impl_IslandNumbers.l0 : Nat → List Int → List Int → Int → Int → Option (List Int)
 | 0, _, _, _, _ => none
 | k + 1, x5, x6, x19, x20 => if x20 < x19 then ((impl_union_find.f k x5 x20).bind fun bt514 => (if 0 ≤ x20 then (if x20 < (x6.length : Int) then (impl_IslandNumbers.l0 k bt514.2 (x6.set (x20 : Int).toNat bt514.1) x19 (wrap64 (x20 + 1))) else (none)) else (none))) else (some x6)
def impl_IslandNumbers.f (k : Nat) (a0_0 : Int) (l0_1 : List (S52)) (l1 : List Bool) : Option (List Int) := (impl_StateValid.f k a0_0 l0_1 l1).bind fun t507 => (if t507 = true then ((impl_unionOf.f k a0_0 l0_1 l1).bind fun t508 => (if 0 ≤ a0_0 then (if (a0_0 : Int).toNat ≤ 35184372088832 then ((some (List.replicate (a0_0 : Int).toNat 0 : List Int)).bind fun y511 => (impl_IslandNumbers.l0 k t508 y511 (y511.length : Int) 0)) else (none)) else (none))) else (some ([] : List Int)))
theorem impl_IslandNumbers.mono_l : ∀ k, (∀ y0 y1 y2 y3, LeO (impl_IslandNumbers.l0 k y0 y1 y2 y3) (impl_IslandNumbers.l0 (k + 1) y0 y1 y2 y3))
 | 0 => fun _ _ _ _ r h => by simp [impl_IslandNumbers.l0] at h
 | k + 1 => by
  have ih0 := impl_IslandNumbers.mono_l k
  ·
   intro y0 y1 y2 y3
   unfold impl_IslandNumbers.l0
   repeat' first
   | (with_reducible exact ih0 _ _ _ _)
   | (with_reducible exact impl_StateValid.mono _ _ _ _)
   | (with_reducible exact impl_unionOf.mono _ _ _ _)
   | (with_reducible exact impl_union_find.mono _ _ _)
   | (with_reducible exact LeO.refl _)
   | (with_reducible exact LeO.none _)
   | (with_reducible refine LeO.ite ?_ ?_)
   | (with_reducible refine LeO.bind ?_ (fun _ => ?_))
   | exact ih0 _ _ _ _
   | exact impl_StateValid.mono _ _ _ _
   | exact impl_unionOf.mono _ _ _ _
   | exact impl_union_find.mono _ _ _
   | exact LeO.none _
   | refine LeO.ite ?_ ?_
   | refine LeO.bind ?_ (fun _ => ?_)
theorem impl_IslandNumbers.mono : ∀ a0 a1 a2 k, LeO (impl_IslandNumbers.f k a0 a1 a2) (impl_IslandNumbers.f (k + 1) a0 a1 a2) := by
 intro a0 a1 a2 k
 have ih0 := impl_IslandNumbers.mono_l k
 unfold impl_IslandNumbers.f
 repeat' first
   | (with_reducible exact ih0 _ _ _ _)
   | (with_reducible exact impl_StateValid.mono _ _ _ _)
   | (with_reducible exact impl_unionOf.mono _ _ _ _)
   | (with_reducible exact impl_union_find.mono _ _ _)
   | (with_reducible exact LeO.refl _)
   | (with_reducible exact LeO.none _)
   | (with_reducible refine LeO.ite ?_ ?_)
   | (with_reducible refine LeO.bind ?_ (fun _ => ?_))
   | exact ih0 _ _ _ _
   | exact impl_StateValid.mono _ _ _ _
   | exact impl_unionOf.mono _ _ _ _
   | exact impl_union_find.mono _ _ _
   | exact LeO.none _
   | refine LeO.ite ?_ ?_
   | refine LeO.bind ?_ (fun _ => ?_)
set_option maxHeartbeats 8000000 in
set_option maxRecDepth 100000 in
theorem impl_IslandNumbers.calls (k : Nat) (a0_0 : Int) (A0_1 : Option Addr) (c0_1 : Nat) (l0_1 : List (S52)) (A1 : Option Addr) (c1 : Nat) (l1 : List Bool) (r : List Int) (w : World) (hr0_1 : Kd.C k52 w A0_1 l0_1.length l0_1) (hc0_1 : l0_1.length ≤ c0_1) (hr1 : Kd.C Kd.bool w A1 l1.length l1) (hc1 : l1.length ≤ c1) (h : impl_IslandNumbers.f k a0_0 l0_1 l1 = some r) :
  Calls Tryd.prog 27 #[.agg #[.int .i64 a0_0, .slice A0_1 l0_1.length c0_1], .slice A1 l1.length c1] w fun e w' => ∃ v0_ : Value, e = .returned (v0_) ∧ Kd.R (Kd.int .i64) 3 w' w.heap.size (fun _ => True) v0_ r ∧ Below w.heap.size w w' := by
 have hu39 := Tryd.underlying39
 have HR0_1 := Aside0.mk hr0_1
 have HC0_1 := Aside0.mk hc0_1
 clear hr0_1 hc0_1
 have HR1 := Aside0.mk hr1
 have HC1 := Aside0.mk hc1
 clear hr1 hc1
 have HB := Aside0.mk (Below.refl w.heap.size w)
 have H : ((impl_StateValid.f k a0_0 l0_1 l1).bind fun t507 => (if t507 = true then ((impl_unionOf.f k a0_0 l0_1 l1).bind fun t508 => (if 0 ≤ a0_0 then (if (a0_0 : Int).toNat ≤ 35184372088832 then ((some (List.replicate (a0_0 : Int).toNat 0 : List Int)).bind fun y511 => (impl_IslandNumbers.l0 k t508 y511 (y511.length : Int) 0)) else (none)) else (none))) else (some ([] : List Int)))) = some r := h
 clear h
 replace H := Option.bind_eq_some_iff.mp H
 obtain ⟨t507, A30, H⟩ := H
 replace H : (if t507 = true then ((impl_unionOf.f k a0_0 l0_1 l1).bind fun t508 => (if 0 ≤ a0_0 then (if (a0_0 : Int).toNat ≤ 35184372088832 then ((some (List.replicate (a0_0 : Int).toNat 0 : List Int)).bind fun y511 => (impl_IslandNumbers.l0 k t508 y511 (y511.length : Int) 0)) else (none)) else (none))) else (some ([] : List Int))) = some r := H
 have A3 := Aside0.mk A30
 clear A30
 by_cases c4 : t507 = true
 rotate_left
 ·
  replace c4 := Bool.eq_false_iff.mpr c4
  subst c4
  have H1 : (some ([] : List Int)) = some r := by rw [if_neg (show ¬ (false = true) by decide)] at H; exact H
  clear H
  have H := H1
  clear H1
  obtain rfl := Option.some.inj H
  go_enter Tryd.func27, Tryd.ntmps27
  go_wp2_with (first | ((with_reducible refine gate_dst (N := 2) rfl ?_); refine box_event ?hg (N := 2) ?hd (cs := #[.int .i64 a0_0, .slice A0_1 l0_1.length c0_1]) (t := 39) ?hr ?_; (case hd => rfl); (case hg => rfl); (case hr => exact hR); intro gb506 hg w26 hbox hb; have n0_ := Aside0.mk (below_step (bl0 HB) hb); have n1_ := Aside0.mk (hbox); have n2_ := Aside0.mk ((by rw [hg]; exact (below_size (bl0 HB)) : w.heap.size ≤ gb506)); have n3_ := Aside0.mk ((by rw [hg]; exact (below_size (bl0 HB)) : w.heap.size ≤ gb506)); clear HB; have HB := n0_; have BK506 := n1_; have GW506 := n2_; have GE506 := n3_; clear n0_ n1_ n2_ n3_; clear hb hbox hg; have hcz27_0 : w26.cell? ⟨gb506, 0, none⟩ = some (.int .i64 a0_0) := (blk_cell BK506.out 0).trans rfl; have hcz27_1 : w26.cell? ⟨gb506, 1, none⟩ = some (.slice A0_1 l0_1.length c0_1) := (blk_cell BK506.out 1).trans rfl; have hfz27_0 := blk_frozen BK506.out 0; have hfz27_1 := blk_frozen BK506.out 1) | ((with_reducible refine gate_callee (f := 54) rfl ?_); refine goesL_ (some 10) rfl rfl Tryd.func54 (by kernel_rfl) rfl #[.agg #[.int .i64 a0_0, .slice A0_1 l0_1.length c0_1], .slice A1 l1.length c1] rfl mP ?_; (with_reducible refine (impl_StateValid.calls k a0_0 _ _ l0_1 _ _ l1 false _ ?side1 ?side2 ?side3 ?side4 A3.out).mono ?_); (case side1 => exact gC ((Kd.C_below HR0_1.out HB.out))); (case side2 => exact HC0_1.out); (case side3 => exact gC ((Kd.C_below HR1.out HB.out))); (case side4 => exact HC1.out); rintro e w28 ⟨rfl, hb⟩; refine ⟨_, rfl, ?_⟩; have n0_ := Aside0.mk (blk_below (g := gb506) (o := .cells #[.int .i64 a0_0, .slice A0_1 l0_1.length c0_1] 39 (0, 0)) (gB (BK506.out)) hb); have n1_ := Aside0.mk (below_step (bl1 HB GE506) hb); clear BK506; clear HB; have BK506 := n0_; have HB := n1_; clear n0_ n1_; (try clear hb); (try clear hb2); (try clear hk); (try clear hi)))
  go_ret
  exact ⟨_, fR, by first | exact Kd.R_nil _ _ _ _ _ | exact Kd.N_nil _ _ _ _ _ | exact Kd.V_nil _ _ _ _ _ | exact Kd.Q_nil _ _ _ _ _ | exact Kd.S_nil _ _ _ _ _, bl1 HB GE506⟩
 subst c4
 have H1 : ((impl_unionOf.f k a0_0 l0_1 l1).bind fun t508 => (if 0 ≤ a0_0 then (if (a0_0 : Int).toNat ≤ 35184372088832 then ((some (List.replicate (a0_0 : Int).toNat 0 : List Int)).bind fun y511 => (impl_IslandNumbers.l0 k t508 y511 (y511.length : Int) 0)) else (none)) else (none))) = some r := by rw [if_pos rfl] at H; exact H
 clear H
 have H := H1
 clear H1
 replace H := Option.bind_eq_some_iff.mp H
 obtain ⟨t508, A50, H⟩ := H
 replace H : (if 0 ≤ a0_0 then (if (a0_0 : Int).toNat ≤ 35184372088832 then ((some (List.replicate (a0_0 : Int).toNat 0 : List Int)).bind fun y511 => (impl_IslandNumbers.l0 k t508 y511 (y511.length : Int) 0)) else (none)) else (none)) = some r := H
 have A5 := Aside0.mk A50
 clear A50
 by_cases c6 : 0 ≤ a0_0
 rotate_left
 ·
  rw [if_neg c6] at H
  exact absurd H (by simp)
 rw [if_pos c6] at H
 have c6b0 := eq_true c6
 have c6b1 : decide (0 ≤ a0_0) = true := decide_eq_true c6
 clear c6
 by_cases c7 : (a0_0 : Int).toNat ≤ 35184372088832
 rotate_left
 ·
  rw [if_neg c7] at H
  exact absurd H (by simp)
 rw [if_pos c7] at H
 have c7b0 := eq_true c7
 have c7b1 : decide ((a0_0 : Int).toNat ≤ 35184372088832) = true := decide_eq_true c7
 clear c7
 obtain ⟨y511, hy511⟩ : ∃ y_ : List Int, y_ = (List.replicate (a0_0 : Int).toNat 0) := ⟨_, rfl⟩
 replace H : (impl_IslandNumbers.l0 k t508 y511 (y511.length : Int) 0) = some r := by first | (rw [hy511]; with_reducible exact H) | (have H2_ := (Option.bind_some _ _).symm.trans H; rw [hy511]; with_reducible exact H2_) | (have H2_ := (Option.bind_some _ _).symm.trans H; with_reducible exact H2_) | with_reducible exact H | (rw [hy511]; exact H) | exact H
 have Ny511 := Aside0.mk hy511
 clear hy511
 have H' := Aside0.mk H
 clear H
 go_enter Tryd.func27, Tryd.ntmps27
 go_wp2_with (first | ((with_reducible refine gate_dst (N := 2) rfl ?_); refine box_event ?hg (N := 2) ?hd (cs := #[.int .i64 a0_0, .slice A0_1 l0_1.length c0_1]) (t := 39) ?hr ?_; (case hd => rfl); (case hg => rfl); (case hr => exact hR); intro gb506 hg w8 hbox hb; have n0_ := Aside0.mk (below_step (bl0 HB) hb); have n1_ := Aside0.mk (hbox); have n2_ := Aside0.mk ((by rw [hg]; exact (below_size (bl0 HB)) : w.heap.size ≤ gb506)); have n3_ := Aside0.mk ((by rw [hg]; exact (below_size (bl0 HB)) : w.heap.size ≤ gb506)); clear HB; have HB := n0_; have BK506 := n1_; have GW506 := n2_; have GE506 := n3_; clear n0_ n1_ n2_ n3_; clear hb hbox hg; have hcz9_0 : w8.cell? ⟨gb506, 0, none⟩ = some (.int .i64 a0_0) := (blk_cell BK506.out 0).trans rfl; have hcz9_1 : w8.cell? ⟨gb506, 1, none⟩ = some (.slice A0_1 l0_1.length c0_1) := (blk_cell BK506.out 1).trans rfl; have hfz9_0 := blk_frozen BK506.out 0; have hfz9_1 := blk_frozen BK506.out 1) | ((with_reducible refine gate_callee (f := 54) rfl ?_); refine goesL_ (some 10) rfl rfl Tryd.func54 (by kernel_rfl) rfl #[.agg #[.int .i64 a0_0, .slice A0_1 l0_1.length c0_1], .slice A1 l1.length c1] rfl mP ?_; (with_reducible refine (impl_StateValid.calls k a0_0 _ _ l0_1 _ _ l1 true _ ?side1 ?side2 ?side3 ?side4 A3.out).mono ?_); (case side1 => exact gC ((Kd.C_below HR0_1.out HB.out))); (case side2 => exact HC0_1.out); (case side3 => exact gC ((Kd.C_below HR1.out HB.out))); (case side4 => exact HC1.out); rintro e w10 ⟨rfl, hb⟩; refine ⟨_, rfl, ?_⟩; have n0_ := Aside0.mk (blk_below (g := gb506) (o := .cells #[.int .i64 a0_0, .slice A0_1 l0_1.length c0_1] 39 (0, 0)) (gB (BK506.out)) hb); have n1_ := Aside0.mk (below_step (bl1 HB GE506) hb); clear BK506; clear HB; have BK506 := n0_; have HB := n1_; clear n0_ n1_; (try clear hb); (try clear hb2); (try clear hk); (try clear hi); have hcz11_0 : w10.cell? ⟨gb506, 0, none⟩ = some (.int .i64 a0_0) := (blk_cell BK506.out 0).trans rfl; have hcz11_1 : w10.cell? ⟨gb506, 1, none⟩ = some (.slice A0_1 l0_1.length c0_1) := (blk_cell BK506.out 1).trans rfl; have hfz11_0 := blk_frozen BK506.out 0; have hfz11_1 := blk_frozen BK506.out 1) | ((with_reducible refine gate_callee (f := 58) rfl ?_); refine goesL_ (some 14) rfl rfl Tryd.func58 (by kernel_rfl) rfl #[.agg #[.int .i64 a0_0, .slice A0_1 l0_1.length c0_1], .slice A1 l1.length c1] rfl mP ?_; (with_reducible refine (impl_unionOf.calls k a0_0 _ _ l0_1 _ _ l1 t508 _ ?side1 ?side2 ?side3 ?side4 A5.out).mono ?_); (case side1 => exact gC ((Kd.C_below HR0_1.out HB.out))); (case side2 => exact HC0_1.out); (case side3 => exact gC ((Kd.C_below HR1.out HB.out))); (case side4 => exact HC1.out); rintro e w12 ⟨v509, rfl, ho0, hb⟩; refine ⟨_, rfl, ?_⟩; have n0_ := Aside0.mk (Kd.R_lower ho0 (below_size (bl1 HB GE506))); have n1_ := Aside0.mk (blk_below (g := gb506) (o := .cells #[.int .i64 a0_0, .slice A0_1 l0_1.length c0_1] 39 (0, 0)) (gB (BK506.out)) hb); have n2_ := Aside0.mk (below_step (bl1 HB GE506) hb); clear BK506; clear HB; have HO510 := n0_; have BK506 := n1_; have HB := n2_; clear n0_ n1_ n2_; (try clear hb); (try clear hb2); (try clear hk); (try clear hi); (try clear ho0); have hcz13_0 : w12.cell? ⟨gb506, 0, none⟩ = some (.int .i64 a0_0) := (blk_cell BK506.out 0).trans rfl; have hcz13_1 : w12.cell? ⟨gb506, 1, none⟩ = some (.slice A0_1 l0_1.length c0_1) := (blk_cell BK506.out 1).trans rfl; have hfz13_0 := blk_frozen BK506.out 0; have hfz13_1 := blk_frozen BK506.out 1) | ((with_reducible refine gate_dst (N := 17) rfl ?_); refine Kd.R_make (Kd.int .i64) _ 3 rfl (N := 17) rfl 24 _ _ rfl a0_0 rfl rfl Tryd.underlying24 (.int .i64 0) 8 info3 rfl (by decide) (by omega) 0 (ok := fun _ => True) (okp := fun _ => True) rfl (fun _ hk => hk) trivial (oD) (Nat.le_trans (Nat.mul_le_mul_right _ (oD : a0_0.toNat ≤ 35184372088832)) (by omega)) (Below.refl _ _) (Nat.le_refl _) ?_; intro v512 w14 ho15 hb hg_ hnew_; clear hg_ hnew_; (first | rw [← Ny511.out] at ho15 | (simp only [Int.reduceToNat] at ho15; rw [← Ny511.out] at ho15)); have n0_ := Aside0.mk (Kd.R_elder' (gR (HO510.out)) (Kd.R_base ho15) hb); have n1_ := Aside0.mk (Kd.R_lower (Kd.R_new' ho15 (Kd.R_lt (gR (HO510.out)))) (below_size (bl1 HB GE506))); have n2_ := Aside0.mk (blk_below (g := gb506) (o := .cells #[.int .i64 a0_0, .slice A0_1 l0_1.length c0_1] 39 (0, 0)) (gB (BK506.out)) hb); have n3_ := Aside0.mk (below_step (bl1 HB GE506) hb); clear HO510; clear BK506; clear HB; have HO510 := n0_; have HO513 := n1_; have BK506 := n2_; have HB := n3_; clear n0_ n1_ n2_ n3_; clear hb ho15; obtain ⟨Ao16, co16, eo16⟩ := Kd.R_slice HO513.out; subst eo16))
 go_loopg [20] k (fun kq v20 w' => ∃ (x5_1 : List Int) (x6_1 : List Int) (x20_1 : Int), v20 = .int .i64 x20_1 ∧ Aside0 (impl_IslandNumbers.l0 kq x5_1 x6_1 (y511.length : Int) x20_1 = some r) ∧ Aside0 (kq ≤ k) ∧ Aside0 (Kd.R (Kd.int .i64) 3 w' w.heap.size (fun k_ => some k_ ≠ ((.slice Ao16 y511.length co16) : Value).ownBlock) v509 x5_1) ∧ Aside0 (Kd.R (Kd.int .i64) 3 w' w.heap.size (fun k_ => some k_ ≠ (v509 : Value).ownBlock) (.slice Ao16 y511.length co16) x6_1) ∧ Aside0 (w'.heap[gb506]? = some (.cells #[.int .i64 a0_0, (.slice A0_1 l0_1.length c0_1)] 39 (0, 0))) ∧ Aside0 (Below w.heap.size w w'))
 case atStart => exact ⟨(t508), (y511), (0), fS, H', ⟨Nat.le_refl _⟩, ⟨by (with_reducible repeat (first | apply Kd.R_alloc | apply Kd.R_drewN | apply Kd.R_drew)); exact Kd.R_mono HO510.out (fun _ hk => hk.2)⟩, ⟨by (with_reducible repeat (first | apply Kd.R_alloc | apply Kd.R_drewN | apply Kd.R_drew)); exact Kd.R_mono HO513.out (fun _ hk => hk.2)⟩, ⟨gB (BK506.out)⟩, ⟨bl1 HB GE506⟩⟩
 case round =>
  clear H'
  try clear c1
  try clear c2
  try clear p2
  try clear c4
  try clear c5
  try clear c6
  try clear c6b0
  try clear c6b1
  try clear c7
  try clear c7b0
  try clear c7b1
  try clear hcz11_0
  try clear hcz11_1
  try clear hcz13_0
  try clear hcz13_1
  try clear hcz9_0
  try clear hcz9_1
  try clear hfz11_0
  try clear hfz11_1
  try clear hfz13_0
  try clear hfz13_1
  try clear hfz9_0
  try clear hfz9_1
  obtain ⟨x5_1, x6_1, x20_1, rfl, HA, HK1, HO_5, HO_6, BK506, HB⟩ := hrel
  have hl6_1 := (Kd.R_reads' HO_6.out).1
  rw [hl6_1] at HO_6
  (try simp only [hl6_1])
  (try simp only [hl6_1] at BK506)
  (try simp only [hl6_1] at HO_5)
  cases gk with
  | zero => exact absurd HA.out (by simp [impl_IslandNumbers.l0])
  | succ k1 =>
   have H := HA.out
   clear HA
   simp only [impl_IslandNumbers.l0] at H
   by_cases c17 : x20_1 < (y511.length : Int)
   rotate_left
   ·
    rw [if_neg c17] at H
    have c17b0 : decide (x20_1 < (y511.length : Int)) = false := decide_eq_false c17
    have c17b0t0 : decide (x20_1 < (x6_1.length : Int)) = false := by have z_ := c17b0; rw [hl6_1] at z_; exact z_
    clear c17
    obtain rfl := Option.some.inj H
    go_wp2
    go_ret
    exact ⟨_, fR, by (with_reducible repeat (first | apply Kd.R_alloc | apply Kd.R_drewN | apply Kd.R_drew)); exact Kd.R_mono HO_6.out (fun _ hk => trivial), bl1 HB GE506⟩
   rw [if_pos c17] at H
   have c17b0 : decide (x20_1 < (y511.length : Int)) = true := decide_eq_true c17
   have c17b0t0 : decide (x20_1 < (x6_1.length : Int)) = true := by have z_ := c17b0; rw [hl6_1] at z_; exact z_
   clear c17
   replace H := Option.bind_eq_some_iff.mp H
   obtain ⟨⟨t514, t515⟩, A180, H⟩ := H
   replace H : (if 0 ≤ x20_1 then (if x20_1 < (x6_1.length : Int) then (impl_IslandNumbers.l0 k1 t515 (x6_1.set (x20_1 : Int).toNat t514) (y511.length : Int) (wrap64 (x20_1 + 1))) else (none)) else (none)) = some r := H
   have A18 := Aside0.mk A180
   clear A180
   by_cases c19 : 0 ≤ x20_1
   rotate_left
   ·
    rw [if_neg c19] at H
    exact absurd H (by simp)
   rw [if_pos c19] at H
   have c19b0 : decide (0 ≤ x20_1) = true := decide_eq_true c19
   clear c19
   by_cases c20 : x20_1 < (x6_1.length : Int)
   rotate_left
   ·
    rw [if_neg c20] at H
    exact absurd H (by simp)
   rw [if_pos c20] at H
   have c20b0 : decide (x20_1 < (x6_1.length : Int)) = true := decide_eq_true c20
   clear c20
   obtain ⟨y516, hy516⟩ : ∃ y_ : List Int, y_ = (x6_1.set (x20_1 : Int).toNat t514) := ⟨_, rfl⟩
   replace H : (impl_IslandNumbers.l0 k1 t515 y516 (y511.length : Int) (wrap64 (x20_1 + 1))) = some r := by first | (rw [hy516]; with_reducible exact H) | (have H2_ := (Option.bind_some _ _).symm.trans H; rw [hy516]; with_reducible exact H2_) | (have H2_ := (Option.bind_some _ _).symm.trans H; with_reducible exact H2_) | with_reducible exact H | (rw [hy516]; exact H) | exact H
   have Ny516 := Aside0.mk hy516
   clear hy516
   have H' := Aside0.mk H
   clear H
   obtain ⟨Ao22, co22, eo22⟩ := Kd.R_slice HO_5.out
   subst eo22
   go_wp2_with (first | ((with_reducible refine gate_callee (f := 61) rfl ?_); refine goesL_ (some 27) rfl rfl Tryd.func61 (by kernel_rfl) rfl #[.slice Ao22 x5_1.length co22, .int .i64 x20_1] rfl mP ?_; (with_reducible refine (impl_union_find.calls k1 (fun k_ => some k_ = (.slice Ao22 x5_1.length co22 : Value).ownBlock) (.slice Ao22 x5_1.length co22) x5_1 x20_1 t514 t515 w _ ?side1 ?side2 A18.out).mono ?_); (case side1 => repeat (first | (with_reducible first | exact HB.out | apply below_alloc | apply pw_below_drewN | apply below_drew1 | refine below_set ?_ GE506.out) | exact HB.out)); (case side2 => exact Kd.R_tight rfl HO_5.out); rintro e w23 ⟨rfl, hy0, hb, hkp⟩; refine ⟨_, rfl, ?_⟩; have n0_ := Aside0.mk (Kd.R_reok rfl hy0 (fun k_ e_ => HO_5.out.1 k_ e_)); have n1_ := Aside0.mk (Kd.R_mono (ok' := fun k_ => some k_ ≠ (.slice Ao22 x5_1.length co22 : Value).ownBlock) (Kd.R_keptB (HO_6.out) hkp (fun k_ hk_ hs_ => (hk_) hs_)) (fun k_ hk_ => hk_.1)); have n2_ := Aside0.mk (blk_kept (gB (BK506.out)) hkp (fun hs_ => (fun e_ => (Kd.R_ne HO_5.out BK506.out (by decide)) e_) hs_)); have n3_ := Aside0.mk (hb); clear HO_5; clear HO_6; clear BK506; clear HB; have HO_5 := n0_; have HO_6 := n1_; have BK506 := n2_; have HB := n3_; clear n0_ n1_ n2_ n3_; (try clear hb); (try clear hkp); (try clear hy0); have p21 : 0 ≤ (x20_1 : Int) := oD; have q21 : (x20_1 : Int) < ((x6_1.length : Int) : Int) := oD; obtain ⟨go21, co21, eo21, gb21, gl21, cl21, HG21⟩ := Kd.R_form HO_6.out (by first | omega | (obtain ⟨_, _, e_⟩ := Kd.R_slice HO_6.out; injection e_ with _ e_ _; omega)); (first | cases eo21 | (injection eo21 with ea_ en_ ec_; (first | subst ea_ | (injection ea_ with ea_; subst ea_)); subst ec_; clear en_)); have GB21 := Aside0.mk gb21; have GG21 := Aside0.mk HG21; clear gb21 gl21 HG21; obtain ⟨hx21_0, hf21_0⟩ := Kd.R_celln 0 HO_6.out (x20_1 : Int) p21 q21; replace p21 := eq_true p21; replace q21 := eq_true q21; obtain ⟨hy24_, hz24_⟩ := Kd.R_celln 0 HO_6.out (x20_1 : Int) (oD) (oD); have HP24 := Kd.R_putg HO_6.out (x20_1 : Int) t514) | ((with_reducible refine gate_store (t := 3) (p := 28) rfl ?_); refine store_event (t := 3) (p := 28) (v := ?vo_w25) (w1 := (w23.setCell ⟨go21, (x20_1 : Int).toNat, none⟩ (.int .i64 t514))) ?hg ?ho ?hn ?hr ?_; (case ho => rfl); (case hg => rfl); (case hn => rfl); (case hr => exact hR); intro w25 hw; have hg : w23.grownBy w25 (some go21) := (by rw [hw]; exact HP24.2); have hp_ : Kd.R (Kd.int .i64) 3 w25 w.heap.size (fun k_ => some k_ ≠ (.slice Ao22 x5_1.length co22 : Value).ownBlock) (.slice (some ⟨go21, 0, none⟩) x6_1.length co16) y516 := (by rw [hw, Ny516.out]; exact HP24.1); clear HP24; have n0_ := Aside0.mk (Kd.R_after (v := (.slice (some ⟨go21, 0, none⟩) x6_1.length co16)) (v1 := (.slice (some ⟨go21, 0, none⟩) x6_1.length co16)) (ok := (fun _ => True)) (by (with_reducible repeat (first | apply Kd.R_alloc | apply Kd.R_drewN | apply Kd.R_drew)); exact Kd.R_mono HO_5.out (fun _ hk => ⟨trivial, hk⟩)) hg (.inl rfl)); have n1_ := Aside0.mk (hp_); have n2_ := Aside0.mk (blk_grown (g := gb506) (o := .cells #[.int .i64 a0_0, .slice A0_1 l0_1.length c0_1] 39 (0, 0)) (gB (BK506.out)) hg (Kd.R_ne HO_6.out BK506.out (by decide))); have n3_ := Aside0.mk ((by rw [hw]; exact below_set (HB.out) GB21.out : Below w.heap.size w w25)); clear HO_5; clear HO_6; clear BK506; clear HB; have HO_5 := n0_; have HO_6 := n1_; have BK506 := n2_; have HB := n3_; clear n0_ n1_ n2_ n3_; clear hg hw hp_))
   (try simp only [← hl6_1])
   go_roundg k1
   case measure => have := HK1.out; omega
   case rel => exact ⟨(t515), (y516), (wrap64 (x20_1 + 1)), fS, H', ⟨by have := HK1.out; omega⟩, ⟨by (try simp only [hl6_1]); (with_reducible repeat (first | apply Kd.R_alloc | apply Kd.R_drewN | apply Kd.R_drew)); exact Kd.R_mono HO_5.out (fun _ hk => hk.2)⟩, ⟨by (try simp only [hl6_1]); (with_reducible repeat (first | apply Kd.R_alloc | apply Kd.R_drewN | apply Kd.R_drew)); exact HO_6.out⟩, ⟨by (try simp only [hl6_1]); (with_reducible repeat (first | refine blk_drewN ?_ _ | refine blk_drew ?_ | refine blk_alloc ?_ _)); exact BK506.out⟩, ⟨bl1 HB GE506⟩⟩

end Go.Proofs.YthkdkjmnnpcdhaaDoor.P

/- Contracts of Go functions of this seat's translation, written by this repo's wip/mk.py: it calls the kit's print.py with contracts typed by hand in place of functions that it does not take. Not trusted: Lean checks it. -/
import Derived.Test.YthkdkjmnnpcdhaaDoorP0
import Derived.Test.YthkdkjmnnpcdhaaDoorP38
import Derived.Test.YthkdkjmnnpcdhaaDoorP40
namespace Go.Proofs.YthkdkjmnnpcdhaaDoor.P
open Go.RowKit Go.Proofs.YthkdkjmnnpcdhaaDoorW.PrintWords Go.Proofs.YthkdkjmnnpcdhaaDoorW.PrintLast Go.Proofs.YthkdkjmnnpcdhaaDoorW.PrintMore
attribute [local go_sem] max2_int min2_int max_two min_two max_three min_three max_four min_four   -- for this text's walks alone
set_option linter.unusedVariables false
set_option linter.unusedSimpArgs false

/-! ### impl_hasCycle: function 64 -/
def impl_hasCycle.l0 : Nat → List Bool → List Int → List (S52) → Int → Int → Option (Bool)
 | 0, _, _, _, _, _ => none
 | k + 1, x1, x5, x12, x13, x14 => if x14 < x13 then (if 0 ≤ x14 then (if x14 < (x12.length : Int) then (if x14 < (x1.length : Int) then (if rdOf false x1 x14 = true then ((impl_union_same.f k x5 ((rd_T52 x12 x14).f0) ((rd_T52 x12 x14).f1)).bind fun bt757 => (if bt757.1 = true then (some true) else ((impl_union_join.f k bt757.2 ((rd_T52 x12 x14).f0) ((rd_T52 x12 x14).f1)).bind fun t759 => (impl_hasCycle.l0 k x1 t759 x12 x13 (wrap64 (x14 + 1)))))) else (impl_hasCycle.l0 k x1 x5 x12 x13 (wrap64 (x14 + 1)))) else (none)) else (none)) else (none)) else (some false)
def impl_hasCycle.f (k : Nat) (a0_0 : Int) (l0_1 : List (S52)) (l1 : List Bool) : Option (Bool) := (impl_newUnion.f k a0_0).bind fun t751 => (impl_hasCycle.l0 k l1 t751 l0_1 (l0_1.length : Int) 0)
theorem impl_hasCycle.mono_l : ∀ k, (∀ y0 y1 y2 y3 y4, LeO (impl_hasCycle.l0 k y0 y1 y2 y3 y4) (impl_hasCycle.l0 (k + 1) y0 y1 y2 y3 y4))
 | 0 => fun _ _ _ _ _ r h => by simp [impl_hasCycle.l0] at h
 | k + 1 => by
  have ih0 := impl_hasCycle.mono_l k
  ·
   intro y0 y1 y2 y3 y4
   unfold impl_hasCycle.l0
   repeat' first
   | (with_reducible exact ih0 _ _ _ _ _)
   | (with_reducible exact impl_newUnion.mono _ _)
   | (with_reducible exact impl_union_join.mono _ _ _ _)
   | (with_reducible exact impl_union_same.mono _ _ _ _)
   | (with_reducible exact LeO.refl _)
   | (with_reducible exact LeO.none _)
   | (with_reducible refine LeO.ite ?_ ?_)
   | (with_reducible refine LeO.bind ?_ (fun _ => ?_))
   | exact ih0 _ _ _ _ _
   | exact impl_newUnion.mono _ _
   | exact impl_union_join.mono _ _ _ _
   | exact impl_union_same.mono _ _ _ _
   | exact LeO.none _
   | refine LeO.ite ?_ ?_
   | refine LeO.bind ?_ (fun _ => ?_)
theorem impl_hasCycle.mono : ∀ a0 a1 a2 k, LeO (impl_hasCycle.f k a0 a1 a2) (impl_hasCycle.f (k + 1) a0 a1 a2) := by
 intro a0 a1 a2 k
 have ih0 := impl_hasCycle.mono_l k
 unfold impl_hasCycle.f
 repeat' first
   | (with_reducible exact ih0 _ _ _ _ _)
   | (with_reducible exact impl_newUnion.mono _ _)
   | (with_reducible exact impl_union_join.mono _ _ _ _)
   | (with_reducible exact impl_union_same.mono _ _ _ _)
   | (with_reducible exact LeO.refl _)
   | (with_reducible exact LeO.none _)
   | (with_reducible refine LeO.ite ?_ ?_)
   | (with_reducible refine LeO.bind ?_ (fun _ => ?_))
   | exact ih0 _ _ _ _ _
   | exact impl_newUnion.mono _ _
   | exact impl_union_join.mono _ _ _ _
   | exact impl_union_same.mono _ _ _ _
   | exact LeO.none _
   | refine LeO.ite ?_ ?_
   | refine LeO.bind ?_ (fun _ => ?_)
set_option maxHeartbeats 8000000 in
set_option maxRecDepth 100000 in
theorem impl_hasCycle.calls (k : Nat) (a0_0 : Int) (A0_1 : Option Addr) (c0_1 : Nat) (l0_1 : List (S52)) (A1 : Option Addr) (c1 : Nat) (l1 : List Bool) (r : Bool) (w : World) (hr0_1 : Kd.C k52 w A0_1 l0_1.length l0_1) (hc0_1 : l0_1.length ≤ c0_1) (hr1 : Kd.C Kd.bool w A1 l1.length l1) (hc1 : l1.length ≤ c1) (h : impl_hasCycle.f k a0_0 l0_1 l1 = some r) :
  Calls Tryd.prog 64 #[.agg #[.int .i64 a0_0, .slice A0_1 l0_1.length c0_1], .slice A1 l1.length c1] w fun e w' => e = .returned (.bool r) ∧ Below w.heap.size w w' := by
 have hu39 := Tryd.underlying39
 have hu52 := Tryd.underlying52
 have HR0_1 := Aside0.mk hr0_1
 have HC0_1 := Aside0.mk hc0_1
 clear hr0_1 hc0_1
 have HR1 := Aside0.mk hr1
 have HC1 := Aside0.mk hc1
 clear hr1 hc1
 have HB := Aside0.mk (Below.refl w.heap.size w)
 have H : ((impl_newUnion.f k a0_0).bind fun t751 => (impl_hasCycle.l0 k l1 t751 l0_1 (l0_1.length : Int) 0)) = some r := h
 clear h
 replace H := Option.bind_eq_some_iff.mp H
 obtain ⟨t751, A30, H⟩ := H
 replace H : (impl_hasCycle.l0 k l1 t751 l0_1 (l0_1.length : Int) 0) = some r := H
 have A3 := Aside0.mk A30
 clear A30
 have H' := Aside0.mk H
 clear H
 go_enter Tryd.func64, Tryd.ntmps64
 go_wp2_with (first | ((with_reducible refine gate_dst (N := 2) rfl ?_); refine box_event ?hg (N := 2) ?hd (cs := #[.int .i64 a0_0, .slice A0_1 l0_1.length c0_1]) (t := 39) ?hr ?_; (case hd => rfl); (case hg => rfl); (case hr => first | (go_simp; done) | (go_simp; rfl)); intro gb750 hg w4 hbox hb; have n0_ := Aside0.mk (below_step (by repeat (first | (with_reducible first | exact HB.out | apply below_alloc | apply pw_below_drewN | apply below_drew1) | exact HB.out)) hb); have n1_ := Aside0.mk (hbox); have n2_ := Aside0.mk ((by rw [hg]; exact (below_size (by repeat (first | (with_reducible first | exact HB.out | apply below_alloc | apply pw_below_drewN | apply below_drew1) | exact HB.out))) : w.heap.size ≤ gb750)); have n3_ := Aside0.mk ((by rw [hg]; exact (below_size (by repeat (first | (with_reducible first | exact HB.out | apply below_alloc | apply pw_below_drewN | apply below_drew1) | exact HB.out))) : w.heap.size ≤ gb750)); clear HB; have HB := n0_; have BK750 := n1_; have GW750 := n2_; have GE750 := n3_; clear n0_ n1_ n2_ n3_; clear hb hbox hg; have hcz5_0 : w4.cell? ⟨gb750, 0, none⟩ = some (.int .i64 a0_0) := (blk_cell BK750.out 0).trans rfl; have hcz5_1 : w4.cell? ⟨gb750, 1, none⟩ = some (.slice A0_1 l0_1.length c0_1) := (blk_cell BK750.out 1).trans rfl; have hfz5_0 := blk_frozen BK750.out 0; have hfz5_1 := blk_frozen BK750.out 1) | ((with_reducible refine gate_callee (f := 73) rfl ?_); refine goesL_ (some 10) rfl rfl Tryd.func73 (by kernel_rfl) rfl #[.int .i64 a0_0] rfl (by (try simp only [List.map_toArray, List.map_cons, List.map_nil]); first | done | rfl | (simp only [List.length_drop, List.length_take]; rfl)) ?_; (with_reducible refine (impl_newUnion.calls k a0_0 t751 _ A3.out).mono ?_); rintro e w6 ⟨v752, rfl, ho0, hb⟩; refine ⟨_, rfl, ?_⟩; have n0_ := Aside0.mk (Kd.R_lower ho0 (below_size (by repeat (first | (with_reducible first | exact HB.out | apply below_alloc | apply pw_below_drewN | apply below_drew1 | refine below_set ?_ GE750.out) | exact HB.out)))); have n1_ := Aside0.mk (blk_below (g := gb750) (o := .cells #[.int .i64 a0_0, .slice A0_1 l0_1.length c0_1] 39 (0, 0)) (by (with_reducible repeat (first | refine blk_drewN ?_ _ | refine blk_drew ?_ | refine blk_alloc ?_ _)); exact BK750.out) hb); have n2_ := Aside0.mk (below_step (by repeat (first | (with_reducible first | exact HB.out | apply below_alloc | apply pw_below_drewN | apply below_drew1 | refine below_set ?_ GE750.out) | exact HB.out)) hb); clear BK750; clear HB; have HO753 := n0_; have BK750 := n1_; have HB := n2_; clear n0_ n1_ n2_; (try clear hb); (try clear hb2); (try clear hk); (try clear hi); (try clear ho0); have hcz7_0 : w6.cell? ⟨gb750, 0, none⟩ = some (.int .i64 a0_0) := (blk_cell BK750.out 0).trans rfl; have hcz7_1 : w6.cell? ⟨gb750, 1, none⟩ = some (.slice A0_1 l0_1.length c0_1) := (blk_cell BK750.out 1).trans rfl; have hfz7_0 := blk_frozen BK750.out 0; have hfz7_1 := blk_frozen BK750.out 1))
 go_loopg [14] k (fun kq v14 w' => ∃ (x5_1 : List Int) (x14_1 : Int), v14 = .int .i64 x14_1 ∧ Aside0 (impl_hasCycle.l0 kq l1 x5_1 l0_1 (l0_1.length : Int) x14_1 = some r) ∧ Aside0 (kq ≤ k) ∧ Aside0 (Kd.R (Kd.int .i64) 3 w' w.heap.size (fun _ => True) v752 x5_1) ∧ Aside0 (w'.heap[gb750]? = some (.cells #[.int .i64 a0_0, (.slice A0_1 l0_1.length c0_1)] 39 (0, 0))) ∧ Aside0 (Below w.heap.size w w'))
 case atStart => exact ⟨(t751), (0), (by first | rfl | (simp; done) | (simp [*]; done)), H', ⟨Nat.le_refl _⟩, ⟨by (with_reducible repeat (first | apply Kd.R_alloc | apply Kd.R_drewN | apply Kd.R_drew)); exact HO753.out⟩, ⟨by (with_reducible repeat (first | refine blk_drewN ?_ _ | refine blk_drew ?_ | refine blk_alloc ?_ _)); exact BK750.out⟩, ⟨by repeat (first | (with_reducible first | exact HB.out | apply below_alloc | apply pw_below_drewN | apply below_drew1 | refine below_set ?_ GE750.out) | exact HB.out)⟩⟩
 case round =>
  clear H'
  try clear c1
  try clear p2
  try clear c6
  try clear c7
  try clear hcz5_0
  try clear hcz5_1
  try clear hcz7_0
  try clear hcz7_1
  try clear hfz5_0
  try clear hfz5_1
  try clear hfz7_0
  try clear hfz7_1
  obtain ⟨x5_1, x14_1, rfl, HA, HK1, HO_5, BK750, HB⟩ := hrel
  cases gk with
  | zero => exact absurd HA.out (by simp [impl_hasCycle.l0])
  | succ k1 =>
   have H := HA.out
   clear HA
   simp only [impl_hasCycle.l0] at H
   by_cases c8 : x14_1 < (l0_1.length : Int)
   ·
    rw [if_pos c8] at H
    have c8b0 : decide (x14_1 < (l0_1.length : Int)) = true := decide_eq_true c8
    clear c8
    by_cases c9 : 0 ≤ x14_1
    ·
     rw [if_pos c9] at H
     have c9b0 : decide (0 ≤ x14_1) = true := decide_eq_true c9
     clear c9
     by_cases c10 : x14_1 < (l0_1.length : Int)
     ·
      rw [if_pos c10] at H
      have c10b0 : decide (x14_1 < (l0_1.length : Int)) = true := decide_eq_true c10
      clear c10
      by_cases c11 : x14_1 < (l1.length : Int)
      ·
       rw [if_pos c11] at H
       have c11b0 : decide (x14_1 < (l1.length : Int)) = true := decide_eq_true c11
       clear c11
       obtain ⟨bq12, hbq12⟩ : ∃ b_ : Bool, b_ = (rdOf false l1 x14_1) := ⟨_, rfl⟩
       replace H : (if bq12 = true then ((impl_union_same.f k1 x5_1 ((rd_T52 l0_1 x14_1).f0) ((rd_T52 l0_1 x14_1).f1)).bind fun bt757 => (if bt757.1 = true then (some true) else ((impl_union_join.f k1 bt757.2 ((rd_T52 l0_1 x14_1).f0) ((rd_T52 l0_1 x14_1).f1)).bind fun t759 => (impl_hasCycle.l0 k1 l1 t759 l0_1 (l0_1.length : Int) (wrap64 (x14_1 + 1)))))) else (impl_hasCycle.l0 k1 l1 x5_1 l0_1 (l0_1.length : Int) (wrap64 (x14_1 + 1)))) = some r := by rw [← hbq12] at H; exact H
       have Nbq12 := Aside0.mk hbq12
       clear hbq12
       by_cases c13 : bq12 = true
       ·
        subst c13
        have H1 : ((impl_union_same.f k1 x5_1 ((rd_T52 l0_1 x14_1).f0) ((rd_T52 l0_1 x14_1).f1)).bind fun bt757 => (if bt757.1 = true then (some true) else ((impl_union_join.f k1 bt757.2 ((rd_T52 l0_1 x14_1).f0) ((rd_T52 l0_1 x14_1).f1)).bind fun t759 => (impl_hasCycle.l0 k1 l1 t759 l0_1 (l0_1.length : Int) (wrap64 (x14_1 + 1)))))) = some r := by rw [if_pos rfl] at H; exact H
        clear H
        have H := H1
        clear H1
        replace H := Option.bind_eq_some_iff.mp H
        obtain ⟨⟨t757, t758⟩, A140, H⟩ := H
        replace H : (if t757 = true then (some true) else ((impl_union_join.f k1 t758 ((rd_T52 l0_1 x14_1).f0) ((rd_T52 l0_1 x14_1).f1)).bind fun t759 => (impl_hasCycle.l0 k1 l1 t759 l0_1 (l0_1.length : Int) (wrap64 (x14_1 + 1))))) = some r := H
        have A14 := Aside0.mk A140
        clear A140
        by_cases c15 : t757 = true
        ·
         subst c15
         have H1 : (some true) = some r := by rw [if_pos rfl] at H; exact H
         clear H
         have H := H1
         clear H1
         obtain rfl := Option.some.inj H
         have p754 : 0 ≤ (x14_1 : Int) := of_decide_eq_true (by first | (with_reducible assumption) | assumption)
         have q754 : x14_1 < (l0_1.length : Int) := of_decide_eq_true (by first | (with_reducible assumption) | assumption)
         obtain ⟨ad754, e754, hx754_0, hx754_1, hx754_2⟩ := at_T52 HR0_1.out x14_1 p754 q754
         cases e754
         replace hx754_0 := (HB.out.cell (World.block_lt_of_cell? w _ hx754_0)).trans hx754_0
         replace hx754_1 := (HB.out.cell (World.block_lt_of_cell? w _ hx754_1)).trans hx754_1
         replace hx754_2 := (HB.out.cell (World.block_lt_of_cell? w _ hx754_2)).trans hx754_2
         replace p754 := eq_true p754
         replace q754 := eq_true q754
         go_wp2_with (first | ((with_reducible refine gate_dst (N := 7) rfl ?_); refine box_event ?hg (N := 7) ?hd (cs := #[.int .i64 0, .int .i64 0, .int .i64 0]) (t := 52) ?hr ?_; (case hd => rfl); (case hg => rfl); (case hr => first | (go_simp; done) | (go_simp; rfl)); intro gb755 hg w16 hbox hb; have n0_ := Aside0.mk (Kd.R_below (by (with_reducible repeat (first | apply Kd.R_alloc | apply Kd.R_drewN | apply Kd.R_drew)); exact HO_5.out) hb); have n1_ := Aside0.mk (blk_below (g := gb750) (o := .cells #[.int .i64 a0_0, .slice (some ad754) l0_1.length c0_1] 39 (0, 0)) (by (with_reducible repeat (first | refine blk_drewN ?_ _ | refine blk_drew ?_ | refine blk_alloc ?_ _)); exact BK750.out) hb); have n2_ := Aside0.mk (below_step (by repeat (first | (with_reducible first | exact HB.out | apply below_alloc | apply pw_below_drewN | apply below_drew1 | refine below_set ?_ GE750.out) | exact HB.out)) hb); have n3_ := Aside0.mk (hbox); have n4_ := Aside0.mk ((by rw [hg]; exact (below_size (by repeat (first | (with_reducible first | exact HB.out | apply below_alloc | apply pw_below_drewN | apply below_drew1 | refine below_set ?_ GE750.out) | exact HB.out))) : w.heap.size ≤ gb755)); have n5_ := Aside0.mk ((by rw [hg]; exact (below_size (by repeat (first | (with_reducible first | exact HB.out | apply below_alloc | apply pw_below_drewN | apply below_drew1 | refine below_set ?_ GE750.out) | exact HB.out))) : w.heap.size ≤ gb755)); have n6_ := Aside0.mk ((by rw [hg]; exact Nat.ne_of_lt (blk_lt (g := gb750) (o := .cells #[.int .i64 a0_0, .slice (some ad754) l0_1.length c0_1] 39 (0, 0)) (by (with_reducible repeat (first | refine blk_drewN ?_ _ | refine blk_drew ?_ | refine blk_alloc ?_ _)); exact BK750.out)) : gb750 ≠ gb755)); have n7_ := Aside0.mk ((by rw [hg]; exact Nat.ne_of_gt (blk_lt (g := gb750) (o := .cells #[.int .i64 a0_0, .slice (some ad754) l0_1.length c0_1] 39 (0, 0)) (by (with_reducible repeat (first | refine blk_drewN ?_ _ | refine blk_drew ?_ | refine blk_alloc ?_ _)); exact BK750.out)) : gb755 ≠ gb750)); clear HO_5; clear BK750; clear HB; have HO_5 := n0_; have BK750 := n1_; have HB := n2_; have BK755 := n3_; have GW755 := n4_; have GE755 := n5_; have NB750_755 := n6_; have NB755_750 := n7_; clear n0_ n1_ n2_ n3_ n4_ n5_ n6_ n7_; clear hb hbox hg; have hnb17 := NB755_750.out; have hnc17 := NB750_755.out; have hcz18_0 : w16.cell? ⟨gb755, 0, none⟩ = some (.int .i64 0) := (blk_cell BK755.out 0).trans rfl; have hcz18_1 : w16.cell? ⟨gb755, 1, none⟩ = some (.int .i64 0) := (blk_cell BK755.out 1).trans rfl; have hcz18_2 : w16.cell? ⟨gb755, 2, none⟩ = some (.int .i64 0) := (blk_cell BK755.out 2).trans rfl; have hfz18_0 := blk_frozen BK755.out 0; have hfz18_1 := blk_frozen BK755.out 1; have hfz18_2 := blk_frozen BK755.out 2) | ((with_reducible refine gate_store (t := 52) (p := 7) rfl ?_); refine store_event (t := 52) (p := 7) (v := ?vo_w19) (w1 := (((w16.setCell ⟨gb755, 0, none⟩ (.int .i64 ((rd_T52 l0_1 x14_1).f0))).setCell ⟨gb755, 1, none⟩ (.int .i64 ((rd_T52 l0_1 x14_1).f1))).setCell ⟨gb755, 2, none⟩ (.int .i64 ((rd_T52 l0_1 x14_1).f2)))) ?hg ?ho ?hn ?hr ?_; (case ho => rfl); (case hg => rfl); (case hn => rfl); (case hr => first | (go_simp; done) | (go_simp; rfl)); intro w19 hw; have n0_ : Aside0 (Kd.R (Kd.int .i64) 3 w19 w.heap.size (fun _ => True) v752 x5_1) := ⟨(by rw [hw]; exact (by (with_reducible repeat (first | apply Kd.R_alloc | apply Kd.R_drewN | apply Kd.R_drew)); exact Kd.R_mono (Kd.R_far (p := ⟨gb755, 2, none⟩) (Kd.R_far (p := ⟨gb755, 1, none⟩) (Kd.R_far (p := ⟨gb755, 0, none⟩) (Kd.R_types HO_5.out BK755.out (by decide)) (fun _ hk => hk.2) (.int .i64 ((rd_T52 l0_1 x14_1).f0))) (fun _ hk => hk.2) (.int .i64 ((rd_T52 l0_1 x14_1).f1))) (fun _ hk => hk.2) (.int .i64 ((rd_T52 l0_1 x14_1).f2))) (fun _ hk => trivial)))⟩; have n1_ : Aside0 (w19.heap[gb750]? = some (.cells #[.int .i64 a0_0, .slice (some ad754) l0_1.length c0_1] 39 (0, 0))) := ⟨(by rw [hw]; exact (by (with_reducible repeat (first | refine blk_drewN ?_ _ | refine blk_drew ?_ | refine blk_alloc ?_ _)); refine blk_far ?_ NB750_755.out _; (with_reducible repeat (first | refine blk_drewN ?_ _ | refine blk_drew ?_ | refine blk_alloc ?_ _)); refine blk_far ?_ NB750_755.out _; (with_reducible repeat (first | refine blk_drewN ?_ _ | refine blk_drew ?_ | refine blk_alloc ?_ _)); refine blk_far ?_ NB750_755.out _; (with_reducible repeat (first | refine blk_drewN ?_ _ | refine blk_drew ?_ | refine blk_alloc ?_ _)); exact BK750.out))⟩; have n2_ : Aside0 (w19.heap[gb755]? = some (.cells #[.int .i64 ((rd_T52 l0_1 x14_1).f0), .int .i64 ((rd_T52 l0_1 x14_1).f1), .int .i64 ((rd_T52 l0_1 x14_1).f2)] 52 (0, 0))) := ⟨(by rw [hw]; exact (by (with_reducible repeat (first | refine blk_drewN ?_ _ | refine blk_drew ?_ | refine blk_alloc ?_ _)); refine blk_put (cs := #[.int .i64 ((rd_T52 l0_1 x14_1).f0), .int .i64 ((rd_T52 l0_1 x14_1).f1), .int .i64 0]) ?_ 2 _ rfl; (with_reducible repeat (first | refine blk_drewN ?_ _ | refine blk_drew ?_ | refine blk_alloc ?_ _)); refine blk_put (cs := #[.int .i64 ((rd_T52 l0_1 x14_1).f0), .int .i64 0, .int .i64 0]) ?_ 1 _ rfl; (with_reducible repeat (first | refine blk_drewN ?_ _ | refine blk_drew ?_ | refine blk_alloc ?_ _)); refine blk_put (cs := #[.int .i64 0, .int .i64 0, .int .i64 0]) ?_ 0 _ rfl; (with_reducible repeat (first | refine blk_drewN ?_ _ | refine blk_drew ?_ | refine blk_alloc ?_ _)); exact BK755.out))⟩; have n3_ : Aside0 (Below w.heap.size w w19) := ⟨(by rw [hw]; exact (by repeat (first | (with_reducible first | exact HB.out | apply below_alloc | apply pw_below_drewN | apply below_drew1 | refine below_set ?_ GE750.out | refine below_set ?_ GE755.out) | exact HB.out)))⟩; clear hw; clear HO_5; clear BK750; clear BK755; clear HB; have HO_5 := n0_; have BK750 := n1_; have BK755 := n2_; have HB := n3_; clear n0_ n1_ n2_ n3_; have p756 : 0 ≤ (x14_1 : Int) := of_decide_eq_true (by first | (with_reducible assumption) | assumption); have q756 : x14_1 < (l1.length : Int) := of_decide_eq_true (by first | (with_reducible assumption) | assumption); obtain ⟨ad756, e756, hx756_0⟩ := Kd.at_bool HR1.out x14_1 p756 q756; (try rw [← Nbq12.out] at hx756_0); cases e756; replace hx756_0 := (HB.out.cell (World.block_lt_of_cell? w _ hx756_0)).trans hx756_0; replace p756 := eq_true p756; replace q756 := eq_true q756; have hcz20_0 : w19.cell? ⟨gb755, 0, none⟩ = some (.int .i64 ((rd_T52 l0_1 x14_1).f0)) := (blk_cell BK755.out 0).trans rfl; have hcz20_1 : w19.cell? ⟨gb755, 1, none⟩ = some (.int .i64 ((rd_T52 l0_1 x14_1).f1)) := (blk_cell BK755.out 1).trans rfl; have hcz20_2 : w19.cell? ⟨gb755, 2, none⟩ = some (.int .i64 ((rd_T52 l0_1 x14_1).f2)) := (blk_cell BK755.out 2).trans rfl; have hfz20_0 := blk_frozen BK755.out 0; have hfz20_1 := blk_frozen BK755.out 1; have hfz20_2 := blk_frozen BK755.out 2; obtain ⟨Ao21, co21, eo21⟩ := Kd.R_slice HO_5.out; subst eo21) | ((with_reducible refine gate_callee (f := 59) rfl ?_); refine goesL_ (some 28) rfl rfl Tryd.func59 (by kernel_rfl) rfl #[.slice Ao21 x5_1.length co21, .int .i64 ((rd_T52 l0_1 x14_1).f0), .int .i64 ((rd_T52 l0_1 x14_1).f1)] rfl (by (try simp only [List.map_toArray, List.map_cons, List.map_nil]); first | done | rfl | (simp only [List.length_drop, List.length_take]; rfl)) ?_; (with_reducible refine (impl_union_same.calls k1 (fun k_ => some k_ = (.slice Ao21 x5_1.length co21 : Value).ownBlock) (.slice Ao21 x5_1.length co21) x5_1 ((rd_T52 l0_1 x14_1).f0) ((rd_T52 l0_1 x14_1).f1) true t758 w _ ?side1 ?side2 A14.out).mono ?_); (case side1 => repeat (first | (with_reducible first | exact HB.out | apply below_alloc | apply pw_below_drewN | apply below_drew1 | refine below_set ?_ GE750.out | refine below_set ?_ GE755.out) | exact HB.out)); (case side2 => exact Kd.R_tight rfl HO_5.out); rintro e w22 ⟨rfl, hy0, hb, hkp⟩; refine ⟨_, rfl, ?_⟩; have n0_ := Aside0.mk (Kd.R_reok rfl hy0 (fun k_ e_ => HO_5.out.1 k_ e_)); have n1_ := Aside0.mk (blk_kept (by (with_reducible repeat (first | refine blk_drewN ?_ _ | refine blk_drew ?_ | refine blk_alloc ?_ _)); exact BK750.out) hkp (fun hs_ => (fun e_ => (Kd.R_ne HO_5.out BK750.out (by decide)) e_) hs_)); have n2_ := Aside0.mk (blk_kept (by (with_reducible repeat (first | refine blk_drewN ?_ _ | refine blk_drew ?_ | refine blk_alloc ?_ _)); exact BK755.out) hkp (fun hs_ => (fun e_ => (Kd.R_ne HO_5.out BK755.out (by decide)) e_) hs_)); have n3_ := Aside0.mk (hb); clear HO_5; clear BK750; clear BK755; clear HB; have HO_5 := n0_; have BK750 := n1_; have BK755 := n2_; have HB := n3_; clear n0_ n1_ n2_ n3_; (try clear hb); (try clear hkp); (try clear hy0)))
         go_ret
         exact ⟨by first | rfl | (simp [errW_none, errW_some] <;> rfl) | (simp [*, errW_none, errW_some] <;> rfl), by repeat (first | (with_reducible first | exact HB.out | apply below_alloc | apply pw_below_drewN | apply below_drew1 | refine below_set ?_ GE750.out | refine below_set ?_ GE755.out) | exact HB.out)⟩
        ·
         replace c15 := Bool.eq_false_iff.mpr c15
         subst c15
         have H1 : ((impl_union_join.f k1 t758 ((rd_T52 l0_1 x14_1).f0) ((rd_T52 l0_1 x14_1).f1)).bind fun t759 => (impl_hasCycle.l0 k1 l1 t759 l0_1 (l0_1.length : Int) (wrap64 (x14_1 + 1)))) = some r := by rw [if_neg (show ¬ (false = true) by decide)] at H; exact H
         clear H
         have H := H1
         clear H1
         replace H := Option.bind_eq_some_iff.mp H
         obtain ⟨t759, A230, H⟩ := H
         replace H : (impl_hasCycle.l0 k1 l1 t759 l0_1 (l0_1.length : Int) (wrap64 (x14_1 + 1))) = some r := H
         have A23 := Aside0.mk A230
         clear A230
         have H' := Aside0.mk H
         clear H
         have p754 : 0 ≤ (x14_1 : Int) := of_decide_eq_true (by first | (with_reducible assumption) | assumption)
         have q754 : x14_1 < (l0_1.length : Int) := of_decide_eq_true (by first | (with_reducible assumption) | assumption)
         obtain ⟨ad754, e754, hx754_0, hx754_1, hx754_2⟩ := at_T52 HR0_1.out x14_1 p754 q754
         cases e754
         replace hx754_0 := (HB.out.cell (World.block_lt_of_cell? w _ hx754_0)).trans hx754_0
         replace hx754_1 := (HB.out.cell (World.block_lt_of_cell? w _ hx754_1)).trans hx754_1
         replace hx754_2 := (HB.out.cell (World.block_lt_of_cell? w _ hx754_2)).trans hx754_2
         replace p754 := eq_true p754
         replace q754 := eq_true q754
         go_wp2_with (first | ((with_reducible refine gate_dst (N := 7) rfl ?_); refine box_event ?hg (N := 7) ?hd (cs := #[.int .i64 0, .int .i64 0, .int .i64 0]) (t := 52) ?hr ?_; (case hd => rfl); (case hg => rfl); (case hr => first | (go_simp; done) | (go_simp; rfl)); intro gb755 hg w24 hbox hb; have n0_ := Aside0.mk (Kd.R_below (by (with_reducible repeat (first | apply Kd.R_alloc | apply Kd.R_drewN | apply Kd.R_drew)); exact HO_5.out) hb); have n1_ := Aside0.mk (blk_below (g := gb750) (o := .cells #[.int .i64 a0_0, .slice (some ad754) l0_1.length c0_1] 39 (0, 0)) (by (with_reducible repeat (first | refine blk_drewN ?_ _ | refine blk_drew ?_ | refine blk_alloc ?_ _)); exact BK750.out) hb); have n2_ := Aside0.mk (below_step (by repeat (first | (with_reducible first | exact HB.out | apply below_alloc | apply pw_below_drewN | apply below_drew1 | refine below_set ?_ GE750.out) | exact HB.out)) hb); have n3_ := Aside0.mk (hbox); have n4_ := Aside0.mk ((by rw [hg]; exact (below_size (by repeat (first | (with_reducible first | exact HB.out | apply below_alloc | apply pw_below_drewN | apply below_drew1 | refine below_set ?_ GE750.out) | exact HB.out))) : w.heap.size ≤ gb755)); have n5_ := Aside0.mk ((by rw [hg]; exact (below_size (by repeat (first | (with_reducible first | exact HB.out | apply below_alloc | apply pw_below_drewN | apply below_drew1 | refine below_set ?_ GE750.out) | exact HB.out))) : w.heap.size ≤ gb755)); have n6_ := Aside0.mk ((by rw [hg]; exact Nat.ne_of_lt (blk_lt (g := gb750) (o := .cells #[.int .i64 a0_0, .slice (some ad754) l0_1.length c0_1] 39 (0, 0)) (by (with_reducible repeat (first | refine blk_drewN ?_ _ | refine blk_drew ?_ | refine blk_alloc ?_ _)); exact BK750.out)) : gb750 ≠ gb755)); have n7_ := Aside0.mk ((by rw [hg]; exact Nat.ne_of_gt (blk_lt (g := gb750) (o := .cells #[.int .i64 a0_0, .slice (some ad754) l0_1.length c0_1] 39 (0, 0)) (by (with_reducible repeat (first | refine blk_drewN ?_ _ | refine blk_drew ?_ | refine blk_alloc ?_ _)); exact BK750.out)) : gb755 ≠ gb750)); clear HO_5; clear BK750; clear HB; have HO_5 := n0_; have BK750 := n1_; have HB := n2_; have BK755 := n3_; have GW755 := n4_; have GE755 := n5_; have NB750_755 := n6_; have NB755_750 := n7_; clear n0_ n1_ n2_ n3_ n4_ n5_ n6_ n7_; clear hb hbox hg; have hnb25 := NB755_750.out; have hnc25 := NB750_755.out; have hcz26_0 : w24.cell? ⟨gb755, 0, none⟩ = some (.int .i64 0) := (blk_cell BK755.out 0).trans rfl; have hcz26_1 : w24.cell? ⟨gb755, 1, none⟩ = some (.int .i64 0) := (blk_cell BK755.out 1).trans rfl; have hcz26_2 : w24.cell? ⟨gb755, 2, none⟩ = some (.int .i64 0) := (blk_cell BK755.out 2).trans rfl; have hfz26_0 := blk_frozen BK755.out 0; have hfz26_1 := blk_frozen BK755.out 1; have hfz26_2 := blk_frozen BK755.out 2) | ((with_reducible refine gate_store (t := 52) (p := 7) rfl ?_); refine store_event (t := 52) (p := 7) (v := ?vo_w27) (w1 := (((w24.setCell ⟨gb755, 0, none⟩ (.int .i64 ((rd_T52 l0_1 x14_1).f0))).setCell ⟨gb755, 1, none⟩ (.int .i64 ((rd_T52 l0_1 x14_1).f1))).setCell ⟨gb755, 2, none⟩ (.int .i64 ((rd_T52 l0_1 x14_1).f2)))) ?hg ?ho ?hn ?hr ?_; (case ho => rfl); (case hg => rfl); (case hn => rfl); (case hr => first | (go_simp; done) | (go_simp; rfl)); intro w27 hw; have n0_ : Aside0 (Kd.R (Kd.int .i64) 3 w27 w.heap.size (fun _ => True) v752 x5_1) := ⟨(by rw [hw]; exact (by (with_reducible repeat (first | apply Kd.R_alloc | apply Kd.R_drewN | apply Kd.R_drew)); exact Kd.R_mono (Kd.R_far (p := ⟨gb755, 2, none⟩) (Kd.R_far (p := ⟨gb755, 1, none⟩) (Kd.R_far (p := ⟨gb755, 0, none⟩) (Kd.R_types HO_5.out BK755.out (by decide)) (fun _ hk => hk.2) (.int .i64 ((rd_T52 l0_1 x14_1).f0))) (fun _ hk => hk.2) (.int .i64 ((rd_T52 l0_1 x14_1).f1))) (fun _ hk => hk.2) (.int .i64 ((rd_T52 l0_1 x14_1).f2))) (fun _ hk => trivial)))⟩; have n1_ : Aside0 (w27.heap[gb750]? = some (.cells #[.int .i64 a0_0, .slice (some ad754) l0_1.length c0_1] 39 (0, 0))) := ⟨(by rw [hw]; exact (by (with_reducible repeat (first | refine blk_drewN ?_ _ | refine blk_drew ?_ | refine blk_alloc ?_ _)); refine blk_far ?_ NB750_755.out _; (with_reducible repeat (first | refine blk_drewN ?_ _ | refine blk_drew ?_ | refine blk_alloc ?_ _)); refine blk_far ?_ NB750_755.out _; (with_reducible repeat (first | refine blk_drewN ?_ _ | refine blk_drew ?_ | refine blk_alloc ?_ _)); refine blk_far ?_ NB750_755.out _; (with_reducible repeat (first | refine blk_drewN ?_ _ | refine blk_drew ?_ | refine blk_alloc ?_ _)); exact BK750.out))⟩; have n2_ : Aside0 (w27.heap[gb755]? = some (.cells #[.int .i64 ((rd_T52 l0_1 x14_1).f0), .int .i64 ((rd_T52 l0_1 x14_1).f1), .int .i64 ((rd_T52 l0_1 x14_1).f2)] 52 (0, 0))) := ⟨(by rw [hw]; exact (by (with_reducible repeat (first | refine blk_drewN ?_ _ | refine blk_drew ?_ | refine blk_alloc ?_ _)); refine blk_put (cs := #[.int .i64 ((rd_T52 l0_1 x14_1).f0), .int .i64 ((rd_T52 l0_1 x14_1).f1), .int .i64 0]) ?_ 2 _ rfl; (with_reducible repeat (first | refine blk_drewN ?_ _ | refine blk_drew ?_ | refine blk_alloc ?_ _)); refine blk_put (cs := #[.int .i64 ((rd_T52 l0_1 x14_1).f0), .int .i64 0, .int .i64 0]) ?_ 1 _ rfl; (with_reducible repeat (first | refine blk_drewN ?_ _ | refine blk_drew ?_ | refine blk_alloc ?_ _)); refine blk_put (cs := #[.int .i64 0, .int .i64 0, .int .i64 0]) ?_ 0 _ rfl; (with_reducible repeat (first | refine blk_drewN ?_ _ | refine blk_drew ?_ | refine blk_alloc ?_ _)); exact BK755.out))⟩; have n3_ : Aside0 (Below w.heap.size w w27) := ⟨(by rw [hw]; exact (by repeat (first | (with_reducible first | exact HB.out | apply below_alloc | apply pw_below_drewN | apply below_drew1 | refine below_set ?_ GE750.out | refine below_set ?_ GE755.out) | exact HB.out)))⟩; clear hw; clear HO_5; clear BK750; clear BK755; clear HB; have HO_5 := n0_; have BK750 := n1_; have BK755 := n2_; have HB := n3_; clear n0_ n1_ n2_ n3_; have p756 : 0 ≤ (x14_1 : Int) := of_decide_eq_true (by first | (with_reducible assumption) | assumption); have q756 : x14_1 < (l1.length : Int) := of_decide_eq_true (by first | (with_reducible assumption) | assumption); obtain ⟨ad756, e756, hx756_0⟩ := Kd.at_bool HR1.out x14_1 p756 q756; (try rw [← Nbq12.out] at hx756_0); cases e756; replace hx756_0 := (HB.out.cell (World.block_lt_of_cell? w _ hx756_0)).trans hx756_0; replace p756 := eq_true p756; replace q756 := eq_true q756; have hcz28_0 : w27.cell? ⟨gb755, 0, none⟩ = some (.int .i64 ((rd_T52 l0_1 x14_1).f0)) := (blk_cell BK755.out 0).trans rfl; have hcz28_1 : w27.cell? ⟨gb755, 1, none⟩ = some (.int .i64 ((rd_T52 l0_1 x14_1).f1)) := (blk_cell BK755.out 1).trans rfl; have hcz28_2 : w27.cell? ⟨gb755, 2, none⟩ = some (.int .i64 ((rd_T52 l0_1 x14_1).f2)) := (blk_cell BK755.out 2).trans rfl; have hfz28_0 := blk_frozen BK755.out 0; have hfz28_1 := blk_frozen BK755.out 1; have hfz28_2 := blk_frozen BK755.out 2; obtain ⟨Ao29, co29, eo29⟩ := Kd.R_slice HO_5.out; subst eo29) | ((with_reducible refine gate_callee (f := 59) rfl ?_); refine goesL_ (some 28) rfl rfl Tryd.func59 (by kernel_rfl) rfl #[.slice Ao29 x5_1.length co29, .int .i64 ((rd_T52 l0_1 x14_1).f0), .int .i64 ((rd_T52 l0_1 x14_1).f1)] rfl (by (try simp only [List.map_toArray, List.map_cons, List.map_nil]); first | done | rfl | (simp only [List.length_drop, List.length_take]; rfl)) ?_; (with_reducible refine (impl_union_same.calls k1 (fun k_ => some k_ = (.slice Ao29 x5_1.length co29 : Value).ownBlock) (.slice Ao29 x5_1.length co29) x5_1 ((rd_T52 l0_1 x14_1).f0) ((rd_T52 l0_1 x14_1).f1) false t758 w _ ?side1 ?side2 A14.out).mono ?_); (case side1 => repeat (first | (with_reducible first | exact HB.out | apply below_alloc | apply pw_below_drewN | apply below_drew1 | refine below_set ?_ GE750.out | refine below_set ?_ GE755.out) | exact HB.out)); (case side2 => exact Kd.R_tight rfl HO_5.out); rintro e w30 ⟨rfl, hy0, hb, hkp⟩; refine ⟨_, rfl, ?_⟩; have n0_ := Aside0.mk (Kd.R_reok rfl hy0 (fun k_ e_ => HO_5.out.1 k_ e_)); have n1_ := Aside0.mk (blk_kept (by (with_reducible repeat (first | refine blk_drewN ?_ _ | refine blk_drew ?_ | refine blk_alloc ?_ _)); exact BK750.out) hkp (fun hs_ => (fun e_ => (Kd.R_ne HO_5.out BK750.out (by decide)) e_) hs_)); have n2_ := Aside0.mk (blk_kept (by (with_reducible repeat (first | refine blk_drewN ?_ _ | refine blk_drew ?_ | refine blk_alloc ?_ _)); exact BK755.out) hkp (fun hs_ => (fun e_ => (Kd.R_ne HO_5.out BK755.out (by decide)) e_) hs_)); have n3_ := Aside0.mk (hb); clear HO_5; clear BK750; clear BK755; clear HB; have HO_5 := n0_; have BK750 := n1_; have BK755 := n2_; have HB := n3_; clear n0_ n1_ n2_ n3_; (try clear hb); (try clear hkp); (try clear hy0); have hcz31_0 : w30.cell? ⟨gb755, 0, none⟩ = some (.int .i64 ((rd_T52 l0_1 x14_1).f0)) := (blk_cell BK755.out 0).trans rfl; have hcz31_1 : w30.cell? ⟨gb755, 1, none⟩ = some (.int .i64 ((rd_T52 l0_1 x14_1).f1)) := (blk_cell BK755.out 1).trans rfl; have hcz31_2 : w30.cell? ⟨gb755, 2, none⟩ = some (.int .i64 ((rd_T52 l0_1 x14_1).f2)) := (blk_cell BK755.out 2).trans rfl; have hfz31_0 := blk_frozen BK755.out 0; have hfz31_1 := blk_frozen BK755.out 1; have hfz31_2 := blk_frozen BK755.out 2) | ((with_reducible refine gate_callee (f := 74) rfl ?_); refine goesL_ (some 34) rfl rfl Tryd.func74 (by kernel_rfl) rfl #[.slice Ao29 x5_1.length co29, .int .i64 ((rd_T52 l0_1 x14_1).f0), .int .i64 ((rd_T52 l0_1 x14_1).f1)] rfl (by (try simp only [List.map_toArray, List.map_cons, List.map_nil]); first | done | rfl | (simp only [List.length_drop, List.length_take]; rfl)) ?_; (with_reducible refine (impl_union_join.calls k1 (fun k_ => some k_ = (.slice Ao29 x5_1.length co29 : Value).ownBlock) (.slice Ao29 x5_1.length co29) t758 ((rd_T52 l0_1 x14_1).f0) ((rd_T52 l0_1 x14_1).f1) t759 w _ ?side1 ?side2 A23.out).mono ?_); (case side1 => repeat (first | (with_reducible first | exact HB.out | apply below_alloc | apply pw_below_drewN | apply below_drew1 | refine below_set ?_ GE750.out | refine below_set ?_ GE755.out) | exact HB.out)); (case side2 => exact Kd.R_tight rfl HO_5.out); rintro e w32 ⟨rfl, hy0, hb, hkp⟩; refine ⟨_, rfl, ?_⟩; have n0_ := Aside0.mk (Kd.R_reok rfl hy0 (fun k_ e_ => HO_5.out.1 k_ e_)); have n1_ := Aside0.mk (blk_kept (by (with_reducible repeat (first | refine blk_drewN ?_ _ | refine blk_drew ?_ | refine blk_alloc ?_ _)); exact BK750.out) hkp (fun hs_ => (fun e_ => (Kd.R_ne HO_5.out BK750.out (by decide)) e_) hs_)); have n2_ := Aside0.mk (blk_kept (by (with_reducible repeat (first | refine blk_drewN ?_ _ | refine blk_drew ?_ | refine blk_alloc ?_ _)); exact BK755.out) hkp (fun hs_ => (fun e_ => (Kd.R_ne HO_5.out BK755.out (by decide)) e_) hs_)); have n3_ := Aside0.mk (hb); clear HO_5; clear BK750; clear BK755; clear HB; have HO_5 := n0_; have BK750 := n1_; have BK755 := n2_; have HB := n3_; clear n0_ n1_ n2_ n3_; (try clear hb); (try clear hkp); (try clear hy0)))
         go_roundg k1
         case measure => have := HK1.out; omega
         case rel => exact ⟨(t759), (wrap64 (x14_1 + 1)), (by first | rfl | (simp; done) | (simp [*]; done)), H', ⟨by have := HK1.out; omega⟩, ⟨by (with_reducible repeat (first | apply Kd.R_alloc | apply Kd.R_drewN | apply Kd.R_drew)); exact HO_5.out⟩, ⟨by (with_reducible repeat (first | refine blk_drewN ?_ _ | refine blk_drew ?_ | refine blk_alloc ?_ _)); exact BK750.out⟩, ⟨by repeat (first | (with_reducible first | exact HB.out | apply below_alloc | apply pw_below_drewN | apply below_drew1 | refine below_set ?_ GE750.out | refine below_set ?_ GE755.out) | exact HB.out)⟩⟩
       ·
        replace c13 := Bool.eq_false_iff.mpr c13
        subst c13
        have H1 : (impl_hasCycle.l0 k1 l1 x5_1 l0_1 (l0_1.length : Int) (wrap64 (x14_1 + 1))) = some r := by rw [if_neg (show ¬ (false = true) by decide)] at H; exact H
        clear H
        have H := H1
        clear H1
        have H' := Aside0.mk H
        clear H
        have p754 : 0 ≤ (x14_1 : Int) := of_decide_eq_true (by first | (with_reducible assumption) | assumption)
        have q754 : x14_1 < (l0_1.length : Int) := of_decide_eq_true (by first | (with_reducible assumption) | assumption)
        obtain ⟨ad754, e754, hx754_0, hx754_1, hx754_2⟩ := at_T52 HR0_1.out x14_1 p754 q754
        cases e754
        replace hx754_0 := (HB.out.cell (World.block_lt_of_cell? w _ hx754_0)).trans hx754_0
        replace hx754_1 := (HB.out.cell (World.block_lt_of_cell? w _ hx754_1)).trans hx754_1
        replace hx754_2 := (HB.out.cell (World.block_lt_of_cell? w _ hx754_2)).trans hx754_2
        replace p754 := eq_true p754
        replace q754 := eq_true q754
        go_wp2_with (first | ((with_reducible refine gate_dst (N := 7) rfl ?_); refine box_event ?hg (N := 7) ?hd (cs := #[.int .i64 0, .int .i64 0, .int .i64 0]) (t := 52) ?hr ?_; (case hd => rfl); (case hg => rfl); (case hr => first | (go_simp; done) | (go_simp; rfl)); intro gb755 hg w33 hbox hb; have n0_ := Aside0.mk (Kd.R_below (by (with_reducible repeat (first | apply Kd.R_alloc | apply Kd.R_drewN | apply Kd.R_drew)); exact HO_5.out) hb); have n1_ := Aside0.mk (blk_below (g := gb750) (o := .cells #[.int .i64 a0_0, .slice (some ad754) l0_1.length c0_1] 39 (0, 0)) (by (with_reducible repeat (first | refine blk_drewN ?_ _ | refine blk_drew ?_ | refine blk_alloc ?_ _)); exact BK750.out) hb); have n2_ := Aside0.mk (below_step (by repeat (first | (with_reducible first | exact HB.out | apply below_alloc | apply pw_below_drewN | apply below_drew1 | refine below_set ?_ GE750.out) | exact HB.out)) hb); have n3_ := Aside0.mk (hbox); have n4_ := Aside0.mk ((by rw [hg]; exact (below_size (by repeat (first | (with_reducible first | exact HB.out | apply below_alloc | apply pw_below_drewN | apply below_drew1 | refine below_set ?_ GE750.out) | exact HB.out))) : w.heap.size ≤ gb755)); have n5_ := Aside0.mk ((by rw [hg]; exact (below_size (by repeat (first | (with_reducible first | exact HB.out | apply below_alloc | apply pw_below_drewN | apply below_drew1 | refine below_set ?_ GE750.out) | exact HB.out))) : w.heap.size ≤ gb755)); have n6_ := Aside0.mk ((by rw [hg]; exact Nat.ne_of_lt (blk_lt (g := gb750) (o := .cells #[.int .i64 a0_0, .slice (some ad754) l0_1.length c0_1] 39 (0, 0)) (by (with_reducible repeat (first | refine blk_drewN ?_ _ | refine blk_drew ?_ | refine blk_alloc ?_ _)); exact BK750.out)) : gb750 ≠ gb755)); have n7_ := Aside0.mk ((by rw [hg]; exact Nat.ne_of_gt (blk_lt (g := gb750) (o := .cells #[.int .i64 a0_0, .slice (some ad754) l0_1.length c0_1] 39 (0, 0)) (by (with_reducible repeat (first | refine blk_drewN ?_ _ | refine blk_drew ?_ | refine blk_alloc ?_ _)); exact BK750.out)) : gb755 ≠ gb750)); clear HO_5; clear BK750; clear HB; have HO_5 := n0_; have BK750 := n1_; have HB := n2_; have BK755 := n3_; have GW755 := n4_; have GE755 := n5_; have NB750_755 := n6_; have NB755_750 := n7_; clear n0_ n1_ n2_ n3_ n4_ n5_ n6_ n7_; clear hb hbox hg; have hnb34 := NB755_750.out; have hnc34 := NB750_755.out; have hcz35_0 : w33.cell? ⟨gb755, 0, none⟩ = some (.int .i64 0) := (blk_cell BK755.out 0).trans rfl; have hcz35_1 : w33.cell? ⟨gb755, 1, none⟩ = some (.int .i64 0) := (blk_cell BK755.out 1).trans rfl; have hcz35_2 : w33.cell? ⟨gb755, 2, none⟩ = some (.int .i64 0) := (blk_cell BK755.out 2).trans rfl; have hfz35_0 := blk_frozen BK755.out 0; have hfz35_1 := blk_frozen BK755.out 1; have hfz35_2 := blk_frozen BK755.out 2; have p756 : 0 ≤ (x14_1 : Int) := of_decide_eq_true (by first | (with_reducible assumption) | assumption); have q756 : x14_1 < (l1.length : Int) := of_decide_eq_true (by first | (with_reducible assumption) | assumption); obtain ⟨ad756, e756, hx756_0⟩ := Kd.at_bool HR1.out x14_1 p756 q756; (try rw [← Nbq12.out] at hx756_0); cases e756; have hn756_0 : ad756.block ≠ gb755 := Nat.ne_of_lt (Nat.lt_of_lt_of_le (by have := World.block_lt_of_cell? _ _ hx756_0; first | rwa [add_block] at this | exact this) GW755.out); have hn756_1 : ad756.block ≠ gb755 := Nat.ne_of_lt (Nat.lt_of_lt_of_le (by have := World.block_lt_of_cell? _ _ hx756_0; first | rwa [add_block] at this | exact this) GW755.out); have hn756_2 : ad756.block ≠ gb755 := Nat.ne_of_lt (Nat.lt_of_lt_of_le (by have := World.block_lt_of_cell? _ _ hx756_0; first | rwa [add_block] at this | exact this) GW755.out); replace hx756_0 := (HB.out.cell (World.block_lt_of_cell? w _ hx756_0)).trans hx756_0; replace hx756_0 := (cell_far (p := ⟨gb755, 0, none⟩) (by first | (rw [add_block]; exact hn756_0) | (show (Addr.add _ _).block ≠ _; rw [add_block]; exact hn756_0) | exact hn756_0) (.int .i64 ((rd_T52 l0_1 x14_1).f0))).trans hx756_0; replace hx756_0 := (cell_far (p := ⟨gb755, 1, none⟩) (by first | (rw [add_block]; exact hn756_1) | (show (Addr.add _ _).block ≠ _; rw [add_block]; exact hn756_1) | exact hn756_1) (.int .i64 ((rd_T52 l0_1 x14_1).f1))).trans hx756_0; replace hx756_0 := (cell_far (p := ⟨gb755, 2, none⟩) (by first | (rw [add_block]; exact hn756_2) | (show (Addr.add _ _).block ≠ _; rw [add_block]; exact hn756_2) | exact hn756_2) (.int .i64 ((rd_T52 l0_1 x14_1).f2))).trans hx756_0; clear hn756_0; clear hn756_1; clear hn756_2; replace p756 := eq_true p756; replace q756 := eq_true q756))
        go_roundg k1
        case measure => have := HK1.out; omega
        case rel => exact ⟨(x5_1), (wrap64 (x14_1 + 1)), (by first | rfl | (simp; done) | (simp [*]; done)), H', ⟨by have := HK1.out; omega⟩, ⟨by (with_reducible repeat (first | apply Kd.R_alloc | apply Kd.R_drewN | apply Kd.R_drew)); exact Kd.R_mono (Kd.R_far (p := ⟨gb755, 2, none⟩) (Kd.R_far (p := ⟨gb755, 1, none⟩) (Kd.R_far (p := ⟨gb755, 0, none⟩) (Kd.R_types HO_5.out BK755.out (by decide)) (fun _ hk => hk.2) (.int .i64 ((rd_T52 l0_1 x14_1).f0))) (fun _ hk => hk.2) (.int .i64 ((rd_T52 l0_1 x14_1).f1))) (fun _ hk => hk.2) (.int .i64 ((rd_T52 l0_1 x14_1).f2))) (fun _ hk => trivial)⟩, ⟨by (with_reducible repeat (first | refine blk_drewN ?_ _ | refine blk_drew ?_ | refine blk_alloc ?_ _)); refine blk_far ?_ NB750_755.out _; (with_reducible repeat (first | refine blk_drewN ?_ _ | refine blk_drew ?_ | refine blk_alloc ?_ _)); refine blk_far ?_ NB750_755.out _; (with_reducible repeat (first | refine blk_drewN ?_ _ | refine blk_drew ?_ | refine blk_alloc ?_ _)); refine blk_far ?_ NB750_755.out _; (with_reducible repeat (first | refine blk_drewN ?_ _ | refine blk_drew ?_ | refine blk_alloc ?_ _)); exact BK750.out⟩, ⟨by repeat (first | (with_reducible first | exact HB.out | apply below_alloc | apply pw_below_drewN | apply below_drew1 | refine below_set ?_ GE750.out | refine below_set ?_ GE755.out) | exact HB.out)⟩⟩
      ·
       rw [if_neg c11] at H
       exact absurd H (by simp)
     ·
      rw [if_neg c10] at H
      exact absurd H (by simp)
    ·
     rw [if_neg c9] at H
     exact absurd H (by simp)
   ·
    rw [if_neg c8] at H
    have c8b0 : decide (x14_1 < (l0_1.length : Int)) = false := decide_eq_false c8
    clear c8
    obtain rfl := Option.some.inj H
    go_wp2
    go_ret
    exact ⟨by first | rfl | (simp [errW_none, errW_some] <;> rfl) | (simp [*, errW_none, errW_some] <;> rfl), by repeat (first | (with_reducible first | exact HB.out | apply below_alloc | apply pw_below_drewN | apply below_drew1 | refine below_set ?_ GE750.out) | exact HB.out)⟩

end Go.Proofs.YthkdkjmnnpcdhaaDoor.P

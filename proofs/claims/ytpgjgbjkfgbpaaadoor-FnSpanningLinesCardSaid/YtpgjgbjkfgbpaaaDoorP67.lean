/- Contracts of Go functions of this seat's translation, written by this repo's wip/mk.py: it calls the kit's print.py with contracts typed by hand in place of functions that it does not take. Not trusted: Lean checks it. -/
import Derived.Test.YtpgjgbjkfgbpaaaDoorP0
import Derived.Test.YtpgjgbjkfgbpaaaDoorP5
import Derived.Test.YtpgjgbjkfgbpaaaDoorP25
namespace Go.Proofs.YtpgjgbjkfgbpaaaDoor.P
open Go.RowKit Go.Proofs.YtpgjgbjkfgbpaaaDoorW.PrintWords Go.Proofs.YtpgjgbjkfgbpaaaDoorW.PrintLast Go.Proofs.YtpgjgbjkfgbpaaaDoorW.PrintMore
attribute [local go_sem] max2_int min2_int max_two min_two max_three min_three max_four min_four   -- for this text's walks alone
set_option linter.unusedVariables false
set_option linter.unusedSimpArgs false

/-! ### impl_hasCycle: function 91 -/
def impl_hasCycle.l0 : Nat → List Bool → List Int → List (S79) → Int → Int → Option (Bool)
 | 0, _, _, _, _, _ => none
 | k + 1, x1, x5, x12, x13, x14 => if x14 < x13 then (if 0 ≤ x14 then (if x14 < (x12.length : Int) then (if x14 < (x1.length : Int) then (if rdOf false x1 x14 = true then ((impl_union_same.f k x5 ((rd_T79 x12 x14).f0) ((rd_T79 x12 x14).f1)).bind fun bt628 => (if bt628.1 = true then (some true) else ((impl_union_join.f k bt628.2 ((rd_T79 x12 x14).f0) ((rd_T79 x12 x14).f1)).bind fun t630 => (impl_hasCycle.l0 k x1 t630 x12 x13 (wrap64 (x14 + 1)))))) else (impl_hasCycle.l0 k x1 x5 x12 x13 (wrap64 (x14 + 1)))) else (none)) else (none)) else (none)) else (some false)
def impl_hasCycle.f (k : Nat) (a0_0 : Int) (l0_1 : List (S79)) (l1 : List Bool) : Option (Bool) := (impl_newUnion.f k a0_0).bind fun t622 => (impl_hasCycle.l0 k l1 t622 l0_1 (l0_1.length : Int) 0)
theorem impl_hasCycle.mono_l : ∀ k, (∀ y0 y1 y2 y3 y4, LeO (impl_hasCycle.l0 k y0 y1 y2 y3 y4) (impl_hasCycle.l0 (k + 1) y0 y1 y2 y3 y4))
 | 0 => fun _ _ _ _ _ r h => by simp [impl_hasCycle.l0] at h
 | k + 1 => by
  have ih0 := impl_hasCycle.mono_l k
  ·
   intro y0 y1 y2 y3 y4
   unfold impl_hasCycle.l0
   repeat' first
   | (with_reducible exact ih0 _ _ _ _ _)
   | (with_reducible exact impl_newUnion.mono _ _)
   | (with_reducible exact impl_union_join.mono _ _ _ _)
   | (with_reducible exact impl_union_same.mono _ _ _ _)
   | (with_reducible exact LeO.refl _)
   | (with_reducible exact LeO.none _)
   | (with_reducible refine LeO.ite ?_ ?_)
   | (with_reducible refine LeO.bind ?_ (fun _ => ?_))
   | exact ih0 _ _ _ _ _
   | exact impl_newUnion.mono _ _
   | exact impl_union_join.mono _ _ _ _
   | exact impl_union_same.mono _ _ _ _
   | exact LeO.none _
   | refine LeO.ite ?_ ?_
   | refine LeO.bind ?_ (fun _ => ?_)
theorem impl_hasCycle.mono : ∀ a0 a1 a2 k, LeO (impl_hasCycle.f k a0 a1 a2) (impl_hasCycle.f (k + 1) a0 a1 a2) := by
 intro a0 a1 a2 k
 have ih0 := impl_hasCycle.mono_l k
 unfold impl_hasCycle.f
 repeat' first
   | (with_reducible exact ih0 _ _ _ _ _)
   | (with_reducible exact impl_newUnion.mono _ _)
   | (with_reducible exact impl_union_join.mono _ _ _ _)
   | (with_reducible exact impl_union_same.mono _ _ _ _)
   | (with_reducible exact LeO.refl _)
   | (with_reducible exact LeO.none _)
   | (with_reducible refine LeO.ite ?_ ?_)
   | (with_reducible refine LeO.bind ?_ (fun _ => ?_))
   | exact ih0 _ _ _ _ _
   | exact impl_newUnion.mono _ _
   | exact impl_union_join.mono _ _ _ _
   | exact impl_union_same.mono _ _ _ _
   | exact LeO.none _
   | refine LeO.ite ?_ ?_
   | refine LeO.bind ?_ (fun _ => ?_)
set_option maxHeartbeats 8000000 in
set_option maxRecDepth 100000 in
theorem impl_hasCycle.calls (k : Nat) (a0_0 : Int) (A0_1 : Option Addr) (c0_1 : Nat) (l0_1 : List (S79)) (A1 : Option Addr) (c1 : Nat) (l1 : List Bool) (r : Bool) (w : World) (hr0_1 : Kd.C k79 w A0_1 l0_1.length l0_1) (hc0_1 : l0_1.length ≤ c0_1) (hr1 : Kd.C Kd.bool w A1 l1.length l1) (hc1 : l1.length ≤ c1) (h : impl_hasCycle.f k a0_0 l0_1 l1 = some r) :
  Calls Tryd.prog 91 #[.agg #[.int .i64 a0_0, .slice A0_1 l0_1.length c0_1], .slice A1 l1.length c1] w fun e w' => e = .returned (.bool r) ∧ Below w.heap.size w w' := by
 have hu25 := Tryd.underlying25
 have hu79 := Tryd.underlying79
 have HR0_1 := Aside0.mk hr0_1
 have HC0_1 := Aside0.mk hc0_1
 clear hr0_1 hc0_1
 have HR1 := Aside0.mk hr1
 have HC1 := Aside0.mk hc1
 clear hr1 hc1
 have HB := aM (Below.refl w.heap.size w)
 have H : ((impl_newUnion.f k a0_0).bind fun t622 => (impl_hasCycle.l0 k l1 t622 l0_1 (l0_1.length : Int) 0)) = some r := h
 clear h
 replace H := Option.bind_eq_some_iff.mp H
 obtain ⟨t622, A30, H⟩ := H
 replace H : (impl_hasCycle.l0 k l1 t622 l0_1 (l0_1.length : Int) 0) = some r := H
 have A3 := Aside0.mk A30
 clear A30
 have H' := Aside0.mk H
 clear H
 go_enter Tryd.func91, Tryd.ntmps91
 go_wp2_with (first | ((with_reducible refine gate_dst (N := 2) rfl ?_); refine box_event ?hg (N := 2) ?hd (cs := #[.int .i64 a0_0, .slice A0_1 l0_1.length c0_1]) (t := 25) ?hr ?_; (case hd => rfl); (case hg => rfl); (case hr => exact hR); intro gb621 hg w4 hbox hb; have n0_ := aM (below_step (bl0 HB) hb); have n1_ := aM (hbox); have n2_ := aM ((by rw [hg]; exact (below_size (bl0 HB)) : w.heap.size ≤ gb621)); have n3_ := aM ((by rw [hg]; exact (below_size (bl0 HB)) : w.heap.size ≤ gb621)); clear HB; have HB := n0_; have BK621 := n1_; have GW621 := n2_; have GE621 := n3_; clear n0_ n1_ n2_ n3_; clear hb hbox hg; have hcz5_0 : w4.cell? ⟨gb621, 0, none⟩ = some (.int .i64 a0_0) := (blk_cell BK621.out 0).trans rfl; have hcz5_1 : w4.cell? ⟨gb621, 1, none⟩ = some (.slice A0_1 l0_1.length c0_1) := (blk_cell BK621.out 1).trans rfl; have hfz5_0 := blk_frozen BK621.out 0; have hfz5_1 := blk_frozen BK621.out 1) | ((with_reducible refine gate_callee (f := 87) rfl ?_); refine goesL_ (some 10) rfl rfl Tryd.func87 (by kernel_rfl) rfl #[.int .i64 a0_0] rfl mP ?_; (with_reducible refine (impl_newUnion.calls k a0_0 t622 _ A3.out).mono ?_); rintro e w6 ⟨v623, rfl, ho0, hb⟩; refine ⟨_, rfl, ?_⟩; have n0_ := aM (Kd.R_lower ho0 (below_size (bl1 HB GE621))); have n1_ := aM (blk_below (g := gb621) (o := .cells #[.int .i64 a0_0, .slice A0_1 l0_1.length c0_1] 25 (0, 0)) (gB (BK621.out)) hb); have n2_ := aM (below_step (bl1 HB GE621) hb); clear BK621; clear HB; have HO624 := n0_; have BK621 := n1_; have HB := n2_; clear n0_ n1_ n2_; (try clear hb); (try clear hb2); (try clear hk); (try clear hi); (try clear ho0); have hcz7_0 : w6.cell? ⟨gb621, 0, none⟩ = some (.int .i64 a0_0) := (blk_cell BK621.out 0).trans rfl; have hcz7_1 : w6.cell? ⟨gb621, 1, none⟩ = some (.slice A0_1 l0_1.length c0_1) := (blk_cell BK621.out 1).trans rfl; have hfz7_0 := blk_frozen BK621.out 0; have hfz7_1 := blk_frozen BK621.out 1))
 go_loopg [14] k (fun kq v14 w' => ∃ (x5_1 : List Int) (x14_1 : Int), v14 = .int .i64 x14_1 ∧ Aside0 (impl_hasCycle.l0 kq l1 x5_1 l0_1 (l0_1.length : Int) x14_1 = some r) ∧ Aside0 (kq ≤ k) ∧ Aside0 (Kd.R (Kd.int .i64) 3 w' w.heap.size (fun _ => True) v623 x5_1) ∧ Aside0 (w'.heap[gb621]? = some (.cells #[.int .i64 a0_0, (.slice A0_1 l0_1.length c0_1)] 25 (0, 0))) ∧ Aside0 (Below w.heap.size w w'))
 case atStart => exact ⟨(t622), (0), fS, H', ⟨Nat.le_refl _⟩, ⟨gR (HO624.out)⟩, ⟨gB (BK621.out)⟩, ⟨bl1 HB GE621⟩⟩
 case round =>
  clear H'
  try clear c1
  try clear p2
  try clear hcz5_0
  try clear hcz5_1
  try clear hcz7_0
  try clear hcz7_1
  try clear hfz5_0
  try clear hfz5_1
  try clear hfz7_0
  try clear hfz7_1
  obtain ⟨x5_1, x14_1, rfl, HA, HK1, HO_5, BK621, HB⟩ := hrel
  cases gk with
  | zero => exact absurd HA.out (by simp [impl_hasCycle.l0])
  | succ k1 =>
   have H := HA.out
   clear HA
   simp only [impl_hasCycle.l0] at H
   by_cases c8 : x14_1 < (l0_1.length : Int)
   rotate_left
   ·
    rw [if_neg c8] at H
    have c8b0 : decide (x14_1 < (l0_1.length : Int)) = false := decide_eq_false c8
    clear c8
    obtain rfl := Option.some.inj H
    go_wp2
    go_ret
    exact ⟨fR, bl1 HB GE621⟩
   rw [if_pos c8] at H
   have c8b0 : decide (x14_1 < (l0_1.length : Int)) = true := decide_eq_true c8
   clear c8
   by_cases c9 : 0 ≤ x14_1
   rotate_left
   ·
    rw [if_neg c9] at H
    exact absurd H (by simp)
   rw [if_pos c9] at H
   have c9b0 : decide (0 ≤ x14_1) = true := decide_eq_true c9
   clear c9
   by_cases c10 : x14_1 < (l0_1.length : Int)
   rotate_left
   ·
    rw [if_neg c10] at H
    exact absurd H (by simp)
   rw [if_pos c10] at H
   have c10b0 : decide (x14_1 < (l0_1.length : Int)) = true := decide_eq_true c10
   clear c10
   by_cases c11 : x14_1 < (l1.length : Int)
   rotate_left
   ·
    rw [if_neg c11] at H
    exact absurd H (by simp)
   rw [if_pos c11] at H
   have c11b0 : decide (x14_1 < (l1.length : Int)) = true := decide_eq_true c11
   clear c11
   obtain ⟨bq12, hbq12⟩ : ∃ b_ : Bool, b_ = (rdOf false l1 x14_1) := ⟨_, rfl⟩
   replace H : (if bq12 = true then ((impl_union_same.f k1 x5_1 ((rd_T79 l0_1 x14_1).f0) ((rd_T79 l0_1 x14_1).f1)).bind fun bt628 => (if bt628.1 = true then (some true) else ((impl_union_join.f k1 bt628.2 ((rd_T79 l0_1 x14_1).f0) ((rd_T79 l0_1 x14_1).f1)).bind fun t630 => (impl_hasCycle.l0 k1 l1 t630 l0_1 (l0_1.length : Int) (wrap64 (x14_1 + 1)))))) else (impl_hasCycle.l0 k1 l1 x5_1 l0_1 (l0_1.length : Int) (wrap64 (x14_1 + 1)))) = some r := by rw [← hbq12] at H; exact H
   have Nbq12 := Aside0.mk hbq12
   clear hbq12
   by_cases c13 : bq12 = true
   rotate_left
   ·
    replace c13 := Bool.eq_false_iff.mpr c13
    subst c13
    have H1 : (impl_hasCycle.l0 k1 l1 x5_1 l0_1 (l0_1.length : Int) (wrap64 (x14_1 + 1))) = some r := by rw [if_neg (show ¬ (false = true) by decide)] at H; exact H
    clear H
    have H := H1
    clear H1
    have H' := Aside0.mk H
    clear H
    have p625 : 0 ≤ (x14_1 : Int) := oD
    have q625 : x14_1 < (l0_1.length : Int) := oD
    obtain ⟨ad625, e625, hx625_0, hx625_1, hx625_2⟩ := at_T79 HR0_1.out x14_1 p625 q625
    cases e625
    replace hx625_0 := (HB.out.cell (World.block_lt_of_cell? w _ hx625_0)).trans hx625_0
    replace hx625_1 := (HB.out.cell (World.block_lt_of_cell? w _ hx625_1)).trans hx625_1
    replace hx625_2 := (HB.out.cell (World.block_lt_of_cell? w _ hx625_2)).trans hx625_2
    replace p625 := eq_true p625
    replace q625 := eq_true q625
    go_wp2_with (first | ((with_reducible refine gate_dst (N := 7) rfl ?_); refine box_event ?hg (N := 7) ?hd (cs := #[.int .i64 0, .int .i64 0, .int .i64 0]) (t := 79) ?hr ?_; (case hd => rfl); (case hg => rfl); (case hr => exact hR); intro gb626 hg w33 hbox hb; have n0_ := aM (Kd.R_below (gR (HO_5.out)) hb); have n1_ := aM (blk_below (g := gb621) (o := .cells #[.int .i64 a0_0, .slice (some ad625) l0_1.length c0_1] 25 (0, 0)) (gB (BK621.out)) hb); have n2_ := aM (below_step (bl1 HB GE621) hb); have n3_ := aM (hbox); have n4_ := aM ((by rw [hg]; exact (below_size (bl1 HB GE621)) : w.heap.size ≤ gb626)); have n5_ := aM ((by rw [hg]; exact (below_size (bl1 HB GE621)) : w.heap.size ≤ gb626)); have n6_ := aM ((by rw [hg]; exact Nat.ne_of_lt (blk_lt (g := gb621) (o := .cells #[.int .i64 a0_0, .slice (some ad625) l0_1.length c0_1] 25 (0, 0)) (gB (BK621.out))) : gb621 ≠ gb626)); have n7_ := aM ((by rw [hg]; exact Nat.ne_of_gt (blk_lt (g := gb621) (o := .cells #[.int .i64 a0_0, .slice (some ad625) l0_1.length c0_1] 25 (0, 0)) (gB (BK621.out))) : gb626 ≠ gb621)); clear HO_5; clear BK621; clear HB; have HO_5 := n0_; have BK621 := n1_; have HB := n2_; have BK626 := n3_; have GW626 := n4_; have GE626 := n5_; have NB621_626 := n6_; have NB626_621 := n7_; clear n0_ n1_ n2_ n3_ n4_ n5_ n6_ n7_; clear hb hbox hg; have hnb34 := NB626_621.out; have hnc34 := NB621_626.out; have hcz35_0 : w33.cell? ⟨gb626, 0, none⟩ = some (.int .i64 0) := (blk_cell BK626.out 0).trans rfl; have hcz35_1 : w33.cell? ⟨gb626, 1, none⟩ = some (.int .i64 0) := (blk_cell BK626.out 1).trans rfl; have hcz35_2 : w33.cell? ⟨gb626, 2, none⟩ = some (.int .i64 0) := (blk_cell BK626.out 2).trans rfl; have hfz35_0 := blk_frozen BK626.out 0; have hfz35_1 := blk_frozen BK626.out 1; have hfz35_2 := blk_frozen BK626.out 2; have p627 : 0 ≤ (x14_1 : Int) := oD; have q627 : x14_1 < (l1.length : Int) := oD; obtain ⟨ad627, e627, hx627_0⟩ := Kd.at_bool HR1.out x14_1 p627 q627; (try rw [← Nbq12.out] at hx627_0); cases e627; have hn627_0 : ad627.block ≠ gb626 := Nat.ne_of_lt (Nat.lt_of_lt_of_le (by have := World.block_lt_of_cell? _ _ hx627_0; first | rwa [add_block] at this | exact this) GW626.out); have hn627_1 : ad627.block ≠ gb626 := Nat.ne_of_lt (Nat.lt_of_lt_of_le (by have := World.block_lt_of_cell? _ _ hx627_0; first | rwa [add_block] at this | exact this) GW626.out); have hn627_2 : ad627.block ≠ gb626 := Nat.ne_of_lt (Nat.lt_of_lt_of_le (by have := World.block_lt_of_cell? _ _ hx627_0; first | rwa [add_block] at this | exact this) GW626.out); replace hx627_0 := (HB.out.cell (World.block_lt_of_cell? w _ hx627_0)).trans hx627_0; replace hx627_0 := (cell_far (p := ⟨gb626, 0, none⟩) (by first | (rw [add_block]; exact hn627_0) | (show (Addr.add _ _).block ≠ _; rw [add_block]; exact hn627_0) | exact hn627_0) (.int .i64 ((rd_T79 l0_1 x14_1).f0))).trans hx627_0; replace hx627_0 := (cell_far (p := ⟨gb626, 1, none⟩) (by first | (rw [add_block]; exact hn627_1) | (show (Addr.add _ _).block ≠ _; rw [add_block]; exact hn627_1) | exact hn627_1) (.int .i64 ((rd_T79 l0_1 x14_1).f1))).trans hx627_0; replace hx627_0 := (cell_far (p := ⟨gb626, 2, none⟩) (by first | (rw [add_block]; exact hn627_2) | (show (Addr.add _ _).block ≠ _; rw [add_block]; exact hn627_2) | exact hn627_2) (.int .i64 ((rd_T79 l0_1 x14_1).f2))).trans hx627_0; clear hn627_0; clear hn627_1; clear hn627_2; replace p627 := eq_true p627; replace q627 := eq_true q627))
    go_roundg k1
    case measure => have := HK1.out; omega
    case rel => exact ⟨(x5_1), (wrap64 (x14_1 + 1)), fS, H', ⟨by have := HK1.out; omega⟩, ⟨by (with_reducible repeat (first | apply Kd.R_alloc | apply Kd.R_drewN | apply Kd.R_drew)); exact Kd.R_mono (Kd.R_far (p := ⟨gb626, 2, none⟩) (Kd.R_far (p := ⟨gb626, 1, none⟩) (Kd.R_far (p := ⟨gb626, 0, none⟩) (Kd.R_types HO_5.out BK626.out (by decide)) (fun _ hk => hk.2) (.int .i64 ((rd_T79 l0_1 x14_1).f0))) (fun _ hk => hk.2) (.int .i64 ((rd_T79 l0_1 x14_1).f1))) (fun _ hk => hk.2) (.int .i64 ((rd_T79 l0_1 x14_1).f2))) (fun _ hk => trivial)⟩, ⟨by (with_reducible repeat (first | refine blk_drewN ?_ _ | refine blk_drew ?_ | refine blk_alloc ?_ _)); refine blk_far ?_ NB621_626.out _; (with_reducible repeat (first | refine blk_drewN ?_ _ | refine blk_drew ?_ | refine blk_alloc ?_ _)); refine blk_far ?_ NB621_626.out _; (with_reducible repeat (first | refine blk_drewN ?_ _ | refine blk_drew ?_ | refine blk_alloc ?_ _)); refine blk_far ?_ NB621_626.out _; (with_reducible repeat (first | refine blk_drewN ?_ _ | refine blk_drew ?_ | refine blk_alloc ?_ _)); exact BK621.out⟩, ⟨bl2 HB GE621 GE626⟩⟩
   subst c13
   have H1 : ((impl_union_same.f k1 x5_1 ((rd_T79 l0_1 x14_1).f0) ((rd_T79 l0_1 x14_1).f1)).bind fun bt628 => (if bt628.1 = true then (some true) else ((impl_union_join.f k1 bt628.2 ((rd_T79 l0_1 x14_1).f0) ((rd_T79 l0_1 x14_1).f1)).bind fun t630 => (impl_hasCycle.l0 k1 l1 t630 l0_1 (l0_1.length : Int) (wrap64 (x14_1 + 1)))))) = some r := by rw [if_pos rfl] at H; exact H
   clear H
   have H := H1
   clear H1
   replace H := Option.bind_eq_some_iff.mp H
   obtain ⟨⟨t628, t629⟩, A140, H⟩ := H
   replace H : (if t628 = true then (some true) else ((impl_union_join.f k1 t629 ((rd_T79 l0_1 x14_1).f0) ((rd_T79 l0_1 x14_1).f1)).bind fun t630 => (impl_hasCycle.l0 k1 l1 t630 l0_1 (l0_1.length : Int) (wrap64 (x14_1 + 1))))) = some r := H
   have A14 := Aside0.mk A140
   clear A140
   by_cases c15 : t628 = true
   ·
    subst c15
    have H1 : (some true) = some r := by rw [if_pos rfl] at H; exact H
    clear H
    have H := H1
    clear H1
    obtain rfl := Option.some.inj H
    have p625 : 0 ≤ (x14_1 : Int) := oD
    have q625 : x14_1 < (l0_1.length : Int) := oD
    obtain ⟨ad625, e625, hx625_0, hx625_1, hx625_2⟩ := at_T79 HR0_1.out x14_1 p625 q625
    cases e625
    replace hx625_0 := (HB.out.cell (World.block_lt_of_cell? w _ hx625_0)).trans hx625_0
    replace hx625_1 := (HB.out.cell (World.block_lt_of_cell? w _ hx625_1)).trans hx625_1
    replace hx625_2 := (HB.out.cell (World.block_lt_of_cell? w _ hx625_2)).trans hx625_2
    replace p625 := eq_true p625
    replace q625 := eq_true q625
    go_wp2_with (first | ((with_reducible refine gate_dst (N := 7) rfl ?_); refine box_event ?hg (N := 7) ?hd (cs := #[.int .i64 0, .int .i64 0, .int .i64 0]) (t := 79) ?hr ?_; (case hd => rfl); (case hg => rfl); (case hr => exact hR); intro gb626 hg w16 hbox hb; have n0_ := aM (Kd.R_below (gR (HO_5.out)) hb); have n1_ := aM (blk_below (g := gb621) (o := .cells #[.int .i64 a0_0, .slice (some ad625) l0_1.length c0_1] 25 (0, 0)) (gB (BK621.out)) hb); have n2_ := aM (below_step (bl1 HB GE621) hb); have n3_ := aM (hbox); have n4_ := aM ((by rw [hg]; exact (below_size (bl1 HB GE621)) : w.heap.size ≤ gb626)); have n5_ := aM ((by rw [hg]; exact (below_size (bl1 HB GE621)) : w.heap.size ≤ gb626)); have n6_ := aM ((by rw [hg]; exact Nat.ne_of_lt (blk_lt (g := gb621) (o := .cells #[.int .i64 a0_0, .slice (some ad625) l0_1.length c0_1] 25 (0, 0)) (gB (BK621.out))) : gb621 ≠ gb626)); have n7_ := aM ((by rw [hg]; exact Nat.ne_of_gt (blk_lt (g := gb621) (o := .cells #[.int .i64 a0_0, .slice (some ad625) l0_1.length c0_1] 25 (0, 0)) (gB (BK621.out))) : gb626 ≠ gb621)); clear HO_5; clear BK621; clear HB; have HO_5 := n0_; have BK621 := n1_; have HB := n2_; have BK626 := n3_; have GW626 := n4_; have GE626 := n5_; have NB621_626 := n6_; have NB626_621 := n7_; clear n0_ n1_ n2_ n3_ n4_ n5_ n6_ n7_; clear hb hbox hg; have hnb17 := NB626_621.out; have hnc17 := NB621_626.out; have hcz18_0 : w16.cell? ⟨gb626, 0, none⟩ = some (.int .i64 0) := (blk_cell BK626.out 0).trans rfl; have hcz18_1 : w16.cell? ⟨gb626, 1, none⟩ = some (.int .i64 0) := (blk_cell BK626.out 1).trans rfl; have hcz18_2 : w16.cell? ⟨gb626, 2, none⟩ = some (.int .i64 0) := (blk_cell BK626.out 2).trans rfl; have hfz18_0 := blk_frozen BK626.out 0; have hfz18_1 := blk_frozen BK626.out 1; have hfz18_2 := blk_frozen BK626.out 2) | ((with_reducible refine gate_store (t := 79) (p := 7) rfl ?_); refine store_event (t := 79) (p := 7) (v := ?vo_w19) (w1 := (((w16.setCell ⟨gb626, 0, none⟩ (.int .i64 ((rd_T79 l0_1 x14_1).f0))).setCell ⟨gb626, 1, none⟩ (.int .i64 ((rd_T79 l0_1 x14_1).f1))).setCell ⟨gb626, 2, none⟩ (.int .i64 ((rd_T79 l0_1 x14_1).f2)))) ?hg ?ho ?hn ?hr ?_; (case ho => rfl); (case hg => rfl); (case hn => rfl); (case hr => exact hR); intro w19 hw; have n0_ : Aside0 (Kd.R (Kd.int .i64) 3 w19 w.heap.size (fun _ => True) v623 x5_1) := ⟨(by rw [hw]; exact (by (with_reducible repeat (first | apply Kd.R_alloc | apply Kd.R_drewN | apply Kd.R_drew)); exact Kd.R_mono (Kd.R_far (p := ⟨gb626, 2, none⟩) (Kd.R_far (p := ⟨gb626, 1, none⟩) (Kd.R_far (p := ⟨gb626, 0, none⟩) (Kd.R_types HO_5.out BK626.out (by decide)) (fun _ hk => hk.2) (.int .i64 ((rd_T79 l0_1 x14_1).f0))) (fun _ hk => hk.2) (.int .i64 ((rd_T79 l0_1 x14_1).f1))) (fun _ hk => hk.2) (.int .i64 ((rd_T79 l0_1 x14_1).f2))) (fun _ hk => trivial)))⟩; have n1_ : Aside0 (w19.heap[gb621]? = some (.cells #[.int .i64 a0_0, .slice (some ad625) l0_1.length c0_1] 25 (0, 0))) := ⟨(by rw [hw]; exact (by (with_reducible repeat (first | refine blk_drewN ?_ _ | refine blk_drew ?_ | refine blk_alloc ?_ _)); refine blk_far ?_ NB621_626.out _; (with_reducible repeat (first | refine blk_drewN ?_ _ | refine blk_drew ?_ | refine blk_alloc ?_ _)); refine blk_far ?_ NB621_626.out _; (with_reducible repeat (first | refine blk_drewN ?_ _ | refine blk_drew ?_ | refine blk_alloc ?_ _)); refine blk_far ?_ NB621_626.out _; (with_reducible repeat (first | refine blk_drewN ?_ _ | refine blk_drew ?_ | refine blk_alloc ?_ _)); exact BK621.out))⟩; have n2_ : Aside0 (w19.heap[gb626]? = some (.cells #[.int .i64 ((rd_T79 l0_1 x14_1).f0), .int .i64 ((rd_T79 l0_1 x14_1).f1), .int .i64 ((rd_T79 l0_1 x14_1).f2)] 79 (0, 0))) := ⟨(by rw [hw]; exact (by (with_reducible repeat (first | refine blk_drewN ?_ _ | refine blk_drew ?_ | refine blk_alloc ?_ _)); refine blk_put (cs := #[.int .i64 ((rd_T79 l0_1 x14_1).f0), .int .i64 ((rd_T79 l0_1 x14_1).f1), .int .i64 0]) ?_ 2 _ rfl; (with_reducible repeat (first | refine blk_drewN ?_ _ | refine blk_drew ?_ | refine blk_alloc ?_ _)); refine blk_put (cs := #[.int .i64 ((rd_T79 l0_1 x14_1).f0), .int .i64 0, .int .i64 0]) ?_ 1 _ rfl; (with_reducible repeat (first | refine blk_drewN ?_ _ | refine blk_drew ?_ | refine blk_alloc ?_ _)); refine blk_put (cs := #[.int .i64 0, .int .i64 0, .int .i64 0]) ?_ 0 _ rfl; (with_reducible repeat (first | refine blk_drewN ?_ _ | refine blk_drew ?_ | refine blk_alloc ?_ _)); exact BK626.out))⟩; have n3_ : Aside0 (Below w.heap.size w w19) := ⟨(by rw [hw]; exact (bl2 HB GE621 GE626))⟩; clear hw; clear HO_5; clear BK621; clear BK626; clear HB; have HO_5 := n0_; have BK621 := n1_; have BK626 := n2_; have HB := n3_; clear n0_ n1_ n2_ n3_; have p627 : 0 ≤ (x14_1 : Int) := oD; have q627 : x14_1 < (l1.length : Int) := oD; obtain ⟨ad627, e627, hx627_0⟩ := Kd.at_bool HR1.out x14_1 p627 q627; (try rw [← Nbq12.out] at hx627_0); cases e627; replace hx627_0 := (HB.out.cell (World.block_lt_of_cell? w _ hx627_0)).trans hx627_0; replace p627 := eq_true p627; replace q627 := eq_true q627; have hcz20_0 : w19.cell? ⟨gb626, 0, none⟩ = some (.int .i64 ((rd_T79 l0_1 x14_1).f0)) := (blk_cell BK626.out 0).trans rfl; have hcz20_1 : w19.cell? ⟨gb626, 1, none⟩ = some (.int .i64 ((rd_T79 l0_1 x14_1).f1)) := (blk_cell BK626.out 1).trans rfl; have hcz20_2 : w19.cell? ⟨gb626, 2, none⟩ = some (.int .i64 ((rd_T79 l0_1 x14_1).f2)) := (blk_cell BK626.out 2).trans rfl; have hfz20_0 := blk_frozen BK626.out 0; have hfz20_1 := blk_frozen BK626.out 1; have hfz20_2 := blk_frozen BK626.out 2; obtain ⟨Ao21, co21, eo21⟩ := Kd.R_slice HO_5.out; subst eo21) | ((with_reducible refine gate_callee (f := 78) rfl ?_); refine goesL_ (some 28) rfl rfl Tryd.func78 (by kernel_rfl) rfl #[.slice Ao21 x5_1.length co21, .int .i64 ((rd_T79 l0_1 x14_1).f0), .int .i64 ((rd_T79 l0_1 x14_1).f1)] rfl mP ?_; (with_reducible refine (impl_union_same.calls k1 (fun k_ => some k_ = (.slice Ao21 x5_1.length co21 : Value).ownBlock) (.slice Ao21 x5_1.length co21) x5_1 ((rd_T79 l0_1 x14_1).f0) ((rd_T79 l0_1 x14_1).f1) true t629 w _ ?side1 ?side2 A14.out).mono ?_); (case side1 => repeat (first | (with_reducible first | exact HB.out | apply below_alloc | apply pw_below_drewN | apply below_drew1 | refine below_set ?_ GE621.out | refine below_set ?_ GE626.out) | exact HB.out)); (case side2 => exact Kd.R_tight rfl HO_5.out); rintro e w22 ⟨rfl, hy0, hb, hkp⟩; refine ⟨_, rfl, ?_⟩; have n0_ := aM (Kd.R_reok rfl hy0 (fun k_ e_ => HO_5.out.1 k_ e_)); have n1_ := aM (blk_kept (gB (BK621.out)) hkp (fun hs_ => (fun e_ => (Kd.R_ne HO_5.out BK621.out (by decide)) e_) hs_)); have n2_ := aM (blk_kept (gB (BK626.out)) hkp (fun hs_ => (fun e_ => (Kd.R_ne HO_5.out BK626.out (by decide)) e_) hs_)); have n3_ := aM (hb); clear HO_5; clear BK621; clear BK626; clear HB; have HO_5 := n0_; have BK621 := n1_; have BK626 := n2_; have HB := n3_; clear n0_ n1_ n2_ n3_; (try clear hb); (try clear hkp); (try clear hy0)))
    go_ret
    exact ⟨fR, bl2 HB GE621 GE626⟩
   replace c15 := Bool.eq_false_iff.mpr c15
   subst c15
   have H1 : ((impl_union_join.f k1 t629 ((rd_T79 l0_1 x14_1).f0) ((rd_T79 l0_1 x14_1).f1)).bind fun t630 => (impl_hasCycle.l0 k1 l1 t630 l0_1 (l0_1.length : Int) (wrap64 (x14_1 + 1)))) = some r := by rw [if_neg (show ¬ (false = true) by decide)] at H; exact H
   clear H
   have H := H1
   clear H1
   replace H := Option.bind_eq_some_iff.mp H
   obtain ⟨t630, A230, H⟩ := H
   replace H : (impl_hasCycle.l0 k1 l1 t630 l0_1 (l0_1.length : Int) (wrap64 (x14_1 + 1))) = some r := H
   have A23 := Aside0.mk A230
   clear A230
   have H' := Aside0.mk H
   clear H
   have p625 : 0 ≤ (x14_1 : Int) := oD
   have q625 : x14_1 < (l0_1.length : Int) := oD
   obtain ⟨ad625, e625, hx625_0, hx625_1, hx625_2⟩ := at_T79 HR0_1.out x14_1 p625 q625
   cases e625
   replace hx625_0 := (HB.out.cell (World.block_lt_of_cell? w _ hx625_0)).trans hx625_0
   replace hx625_1 := (HB.out.cell (World.block_lt_of_cell? w _ hx625_1)).trans hx625_1
   replace hx625_2 := (HB.out.cell (World.block_lt_of_cell? w _ hx625_2)).trans hx625_2
   replace p625 := eq_true p625
   replace q625 := eq_true q625
   go_wp2_with (first | ((with_reducible refine gate_dst (N := 7) rfl ?_); refine box_event ?hg (N := 7) ?hd (cs := #[.int .i64 0, .int .i64 0, .int .i64 0]) (t := 79) ?hr ?_; (case hd => rfl); (case hg => rfl); (case hr => exact hR); intro gb626 hg w24 hbox hb; have n0_ := aM (Kd.R_below (gR (HO_5.out)) hb); have n1_ := aM (blk_below (g := gb621) (o := .cells #[.int .i64 a0_0, .slice (some ad625) l0_1.length c0_1] 25 (0, 0)) (gB (BK621.out)) hb); have n2_ := aM (below_step (bl1 HB GE621) hb); have n3_ := aM (hbox); have n4_ := aM ((by rw [hg]; exact (below_size (bl1 HB GE621)) : w.heap.size ≤ gb626)); have n5_ := aM ((by rw [hg]; exact (below_size (bl1 HB GE621)) : w.heap.size ≤ gb626)); have n6_ := aM ((by rw [hg]; exact Nat.ne_of_lt (blk_lt (g := gb621) (o := .cells #[.int .i64 a0_0, .slice (some ad625) l0_1.length c0_1] 25 (0, 0)) (gB (BK621.out))) : gb621 ≠ gb626)); have n7_ := aM ((by rw [hg]; exact Nat.ne_of_gt (blk_lt (g := gb621) (o := .cells #[.int .i64 a0_0, .slice (some ad625) l0_1.length c0_1] 25 (0, 0)) (gB (BK621.out))) : gb626 ≠ gb621)); clear HO_5; clear BK621; clear HB; have HO_5 := n0_; have BK621 := n1_; have HB := n2_; have BK626 := n3_; have GW626 := n4_; have GE626 := n5_; have NB621_626 := n6_; have NB626_621 := n7_; clear n0_ n1_ n2_ n3_ n4_ n5_ n6_ n7_; clear hb hbox hg; have hnb25 := NB626_621.out; have hnc25 := NB621_626.out; have hcz26_0 : w24.cell? ⟨gb626, 0, none⟩ = some (.int .i64 0) := (blk_cell BK626.out 0).trans rfl; have hcz26_1 : w24.cell? ⟨gb626, 1, none⟩ = some (.int .i64 0) := (blk_cell BK626.out 1).trans rfl; have hcz26_2 : w24.cell? ⟨gb626, 2, none⟩ = some (.int .i64 0) := (blk_cell BK626.out 2).trans rfl; have hfz26_0 := blk_frozen BK626.out 0; have hfz26_1 := blk_frozen BK626.out 1; have hfz26_2 := blk_frozen BK626.out 2) | ((with_reducible refine gate_store (t := 79) (p := 7) rfl ?_); refine store_event (t := 79) (p := 7) (v := ?vo_w27) (w1 := (((w24.setCell ⟨gb626, 0, none⟩ (.int .i64 ((rd_T79 l0_1 x14_1).f0))).setCell ⟨gb626, 1, none⟩ (.int .i64 ((rd_T79 l0_1 x14_1).f1))).setCell ⟨gb626, 2, none⟩ (.int .i64 ((rd_T79 l0_1 x14_1).f2)))) ?hg ?ho ?hn ?hr ?_; (case ho => rfl); (case hg => rfl); (case hn => rfl); (case hr => exact hR); intro w27 hw; have n0_ : Aside0 (Kd.R (Kd.int .i64) 3 w27 w.heap.size (fun _ => True) v623 x5_1) := ⟨(by rw [hw]; exact (by (with_reducible repeat (first | apply Kd.R_alloc | apply Kd.R_drewN | apply Kd.R_drew)); exact Kd.R_mono (Kd.R_far (p := ⟨gb626, 2, none⟩) (Kd.R_far (p := ⟨gb626, 1, none⟩) (Kd.R_far (p := ⟨gb626, 0, none⟩) (Kd.R_types HO_5.out BK626.out (by decide)) (fun _ hk => hk.2) (.int .i64 ((rd_T79 l0_1 x14_1).f0))) (fun _ hk => hk.2) (.int .i64 ((rd_T79 l0_1 x14_1).f1))) (fun _ hk => hk.2) (.int .i64 ((rd_T79 l0_1 x14_1).f2))) (fun _ hk => trivial)))⟩; have n1_ : Aside0 (w27.heap[gb621]? = some (.cells #[.int .i64 a0_0, .slice (some ad625) l0_1.length c0_1] 25 (0, 0))) := ⟨(by rw [hw]; exact (by (with_reducible repeat (first | refine blk_drewN ?_ _ | refine blk_drew ?_ | refine blk_alloc ?_ _)); refine blk_far ?_ NB621_626.out _; (with_reducible repeat (first | refine blk_drewN ?_ _ | refine blk_drew ?_ | refine blk_alloc ?_ _)); refine blk_far ?_ NB621_626.out _; (with_reducible repeat (first | refine blk_drewN ?_ _ | refine blk_drew ?_ | refine blk_alloc ?_ _)); refine blk_far ?_ NB621_626.out _; (with_reducible repeat (first | refine blk_drewN ?_ _ | refine blk_drew ?_ | refine blk_alloc ?_ _)); exact BK621.out))⟩; have n2_ : Aside0 (w27.heap[gb626]? = some (.cells #[.int .i64 ((rd_T79 l0_1 x14_1).f0), .int .i64 ((rd_T79 l0_1 x14_1).f1), .int .i64 ((rd_T79 l0_1 x14_1).f2)] 79 (0, 0))) := ⟨(by rw [hw]; exact (by (with_reducible repeat (first | refine blk_drewN ?_ _ | refine blk_drew ?_ | refine blk_alloc ?_ _)); refine blk_put (cs := #[.int .i64 ((rd_T79 l0_1 x14_1).f0), .int .i64 ((rd_T79 l0_1 x14_1).f1), .int .i64 0]) ?_ 2 _ rfl; (with_reducible repeat (first | refine blk_drewN ?_ _ | refine blk_drew ?_ | refine blk_alloc ?_ _)); refine blk_put (cs := #[.int .i64 ((rd_T79 l0_1 x14_1).f0), .int .i64 0, .int .i64 0]) ?_ 1 _ rfl; (with_reducible repeat (first | refine blk_drewN ?_ _ | refine blk_drew ?_ | refine blk_alloc ?_ _)); refine blk_put (cs := #[.int .i64 0, .int .i64 0, .int .i64 0]) ?_ 0 _ rfl; (with_reducible repeat (first | refine blk_drewN ?_ _ | refine blk_drew ?_ | refine blk_alloc ?_ _)); exact BK626.out))⟩; have n3_ : Aside0 (Below w.heap.size w w27) := ⟨(by rw [hw]; exact (bl2 HB GE621 GE626))⟩; clear hw; clear HO_5; clear BK621; clear BK626; clear HB; have HO_5 := n0_; have BK621 := n1_; have BK626 := n2_; have HB := n3_; clear n0_ n1_ n2_ n3_; have p627 : 0 ≤ (x14_1 : Int) := oD; have q627 : x14_1 < (l1.length : Int) := oD; obtain ⟨ad627, e627, hx627_0⟩ := Kd.at_bool HR1.out x14_1 p627 q627; (try rw [← Nbq12.out] at hx627_0); cases e627; replace hx627_0 := (HB.out.cell (World.block_lt_of_cell? w _ hx627_0)).trans hx627_0; replace p627 := eq_true p627; replace q627 := eq_true q627; have hcz28_0 : w27.cell? ⟨gb626, 0, none⟩ = some (.int .i64 ((rd_T79 l0_1 x14_1).f0)) := (blk_cell BK626.out 0).trans rfl; have hcz28_1 : w27.cell? ⟨gb626, 1, none⟩ = some (.int .i64 ((rd_T79 l0_1 x14_1).f1)) := (blk_cell BK626.out 1).trans rfl; have hcz28_2 : w27.cell? ⟨gb626, 2, none⟩ = some (.int .i64 ((rd_T79 l0_1 x14_1).f2)) := (blk_cell BK626.out 2).trans rfl; have hfz28_0 := blk_frozen BK626.out 0; have hfz28_1 := blk_frozen BK626.out 1; have hfz28_2 := blk_frozen BK626.out 2; obtain ⟨Ao29, co29, eo29⟩ := Kd.R_slice HO_5.out; subst eo29) | ((with_reducible refine gate_callee (f := 78) rfl ?_); refine goesL_ (some 28) rfl rfl Tryd.func78 (by kernel_rfl) rfl #[.slice Ao29 x5_1.length co29, .int .i64 ((rd_T79 l0_1 x14_1).f0), .int .i64 ((rd_T79 l0_1 x14_1).f1)] rfl mP ?_; (with_reducible refine (impl_union_same.calls k1 (fun k_ => some k_ = (.slice Ao29 x5_1.length co29 : Value).ownBlock) (.slice Ao29 x5_1.length co29) x5_1 ((rd_T79 l0_1 x14_1).f0) ((rd_T79 l0_1 x14_1).f1) false t629 w _ ?side1 ?side2 A14.out).mono ?_); (case side1 => repeat (first | (with_reducible first | exact HB.out | apply below_alloc | apply pw_below_drewN | apply below_drew1 | refine below_set ?_ GE621.out | refine below_set ?_ GE626.out) | exact HB.out)); (case side2 => exact Kd.R_tight rfl HO_5.out); rintro e w30 ⟨rfl, hy0, hb, hkp⟩; refine ⟨_, rfl, ?_⟩; have n0_ := aM (Kd.R_reok rfl hy0 (fun k_ e_ => HO_5.out.1 k_ e_)); have n1_ := aM (blk_kept (gB (BK621.out)) hkp (fun hs_ => (fun e_ => (Kd.R_ne HO_5.out BK621.out (by decide)) e_) hs_)); have n2_ := aM (blk_kept (gB (BK626.out)) hkp (fun hs_ => (fun e_ => (Kd.R_ne HO_5.out BK626.out (by decide)) e_) hs_)); have n3_ := aM (hb); clear HO_5; clear BK621; clear BK626; clear HB; have HO_5 := n0_; have BK621 := n1_; have BK626 := n2_; have HB := n3_; clear n0_ n1_ n2_ n3_; (try clear hb); (try clear hkp); (try clear hy0); have hcz31_0 : w30.cell? ⟨gb626, 0, none⟩ = some (.int .i64 ((rd_T79 l0_1 x14_1).f0)) := (blk_cell BK626.out 0).trans rfl; have hcz31_1 : w30.cell? ⟨gb626, 1, none⟩ = some (.int .i64 ((rd_T79 l0_1 x14_1).f1)) := (blk_cell BK626.out 1).trans rfl; have hcz31_2 : w30.cell? ⟨gb626, 2, none⟩ = some (.int .i64 ((rd_T79 l0_1 x14_1).f2)) := (blk_cell BK626.out 2).trans rfl; have hfz31_0 := blk_frozen BK626.out 0; have hfz31_1 := blk_frozen BK626.out 1; have hfz31_2 := blk_frozen BK626.out 2) | ((with_reducible refine gate_callee (f := 89) rfl ?_); refine goesL_ (some 34) rfl rfl Tryd.func89 (by kernel_rfl) rfl #[.slice Ao29 x5_1.length co29, .int .i64 ((rd_T79 l0_1 x14_1).f0), .int .i64 ((rd_T79 l0_1 x14_1).f1)] rfl mP ?_; (with_reducible refine (impl_union_join.calls k1 (fun k_ => some k_ = (.slice Ao29 x5_1.length co29 : Value).ownBlock) (.slice Ao29 x5_1.length co29) t629 ((rd_T79 l0_1 x14_1).f0) ((rd_T79 l0_1 x14_1).f1) t630 w _ ?side1 ?side2 A23.out).mono ?_); (case side1 => repeat (first | (with_reducible first | exact HB.out | apply below_alloc | apply pw_below_drewN | apply below_drew1 | refine below_set ?_ GE621.out | refine below_set ?_ GE626.out) | exact HB.out)); (case side2 => exact Kd.R_tight rfl HO_5.out); rintro e w32 ⟨rfl, hy0, hb, hkp⟩; refine ⟨_, rfl, ?_⟩; have n0_ := aM (Kd.R_reok rfl hy0 (fun k_ e_ => HO_5.out.1 k_ e_)); have n1_ := aM (blk_kept (gB (BK621.out)) hkp (fun hs_ => (fun e_ => (Kd.R_ne HO_5.out BK621.out (by decide)) e_) hs_)); have n2_ := aM (blk_kept (gB (BK626.out)) hkp (fun hs_ => (fun e_ => (Kd.R_ne HO_5.out BK626.out (by decide)) e_) hs_)); have n3_ := aM (hb); clear HO_5; clear BK621; clear BK626; clear HB; have HO_5 := n0_; have BK621 := n1_; have BK626 := n2_; have HB := n3_; clear n0_ n1_ n2_ n3_; (try clear hb); (try clear hkp); (try clear hy0)))
   go_roundg k1
   case measure => have := HK1.out; omega
   case rel => exact ⟨(t630), (wrap64 (x14_1 + 1)), fS, H', ⟨by have := HK1.out; omega⟩, ⟨gR (HO_5.out)⟩, ⟨gB (BK621.out)⟩, ⟨bl2 HB GE621 GE626⟩⟩

end Go.Proofs.YtpgjgbjkfgbpaaaDoor.P
namespace Go.Proofs.YtpgjgbjkfgbpaaaDoor.P
open Go.RowKit Go.Proofs.YtpgjgbjkfgbpaaaDoorW.PrintWords Go.Proofs.YtpgjgbjkfgbpaaaDoorW.PrintLast Go.Proofs.YtpgjgbjkfgbpaaaDoorW.PrintMore
attribute [local go_sem] max2_int min2_int max_two min_two max_three min_three max_four min_four   -- for this text's walks alone
set_option linter.unusedVariables false
set_option linter.unusedSimpArgs false

/-! ### impl_HasCycle: function 36 -/
def impl_HasCycle.f (k : Nat) (a0_0 : Int) (l0_1 : List (S79)) (l1 : List Bool) : Option (Bool) := (impl_StateValid.f k a0_0 l0_1 l1).bind fun t632 => (if t632 = true then ((impl_hasCycle.f k a0_0 l0_1 l1).bind fun t633 => (some t633)) else (some false))
theorem impl_HasCycle.mono : ∀ a0 a1 a2 k, LeO (impl_HasCycle.f k a0 a1 a2) (impl_HasCycle.f (k + 1) a0 a1 a2) := by
 intro a0 a1 a2 k
 unfold impl_HasCycle.f
 repeat' first
   | (with_reducible exact impl_StateValid.mono _ _ _ _)
   | (with_reducible exact impl_hasCycle.mono _ _ _ _)
   | (with_reducible exact LeO.refl _)
   | (with_reducible exact LeO.none _)
   | (with_reducible refine LeO.ite ?_ ?_)
   | (with_reducible refine LeO.bind ?_ (fun _ => ?_))
   | exact impl_StateValid.mono _ _ _ _
   | exact impl_hasCycle.mono _ _ _ _
   | exact LeO.none _
   | refine LeO.ite ?_ ?_
   | refine LeO.bind ?_ (fun _ => ?_)
set_option maxHeartbeats 8000000 in
set_option maxRecDepth 100000 in
theorem impl_HasCycle.calls (k : Nat) (a0_0 : Int) (A0_1 : Option Addr) (c0_1 : Nat) (l0_1 : List (S79)) (A1 : Option Addr) (c1 : Nat) (l1 : List Bool) (r : Bool) (w : World) (hr0_1 : Kd.C k79 w A0_1 l0_1.length l0_1) (hc0_1 : l0_1.length ≤ c0_1) (hr1 : Kd.C Kd.bool w A1 l1.length l1) (hc1 : l1.length ≤ c1) (h : impl_HasCycle.f k a0_0 l0_1 l1 = some r) :
  Calls Tryd.prog 36 #[.agg #[.int .i64 a0_0, .slice A0_1 l0_1.length c0_1], .slice A1 l1.length c1] w fun e w' => e = .returned (.bool r) ∧ Below w.heap.size w w' := by
 have hu25 := Tryd.underlying25
 have HR0_1 := Aside0.mk hr0_1
 have HC0_1 := Aside0.mk hc0_1
 clear hr0_1 hc0_1
 have HR1 := Aside0.mk hr1
 have HC1 := Aside0.mk hc1
 clear hr1 hc1
 have HB := aM (Below.refl w.heap.size w)
 have H : ((impl_StateValid.f k a0_0 l0_1 l1).bind fun t632 => (if t632 = true then ((impl_hasCycle.f k a0_0 l0_1 l1).bind fun t633 => (some t633)) else (some false))) = some r := h
 clear h
 replace H := Option.bind_eq_some_iff.mp H
 obtain ⟨t632, A30, H⟩ := H
 replace H : (if t632 = true then ((impl_hasCycle.f k a0_0 l0_1 l1).bind fun t633 => (some t633)) else (some false)) = some r := H
 have A3 := Aside0.mk A30
 clear A30
 by_cases c4 : t632 = true
 rotate_left
 ·
  replace c4 := Bool.eq_false_iff.mpr c4
  subst c4
  have H1 : (some false) = some r := by rw [if_neg (show ¬ (false = true) by decide)] at H; exact H
  clear H
  have H := H1
  clear H1
  obtain rfl := Option.some.inj H
  go_enter Tryd.func36, Tryd.ntmps36
  go_wp2_with (first | ((with_reducible refine gate_dst (N := 2) rfl ?_); refine box_event ?hg (N := 2) ?hd (cs := #[.int .i64 a0_0, .slice A0_1 l0_1.length c0_1]) (t := 25) ?hr ?_; (case hd => rfl); (case hg => rfl); (case hr => exact hR); intro gb631 hg w11 hbox hb; have n0_ := aM (below_step (bl0 HB) hb); have n1_ := aM (hbox); have n2_ := aM ((by rw [hg]; exact (below_size (bl0 HB)) : w.heap.size ≤ gb631)); have n3_ := aM ((by rw [hg]; exact (below_size (bl0 HB)) : w.heap.size ≤ gb631)); clear HB; have HB := n0_; have BK631 := n1_; have GW631 := n2_; have GE631 := n3_; clear n0_ n1_ n2_ n3_; clear hb hbox hg; have hcz12_0 : w11.cell? ⟨gb631, 0, none⟩ = some (.int .i64 a0_0) := (blk_cell BK631.out 0).trans rfl; have hcz12_1 : w11.cell? ⟨gb631, 1, none⟩ = some (.slice A0_1 l0_1.length c0_1) := (blk_cell BK631.out 1).trans rfl; have hfz12_0 := blk_frozen BK631.out 0; have hfz12_1 := blk_frozen BK631.out 1) | ((with_reducible refine gate_callee (f := 77) rfl ?_); refine goesL_ (some 7) rfl rfl Tryd.func77 (by kernel_rfl) rfl #[.agg #[.int .i64 a0_0, .slice A0_1 l0_1.length c0_1], .slice A1 l1.length c1] rfl mP ?_; (with_reducible refine (impl_StateValid.calls k a0_0 _ _ l0_1 _ _ l1 false _ ?side1 ?side2 ?side3 ?side4 A3.out).mono ?_); (case side1 => exact gC ((Kd.C_below HR0_1.out HB.out))); (case side2 => exact HC0_1.out); (case side3 => exact gC ((Kd.C_below HR1.out HB.out))); (case side4 => exact HC1.out); rintro e w13 ⟨rfl, hb⟩; refine ⟨_, rfl, ?_⟩; have n0_ := aM (blk_below (g := gb631) (o := .cells #[.int .i64 a0_0, .slice A0_1 l0_1.length c0_1] 25 (0, 0)) (gB (BK631.out)) hb); have n1_ := aM (below_step (bl1 HB GE631) hb); clear BK631; clear HB; have BK631 := n0_; have HB := n1_; clear n0_ n1_; (try clear hb); (try clear hb2); (try clear hk); (try clear hi)))
  go_ret
  exact ⟨fR, bl1 HB GE631⟩
 subst c4
 have H1 : ((impl_hasCycle.f k a0_0 l0_1 l1).bind fun t633 => (some t633)) = some r := by rw [if_pos rfl] at H; exact H
 clear H
 have H := H1
 clear H1
 replace H := Option.bind_eq_some_iff.mp H
 obtain ⟨t633, A50, H⟩ := H
 replace H : (some t633) = some r := H
 have A5 := Aside0.mk A50
 clear A50
 obtain rfl := Option.some.inj H
 go_enter Tryd.func36, Tryd.ntmps36
 go_wp2_with (first | ((with_reducible refine gate_dst (N := 2) rfl ?_); refine box_event ?hg (N := 2) ?hd (cs := #[.int .i64 a0_0, .slice A0_1 l0_1.length c0_1]) (t := 25) ?hr ?_; (case hd => rfl); (case hg => rfl); (case hr => exact hR); intro gb631 hg w6 hbox hb; have n0_ := aM (below_step (bl0 HB) hb); have n1_ := aM (hbox); have n2_ := aM ((by rw [hg]; exact (below_size (bl0 HB)) : w.heap.size ≤ gb631)); have n3_ := aM ((by rw [hg]; exact (below_size (bl0 HB)) : w.heap.size ≤ gb631)); clear HB; have HB := n0_; have BK631 := n1_; have GW631 := n2_; have GE631 := n3_; clear n0_ n1_ n2_ n3_; clear hb hbox hg; have hcz7_0 : w6.cell? ⟨gb631, 0, none⟩ = some (.int .i64 a0_0) := (blk_cell BK631.out 0).trans rfl; have hcz7_1 : w6.cell? ⟨gb631, 1, none⟩ = some (.slice A0_1 l0_1.length c0_1) := (blk_cell BK631.out 1).trans rfl; have hfz7_0 := blk_frozen BK631.out 0; have hfz7_1 := blk_frozen BK631.out 1) | ((with_reducible refine gate_callee (f := 77) rfl ?_); refine goesL_ (some 7) rfl rfl Tryd.func77 (by kernel_rfl) rfl #[.agg #[.int .i64 a0_0, .slice A0_1 l0_1.length c0_1], .slice A1 l1.length c1] rfl mP ?_; (with_reducible refine (impl_StateValid.calls k a0_0 _ _ l0_1 _ _ l1 true _ ?side1 ?side2 ?side3 ?side4 A3.out).mono ?_); (case side1 => exact gC ((Kd.C_below HR0_1.out HB.out))); (case side2 => exact HC0_1.out); (case side3 => exact gC ((Kd.C_below HR1.out HB.out))); (case side4 => exact HC1.out); rintro e w8 ⟨rfl, hb⟩; refine ⟨_, rfl, ?_⟩; have n0_ := aM (blk_below (g := gb631) (o := .cells #[.int .i64 a0_0, .slice A0_1 l0_1.length c0_1] 25 (0, 0)) (gB (BK631.out)) hb); have n1_ := aM (below_step (bl1 HB GE631) hb); clear BK631; clear HB; have BK631 := n0_; have HB := n1_; clear n0_ n1_; (try clear hb); (try clear hb2); (try clear hk); (try clear hi); have hcz9_0 : w8.cell? ⟨gb631, 0, none⟩ = some (.int .i64 a0_0) := (blk_cell BK631.out 0).trans rfl; have hcz9_1 : w8.cell? ⟨gb631, 1, none⟩ = some (.slice A0_1 l0_1.length c0_1) := (blk_cell BK631.out 1).trans rfl; have hfz9_0 := blk_frozen BK631.out 0; have hfz9_1 := blk_frozen BK631.out 1) | (go_at_call 91; (with_reducible refine (impl_hasCycle.calls k a0_0 _ _ l0_1 _ _ l1 t633 _ ?side1 ?side2 ?side3 ?side4 A5.out).mono ?_); (case side1 => exact gC ((Kd.C_below HR0_1.out HB.out))); (case side2 => exact HC0_1.out); (case side3 => exact gC ((Kd.C_below HR1.out HB.out))); (case side4 => exact HC1.out); rintro e w10 ⟨rfl, hb⟩; have n0_ := aM (blk_below (g := gb631) (o := .cells #[.int .i64 a0_0, .slice A0_1 l0_1.length c0_1] 25 (0, 0)) (gB (BK631.out)) hb); have n1_ := aM (below_step (bl1 HB GE631) hb); clear BK631; clear HB; have BK631 := n0_; have HB := n1_; clear n0_ n1_; (try clear hb); (try clear hb2); (try clear hk); (try clear hi)))
 go_ret
 exact ⟨fR, bl1 HB GE631⟩

end Go.Proofs.YtpgjgbjkfgbpaaaDoor.P

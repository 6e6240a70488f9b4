/- Contracts of Go functions of this seat's translation, written by this repo's wip/mk.py: it calls the kit's print.py with contracts typed by hand in place of functions that it does not take. Not trusted: Lean checks it. -/
import Derived.Test.YthkdkjmnnpcdhaaDoorP0
namespace Go.Proofs.YthkdkjmnnpcdhaaDoor.P
open Go.RowKit Go.Proofs.YthkdkjmnnpcdhaaDoorW.PrintWords Go.Proofs.YthkdkjmnnpcdhaaDoorW.PrintLast Go.Proofs.YthkdkjmnnpcdhaaDoorW.PrintMore
attribute [local go_sem] max2_int min2_int max_two min_two max_three min_three max_four min_four   -- for this text's walks alone
set_option linter.unusedVariables false
set_option linter.unusedSimpArgs false

/-! ### spec_l3Reach: function 63 -/
mutual
def spec_l3Reach.l0 : Nat → List Bool → List Bool → Int → Int → List (S52) → Option (List Bool)
 | 0, _, _, _, _, _ => none
 | k + 1, x1, x7, x8, x474000, x474001 => if x8 < x474000 then (spec_l3Reach.l1 k x1 x7 x8 0 x474000 x474001) else (some x7)
def spec_l3Reach.l1 : Nat → List Bool → List Bool → Int → Int → Int → List (S52) → Option (List Bool)
 | 0, _, _, _, _, _, _ => none
 | k + 1, x1, x7, x8, x9, x474000, x474001 => if x9 < (x474001.length : Int) then (if 0 ≤ x9 then (if x9 < (x1.length : Int) then (if rdOf false x1 x9 = true then (if 0 ≤ ((rd_T52 x474001 x9).f0) then (if ((rd_T52 x474001 x9).f0) < (x7.length : Int) then (if rdOf false x7 ((rd_T52 x474001 x9).f0) = true then (if 0 ≤ ((rd_T52 x474001 x9).f1) then (if ((rd_T52 x474001 x9).f1) < (x7.length : Int) then (spec_l3Reach.l1 k x1 ((x7.set (((rd_T52 x474001 x9).f0) : Int).toNat true).set (((rd_T52 x474001 x9).f1) : Int).toNat true) x8 (wrap64 (x9 + 1)) x474000 x474001) else (none)) else (none)) else (if 0 ≤ ((rd_T52 x474001 x9).f1) then (if ((rd_T52 x474001 x9).f1) < (x7.length : Int) then (if rdOf false x7 ((rd_T52 x474001 x9).f1) = true then (spec_l3Reach.l1 k x1 ((x7.set (((rd_T52 x474001 x9).f0) : Int).toNat true).set (((rd_T52 x474001 x9).f1) : Int).toNat true) x8 (wrap64 (x9 + 1)) x474000 x474001) else (spec_l3Reach.l1 k x1 x7 x8 (wrap64 (x9 + 1)) x474000 x474001)) else (none)) else (none))) else (none)) else (none)) else (spec_l3Reach.l1 k x1 x7 x8 (wrap64 (x9 + 1)) x474000 x474001)) else (none)) else (none)) else (spec_l3Reach.l0 k x1 x7 (wrap64 (x8 + 1)) x474000 x474001)
end
def spec_l3Reach.f (k : Nat) (a0_0 : Int) (l0_1 : List (S52)) (l1 : List Bool) (a2 : Int) : Option (List Bool) := if 0 ≤ a0_0 then (if (a0_0 : Int).toNat ≤ 281474976710656 then ((some (List.replicate (a0_0 : Int).toNat false : List Bool)).bind fun y474 => (if 0 ≤ a2 then (if a2 < (y474.length : Int) then (spec_l3Reach.l0 k l1 (y474.set (a2 : Int).toNat true) 0 a0_0 l0_1) else (none)) else (none))) else (none)) else (none)
theorem spec_l3Reach.mono_l : ∀ k, (∀ y0 y1 y2 y3 y4, LeO (spec_l3Reach.l0 k y0 y1 y2 y3 y4) (spec_l3Reach.l0 (k + 1) y0 y1 y2 y3 y4)) ∧ (∀ y0 y1 y2 y3 y4 y5, LeO (spec_l3Reach.l1 k y0 y1 y2 y3 y4 y5) (spec_l3Reach.l1 (k + 1) y0 y1 y2 y3 y4 y5))
 | 0 => ⟨fun _ _ _ _ _ r h => by simp [spec_l3Reach.l0] at h, fun _ _ _ _ _ _ r h => by simp [spec_l3Reach.l1] at h⟩
 | k + 1 => by
  obtain ⟨ih0, ih1⟩ := spec_l3Reach.mono_l k
  refine ⟨?_, ?_⟩
  ·
   intro y0 y1 y2 y3 y4
   unfold spec_l3Reach.l0
   repeat' first
   | (with_reducible exact ih0 _ _ _ _ _)
   | (with_reducible exact ih1 _ _ _ _ _ _)
   | (with_reducible exact LeO.refl _)
   | (with_reducible exact LeO.none _)
   | (with_reducible refine LeO.ite ?_ ?_)
   | (with_reducible refine LeO.bind ?_ (fun _ => ?_))
   | exact ih0 _ _ _ _ _
   | exact ih1 _ _ _ _ _ _
   | exact LeO.none _
   | refine LeO.ite ?_ ?_
   | refine LeO.bind ?_ (fun _ => ?_)
  ·
   intro y0 y1 y2 y3 y4 y5
   unfold spec_l3Reach.l1
   repeat' first
   | (with_reducible exact ih0 _ _ _ _ _)
   | (with_reducible exact ih1 _ _ _ _ _ _)
   | (with_reducible exact LeO.refl _)
   | (with_reducible exact LeO.none _)
   | (with_reducible refine LeO.ite ?_ ?_)
   | (with_reducible refine LeO.bind ?_ (fun _ => ?_))
   | exact ih0 _ _ _ _ _
   | exact ih1 _ _ _ _ _ _
   | exact LeO.none _
   | refine LeO.ite ?_ ?_
   | refine LeO.bind ?_ (fun _ => ?_)
theorem spec_l3Reach.mono : ∀ a0 a1 a2 a3 k, LeO (spec_l3Reach.f k a0 a1 a2 a3) (spec_l3Reach.f (k + 1) a0 a1 a2 a3) := by
 intro a0 a1 a2 a3 k
 obtain ⟨ih0, ih1⟩ := spec_l3Reach.mono_l k
 unfold spec_l3Reach.f
 repeat' first
   | (with_reducible exact ih0 _ _ _ _ _)
   | (with_reducible exact ih1 _ _ _ _ _ _)
   | (with_reducible exact LeO.refl _)
   | (with_reducible exact LeO.none _)
   | (with_reducible refine LeO.ite ?_ ?_)
   | (with_reducible refine LeO.bind ?_ (fun _ => ?_))
   | exact ih0 _ _ _ _ _
   | exact ih1 _ _ _ _ _ _
   | exact LeO.none _
   | refine LeO.ite ?_ ?_
   | refine LeO.bind ?_ (fun _ => ?_)
set_option maxHeartbeats 8000000 in
set_option maxRecDepth 100000 in
theorem spec_l3Reach.calls (k : Nat) (a0_0 : Int) (A0_1 : Option Addr) (c0_1 : Nat) (l0_1 : List (S52)) (A1 : Option Addr) (c1 : Nat) (l1 : List Bool) (a2 : Int) (r : List Bool) (w : World) (hr0_1 : Kd.C k52 w A0_1 l0_1.length l0_1) (hc0_1 : l0_1.length ≤ c0_1) (hr1 : Kd.C Kd.bool w A1 l1.length l1) (hc1 : l1.length ≤ c1) (h : spec_l3Reach.f k a0_0 l0_1 l1 a2 = some r) :
  Calls Tryd.prog 63 #[.agg #[.int .i64 a0_0, .slice A0_1 l0_1.length c0_1], .slice A1 l1.length c1, .int .i64 a2] w fun e w' => ∃ v0_ : Value, e = .returned (v0_) ∧ Kd.R Kd.bool 4 w' w.heap.size (fun _ => True) v0_ r ∧ Below w.heap.size w w' := by
 have hu39 := Tryd.underlying39
 have hu52 := Tryd.underlying52
 have HR0_1 := Aside0.mk hr0_1
 have HC0_1 := Aside0.mk hc0_1
 clear hr0_1 hc0_1
 have HR1 := Aside0.mk hr1
 have HC1 := Aside0.mk hc1
 clear hr1 hc1
 have HB := Aside0.mk (Below.refl w.heap.size w)
 have H : (if 0 ≤ a0_0 then (if (a0_0 : Int).toNat ≤ 281474976710656 then ((some (List.replicate (a0_0 : Int).toNat false : List Bool)).bind fun y474 => (if 0 ≤ a2 then (if a2 < (y474.length : Int) then (spec_l3Reach.l0 k l1 (y474.set (a2 : Int).toNat true) 0 a0_0 l0_1) else (none)) else (none))) else (none)) else (none)) = some r := h
 clear h
 by_cases c4 : 0 ≤ a0_0
 rotate_left
 ·
  rw [if_neg c4] at H
  exact absurd H (by simp)
 rw [if_pos c4] at H
 have c4b0 := eq_true c4
 have c4b1 : decide (0 ≤ a0_0) = true := decide_eq_true c4
 clear c4
 by_cases c5 : (a0_0 : Int).toNat ≤ 281474976710656
 rotate_left
 ·
  rw [if_neg c5] at H
  exact absurd H (by simp)
 rw [if_pos c5] at H
 have c5b0 := eq_true c5
 have c5b1 : decide ((a0_0 : Int).toNat ≤ 281474976710656) = true := decide_eq_true c5
 clear c5
 obtain ⟨y474, hy474⟩ : ∃ y_ : List Bool, y_ = (List.replicate (a0_0 : Int).toNat false) := ⟨_, rfl⟩
 replace H : (if 0 ≤ a2 then (if a2 < (y474.length : Int) then (spec_l3Reach.l0 k l1 (y474.set (a2 : Int).toNat true) 0 a0_0 l0_1) else (none)) else (none)) = some r := by first | (rw [hy474]; with_reducible exact H) | (have H2_ := (Option.bind_some _ _).symm.trans H; rw [hy474]; with_reducible exact H2_) | (have H2_ := (Option.bind_some _ _).symm.trans H; with_reducible exact H2_) | with_reducible exact H | (rw [hy474]; exact H) | exact H
 have Ny474 := Aside0.mk hy474
 clear hy474
 by_cases c6 : 0 ≤ a2
 rotate_left
 ·
  rw [if_neg c6] at H
  exact absurd H (by simp)
 rw [if_pos c6] at H
 have c6b0 : decide (0 ≤ a2) = true := decide_eq_true c6
 clear c6
 by_cases c7 : a2 < (y474.length : Int)
 rotate_left
 ·
  rw [if_neg c7] at H
  exact absurd H (by simp)
 rw [if_pos c7] at H
 have c7b0 : decide (a2 < (y474.length : Int)) = true := decide_eq_true c7
 clear c7
 obtain ⟨y477, hy477⟩ : ∃ y_ : List Bool, y_ = (y474.set (a2 : Int).toNat true) := ⟨_, rfl⟩
 replace H : (spec_l3Reach.l0 k l1 y477 0 a0_0 l0_1) = some r := by first | (rw [hy477]; with_reducible exact H) | (have H2_ := (Option.bind_some _ _).symm.trans H; rw [hy477]; with_reducible exact H2_) | (have H2_ := (Option.bind_some _ _).symm.trans H; with_reducible exact H2_) | with_reducible exact H | (rw [hy477]; exact H) | exact H
 have Ny477 := Aside0.mk hy477
 clear hy477
 have H' := Aside0.mk H
 clear H
 go_enter Tryd.func63, Tryd.ntmps63
 go_wp2_with (first | ((with_reducible refine gate_dst (N := 3) rfl ?_); refine box_event ?hg (N := 3) ?hd (cs := #[.int .i64 a0_0, .slice A0_1 l0_1.length c0_1]) (t := 39) ?hr ?_; (case hd => rfl); (case hg => rfl); (case hr => exact hR); intro gb473 hg w9 hbox hb; have n0_ := Aside0.mk (below_step (bl0 HB) hb); have n1_ := Aside0.mk (hbox); have n2_ := Aside0.mk ((by rw [hg]; exact (below_size (bl0 HB)) : w.heap.size ≤ gb473)); have n3_ := Aside0.mk ((by rw [hg]; exact (below_size (bl0 HB)) : w.heap.size ≤ gb473)); clear HB; have HB := n0_; have BK473 := n1_; have GW473 := n2_; have GE473 := n3_; clear n0_ n1_ n2_ n3_; clear hb hbox hg; have hcz10_0 : w9.cell? ⟨gb473, 0, none⟩ = some (.int .i64 a0_0) := (blk_cell BK473.out 0).trans rfl; have hcz10_1 : w9.cell? ⟨gb473, 1, none⟩ = some (.slice A0_1 l0_1.length c0_1) := (blk_cell BK473.out 1).trans rfl; have hfz10_0 := blk_frozen BK473.out 0; have hfz10_1 := blk_frozen BK473.out 1) | ((with_reducible refine gate_dst (N := 13) rfl ?_); refine Kd.R_make Kd.bool _ 4 rfl (N := 13) rfl 23 _ _ rfl a0_0 rfl rfl Tryd.underlying23 (.bool false) 1 info4 rfl (by decide) (by omega) false (ok := fun _ => True) (okp := fun _ => True) rfl (fun _ hk => hk) trivial (oD) (Nat.le_trans (Nat.mul_le_mul_right _ (oD : a0_0.toNat ≤ 281474976710656)) (by omega)) (Below.refl _ _) (Nat.le_refl _) ?_; intro v475 w11 ho12 hb hg_ hnew_; clear hg_ hnew_; (first | rw [← Ny474.out] at ho12 | (simp only [Int.reduceToNat] at ho12; rw [← Ny474.out] at ho12)); have n0_ := Aside0.mk (Kd.R_lower ho12 (below_size (bl1 HB GE473))); have n1_ := Aside0.mk (blk_below (g := gb473) (o := .cells #[.int .i64 a0_0, .slice A0_1 l0_1.length c0_1] 39 (0, 0)) (gB (BK473.out)) hb); have n2_ := Aside0.mk (below_step (bl1 HB GE473) hb); clear BK473; clear HB; have HO476 := n0_; have BK473 := n1_; have HB := n2_; clear n0_ n1_ n2_; clear hb ho12; have p8 : 0 ≤ (a2 : Int) := oD; have q8 : (a2 : Int) < ((y474.length : Int) : Int) := oD; obtain ⟨go8, co8, eo8, gb8, gl8, cl8, HG8⟩ := Kd.R_form HO476.out (by first | omega | (obtain ⟨_, _, e_⟩ := Kd.R_slice HO476.out; injection e_ with _ e_ _; omega)); (first | cases eo8 | (injection eo8 with ea_ en_ ec_; (first | subst ea_ | (injection ea_ with ea_; subst ea_)); subst ec_; clear en_)); have GB8 := Aside0.mk gb8; have GG8 := Aside0.mk HG8; clear gb8 gl8 HG8; obtain ⟨hx8_0, hf8_0⟩ := Kd.R_celln false HO476.out (a2 : Int) p8 q8; replace p8 := eq_true p8; replace q8 := eq_true q8; obtain ⟨hy13_, hz13_⟩ := Kd.R_celln false HO476.out (a2 : Int) (oD) (oD); have HP13 := Kd.R_putg HO476.out (a2 : Int) true) | ((with_reducible refine gate_store (t := 4) (p := 16) rfl ?_); refine store_event (t := 4) (p := 16) (v := ?vo_w14) (w1 := (w11.setCell ⟨go8, (a2 : Int).toNat, none⟩ (.bool true))) ?hg ?ho ?hn ?hr ?_; (case ho => rfl); (case hg => rfl); (case hn => rfl); (case hr => exact hR); intro w14 hw; have hg : w11.grownBy w14 (some go8) := (by rw [hw]; exact HP13.2); have hp_ : Kd.R Kd.bool 4 w14 w.heap.size (fun _ => True) (.slice (some ⟨go8, 0, none⟩) y474.length co8) y477 := (by rw [hw, Ny477.out]; exact HP13.1); clear HP13; have n0_ := Aside0.mk (blk_grown (g := gb473) (o := .cells #[.int .i64 a0_0, .slice A0_1 l0_1.length c0_1] 39 (0, 0)) (gB (BK473.out)) hg (Kd.R_ne HO476.out BK473.out (by decide))); have n1_ := Aside0.mk (hp_); have n2_ := Aside0.mk ((by rw [hw]; exact below_set (HB.out) GB8.out : Below w.heap.size w w14)); clear BK473; clear HO476; clear HB; have BK473 := n0_; have HO476 := n1_; have HB := n2_; clear n0_ n1_ n2_; clear hg hw hp_))
 go_loopg [8] k (fun kq v8 w' => ∃ (x7_1 : List Bool) (x8_1 : Int), v8 = .int .i64 x8_1 ∧ Aside0 (spec_l3Reach.l0 kq l1 x7_1 x8_1 a0_0 l0_1 = some r) ∧ Aside0 (kq ≤ k) ∧ Aside0 (Kd.R Kd.bool 4 w' w.heap.size (fun _ => True) (.slice (some ⟨go8, 0, none⟩) y474.length co8) x7_1) ∧ Aside0 (w'.heap[gb473]? = some (.cells #[.int .i64 a0_0, (.slice A0_1 l0_1.length c0_1)] 39 (0, 0))) ∧ Aside0 (Below w.heap.size w w'))
 case atStart => exact ⟨(y477), (0), fS, H', ⟨Nat.le_refl _⟩, ⟨gR (HO476.out)⟩, ⟨gB (BK473.out)⟩, ⟨bl1 HB GE473⟩⟩
 case round =>
  clear H'
  try clear c1
  try clear p2
  try clear c4
  try clear c4b0
  try clear c4b1
  try clear c5
  try clear c5b0
  try clear c5b1
  try clear c6
  try clear c6b0
  try clear c7
  try clear c7b0
  try clear p8
  try clear q8
  try clear hx8
  try clear hf8
  try clear hcz10_0
  try clear hcz10_1
  try clear hfz10_0
  try clear hfz10_1
  try clear hx8_0
  try clear p8
  try clear q8
  obtain ⟨x7_1, x8_1, rfl, HA, HK1, HO_7, BK473, HB⟩ := hrel
  have hl7_1 := (Kd.R_reads' HO_7.out).1
  rw [hl7_1] at HO_7
  (try simp only [hl7_1])
  (try simp only [hl7_1] at BK473)
  cases gk with
  | zero => exact absurd HA.out (by simp [spec_l3Reach.l0])
  | succ k1 =>
   have H := HA.out
   clear HA
   simp only [spec_l3Reach.l0] at H
   by_cases c15 : x8_1 < a0_0
   rotate_left
   ·
    rw [if_neg c15] at H
    have c15b0 : decide (x8_1 < a0_0) = false := decide_eq_false c15
    clear c15
    obtain rfl := Option.some.inj H
    have hcz67_0 : wr.cell? ⟨gb473, 0, none⟩ = some (.int .i64 a0_0) := (blk_cell BK473.out 0).trans rfl
    have hcz67_1 : wr.cell? ⟨gb473, 1, none⟩ = some (.slice A0_1 l0_1.length c0_1) := (blk_cell BK473.out 1).trans rfl
    have hfz67_0 := blk_frozen BK473.out 0
    have hfz67_1 := blk_frozen BK473.out 1
    go_wp2
    go_ret
    exact ⟨_, fR, gR (HO_7.out), bl1 HB GE473⟩
   rw [if_pos c15] at H
   have c15b0 : decide (x8_1 < a0_0) = true := decide_eq_true c15
   clear c15
   have H' := Aside0.mk H
   clear H
   have hcz16_0 : wr.cell? ⟨gb473, 0, none⟩ = some (.int .i64 a0_0) := (blk_cell BK473.out 0).trans rfl
   have hcz16_1 : wr.cell? ⟨gb473, 1, none⟩ = some (.slice A0_1 l0_1.length c0_1) := (blk_cell BK473.out 1).trans rfl
   have hfz16_0 := blk_frozen BK473.out 0
   have hfz16_1 := blk_frozen BK473.out 1
   go_wp2
   go_loopg [9] k1 (fun kq v9 w' => ∃ (x7_2 : List Bool) (x9_2 : Int), v9 = .int .i64 x9_2 ∧ Aside0 (spec_l3Reach.l1 kq l1 x7_2 x8_1 x9_2 a0_0 l0_1 = some r) ∧ Aside0 (kq ≤ k1) ∧ Aside0 (Kd.R Kd.bool 4 w' w.heap.size (fun _ => True) (.slice (some ⟨go8, 0, none⟩) x7_1.length co8) x7_2) ∧ Aside0 (w'.heap[gb473]? = some (.cells #[.int .i64 a0_0, (.slice A0_1 l0_1.length c0_1)] 39 (0, 0))) ∧ Aside0 (Below w.heap.size w w'))
   case atStart => exact ⟨(x7_1), (0), fS, H', ⟨Nat.le_refl _⟩, ⟨by (try simp only [hl7_1]); (with_reducible repeat (first | apply Kd.R_alloc | apply Kd.R_drewN | apply Kd.R_drew)); exact HO_7.out⟩, ⟨by (try simp only [hl7_1]); (with_reducible repeat (first | refine blk_drewN ?_ _ | refine blk_drew ?_ | refine blk_alloc ?_ _)); exact BK473.out⟩, ⟨bl1 HB GE473⟩⟩
   case round =>
    clear H'
    try clear c1
    try clear p2
    try clear c4
    try clear c4b0
    try clear c4b1
    try clear c5
    try clear c5b0
    try clear c5b1
    try clear c6
    try clear c6b0
    try clear c7
    try clear c7b0
    try clear p8
    try clear q8
    try clear hx8
    try clear hf8
    try clear c15
    try clear c15b0
    try clear hcz10_0
    try clear hcz10_1
    try clear hcz16_0
    try clear hcz16_1
    try clear hfz10_0
    try clear hfz10_1
    try clear hfz16_0
    try clear hfz16_1
    try clear hx8_0
    try clear p2
    try clear p8
    try clear q8
    obtain ⟨x7_2, x9_2, rfl, HA, HK2, HO_7, BK473, HB⟩ := hrel
    have hl7_2 := (Kd.R_reads' HO_7.out).1
    rw [hl7_2] at HO_7
    (try simp only [hl7_2])
    (try simp only [hl7_2] at BK473)
    cases gk with
    | zero => exact absurd HA.out (by simp [spec_l3Reach.l1])
    | succ k2 =>
     have H := HA.out
     clear HA
     simp only [spec_l3Reach.l1] at H
     by_cases c17 : x9_2 < (l0_1.length : Int)
     rotate_left
     ·
      rw [if_neg c17] at H
      have c17b0 : decide (x9_2 < (l0_1.length : Int)) = false := decide_eq_false c17
      clear c17
      have H' := Aside0.mk H
      clear H
      have hcz66_0 : wr.cell? ⟨gb473, 0, none⟩ = some (.int .i64 a0_0) := (blk_cell BK473.out 0).trans rfl
      have hcz66_1 : wr.cell? ⟨gb473, 1, none⟩ = some (.slice A0_1 l0_1.length c0_1) := (blk_cell BK473.out 1).trans rfl
      have hfz66_0 := blk_frozen BK473.out 0
      have hfz66_1 := blk_frozen BK473.out 1
      go_wp2
      (try simp only [← hl7_1, ← hl7_2])
      go_roundg k2
      case measure => have := HK1.out; have := HK2.out; omega
      case rel => exact ⟨(x7_2), (wrap64 (x8_1 + 1)), fS, H', ⟨by have := HK1.out; have := HK2.out; omega⟩, ⟨by (try simp only [hl7_1]); (try simp only [hl7_2]); (with_reducible repeat (first | apply Kd.R_alloc | apply Kd.R_drewN | apply Kd.R_drew)); exact HO_7.out⟩, ⟨by (try simp only [hl7_1]); (try simp only [hl7_2]); (with_reducible repeat (first | refine blk_drewN ?_ _ | refine blk_drew ?_ | refine blk_alloc ?_ _)); exact BK473.out⟩, ⟨bl1 HB GE473⟩⟩
     rw [if_pos c17] at H
     have c17b0 : decide (x9_2 < (l0_1.length : Int)) = true := decide_eq_true c17
     clear c17
     by_cases c18 : 0 ≤ x9_2
     rotate_left
     ·
      rw [if_neg c18] at H
      exact absurd H (by simp)
     rw [if_pos c18] at H
     have c18b0 : decide (0 ≤ x9_2) = true := decide_eq_true c18
     clear c18
     by_cases c19 : x9_2 < (l1.length : Int)
     rotate_left
     ·
      rw [if_neg c19] at H
      exact absurd H (by simp)
     rw [if_pos c19] at H
     have c19b0 : decide (x9_2 < (l1.length : Int)) = true := decide_eq_true c19
     clear c19
     obtain ⟨bq20, hbq20⟩ : ∃ b_ : Bool, b_ = (rdOf false l1 x9_2) := ⟨_, rfl⟩
     replace H : (if bq20 = true then (if 0 ≤ ((rd_T52 l0_1 x9_2).f0) then (if ((rd_T52 l0_1 x9_2).f0) < (x7_2.length : Int) then (if rdOf false x7_2 ((rd_T52 l0_1 x9_2).f0) = true then (if 0 ≤ ((rd_T52 l0_1 x9_2).f1) then (if ((rd_T52 l0_1 x9_2).f1) < (x7_2.length : Int) then (spec_l3Reach.l1 k2 l1 ((x7_2.set (((rd_T52 l0_1 x9_2).f0) : Int).toNat true).set (((rd_T52 l0_1 x9_2).f1) : Int).toNat true) x8_1 (wrap64 (x9_2 + 1)) a0_0 l0_1) else (none)) else (none)) else (if 0 ≤ ((rd_T52 l0_1 x9_2).f1) then (if ((rd_T52 l0_1 x9_2).f1) < (x7_2.length : Int) then (if rdOf false x7_2 ((rd_T52 l0_1 x9_2).f1) = true then (spec_l3Reach.l1 k2 l1 ((x7_2.set (((rd_T52 l0_1 x9_2).f0) : Int).toNat true).set (((rd_T52 l0_1 x9_2).f1) : Int).toNat true) x8_1 (wrap64 (x9_2 + 1)) a0_0 l0_1) else (spec_l3Reach.l1 k2 l1 x7_2 x8_1 (wrap64 (x9_2 + 1)) a0_0 l0_1)) else (none)) else (none))) else (none)) else (none)) else (spec_l3Reach.l1 k2 l1 x7_2 x8_1 (wrap64 (x9_2 + 1)) a0_0 l0_1)) = some r := by rw [← hbq20] at H; exact H
     have Nbq20 := Aside0.mk hbq20
     clear hbq20
     by_cases c21 : bq20 = true
     rotate_left
     ·
      replace c21 := Bool.eq_false_iff.mpr c21
      subst c21
      have H1 : (spec_l3Reach.l1 k2 l1 x7_2 x8_1 (wrap64 (x9_2 + 1)) a0_0 l0_1) = some r := by rw [if_neg (show ¬ (false = true) by decide)] at H; exact H
      clear H
      have H := H1
      clear H1
      have H' := Aside0.mk H
      clear H
      have hcz62_0 : wr.cell? ⟨gb473, 0, none⟩ = some (.int .i64 a0_0) := (blk_cell BK473.out 0).trans rfl
      have hcz62_1 : wr.cell? ⟨gb473, 1, none⟩ = some (.slice A0_1 l0_1.length c0_1) := (blk_cell BK473.out 1).trans rfl
      have hfz62_0 := blk_frozen BK473.out 0
      have hfz62_1 := blk_frozen BK473.out 1
      have p478 : 0 ≤ (x9_2 : Int) := oD
      have q478 : x9_2 < (l0_1.length : Int) := oD
      obtain ⟨ad478, e478, hx478_0, hx478_1, hx478_2⟩ := at_T52 HR0_1.out x9_2 p478 q478
      cases e478
      replace hx478_0 := (HB.out.cell (World.block_lt_of_cell? w _ hx478_0)).trans hx478_0
      replace hx478_1 := (HB.out.cell (World.block_lt_of_cell? w _ hx478_1)).trans hx478_1
      replace hx478_2 := (HB.out.cell (World.block_lt_of_cell? w _ hx478_2)).trans hx478_2
      replace p478 := eq_true p478
      replace q478 := eq_true q478
      go_wp2_with (first | ((with_reducible refine gate_dst (N := 10) rfl ?_); refine box_event ?hg (N := 10) ?hd (cs := #[.int .i64 0, .int .i64 0, .int .i64 0]) (t := 52) ?hr ?_; (case hd => rfl); (case hg => rfl); (case hr => exact hR); intro gb479 hg w63 hbox hb; have n0_ := Aside0.mk (Kd.R_below (gR (HO_7.out)) hb); have n1_ := Aside0.mk (blk_below (g := gb473) (o := .cells #[.int .i64 a0_0, .slice (some ad478) l0_1.length c0_1] 39 (0, 0)) (gB (BK473.out)) hb); have n2_ := Aside0.mk (below_step (bl1 HB GE473) hb); have n3_ := Aside0.mk (hbox); have n4_ := Aside0.mk ((by rw [hg]; exact (below_size (bl1 HB GE473)) : w.heap.size ≤ gb479)); have n5_ := Aside0.mk ((by rw [hg]; exact (below_size (bl1 HB GE473)) : w.heap.size ≤ gb479)); have n6_ := Aside0.mk ((by rw [hg]; exact Nat.ne_of_lt (blk_lt (g := gb473) (o := .cells #[.int .i64 a0_0, .slice (some ad478) l0_1.length c0_1] 39 (0, 0)) (gB (BK473.out))) : gb473 ≠ gb479)); have n7_ := Aside0.mk ((by rw [hg]; exact Nat.ne_of_gt (blk_lt (g := gb473) (o := .cells #[.int .i64 a0_0, .slice (some ad478) l0_1.length c0_1] 39 (0, 0)) (gB (BK473.out))) : gb479 ≠ gb473)); clear HO_7; clear BK473; clear HB; have HO_7 := n0_; have BK473 := n1_; have HB := n2_; have BK479 := n3_; have GW479 := n4_; have GE479 := n5_; have NB473_479 := n6_; have NB479_473 := n7_; clear n0_ n1_ n2_ n3_ n4_ n5_ n6_ n7_; clear hb hbox hg; have hnb64 := NB479_473.out; have hnc64 := NB473_479.out; have hcz65_0 : w63.cell? ⟨gb479, 0, none⟩ = some (.int .i64 0) := (blk_cell BK479.out 0).trans rfl; have hcz65_1 : w63.cell? ⟨gb479, 1, none⟩ = some (.int .i64 0) := (blk_cell BK479.out 1).trans rfl; have hcz65_2 : w63.cell? ⟨gb479, 2, none⟩ = some (.int .i64 0) := (blk_cell BK479.out 2).trans rfl; have hfz65_0 := blk_frozen BK479.out 0; have hfz65_1 := blk_frozen BK479.out 1; have hfz65_2 := blk_frozen BK479.out 2; have p480 : 0 ≤ (x9_2 : Int) := oD; have q480 : x9_2 < (l1.length : Int) := oD; obtain ⟨ad480, e480, hx480_0⟩ := Kd.at_bool HR1.out x9_2 p480 q480; (try rw [← Nbq20.out] at hx480_0); cases e480; have hn480_0 : ad480.block ≠ gb479 := Nat.ne_of_lt (Nat.lt_of_lt_of_le (by have := World.block_lt_of_cell? _ _ hx480_0; first | rwa [add_block] at this | exact this) GW479.out); have hn480_1 : ad480.block ≠ gb479 := Nat.ne_of_lt (Nat.lt_of_lt_of_le (by have := World.block_lt_of_cell? _ _ hx480_0; first | rwa [add_block] at this | exact this) GW479.out); have hn480_2 : ad480.block ≠ gb479 := Nat.ne_of_lt (Nat.lt_of_lt_of_le (by have := World.block_lt_of_cell? _ _ hx480_0; first | rwa [add_block] at this | exact this) GW479.out); replace hx480_0 := (HB.out.cell (World.block_lt_of_cell? w _ hx480_0)).trans hx480_0; replace hx480_0 := (cell_far (p := ⟨gb479, 0, none⟩) (by first | (rw [add_block]; exact hn480_0) | (show (Addr.add _ _).block ≠ _; rw [add_block]; exact hn480_0) | exact hn480_0) (.int .i64 ((rd_T52 l0_1 x9_2).f0))).trans hx480_0; replace hx480_0 := (cell_far (p := ⟨gb479, 1, none⟩) (by first | (rw [add_block]; exact hn480_1) | (show (Addr.add _ _).block ≠ _; rw [add_block]; exact hn480_1) | exact hn480_1) (.int .i64 ((rd_T52 l0_1 x9_2).f1))).trans hx480_0; replace hx480_0 := (cell_far (p := ⟨gb479, 2, none⟩) (by first | (rw [add_block]; exact hn480_2) | (show (Addr.add _ _).block ≠ _; rw [add_block]; exact hn480_2) | exact hn480_2) (.int .i64 ((rd_T52 l0_1 x9_2).f2))).trans hx480_0; clear hn480_0; clear hn480_1; clear hn480_2; replace p480 := eq_true p480; replace q480 := eq_true q480))
      (try simp only [← hl7_2])
      go_roundg k2
      case measure => have := HK1.out; have := HK2.out; omega
      case rel => exact ⟨(x7_2), (wrap64 (x9_2 + 1)), fS, H', ⟨by have := HK1.out; have := HK2.out; omega⟩, ⟨by (try simp only [hl7_1]); (try simp only [hl7_2]); (with_reducible repeat (first | apply Kd.R_alloc | apply Kd.R_drewN | apply Kd.R_drew)); exact Kd.R_mono (Kd.R_far (p := ⟨gb479, 2, none⟩) (Kd.R_far (p := ⟨gb479, 1, none⟩) (Kd.R_far (p := ⟨gb479, 0, none⟩) (Kd.R_types HO_7.out BK479.out (by decide)) (fun _ hk => hk.2) (.int .i64 ((rd_T52 l0_1 x9_2).f0))) (fun _ hk => hk.2) (.int .i64 ((rd_T52 l0_1 x9_2).f1))) (fun _ hk => hk.2) (.int .i64 ((rd_T52 l0_1 x9_2).f2))) (fun _ hk => trivial)⟩, ⟨by (try simp only [hl7_1]); (try simp only [hl7_2]); (with_reducible repeat (first | refine blk_drewN ?_ _ | refine blk_drew ?_ | refine blk_alloc ?_ _)); refine blk_far ?_ NB473_479.out _; (with_reducible repeat (first | refine blk_drewN ?_ _ | refine blk_drew ?_ | refine blk_alloc ?_ _)); refine blk_far ?_ NB473_479.out _; (with_reducible repeat (first | refine blk_drewN ?_ _ | refine blk_drew ?_ | refine blk_alloc ?_ _)); refine blk_far ?_ NB473_479.out _; (with_reducible repeat (first | refine blk_drewN ?_ _ | refine blk_drew ?_ | refine blk_alloc ?_ _)); exact BK473.out⟩, ⟨bl2 HB GE473 GE479⟩⟩
     subst c21
     have H1 : (if 0 ≤ ((rd_T52 l0_1 x9_2).f0) then (if ((rd_T52 l0_1 x9_2).f0) < (x7_2.length : Int) then (if rdOf false x7_2 ((rd_T52 l0_1 x9_2).f0) = true then (if 0 ≤ ((rd_T52 l0_1 x9_2).f1) then (if ((rd_T52 l0_1 x9_2).f1) < (x7_2.length : Int) then (spec_l3Reach.l1 k2 l1 ((x7_2.set (((rd_T52 l0_1 x9_2).f0) : Int).toNat true).set (((rd_T52 l0_1 x9_2).f1) : Int).toNat true) x8_1 (wrap64 (x9_2 + 1)) a0_0 l0_1) else (none)) else (none)) else (if 0 ≤ ((rd_T52 l0_1 x9_2).f1) then (if ((rd_T52 l0_1 x9_2).f1) < (x7_2.length : Int) then (if rdOf false x7_2 ((rd_T52 l0_1 x9_2).f1) = true then (spec_l3Reach.l1 k2 l1 ((x7_2.set (((rd_T52 l0_1 x9_2).f0) : Int).toNat true).set (((rd_T52 l0_1 x9_2).f1) : Int).toNat true) x8_1 (wrap64 (x9_2 + 1)) a0_0 l0_1) else (spec_l3Reach.l1 k2 l1 x7_2 x8_1 (wrap64 (x9_2 + 1)) a0_0 l0_1)) else (none)) else (none))) else (none)) else (none)) = some r := by rw [if_pos rfl] at H; exact H
     clear H
     have H := H1
     clear H1
     by_cases c22 : 0 ≤ ((rd_T52 l0_1 x9_2).f0)
     rotate_left
     ·
      rw [if_neg c22] at H
      exact absurd H (by simp)
     rw [if_pos c22] at H
     have c22b0 : decide (0 ≤ ((rd_T52 l0_1 x9_2).f0)) = true := decide_eq_true c22
     clear c22
     by_cases c23 : ((rd_T52 l0_1 x9_2).f0) < (x7_2.length : Int)
     rotate_left
     ·
      rw [if_neg c23] at H
      exact absurd H (by simp)
     rw [if_pos c23] at H
     have c23b0 : decide (((rd_T52 l0_1 x9_2).f0) < (x7_2.length : Int)) = true := decide_eq_true c23
     clear c23
     obtain ⟨bq24, hbq24⟩ : ∃ b_ : Bool, b_ = (rdOf false x7_2 ((rd_T52 l0_1 x9_2).f0)) := ⟨_, rfl⟩
     replace H : (if bq24 = true then (if 0 ≤ ((rd_T52 l0_1 x9_2).f1) then (if ((rd_T52 l0_1 x9_2).f1) < (x7_2.length : Int) then (spec_l3Reach.l1 k2 l1 ((x7_2.set (((rd_T52 l0_1 x9_2).f0) : Int).toNat true).set (((rd_T52 l0_1 x9_2).f1) : Int).toNat true) x8_1 (wrap64 (x9_2 + 1)) a0_0 l0_1) else (none)) else (none)) else (if 0 ≤ ((rd_T52 l0_1 x9_2).f1) then (if ((rd_T52 l0_1 x9_2).f1) < (x7_2.length : Int) then (if rdOf false x7_2 ((rd_T52 l0_1 x9_2).f1) = true then (spec_l3Reach.l1 k2 l1 ((x7_2.set (((rd_T52 l0_1 x9_2).f0) : Int).toNat true).set (((rd_T52 l0_1 x9_2).f1) : Int).toNat true) x8_1 (wrap64 (x9_2 + 1)) a0_0 l0_1) else (spec_l3Reach.l1 k2 l1 x7_2 x8_1 (wrap64 (x9_2 + 1)) a0_0 l0_1)) else (none)) else (none))) = some r := by rw [← hbq24] at H; exact H
     have Nbq24 := Aside0.mk hbq24
     clear hbq24
     by_cases c25 : bq24 = true
     ·
      subst c25
      have H1 : (if 0 ≤ ((rd_T52 l0_1 x9_2).f1) then (if ((rd_T52 l0_1 x9_2).f1) < (x7_2.length : Int) then (spec_l3Reach.l1 k2 l1 ((x7_2.set (((rd_T52 l0_1 x9_2).f0) : Int).toNat true).set (((rd_T52 l0_1 x9_2).f1) : Int).toNat true) x8_1 (wrap64 (x9_2 + 1)) a0_0 l0_1) else (none)) else (none)) = some r := by rw [if_pos rfl] at H; exact H
      clear H
      have H := H1
      clear H1
      obtain ⟨y482, hy482⟩ : ∃ y_ : List Bool, y_ = (x7_2.set (((rd_T52 l0_1 x9_2).f0) : Int).toNat true) := ⟨_, rfl⟩
      replace H : (if 0 ≤ ((rd_T52 l0_1 x9_2).f1) then (if ((rd_T52 l0_1 x9_2).f1) < (x7_2.length : Int) then (spec_l3Reach.l1 k2 l1 (y482.set (((rd_T52 l0_1 x9_2).f1) : Int).toNat true) x8_1 (wrap64 (x9_2 + 1)) a0_0 l0_1) else (none)) else (none)) = some r := by first | (rw [hy482]; with_reducible exact H) | (have H2_ := (Option.bind_some _ _).symm.trans H; rw [hy482]; with_reducible exact H2_) | (have H2_ := (Option.bind_some _ _).symm.trans H; with_reducible exact H2_) | with_reducible exact H | (rw [hy482]; exact H) | exact H
      have Ny482 := Aside0.mk hy482
      clear hy482
      by_cases c27 : 0 ≤ ((rd_T52 l0_1 x9_2).f1)
      rotate_left
      ·
       rw [if_neg c27] at H
       exact absurd H (by simp)
      rw [if_pos c27] at H
      have c27b0 : decide (0 ≤ ((rd_T52 l0_1 x9_2).f1)) = true := decide_eq_true c27
      clear c27
      by_cases c28 : ((rd_T52 l0_1 x9_2).f1) < (x7_2.length : Int)
      rotate_left
      ·
       rw [if_neg c28] at H
       exact absurd H (by simp)
      rw [if_pos c28] at H
      have c28b0 : decide (((rd_T52 l0_1 x9_2).f1) < (x7_2.length : Int)) = true := decide_eq_true c28
      clear c28
      obtain ⟨y483, hy483⟩ : ∃ y_ : List Bool, y_ = (y482.set (((rd_T52 l0_1 x9_2).f1) : Int).toNat true) := ⟨_, rfl⟩
      replace H : (spec_l3Reach.l1 k2 l1 y483 x8_1 (wrap64 (x9_2 + 1)) a0_0 l0_1) = some r := by first | (rw [hy483]; with_reducible exact H) | (have H2_ := (Option.bind_some _ _).symm.trans H; rw [hy483]; with_reducible exact H2_) | (have H2_ := (Option.bind_some _ _).symm.trans H; with_reducible exact H2_) | with_reducible exact H | (rw [hy483]; exact H) | exact H
      have Ny483 := Aside0.mk hy483
      clear hy483
      have H' := Aside0.mk H
      clear H
      have hcz30_0 : wr.cell? ⟨gb473, 0, none⟩ = some (.int .i64 a0_0) := (blk_cell BK473.out 0).trans rfl
      have hcz30_1 : wr.cell? ⟨gb473, 1, none⟩ = some (.slice A0_1 l0_1.length c0_1) := (blk_cell BK473.out 1).trans rfl
      have hfz30_0 := blk_frozen BK473.out 0
      have hfz30_1 := blk_frozen BK473.out 1
      have p478 : 0 ≤ (x9_2 : Int) := oD
      have q478 : x9_2 < (l0_1.length : Int) := oD
      obtain ⟨ad478, e478, hx478_0, hx478_1, hx478_2⟩ := at_T52 HR0_1.out x9_2 p478 q478
      cases e478
      replace hx478_0 := (HB.out.cell (World.block_lt_of_cell? w _ hx478_0)).trans hx478_0
      replace hx478_1 := (HB.out.cell (World.block_lt_of_cell? w _ hx478_1)).trans hx478_1
      replace hx478_2 := (HB.out.cell (World.block_lt_of_cell? w _ hx478_2)).trans hx478_2
      replace p478 := eq_true p478
      replace q478 := eq_true q478
      go_wp2_with (first | ((with_reducible refine gate_dst (N := 10) rfl ?_); refine box_event ?hg (N := 10) ?hd (cs := #[.int .i64 0, .int .i64 0, .int .i64 0]) (t := 52) ?hr ?_; (case hd => rfl); (case hg => rfl); (case hr => exact hR); intro gb479 hg w31 hbox hb; have n0_ := Aside0.mk (Kd.R_below (gR (HO_7.out)) hb); have n1_ := Aside0.mk (blk_below (g := gb473) (o := .cells #[.int .i64 a0_0, .slice (some ad478) l0_1.length c0_1] 39 (0, 0)) (gB (BK473.out)) hb); have n2_ := Aside0.mk (below_step (bl1 HB GE473) hb); have n3_ := Aside0.mk (hbox); have n4_ := Aside0.mk ((by rw [hg]; exact (below_size (bl1 HB GE473)) : w.heap.size ≤ gb479)); have n5_ := Aside0.mk ((by rw [hg]; exact (below_size (bl1 HB GE473)) : w.heap.size ≤ gb479)); have n6_ := Aside0.mk ((by rw [hg]; exact Nat.ne_of_lt (blk_lt (g := gb473) (o := .cells #[.int .i64 a0_0, .slice (some ad478) l0_1.length c0_1] 39 (0, 0)) (gB (BK473.out))) : gb473 ≠ gb479)); have n7_ := Aside0.mk ((by rw [hg]; exact Nat.ne_of_gt (blk_lt (g := gb473) (o := .cells #[.int .i64 a0_0, .slice (some ad478) l0_1.length c0_1] 39 (0, 0)) (gB (BK473.out))) : gb479 ≠ gb473)); clear HO_7; clear BK473; clear HB; have HO_7 := n0_; have BK473 := n1_; have HB := n2_; have BK479 := n3_; have GW479 := n4_; have GE479 := n5_; have NB473_479 := n6_; have NB479_473 := n7_; clear n0_ n1_ n2_ n3_ n4_ n5_ n6_ n7_; clear hb hbox hg; have hnb32 := NB479_473.out; have hnc32 := NB473_479.out; have hcz33_0 : w31.cell? ⟨gb479, 0, none⟩ = some (.int .i64 0) := (blk_cell BK479.out 0).trans rfl; have hcz33_1 : w31.cell? ⟨gb479, 1, none⟩ = some (.int .i64 0) := (blk_cell BK479.out 1).trans rfl; have hcz33_2 : w31.cell? ⟨gb479, 2, none⟩ = some (.int .i64 0) := (blk_cell BK479.out 2).trans rfl; have hfz33_0 := blk_frozen BK479.out 0; have hfz33_1 := blk_frozen BK479.out 1; have hfz33_2 := blk_frozen BK479.out 2) | ((with_reducible refine gate_store (t := 52) (p := 10) rfl ?_); refine store_event (t := 52) (p := 10) (v := ?vo_w34) (w1 := (((w31.setCell ⟨gb479, 0, none⟩ (.int .i64 ((rd_T52 l0_1 x9_2).f0))).setCell ⟨gb479, 1, none⟩ (.int .i64 ((rd_T52 l0_1 x9_2).f1))).setCell ⟨gb479, 2, none⟩ (.int .i64 ((rd_T52 l0_1 x9_2).f2)))) ?hg ?ho ?hn ?hr ?_; (case ho => rfl); (case hg => rfl); (case hn => rfl); (case hr => exact hR); intro w34 hw; have n0_ : Aside0 (Kd.R Kd.bool 4 w34 w.heap.size (fun _ => True) (.slice (some ⟨go8, 0, none⟩) x7_2.length co8) x7_2) := ⟨(by rw [hw]; exact (by (with_reducible repeat (first | apply Kd.R_alloc | apply Kd.R_drewN | apply Kd.R_drew)); exact Kd.R_mono (Kd.R_far (p := ⟨gb479, 2, none⟩) (Kd.R_far (p := ⟨gb479, 1, none⟩) (Kd.R_far (p := ⟨gb479, 0, none⟩) (Kd.R_types HO_7.out BK479.out (by decide)) (fun _ hk => hk.2) (.int .i64 ((rd_T52 l0_1 x9_2).f0))) (fun _ hk => hk.2) (.int .i64 ((rd_T52 l0_1 x9_2).f1))) (fun _ hk => hk.2) (.int .i64 ((rd_T52 l0_1 x9_2).f2))) (fun _ hk => trivial)))⟩; have n1_ : Aside0 (w34.heap[gb473]? = some (.cells #[.int .i64 a0_0, .slice (some ad478) l0_1.length c0_1] 39 (0, 0))) := ⟨(by rw [hw]; exact (by (with_reducible repeat (first | refine blk_drewN ?_ _ | refine blk_drew ?_ | refine blk_alloc ?_ _)); refine blk_far ?_ NB473_479.out _; (with_reducible repeat (first | refine blk_drewN ?_ _ | refine blk_drew ?_ | refine blk_alloc ?_ _)); refine blk_far ?_ NB473_479.out _; (with_reducible repeat (first | refine blk_drewN ?_ _ | refine blk_drew ?_ | refine blk_alloc ?_ _)); refine blk_far ?_ NB473_479.out _; (with_reducible repeat (first | refine blk_drewN ?_ _ | refine blk_drew ?_ | refine blk_alloc ?_ _)); exact BK473.out))⟩; have n2_ : Aside0 (w34.heap[gb479]? = some (.cells #[.int .i64 ((rd_T52 l0_1 x9_2).f0), .int .i64 ((rd_T52 l0_1 x9_2).f1), .int .i64 ((rd_T52 l0_1 x9_2).f2)] 52 (0, 0))) := ⟨(by rw [hw]; exact (by (with_reducible repeat (first | refine blk_drewN ?_ _ | refine blk_drew ?_ | refine blk_alloc ?_ _)); refine blk_put (cs := #[.int .i64 ((rd_T52 l0_1 x9_2).f0), .int .i64 ((rd_T52 l0_1 x9_2).f1), .int .i64 0]) ?_ 2 _ rfl; (with_reducible repeat (first | refine blk_drewN ?_ _ | refine blk_drew ?_ | refine blk_alloc ?_ _)); refine blk_put (cs := #[.int .i64 ((rd_T52 l0_1 x9_2).f0), .int .i64 0, .int .i64 0]) ?_ 1 _ rfl; (with_reducible repeat (first | refine blk_drewN ?_ _ | refine blk_drew ?_ | refine blk_alloc ?_ _)); refine blk_put (cs := #[.int .i64 0, .int .i64 0, .int .i64 0]) ?_ 0 _ rfl; (with_reducible repeat (first | refine blk_drewN ?_ _ | refine blk_drew ?_ | refine blk_alloc ?_ _)); exact BK479.out))⟩; have n3_ : Aside0 (Below w.heap.size w w34) := ⟨(by rw [hw]; exact (bl2 HB GE473 GE479))⟩; clear hw; clear HO_7; clear BK473; clear BK479; clear HB; have HO_7 := n0_; have BK473 := n1_; have BK479 := n2_; have HB := n3_; clear n0_ n1_ n2_ n3_; have p480 : 0 ≤ (x9_2 : Int) := oD; have q480 : x9_2 < (l1.length : Int) := oD; obtain ⟨ad480, e480, hx480_0⟩ := Kd.at_bool HR1.out x9_2 p480 q480; (try rw [← Nbq20.out] at hx480_0); (try rw [← Nbq24.out] at hx480_0); cases e480; replace hx480_0 := (HB.out.cell (World.block_lt_of_cell? w _ hx480_0)).trans hx480_0; replace p480 := eq_true p480; replace q480 := eq_true q480; have hcz35_0 : w34.cell? ⟨gb479, 0, none⟩ = some (.int .i64 ((rd_T52 l0_1 x9_2).f0)) := (blk_cell BK479.out 0).trans rfl; have hcz35_1 : w34.cell? ⟨gb479, 1, none⟩ = some (.int .i64 ((rd_T52 l0_1 x9_2).f1)) := (blk_cell BK479.out 1).trans rfl; have hcz35_2 : w34.cell? ⟨gb479, 2, none⟩ = some (.int .i64 ((rd_T52 l0_1 x9_2).f2)) := (blk_cell BK479.out 2).trans rfl; have hfz35_0 := blk_frozen BK479.out 0; have hfz35_1 := blk_frozen BK479.out 1; have hfz35_2 := blk_frozen BK479.out 2; have p481 : 0 ≤ (((rd_T52 l0_1 x9_2).f0) : Int) := oD; have q481 : ((rd_T52 l0_1 x9_2).f0) < (x7_2.length : Int) := oD; obtain ⟨ad481, e481, hx481_0⟩ := Kd.at_bool (Kd.R_reads' HO_7.out).2.2 ((rd_T52 l0_1 x9_2).f0) p481 q481; (try rw [← Nbq20.out] at hx481_0); (try rw [← Nbq24.out] at hx481_0); obtain rfl : (⟨go8, 0, none⟩ : Addr) = ad481 := (by injection e481); (first | simp only [add_plain] at hx481_0 | simp only [add_at] at hx481_0 | simp only [Addr.add, Nat.zero_add] at hx481_0 | skip); replace p481 := eq_true p481; replace q481 := eq_true q481; have p26 : 0 ≤ (((rd_T52 l0_1 x9_2).f0) : Int) := oD; have q26 : (((rd_T52 l0_1 x9_2).f0) : Int) < ((x7_2.length : Int) : Int) := oD; obtain ⟨hx26_0, hf26_0⟩ := Kd.R_celln false HO_7.out (((rd_T52 l0_1 x9_2).f0) : Int) p26 q26; replace p26 := eq_true p26; replace q26 := eq_true q26; obtain ⟨hy36_, hz36_⟩ := Kd.R_celln false HO_7.out (((rd_T52 l0_1 x9_2).f0) : Int) (oD) (oD); have HP36 := Kd.R_putg HO_7.out (((rd_T52 l0_1 x9_2).f0) : Int) true) | ((with_reducible refine gate_store (t := 4) (p := 56) rfl ?_); refine store_event (t := 4) (p := 56) (v := ?vo_w37) (w1 := (w34.setCell ⟨go8, (((rd_T52 l0_1 x9_2).f0) : Int).toNat, none⟩ (.bool true))) ?hg ?ho ?hn ?hr ?_; (case ho => rfl); (case hg => rfl); (case hn => rfl); (case hr => exact hR); intro w37 hw; have hg : w34.grownBy w37 (some go8) := (by rw [hw]; exact HP36.2); have hp_ : Kd.R Kd.bool 4 w37 w.heap.size (fun _ => True) (.slice (some ⟨go8, 0, none⟩) x7_2.length co8) y482 := (by rw [hw, Ny482.out]; exact HP36.1); clear HP36; have n0_ := Aside0.mk (hp_); have n1_ := Aside0.mk (blk_grown (g := gb473) (o := .cells #[.int .i64 a0_0, .slice (some ad478) l0_1.length c0_1] 39 (0, 0)) (gB (BK473.out)) hg (Kd.R_ne HO_7.out BK473.out (by decide))); have n2_ := Aside0.mk (blk_grown (g := gb479) (o := .cells #[.int .i64 ((rd_T52 l0_1 x9_2).f0), .int .i64 ((rd_T52 l0_1 x9_2).f1), .int .i64 ((rd_T52 l0_1 x9_2).f2)] 52 (0, 0)) (gB (BK479.out)) hg (Kd.R_ne HO_7.out BK479.out (by decide))); have n3_ := Aside0.mk ((by rw [hw]; exact below_set (HB.out) GB8.out : Below w.heap.size w w37)); clear HO_7; clear BK473; clear BK479; clear HB; have HO_7 := n0_; have BK473 := n1_; have BK479 := n2_; have HB := n3_; clear n0_ n1_ n2_ n3_; clear hg hw hp_; have hcz38_0 : w37.cell? ⟨gb479, 0, none⟩ = some (.int .i64 ((rd_T52 l0_1 x9_2).f0)) := (blk_cell BK479.out 0).trans rfl; have hcz38_1 : w37.cell? ⟨gb479, 1, none⟩ = some (.int .i64 ((rd_T52 l0_1 x9_2).f1)) := (blk_cell BK479.out 1).trans rfl; have hcz38_2 : w37.cell? ⟨gb479, 2, none⟩ = some (.int .i64 ((rd_T52 l0_1 x9_2).f2)) := (blk_cell BK479.out 2).trans rfl; have hfz38_0 := blk_frozen BK479.out 0; have hfz38_1 := blk_frozen BK479.out 1; have hfz38_2 := blk_frozen BK479.out 2; have p29 : 0 ≤ (((rd_T52 l0_1 x9_2).f1) : Int) := oD; have q29 : (((rd_T52 l0_1 x9_2).f1) : Int) < ((x7_2.length : Int) : Int) := oD; obtain ⟨hx29_0, hf29_0⟩ := Kd.R_celln false HO_7.out (((rd_T52 l0_1 x9_2).f1) : Int) p29 q29; replace p29 := eq_true p29; replace q29 := eq_true q29; obtain ⟨hy39_, hz39_⟩ := Kd.R_celln false HO_7.out (((rd_T52 l0_1 x9_2).f1) : Int) (oD) (oD); have HP39 := Kd.R_putg HO_7.out (((rd_T52 l0_1 x9_2).f1) : Int) true) | ((with_reducible refine gate_store (t := 4) (p := 60) rfl ?_); refine store_event (t := 4) (p := 60) (v := ?vo_w40) (w1 := (w37.setCell ⟨go8, (((rd_T52 l0_1 x9_2).f1) : Int).toNat, none⟩ (.bool true))) ?hg ?ho ?hn ?hr ?_; (case ho => rfl); (case hg => rfl); (case hn => rfl); (case hr => exact hR); intro w40 hw; have hg : w37.grownBy w40 (some go8) := (by rw [hw]; exact HP39.2); have hp_ : Kd.R Kd.bool 4 w40 w.heap.size (fun _ => True) (.slice (some ⟨go8, 0, none⟩) x7_2.length co8) y483 := (by rw [hw, Ny483.out]; exact HP39.1); clear HP39; have n0_ := Aside0.mk (hp_); have n1_ := Aside0.mk (blk_grown (g := gb473) (o := .cells #[.int .i64 a0_0, .slice (some ad478) l0_1.length c0_1] 39 (0, 0)) (gB (BK473.out)) hg (Kd.R_ne HO_7.out BK473.out (by decide))); have n2_ := Aside0.mk (blk_grown (g := gb479) (o := .cells #[.int .i64 ((rd_T52 l0_1 x9_2).f0), .int .i64 ((rd_T52 l0_1 x9_2).f1), .int .i64 ((rd_T52 l0_1 x9_2).f2)] 52 (0, 0)) (gB (BK479.out)) hg (Kd.R_ne HO_7.out BK479.out (by decide))); have n3_ := Aside0.mk ((by rw [hw]; exact below_set (HB.out) GB8.out : Below w.heap.size w w40)); clear HO_7; clear BK473; clear BK479; clear HB; have HO_7 := n0_; have BK473 := n1_; have BK479 := n2_; have HB := n3_; clear n0_ n1_ n2_ n3_; clear hg hw hp_))
      (try simp only [← hl7_2])
      go_roundg k2
      case measure => have := HK1.out; have := HK2.out; omega
      case rel => exact ⟨(y483), (wrap64 (x9_2 + 1)), fS, H', ⟨by have := HK1.out; have := HK2.out; omega⟩, ⟨by (try simp only [hl7_1]); (try simp only [hl7_2]); (with_reducible repeat (first | apply Kd.R_alloc | apply Kd.R_drewN | apply Kd.R_drew)); exact HO_7.out⟩, ⟨by (try simp only [hl7_1]); (try simp only [hl7_2]); (with_reducible repeat (first | refine blk_drewN ?_ _ | refine blk_drew ?_ | refine blk_alloc ?_ _)); exact BK473.out⟩, ⟨bl2 HB GE473 GE479⟩⟩
     replace c25 := Bool.eq_false_iff.mpr c25
     subst c25
     have H1 : (if 0 ≤ ((rd_T52 l0_1 x9_2).f1) then (if ((rd_T52 l0_1 x9_2).f1) < (x7_2.length : Int) then (if rdOf false x7_2 ((rd_T52 l0_1 x9_2).f1) = true then (spec_l3Reach.l1 k2 l1 ((x7_2.set (((rd_T52 l0_1 x9_2).f0) : Int).toNat true).set (((rd_T52 l0_1 x9_2).f1) : Int).toNat true) x8_1 (wrap64 (x9_2 + 1)) a0_0 l0_1) else (spec_l3Reach.l1 k2 l1 x7_2 x8_1 (wrap64 (x9_2 + 1)) a0_0 l0_1)) else (none)) else (none)) = some r := by rw [if_neg (show ¬ (false = true) by decide)] at H; exact H
     clear H
     have H := H1
     clear H1
     by_cases c41 : 0 ≤ ((rd_T52 l0_1 x9_2).f1)
     rotate_left
     ·
      rw [if_neg c41] at H
      exact absurd H (by simp)
     rw [if_pos c41] at H
     have c41b0 : decide (0 ≤ ((rd_T52 l0_1 x9_2).f1)) = true := decide_eq_true c41
     clear c41
     by_cases c42 : ((rd_T52 l0_1 x9_2).f1) < (x7_2.length : Int)
     rotate_left
     ·
      rw [if_neg c42] at H
      exact absurd H (by simp)
     rw [if_pos c42] at H
     have c42b0 : decide (((rd_T52 l0_1 x9_2).f1) < (x7_2.length : Int)) = true := decide_eq_true c42
     clear c42
     obtain ⟨bq43, hbq43⟩ : ∃ b_ : Bool, b_ = (rdOf false x7_2 ((rd_T52 l0_1 x9_2).f1)) := ⟨_, rfl⟩
     replace H : (if bq43 = true then (spec_l3Reach.l1 k2 l1 ((x7_2.set (((rd_T52 l0_1 x9_2).f0) : Int).toNat true).set (((rd_T52 l0_1 x9_2).f1) : Int).toNat true) x8_1 (wrap64 (x9_2 + 1)) a0_0 l0_1) else (spec_l3Reach.l1 k2 l1 x7_2 x8_1 (wrap64 (x9_2 + 1)) a0_0 l0_1)) = some r := by rw [← hbq43] at H; exact H
     have Nbq43 := Aside0.mk hbq43
     clear hbq43
     by_cases c44 : bq43 = true
     rotate_left
     ·
      replace c44 := Bool.eq_false_iff.mpr c44
      subst c44
      have H1 : (spec_l3Reach.l1 k2 l1 x7_2 x8_1 (wrap64 (x9_2 + 1)) a0_0 l0_1) = some r := by rw [if_neg (show ¬ (false = true) by decide)] at H; exact H
      clear H
      have H := H1
      clear H1
      have H' := Aside0.mk H
      clear H
      have hcz58_0 : wr.cell? ⟨gb473, 0, none⟩ = some (.int .i64 a0_0) := (blk_cell BK473.out 0).trans rfl
      have hcz58_1 : wr.cell? ⟨gb473, 1, none⟩ = some (.slice A0_1 l0_1.length c0_1) := (blk_cell BK473.out 1).trans rfl
      have hfz58_0 := blk_frozen BK473.out 0
      have hfz58_1 := blk_frozen BK473.out 1
      have p478 : 0 ≤ (x9_2 : Int) := oD
      have q478 : x9_2 < (l0_1.length : Int) := oD
      obtain ⟨ad478, e478, hx478_0, hx478_1, hx478_2⟩ := at_T52 HR0_1.out x9_2 p478 q478
      cases e478
      replace hx478_0 := (HB.out.cell (World.block_lt_of_cell? w _ hx478_0)).trans hx478_0
      replace hx478_1 := (HB.out.cell (World.block_lt_of_cell? w _ hx478_1)).trans hx478_1
      replace hx478_2 := (HB.out.cell (World.block_lt_of_cell? w _ hx478_2)).trans hx478_2
      replace p478 := eq_true p478
      replace q478 := eq_true q478
      go_wp2_with (first | ((with_reducible refine gate_dst (N := 10) rfl ?_); refine box_event ?hg (N := 10) ?hd (cs := #[.int .i64 0, .int .i64 0, .int .i64 0]) (t := 52) ?hr ?_; (case hd => rfl); (case hg => rfl); (case hr => exact hR); intro gb479 hg w59 hbox hb; have n0_ := Aside0.mk (Kd.R_below (gR (HO_7.out)) hb); have n1_ := Aside0.mk (blk_below (g := gb473) (o := .cells #[.int .i64 a0_0, .slice (some ad478) l0_1.length c0_1] 39 (0, 0)) (gB (BK473.out)) hb); have n2_ := Aside0.mk (below_step (bl1 HB GE473) hb); have n3_ := Aside0.mk (hbox); have n4_ := Aside0.mk ((by rw [hg]; exact (below_size (bl1 HB GE473)) : w.heap.size ≤ gb479)); have n5_ := Aside0.mk ((by rw [hg]; exact (below_size (bl1 HB GE473)) : w.heap.size ≤ gb479)); have n6_ := Aside0.mk ((by rw [hg]; exact Nat.ne_of_lt (blk_lt (g := gb473) (o := .cells #[.int .i64 a0_0, .slice (some ad478) l0_1.length c0_1] 39 (0, 0)) (gB (BK473.out))) : gb473 ≠ gb479)); have n7_ := Aside0.mk ((by rw [hg]; exact Nat.ne_of_gt (blk_lt (g := gb473) (o := .cells #[.int .i64 a0_0, .slice (some ad478) l0_1.length c0_1] 39 (0, 0)) (gB (BK473.out))) : gb479 ≠ gb473)); clear HO_7; clear BK473; clear HB; have HO_7 := n0_; have BK473 := n1_; have HB := n2_; have BK479 := n3_; have GW479 := n4_; have GE479 := n5_; have NB473_479 := n6_; have NB479_473 := n7_; clear n0_ n1_ n2_ n3_ n4_ n5_ n6_ n7_; clear hb hbox hg; have hnb60 := NB479_473.out; have hnc60 := NB473_479.out; have hcz61_0 : w59.cell? ⟨gb479, 0, none⟩ = some (.int .i64 0) := (blk_cell BK479.out 0).trans rfl; have hcz61_1 : w59.cell? ⟨gb479, 1, none⟩ = some (.int .i64 0) := (blk_cell BK479.out 1).trans rfl; have hcz61_2 : w59.cell? ⟨gb479, 2, none⟩ = some (.int .i64 0) := (blk_cell BK479.out 2).trans rfl; have hfz61_0 := blk_frozen BK479.out 0; have hfz61_1 := blk_frozen BK479.out 1; have hfz61_2 := blk_frozen BK479.out 2; have p480 : 0 ≤ (x9_2 : Int) := oD; have q480 : x9_2 < (l1.length : Int) := oD; obtain ⟨ad480, e480, hx480_0⟩ := Kd.at_bool HR1.out x9_2 p480 q480; (try rw [← Nbq20.out] at hx480_0); (try rw [← Nbq24.out] at hx480_0); (try rw [← Nbq43.out] at hx480_0); cases e480; have hn480_0 : ad480.block ≠ gb479 := Nat.ne_of_lt (Nat.lt_of_lt_of_le (by have := World.block_lt_of_cell? _ _ hx480_0; first | rwa [add_block] at this | exact this) GW479.out); have hn480_1 : ad480.block ≠ gb479 := Nat.ne_of_lt (Nat.lt_of_lt_of_le (by have := World.block_lt_of_cell? _ _ hx480_0; first | rwa [add_block] at this | exact this) GW479.out); have hn480_2 : ad480.block ≠ gb479 := Nat.ne_of_lt (Nat.lt_of_lt_of_le (by have := World.block_lt_of_cell? _ _ hx480_0; first | rwa [add_block] at this | exact this) GW479.out); replace hx480_0 := (HB.out.cell (World.block_lt_of_cell? w _ hx480_0)).trans hx480_0; replace hx480_0 := (cell_far (p := ⟨gb479, 0, none⟩) (by first | (rw [add_block]; exact hn480_0) | (show (Addr.add _ _).block ≠ _; rw [add_block]; exact hn480_0) | exact hn480_0) (.int .i64 ((rd_T52 l0_1 x9_2).f0))).trans hx480_0; replace hx480_0 := (cell_far (p := ⟨gb479, 1, none⟩) (by first | (rw [add_block]; exact hn480_1) | (show (Addr.add _ _).block ≠ _; rw [add_block]; exact hn480_1) | exact hn480_1) (.int .i64 ((rd_T52 l0_1 x9_2).f1))).trans hx480_0; replace hx480_0 := (cell_far (p := ⟨gb479, 2, none⟩) (by first | (rw [add_block]; exact hn480_2) | (show (Addr.add _ _).block ≠ _; rw [add_block]; exact hn480_2) | exact hn480_2) (.int .i64 ((rd_T52 l0_1 x9_2).f2))).trans hx480_0; clear hn480_0; clear hn480_1; clear hn480_2; replace p480 := eq_true p480; replace q480 := eq_true q480; have p481 : 0 ≤ (((rd_T52 l0_1 x9_2).f0) : Int) := oD; have q481 : ((rd_T52 l0_1 x9_2).f0) < (x7_2.length : Int) := oD; obtain ⟨ad481, e481, hx481_0⟩ := Kd.at_bool (Kd.R_reads' HO_7.out).2.2 ((rd_T52 l0_1 x9_2).f0) p481 q481; (try rw [← Nbq20.out] at hx481_0); (try rw [← Nbq24.out] at hx481_0); (try rw [← Nbq43.out] at hx481_0); obtain rfl : (⟨go8, 0, none⟩ : Addr) = ad481 := (by injection e481); (first | simp only [add_plain] at hx481_0 | simp only [add_at] at hx481_0 | simp only [Addr.add, Nat.zero_add] at hx481_0 | skip); have hn481_0 : (⟨go8, 0, none⟩ : Addr).block ≠ gb479 := Kd.own_blk (Kd.R_ne HO_7.out BK479.out (by decide)); have hn481_1 : (⟨go8, 0, none⟩ : Addr).block ≠ gb479 := Kd.own_blk (Kd.R_ne HO_7.out BK479.out (by decide)); have hn481_2 : (⟨go8, 0, none⟩ : Addr).block ≠ gb479 := Kd.own_blk (Kd.R_ne HO_7.out BK479.out (by decide)); replace hx481_0 := (cell_far (p := ⟨gb479, 0, none⟩) (by first | (rw [add_block]; exact hn481_0) | (show (Addr.add _ _).block ≠ _; rw [add_block]; exact hn481_0) | exact hn481_0) (.int .i64 ((rd_T52 l0_1 x9_2).f0))).trans hx481_0; replace hx481_0 := (cell_far (p := ⟨gb479, 1, none⟩) (by first | (rw [add_block]; exact hn481_1) | (show (Addr.add _ _).block ≠ _; rw [add_block]; exact hn481_1) | exact hn481_1) (.int .i64 ((rd_T52 l0_1 x9_2).f1))).trans hx481_0; replace hx481_0 := (cell_far (p := ⟨gb479, 2, none⟩) (by first | (rw [add_block]; exact hn481_2) | (show (Addr.add _ _).block ≠ _; rw [add_block]; exact hn481_2) | exact hn481_2) (.int .i64 ((rd_T52 l0_1 x9_2).f2))).trans hx481_0; clear hn481_0; clear hn481_1; clear hn481_2; replace p481 := eq_true p481; replace q481 := eq_true q481; have p484 : 0 ≤ (((rd_T52 l0_1 x9_2).f1) : Int) := oD; have q484 : ((rd_T52 l0_1 x9_2).f1) < (x7_2.length : Int) := oD; obtain ⟨ad484, e484, hx484_0⟩ := Kd.at_bool (Kd.R_reads' HO_7.out).2.2 ((rd_T52 l0_1 x9_2).f1) p484 q484; (try rw [← Nbq20.out] at hx484_0); (try rw [← Nbq24.out] at hx484_0); (try rw [← Nbq43.out] at hx484_0); obtain rfl : (⟨go8, 0, none⟩ : Addr) = ad484 := (by injection e484); (first | simp only [add_plain] at hx484_0 | simp only [add_at] at hx484_0 | simp only [Addr.add, Nat.zero_add] at hx484_0 | skip); have hn484_0 : (⟨go8, 0, none⟩ : Addr).block ≠ gb479 := Kd.own_blk (Kd.R_ne HO_7.out BK479.out (by decide)); have hn484_1 : (⟨go8, 0, none⟩ : Addr).block ≠ gb479 := Kd.own_blk (Kd.R_ne HO_7.out BK479.out (by decide)); have hn484_2 : (⟨go8, 0, none⟩ : Addr).block ≠ gb479 := Kd.own_blk (Kd.R_ne HO_7.out BK479.out (by decide)); replace hx484_0 := (cell_far (p := ⟨gb479, 0, none⟩) (by first | (rw [add_block]; exact hn484_0) | (show (Addr.add _ _).block ≠ _; rw [add_block]; exact hn484_0) | exact hn484_0) (.int .i64 ((rd_T52 l0_1 x9_2).f0))).trans hx484_0; replace hx484_0 := (cell_far (p := ⟨gb479, 1, none⟩) (by first | (rw [add_block]; exact hn484_1) | (show (Addr.add _ _).block ≠ _; rw [add_block]; exact hn484_1) | exact hn484_1) (.int .i64 ((rd_T52 l0_1 x9_2).f1))).trans hx484_0; replace hx484_0 := (cell_far (p := ⟨gb479, 2, none⟩) (by first | (rw [add_block]; exact hn484_2) | (show (Addr.add _ _).block ≠ _; rw [add_block]; exact hn484_2) | exact hn484_2) (.int .i64 ((rd_T52 l0_1 x9_2).f2))).trans hx484_0; clear hn484_0; clear hn484_1; clear hn484_2; replace p484 := eq_true p484; replace q484 := eq_true q484))
      (try simp only [← hl7_2])
      go_roundg k2
      case measure => have := HK1.out; have := HK2.out; omega
      case rel => exact ⟨(x7_2), (wrap64 (x9_2 + 1)), fS, H', ⟨by have := HK1.out; have := HK2.out; omega⟩, ⟨by (try simp only [hl7_1]); (try simp only [hl7_2]); (with_reducible repeat (first | apply Kd.R_alloc | apply Kd.R_drewN | apply Kd.R_drew)); exact Kd.R_mono (Kd.R_far (p := ⟨gb479, 2, none⟩) (Kd.R_far (p := ⟨gb479, 1, none⟩) (Kd.R_far (p := ⟨gb479, 0, none⟩) (Kd.R_types HO_7.out BK479.out (by decide)) (fun _ hk => hk.2) (.int .i64 ((rd_T52 l0_1 x9_2).f0))) (fun _ hk => hk.2) (.int .i64 ((rd_T52 l0_1 x9_2).f1))) (fun _ hk => hk.2) (.int .i64 ((rd_T52 l0_1 x9_2).f2))) (fun _ hk => trivial)⟩, ⟨by (try simp only [hl7_1]); (try simp only [hl7_2]); (with_reducible repeat (first | refine blk_drewN ?_ _ | refine blk_drew ?_ | refine blk_alloc ?_ _)); refine blk_far ?_ NB473_479.out _; (with_reducible repeat (first | refine blk_drewN ?_ _ | refine blk_drew ?_ | refine blk_alloc ?_ _)); refine blk_far ?_ NB473_479.out _; (with_reducible repeat (first | refine blk_drewN ?_ _ | refine blk_drew ?_ | refine blk_alloc ?_ _)); refine blk_far ?_ NB473_479.out _; (with_reducible repeat (first | refine blk_drewN ?_ _ | refine blk_drew ?_ | refine blk_alloc ?_ _)); exact BK473.out⟩, ⟨bl2 HB GE473 GE479⟩⟩
     subst c44
     have H1 : (spec_l3Reach.l1 k2 l1 ((x7_2.set (((rd_T52 l0_1 x9_2).f0) : Int).toNat true).set (((rd_T52 l0_1 x9_2).f1) : Int).toNat true) x8_1 (wrap64 (x9_2 + 1)) a0_0 l0_1) = some r := by rw [if_pos rfl] at H; exact H
     clear H
     have H := H1
     clear H1
     obtain ⟨y485, hy485⟩ : ∃ y_ : List Bool, y_ = (x7_2.set (((rd_T52 l0_1 x9_2).f0) : Int).toNat true) := ⟨_, rfl⟩
     replace H : (spec_l3Reach.l1 k2 l1 (y485.set (((rd_T52 l0_1 x9_2).f1) : Int).toNat true) x8_1 (wrap64 (x9_2 + 1)) a0_0 l0_1) = some r := by first | (rw [hy485]; with_reducible exact H) | (have H2_ := (Option.bind_some _ _).symm.trans H; rw [hy485]; with_reducible exact H2_) | (have H2_ := (Option.bind_some _ _).symm.trans H; with_reducible exact H2_) | with_reducible exact H | (rw [hy485]; exact H) | exact H
     have Ny485 := Aside0.mk hy485
     clear hy485
     obtain ⟨y486, hy486⟩ : ∃ y_ : List Bool, y_ = (y485.set (((rd_T52 l0_1 x9_2).f1) : Int).toNat true) := ⟨_, rfl⟩
     replace H : (spec_l3Reach.l1 k2 l1 y486 x8_1 (wrap64 (x9_2 + 1)) a0_0 l0_1) = some r := by first | (rw [hy486]; with_reducible exact H) | (have H2_ := (Option.bind_some _ _).symm.trans H; rw [hy486]; with_reducible exact H2_) | (have H2_ := (Option.bind_some _ _).symm.trans H; with_reducible exact H2_) | with_reducible exact H | (rw [hy486]; exact H) | exact H
     have Ny486 := Aside0.mk hy486
     clear hy486
     have H' := Aside0.mk H
     clear H
     have hcz47_0 : wr.cell? ⟨gb473, 0, none⟩ = some (.int .i64 a0_0) := (blk_cell BK473.out 0).trans rfl
     have hcz47_1 : wr.cell? ⟨gb473, 1, none⟩ = some (.slice A0_1 l0_1.length c0_1) := (blk_cell BK473.out 1).trans rfl
     have hfz47_0 := blk_frozen BK473.out 0
     have hfz47_1 := blk_frozen BK473.out 1
     have p478 : 0 ≤ (x9_2 : Int) := oD
     have q478 : x9_2 < (l0_1.length : Int) := oD
     obtain ⟨ad478, e478, hx478_0, hx478_1, hx478_2⟩ := at_T52 HR0_1.out x9_2 p478 q478
     cases e478
     replace hx478_0 := (HB.out.cell (World.block_lt_of_cell? w _ hx478_0)).trans hx478_0
     replace hx478_1 := (HB.out.cell (World.block_lt_of_cell? w _ hx478_1)).trans hx478_1
     replace hx478_2 := (HB.out.cell (World.block_lt_of_cell? w _ hx478_2)).trans hx478_2
     replace p478 := eq_true p478
     replace q478 := eq_true q478
     go_wp2_with (first | ((with_reducible refine gate_dst (N := 10) rfl ?_); refine box_event ?hg (N := 10) ?hd (cs := #[.int .i64 0, .int .i64 0, .int .i64 0]) (t := 52) ?hr ?_; (case hd => rfl); (case hg => rfl); (case hr => exact hR); intro gb479 hg w48 hbox hb; have n0_ := Aside0.mk (Kd.R_below (gR (HO_7.out)) hb); have n1_ := Aside0.mk (blk_below (g := gb473) (o := .cells #[.int .i64 a0_0, .slice (some ad478) l0_1.length c0_1] 39 (0, 0)) (gB (BK473.out)) hb); have n2_ := Aside0.mk (below_step (bl1 HB GE473) hb); have n3_ := Aside0.mk (hbox); have n4_ := Aside0.mk ((by rw [hg]; exact (below_size (bl1 HB GE473)) : w.heap.size ≤ gb479)); have n5_ := Aside0.mk ((by rw [hg]; exact (below_size (bl1 HB GE473)) : w.heap.size ≤ gb479)); have n6_ := Aside0.mk ((by rw [hg]; exact Nat.ne_of_lt (blk_lt (g := gb473) (o := .cells #[.int .i64 a0_0, .slice (some ad478) l0_1.length c0_1] 39 (0, 0)) (gB (BK473.out))) : gb473 ≠ gb479)); have n7_ := Aside0.mk ((by rw [hg]; exact Nat.ne_of_gt (blk_lt (g := gb473) (o := .cells #[.int .i64 a0_0, .slice (some ad478) l0_1.length c0_1] 39 (0, 0)) (gB (BK473.out))) : gb479 ≠ gb473)); clear HO_7; clear BK473; clear HB; have HO_7 := n0_; have BK473 := n1_; have HB := n2_; have BK479 := n3_; have GW479 := n4_; have GE479 := n5_; have NB473_479 := n6_; have NB479_473 := n7_; clear n0_ n1_ n2_ n3_ n4_ n5_ n6_ n7_; clear hb hbox hg; have hnb49 := NB479_473.out; have hnc49 := NB473_479.out; have hcz50_0 : w48.cell? ⟨gb479, 0, none⟩ = some (.int .i64 0) := (blk_cell BK479.out 0).trans rfl; have hcz50_1 : w48.cell? ⟨gb479, 1, none⟩ = some (.int .i64 0) := (blk_cell BK479.out 1).trans rfl; have hcz50_2 : w48.cell? ⟨gb479, 2, none⟩ = some (.int .i64 0) := (blk_cell BK479.out 2).trans rfl; have hfz50_0 := blk_frozen BK479.out 0; have hfz50_1 := blk_frozen BK479.out 1; have hfz50_2 := blk_frozen BK479.out 2) | ((with_reducible refine gate_store (t := 52) (p := 10) rfl ?_); refine store_event (t := 52) (p := 10) (v := ?vo_w51) (w1 := (((w48.setCell ⟨gb479, 0, none⟩ (.int .i64 ((rd_T52 l0_1 x9_2).f0))).setCell ⟨gb479, 1, none⟩ (.int .i64 ((rd_T52 l0_1 x9_2).f1))).setCell ⟨gb479, 2, none⟩ (.int .i64 ((rd_T52 l0_1 x9_2).f2)))) ?hg ?ho ?hn ?hr ?_; (case ho => rfl); (case hg => rfl); (case hn => rfl); (case hr => exact hR); intro w51 hw; have n0_ : Aside0 (Kd.R Kd.bool 4 w51 w.heap.size (fun _ => True) (.slice (some ⟨go8, 0, none⟩) x7_2.length co8) x7_2) := ⟨(by rw [hw]; exact (by (with_reducible repeat (first | apply Kd.R_alloc | apply Kd.R_drewN | apply Kd.R_drew)); exact Kd.R_mono (Kd.R_far (p := ⟨gb479, 2, none⟩) (Kd.R_far (p := ⟨gb479, 1, none⟩) (Kd.R_far (p := ⟨gb479, 0, none⟩) (Kd.R_types HO_7.out BK479.out (by decide)) (fun _ hk => hk.2) (.int .i64 ((rd_T52 l0_1 x9_2).f0))) (fun _ hk => hk.2) (.int .i64 ((rd_T52 l0_1 x9_2).f1))) (fun _ hk => hk.2) (.int .i64 ((rd_T52 l0_1 x9_2).f2))) (fun _ hk => trivial)))⟩; have n1_ : Aside0 (w51.heap[gb473]? = some (.cells #[.int .i64 a0_0, .slice (some ad478) l0_1.length c0_1] 39 (0, 0))) := ⟨(by rw [hw]; exact (by (with_reducible repeat (first | refine blk_drewN ?_ _ | refine blk_drew ?_ | refine blk_alloc ?_ _)); refine blk_far ?_ NB473_479.out _; (with_reducible repeat (first | refine blk_drewN ?_ _ | refine blk_drew ?_ | refine blk_alloc ?_ _)); refine blk_far ?_ NB473_479.out _; (with_reducible repeat (first | refine blk_drewN ?_ _ | refine blk_drew ?_ | refine blk_alloc ?_ _)); refine blk_far ?_ NB473_479.out _; (with_reducible repeat (first | refine blk_drewN ?_ _ | refine blk_drew ?_ | refine blk_alloc ?_ _)); exact BK473.out))⟩; have n2_ : Aside0 (w51.heap[gb479]? = some (.cells #[.int .i64 ((rd_T52 l0_1 x9_2).f0), .int .i64 ((rd_T52 l0_1 x9_2).f1), .int .i64 ((rd_T52 l0_1 x9_2).f2)] 52 (0, 0))) := ⟨(by rw [hw]; exact (by (with_reducible repeat (first | refine blk_drewN ?_ _ | refine blk_drew ?_ | refine blk_alloc ?_ _)); refine blk_put (cs := #[.int .i64 ((rd_T52 l0_1 x9_2).f0), .int .i64 ((rd_T52 l0_1 x9_2).f1), .int .i64 0]) ?_ 2 _ rfl; (with_reducible repeat (first | refine blk_drewN ?_ _ | refine blk_drew ?_ | refine blk_alloc ?_ _)); refine blk_put (cs := #[.int .i64 ((rd_T52 l0_1 x9_2).f0), .int .i64 0, .int .i64 0]) ?_ 1 _ rfl; (with_reducible repeat (first | refine blk_drewN ?_ _ | refine blk_drew ?_ | refine blk_alloc ?_ _)); refine blk_put (cs := #[.int .i64 0, .int .i64 0, .int .i64 0]) ?_ 0 _ rfl; (with_reducible repeat (first | refine blk_drewN ?_ _ | refine blk_drew ?_ | refine blk_alloc ?_ _)); exact BK479.out))⟩; have n3_ : Aside0 (Below w.heap.size w w51) := ⟨(by rw [hw]; exact (bl2 HB GE473 GE479))⟩; clear hw; clear HO_7; clear BK473; clear BK479; clear HB; have HO_7 := n0_; have BK473 := n1_; have BK479 := n2_; have HB := n3_; clear n0_ n1_ n2_ n3_; have p480 : 0 ≤ (x9_2 : Int) := oD; have q480 : x9_2 < (l1.length : Int) := oD; obtain ⟨ad480, e480, hx480_0⟩ := Kd.at_bool HR1.out x9_2 p480 q480; (try rw [← Nbq20.out] at hx480_0); (try rw [← Nbq24.out] at hx480_0); (try rw [← Nbq43.out] at hx480_0); cases e480; replace hx480_0 := (HB.out.cell (World.block_lt_of_cell? w _ hx480_0)).trans hx480_0; replace p480 := eq_true p480; replace q480 := eq_true q480; have hcz52_0 : w51.cell? ⟨gb479, 0, none⟩ = some (.int .i64 ((rd_T52 l0_1 x9_2).f0)) := (blk_cell BK479.out 0).trans rfl; have hcz52_1 : w51.cell? ⟨gb479, 1, none⟩ = some (.int .i64 ((rd_T52 l0_1 x9_2).f1)) := (blk_cell BK479.out 1).trans rfl; have hcz52_2 : w51.cell? ⟨gb479, 2, none⟩ = some (.int .i64 ((rd_T52 l0_1 x9_2).f2)) := (blk_cell BK479.out 2).trans rfl; have hfz52_0 := blk_frozen BK479.out 0; have hfz52_1 := blk_frozen BK479.out 1; have hfz52_2 := blk_frozen BK479.out 2; have p481 : 0 ≤ (((rd_T52 l0_1 x9_2).f0) : Int) := oD; have q481 : ((rd_T52 l0_1 x9_2).f0) < (x7_2.length : Int) := oD; obtain ⟨ad481, e481, hx481_0⟩ := Kd.at_bool (Kd.R_reads' HO_7.out).2.2 ((rd_T52 l0_1 x9_2).f0) p481 q481; (try rw [← Nbq20.out] at hx481_0); (try rw [← Nbq24.out] at hx481_0); (try rw [← Nbq43.out] at hx481_0); obtain rfl : (⟨go8, 0, none⟩ : Addr) = ad481 := (by injection e481); (first | simp only [add_plain] at hx481_0 | simp only [add_at] at hx481_0 | simp only [Addr.add, Nat.zero_add] at hx481_0 | skip); replace p481 := eq_true p481; replace q481 := eq_true q481; have p484 : 0 ≤ (((rd_T52 l0_1 x9_2).f1) : Int) := oD; have q484 : ((rd_T52 l0_1 x9_2).f1) < (x7_2.length : Int) := oD; obtain ⟨ad484, e484, hx484_0⟩ := Kd.at_bool (Kd.R_reads' HO_7.out).2.2 ((rd_T52 l0_1 x9_2).f1) p484 q484; (try rw [← Nbq20.out] at hx484_0); (try rw [← Nbq24.out] at hx484_0); (try rw [← Nbq43.out] at hx484_0); obtain rfl : (⟨go8, 0, none⟩ : Addr) = ad484 := (by injection e484); (first | simp only [add_plain] at hx484_0 | simp only [add_at] at hx484_0 | simp only [Addr.add, Nat.zero_add] at hx484_0 | skip); replace p484 := eq_true p484; replace q484 := eq_true q484; have p45 : 0 ≤ (((rd_T52 l0_1 x9_2).f0) : Int) := oD; have q45 : (((rd_T52 l0_1 x9_2).f0) : Int) < ((x7_2.length : Int) : Int) := oD; obtain ⟨hx45_0, hf45_0⟩ := Kd.R_celln false HO_7.out (((rd_T52 l0_1 x9_2).f0) : Int) p45 q45; replace p45 := eq_true p45; replace q45 := eq_true q45; obtain ⟨hy53_, hz53_⟩ := Kd.R_celln false HO_7.out (((rd_T52 l0_1 x9_2).f0) : Int) (oD) (oD); have HP53 := Kd.R_putg HO_7.out (((rd_T52 l0_1 x9_2).f0) : Int) true) | ((with_reducible refine gate_store (t := 4) (p := 56) rfl ?_); refine store_event (t := 4) (p := 56) (v := ?vo_w54) (w1 := (w51.setCell ⟨go8, (((rd_T52 l0_1 x9_2).f0) : Int).toNat, none⟩ (.bool true))) ?hg ?ho ?hn ?hr ?_; (case ho => rfl); (case hg => rfl); (case hn => rfl); (case hr => exact hR); intro w54 hw; have hg : w51.grownBy w54 (some go8) := (by rw [hw]; exact HP53.2); have hp_ : Kd.R Kd.bool 4 w54 w.heap.size (fun _ => True) (.slice (some ⟨go8, 0, none⟩) x7_2.length co8) y485 := (by rw [hw, Ny485.out]; exact HP53.1); clear HP53; have n0_ := Aside0.mk (hp_); have n1_ := Aside0.mk (blk_grown (g := gb473) (o := .cells #[.int .i64 a0_0, .slice (some ad478) l0_1.length c0_1] 39 (0, 0)) (gB (BK473.out)) hg (Kd.R_ne HO_7.out BK473.out (by decide))); have n2_ := Aside0.mk (blk_grown (g := gb479) (o := .cells #[.int .i64 ((rd_T52 l0_1 x9_2).f0), .int .i64 ((rd_T52 l0_1 x9_2).f1), .int .i64 ((rd_T52 l0_1 x9_2).f2)] 52 (0, 0)) (gB (BK479.out)) hg (Kd.R_ne HO_7.out BK479.out (by decide))); have n3_ := Aside0.mk ((by rw [hw]; exact below_set (HB.out) GB8.out : Below w.heap.size w w54)); clear HO_7; clear BK473; clear BK479; clear HB; have HO_7 := n0_; have BK473 := n1_; have BK479 := n2_; have HB := n3_; clear n0_ n1_ n2_ n3_; clear hg hw hp_; have hcz55_0 : w54.cell? ⟨gb479, 0, none⟩ = some (.int .i64 ((rd_T52 l0_1 x9_2).f0)) := (blk_cell BK479.out 0).trans rfl; have hcz55_1 : w54.cell? ⟨gb479, 1, none⟩ = some (.int .i64 ((rd_T52 l0_1 x9_2).f1)) := (blk_cell BK479.out 1).trans rfl; have hcz55_2 : w54.cell? ⟨gb479, 2, none⟩ = some (.int .i64 ((rd_T52 l0_1 x9_2).f2)) := (blk_cell BK479.out 2).trans rfl; have hfz55_0 := blk_frozen BK479.out 0; have hfz55_1 := blk_frozen BK479.out 1; have hfz55_2 := blk_frozen BK479.out 2; have p46 : 0 ≤ (((rd_T52 l0_1 x9_2).f1) : Int) := oD; have q46 : (((rd_T52 l0_1 x9_2).f1) : Int) < ((x7_2.length : Int) : Int) := oD; obtain ⟨hx46_0, hf46_0⟩ := Kd.R_celln false HO_7.out (((rd_T52 l0_1 x9_2).f1) : Int) p46 q46; replace p46 := eq_true p46; replace q46 := eq_true q46; obtain ⟨hy56_, hz56_⟩ := Kd.R_celln false HO_7.out (((rd_T52 l0_1 x9_2).f1) : Int) (oD) (oD); have HP56 := Kd.R_putg HO_7.out (((rd_T52 l0_1 x9_2).f1) : Int) true) | ((with_reducible refine gate_store (t := 4) (p := 60) rfl ?_); refine store_event (t := 4) (p := 60) (v := ?vo_w57) (w1 := (w54.setCell ⟨go8, (((rd_T52 l0_1 x9_2).f1) : Int).toNat, none⟩ (.bool true))) ?hg ?ho ?hn ?hr ?_; (case ho => rfl); (case hg => rfl); (case hn => rfl); (case hr => exact hR); intro w57 hw; have hg : w54.grownBy w57 (some go8) := (by rw [hw]; exact HP56.2); have hp_ : Kd.R Kd.bool 4 w57 w.heap.size (fun _ => True) (.slice (some ⟨go8, 0, none⟩) x7_2.length co8) y486 := (by rw [hw, Ny486.out]; exact HP56.1); clear HP56; have n0_ := Aside0.mk (hp_); have n1_ := Aside0.mk (blk_grown (g := gb473) (o := .cells #[.int .i64 a0_0, .slice (some ad478) l0_1.length c0_1] 39 (0, 0)) (gB (BK473.out)) hg (Kd.R_ne HO_7.out BK473.out (by decide))); have n2_ := Aside0.mk (blk_grown (g := gb479) (o := .cells #[.int .i64 ((rd_T52 l0_1 x9_2).f0), .int .i64 ((rd_T52 l0_1 x9_2).f1), .int .i64 ((rd_T52 l0_1 x9_2).f2)] 52 (0, 0)) (gB (BK479.out)) hg (Kd.R_ne HO_7.out BK479.out (by decide))); have n3_ := Aside0.mk ((by rw [hw]; exact below_set (HB.out) GB8.out : Below w.heap.size w w57)); clear HO_7; clear BK473; clear BK479; clear HB; have HO_7 := n0_; have BK473 := n1_; have BK479 := n2_; have HB := n3_; clear n0_ n1_ n2_ n3_; clear hg hw hp_))
     (try simp only [← hl7_2])
     go_roundg k2
     case measure => have := HK1.out; have := HK2.out; omega
     case rel => exact ⟨(y486), (wrap64 (x9_2 + 1)), fS, H', ⟨by have := HK1.out; have := HK2.out; omega⟩, ⟨by (try simp only [hl7_1]); (try simp only [hl7_2]); (with_reducible repeat (first | apply Kd.R_alloc | apply Kd.R_drewN | apply Kd.R_drew)); exact HO_7.out⟩, ⟨by (try simp only [hl7_1]); (try simp only [hl7_2]); (with_reducible repeat (first | refine blk_drewN ?_ _ | refine blk_drew ?_ | refine blk_alloc ?_ _)); exact BK473.out⟩, ⟨bl2 HB GE473 GE479⟩⟩

end Go.Proofs.YthkdkjmnnpcdhaaDoor.P

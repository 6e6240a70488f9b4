/- Contracts of Go functions of this seat's translation, written by this repo's wip/mk.py: it calls the kit's print.py with contracts typed by hand in place of functions that it does not take. Not trusted: Lean checks it. -/
import Derived.Test.YtpgjgbjkfgbpaaaDoorP0
namespace Go.Proofs.YtpgjgbjkfgbpaaaDoor.P
open Go.RowKit Go.Proofs.YtpgjgbjkfgbpaaaDoorW.PrintWords Go.Proofs.YtpgjgbjkfgbpaaaDoorW.PrintLast Go.Proofs.YtpgjgbjkfgbpaaaDoorW.PrintMore
attribute [local go_sem] max2_int min2_int max_two min_two max_three min_three max_four min_four   -- for this text's walks alone
set_option linter.unusedVariables false
set_option linter.unusedSimpArgs false

/-! ### spec_l3Reach: function 115 -/
mutual
def spec_l3Reach.l0 : Nat → List Bool → List Bool → Int → Int → List (S79) → Option (List Bool)
 | 0, _, _, _, _, _ => none
 | k + 1, x1, x7, x8, x325000, x325001 => if x8 < x325000 then (spec_l3Reach.l1 k x1 x7 x8 0 x325000 x325001) else (some x7)
def spec_l3Reach.l1 : Nat → List Bool → List Bool → Int → Int → Int → List (S79) → Option (List Bool)
 | 0, _, _, _, _, _, _ => none
 | k + 1, x1, x7, x8, x9, x325000, x325001 => if x9 < (x325001.length : Int) then (if 0 ≤ x9 then (if x9 < (x1.length : Int) then (if rdOf false x1 x9 = true then (if 0 ≤ ((rd_T79 x325001 x9).f0) then (if ((rd_T79 x325001 x9).f0) < (x7.length : Int) then (if rdOf false x7 ((rd_T79 x325001 x9).f0) = true then (if 0 ≤ ((rd_T79 x325001 x9).f1) then (if ((rd_T79 x325001 x9).f1) < (x7.length : Int) then (spec_l3Reach.l1 k x1 ((x7.set (((rd_T79 x325001 x9).f0) : Int).toNat true).set (((rd_T79 x325001 x9).f1) : Int).toNat true) x8 (wrap64 (x9 + 1)) x325000 x325001) else (none)) else (none)) else (if 0 ≤ ((rd_T79 x325001 x9).f1) then (if ((rd_T79 x325001 x9).f1) < (x7.length : Int) then (if rdOf false x7 ((rd_T79 x325001 x9).f1) = true then (spec_l3Reach.l1 k x1 ((x7.set (((rd_T79 x325001 x9).f0) : Int).toNat true).set (((rd_T79 x325001 x9).f1) : Int).toNat true) x8 (wrap64 (x9 + 1)) x325000 x325001) else (spec_l3Reach.l1 k x1 x7 x8 (wrap64 (x9 + 1)) x325000 x325001)) else (none)) else (none))) else (none)) else (none)) else (spec_l3Reach.l1 k x1 x7 x8 (wrap64 (x9 + 1)) x325000 x325001)) else (none)) else (none)) else (spec_l3Reach.l0 k x1 x7 (wrap64 (x8 + 1)) x325000 x325001)
end
def spec_l3Reach.f (k : Nat) (a0_0 : Int) (l0_1 : List (S79)) (l1 : List Bool) (a2 : Int) : Option (List Bool) := if 0 ≤ a0_0 then (if (a0_0 : Int).toNat ≤ 281474976710656 then ((some (List.replicate (a0_0 : Int).toNat false : List Bool)).bind fun y325 => (if 0 ≤ a2 then (if a2 < (y325.length : Int) then (spec_l3Reach.l0 k l1 (y325.set (a2 : Int).toNat true) 0 a0_0 l0_1) else (none)) else (none))) else (none)) else (none)
theorem spec_l3Reach.mono_l : ∀ k, (∀ y0 y1 y2 y3 y4, LeO (spec_l3Reach.l0 k y0 y1 y2 y3 y4) (spec_l3Reach.l0 (k + 1) y0 y1 y2 y3 y4)) ∧ (∀ y0 y1 y2 y3 y4 y5, LeO (spec_l3Reach.l1 k y0 y1 y2 y3 y4 y5) (spec_l3Reach.l1 (k + 1) y0 y1 y2 y3 y4 y5))
 | 0 => ⟨fun _ _ _ _ _ r h => by simp [spec_l3Reach.l0] at h, fun _ _ _ _ _ _ r h => by simp [spec_l3Reach.l1] at h⟩
 | k + 1 => by
  obtain ⟨ih0, ih1⟩ := spec_l3Reach.mono_l k
  refine ⟨?_, ?_⟩
  ·
   intro y0 y1 y2 y3 y4
   unfold spec_l3Reach.l0
   repeat' first
   | (with_reducible exact ih0 _ _ _ _ _)
   | (with_reducible exact ih1 _ _ _ _ _ _)
   | (with_reducible exact LeO.refl _)
   | (with_reducible exact LeO.none _)
   | (with_reducible refine LeO.ite ?_ ?_)
   | (with_reducible refine LeO.bind ?_ (fun _ => ?_))
   | exact ih0 _ _ _ _ _
   | exact ih1 _ _ _ _ _ _
   | exact LeO.none _
   | refine LeO.ite ?_ ?_
   | refine LeO.bind ?_ (fun _ => ?_)
  ·
   intro y0 y1 y2 y3 y4 y5
   unfold spec_l3Reach.l1
   repeat' first
   | (with_reducible exact ih0 _ _ _ _ _)
   | (with_reducible exact ih1 _ _ _ _ _ _)
   | (with_reducible exact LeO.refl _)
   | (with_reducible exact LeO.none _)
   | (with_reducible refine LeO.ite ?_ ?_)
   | (with_reducible refine LeO.bind ?_ (fun _ => ?_))
   | exact ih0 _ _ _ _ _
   | exact ih1 _ _ _ _ _ _
   | exact LeO.none _
   | refine LeO.ite ?_ ?_
   | refine LeO.bind ?_ (fun _ => ?_)
theorem spec_l3Reach.mono : ∀ a0 a1 a2 a3 k, LeO (spec_l3Reach.f k a0 a1 a2 a3) (spec_l3Reach.f (k + 1) a0 a1 a2 a3) := by
 intro a0 a1 a2 a3 k
 obtain ⟨ih0, ih1⟩ := spec_l3Reach.mono_l k
 unfold spec_l3Reach.f
 repeat' first
   | (with_reducible exact ih0 _ _ _ _ _)
   | (with_reducible exact ih1 _ _ _ _ _ _)
   | (with_reducible exact LeO.refl _)
   | (with_reducible exact LeO.none _)
   | (with_reducible refine LeO.ite ?_ ?_)
   | (with_reducible refine LeO.bind ?_ (fun _ => ?_))
   | exact ih0 _ _ _ _ _
   | exact ih1 _ _ _ _ _ _
   | exact LeO.none _
   | refine LeO.ite ?_ ?_
   | refine LeO.bind ?_ (fun _ => ?_)
set_option maxHeartbeats 8000000 in
set_option maxRecDepth 100000 in
theorem spec_l3Reach.calls (k : Nat) (a0_0 : Int) (A0_1 : Option Addr) (c0_1 : Nat) (l0_1 : List (S79)) (A1 : Option Addr) (c1 : Nat) (l1 : List Bool) (a2 : Int) (r : List Bool) (w : World) (hr0_1 : Kd.C k79 w A0_1 l0_1.length l0_1) (hc0_1 : l0_1.length ≤ c0_1) (hr1 : Kd.C Kd.bool w A1 l1.length l1) (hc1 : l1.length ≤ c1) (h : spec_l3Reach.f k a0_0 l0_1 l1 a2 = some r) :
  Calls Tryd.prog 115 #[.agg #[.int .i64 a0_0, .slice A0_1 l0_1.length c0_1], .slice A1 l1.length c1, .int .i64 a2] w fun e w' => ∃ v0_ : Value, e = .returned (v0_) ∧ Kd.R Kd.bool 4 w' w.heap.size (fun _ => True) v0_ r ∧ Below w.heap.size w w' := by
 have hu25 := Tryd.underlying25
 have hu79 := Tryd.underlying79
 have HR0_1 := Aside0.mk hr0_1
 have HC0_1 := Aside0.mk hc0_1
 clear hr0_1 hc0_1
 have HR1 := Aside0.mk hr1
 have HC1 := Aside0.mk hc1
 clear hr1 hc1
 have HB := aM (Below.refl w.heap.size w)
 have H : (if 0 ≤ a0_0 then (if (a0_0 : Int).toNat ≤ 281474976710656 then ((some (List.replicate (a0_0 : Int).toNat false : List Bool)).bind fun y325 => (if 0 ≤ a2 then (if a2 < (y325.length : Int) then (spec_l3Reach.l0 k l1 (y325.set (a2 : Int).toNat true) 0 a0_0 l0_1) else (none)) else (none))) else (none)) else (none)) = some r := h
 clear h
 by_cases c4 : 0 ≤ a0_0
 rotate_left
 ·
  rw [if_neg c4] at H
  exact absurd H (by simp)
 rw [if_pos c4] at H
 have c4b0 := eq_true c4
 have c4b1 : decide (0 ≤ a0_0) = true := decide_eq_true c4
 clear c4
 by_cases c5 : (a0_0 : Int).toNat ≤ 281474976710656
 rotate_left
 ·
  rw [if_neg c5] at H
  exact absurd H (by simp)
 rw [if_pos c5] at H
 have c5b0 := eq_true c5
 have c5b1 : decide ((a0_0 : Int).toNat ≤ 281474976710656) = true := decide_eq_true c5
 clear c5
 obtain ⟨y325, hy325⟩ : ∃ y_ : List Bool, y_ = (List.replicate (a0_0 : Int).toNat false) := ⟨_, rfl⟩
 replace H : (if 0 ≤ a2 then (if a2 < (y325.length : Int) then (spec_l3Reach.l0 k l1 (y325.set (a2 : Int).toNat true) 0 a0_0 l0_1) else (none)) else (none)) = some r := by first | (rw [hy325]; with_reducible exact H) | (have H2_ := (Option.bind_some _ _).symm.trans H; rw [hy325]; with_reducible exact H2_) | (have H2_ := (Option.bind_some _ _).symm.trans H; with_reducible exact H2_) | with_reducible exact H | (rw [hy325]; exact H) | exact H
 have Ny325 := Aside0.mk hy325
 clear hy325
 by_cases c6 : 0 ≤ a2
 rotate_left
 ·
  rw [if_neg c6] at H
  exact absurd H (by simp)
 rw [if_pos c6] at H
 have c6b0 : decide (0 ≤ a2) = true := decide_eq_true c6
 clear c6
 by_cases c7 : a2 < (y325.length : Int)
 rotate_left
 ·
  rw [if_neg c7] at H
  exact absurd H (by simp)
 rw [if_pos c7] at H
 have c7b0 : decide (a2 < (y325.length : Int)) = true := decide_eq_true c7
 clear c7
 obtain ⟨y328, hy328⟩ : ∃ y_ : List Bool, y_ = (y325.set (a2 : Int).toNat true) := ⟨_, rfl⟩
 replace H : (spec_l3Reach.l0 k l1 y328 0 a0_0 l0_1) = some r := by first | (rw [hy328]; with_reducible exact H) | (have H2_ := (Option.bind_some _ _).symm.trans H; rw [hy328]; with_reducible exact H2_) | (have H2_ := (Option.bind_some _ _).symm.trans H; with_reducible exact H2_) | with_reducible exact H | (rw [hy328]; exact H) | exact H
 have Ny328 := Aside0.mk hy328
 clear hy328
 have H' := Aside0.mk H
 clear H
 go_enter Tryd.func115, Tryd.ntmps115
 go_wp2_with (first | ((with_reducible refine gate_dst (N := 3) rfl ?_); refine box_event ?hg (N := 3) ?hd (cs := #[.int .i64 a0_0, .slice A0_1 l0_1.length c0_1]) (t := 25) ?hr ?_; (case hd => rfl); (case hg => rfl); (case hr => exact hR); intro gb324 hg w9 hbox hb; have n0_ := aM (below_step (bl0 HB) hb); have n1_ := aM (hbox); have n2_ := aM ((by rw [hg]; exact (below_size (bl0 HB)) : w.heap.size ≤ gb324)); have n3_ := aM ((by rw [hg]; exact (below_size (bl0 HB)) : w.heap.size ≤ gb324)); clear HB; have HB := n0_; have BK324 := n1_; have GW324 := n2_; have GE324 := n3_; clear n0_ n1_ n2_ n3_; clear hb hbox hg; have hcz10_0 : w9.cell? ⟨gb324, 0, none⟩ = some (.int .i64 a0_0) := (blk_cell BK324.out 0).trans rfl; have hcz10_1 : w9.cell? ⟨gb324, 1, none⟩ = some (.slice A0_1 l0_1.length c0_1) := (blk_cell BK324.out 1).trans rfl; have hfz10_0 := blk_frozen BK324.out 0; have hfz10_1 := blk_frozen BK324.out 1) | ((with_reducible refine gate_dst (N := 13) rfl ?_); refine Kd.R_make Kd.bool _ 4 rfl (N := 13) rfl 26 _ _ rfl a0_0 rfl rfl Tryd.underlying26 (.bool false) 1 info4 rfl (by decide) (by omega) false (ok := fun _ => True) (okp := fun _ => True) rfl (fun _ hk => hk) trivial (oD) (Nat.le_trans (Nat.mul_le_mul_right _ (oD : a0_0.toNat ≤ 281474976710656)) (by omega)) (Below.refl _ _) (Nat.le_refl _) ?_; intro v326 w11 ho12 hb hg_ hnew_; clear hg_ hnew_; (first | rw [← Ny325.out] at ho12 | (simp only [Int.reduceToNat] at ho12; rw [← Ny325.out] at ho12)); have n0_ := aM (Kd.R_lower ho12 (below_size (bl1 HB GE324))); have n1_ := aM (blk_below (g := gb324) (o := .cells #[.int .i64 a0_0, .slice A0_1 l0_1.length c0_1] 25 (0, 0)) (gB (BK324.out)) hb); have n2_ := aM (below_step (bl1 HB GE324) hb); clear BK324; clear HB; have HO327 := n0_; have BK324 := n1_; have HB := n2_; clear n0_ n1_ n2_; clear hb ho12; have p8 : 0 ≤ (a2 : Int) := oD; have q8 : (a2 : Int) < ((y325.length : Int) : Int) := oD; obtain ⟨go8, co8, eo8, gb8, gl8, cl8, HG8⟩ := Kd.R_form HO327.out (by first | omega | (obtain ⟨_, _, e_⟩ := Kd.R_slice HO327.out; injection e_ with _ e_ _; omega)); (first | cases eo8 | (injection eo8 with ea_ en_ ec_; (first | subst ea_ | (injection ea_ with ea_; subst ea_)); subst ec_; clear en_)); have GB8 := Aside0.mk gb8; have GG8 := Aside0.mk HG8; clear gb8 gl8 HG8; obtain ⟨hx8_0, hf8_0⟩ := Kd.R_celln false HO327.out (a2 : Int) p8 q8; replace p8 := eq_true p8; replace q8 := eq_true q8; obtain ⟨hy13_, hz13_⟩ := Kd.R_celln false HO327.out (a2 : Int) (oD) (oD); have HP13 := Kd.R_putg HO327.out (a2 : Int) true) | ((with_reducible refine gate_store (t := 4) (p := 16) rfl ?_); refine store_event (t := 4) (p := 16) (v := ?vo_w14) (w1 := (w11.setCell ⟨go8, (a2 : Int).toNat, none⟩ (.bool true))) ?hg ?ho ?hn ?hr ?_; (case ho => rfl); (case hg => rfl); (case hn => rfl); (case hr => exact hR); intro w14 hw; have hg : w11.grownBy w14 (some go8) := (by rw [hw]; exact HP13.2); have hp_ : Kd.R Kd.bool 4 w14 w.heap.size (fun _ => True) (.slice (some ⟨go8, 0, none⟩) y325.length co8) y328 := (by rw [hw, Ny328.out]; exact HP13.1); clear HP13; have n0_ := aM (blk_grown (g := gb324) (o := .cells #[.int .i64 a0_0, .slice A0_1 l0_1.length c0_1] 25 (0, 0)) (gB (BK324.out)) hg (Kd.R_ne HO327.out BK324.out (by decide))); have n1_ := aM (hp_); have n2_ := aM ((by rw [hw]; exact below_set (HB.out) GB8.out : Below w.heap.size w w14)); clear BK324; clear HO327; clear HB; have BK324 := n0_; have HO327 := n1_; have HB := n2_; clear n0_ n1_ n2_; clear hg hw hp_))
 go_loopg [8] k (fun kq v8 w' => ∃ (x7_1 : List Bool) (x8_1 : Int), v8 = .int .i64 x8_1 ∧ Aside0 (spec_l3Reach.l0 kq l1 x7_1 x8_1 a0_0 l0_1 = some r) ∧ Aside0 (kq ≤ k) ∧ Aside0 (Kd.R Kd.bool 4 w' w.heap.size (fun _ => True) (.slice (some ⟨go8, 0, none⟩) y325.length co8) x7_1) ∧ Aside0 (w'.heap[gb324]? = some (.cells #[.int .i64 a0_0, (.slice A0_1 l0_1.length c0_1)] 25 (0, 0))) ∧ Aside0 (Below w.heap.size w w'))
 case atStart => exact ⟨(y328), (0), fS, H', ⟨Nat.le_refl _⟩, ⟨gR (HO327.out)⟩, ⟨gB (BK324.out)⟩, ⟨bl1 HB GE324⟩⟩
 case round =>
  clear H'
  try clear c1
  try clear p2
  try clear c4
  try clear c4b0
  try clear c4b1
  try clear c5
  try clear c5b0
  try clear c5b1
  try clear c6
  try clear c6b0
  try clear c7
  try clear c7b0
  try clear p8
  try clear q8
  try clear hx8
  try clear hf8
  try clear c11
  try clear hcz10_0
  try clear hcz10_1
  try clear hfz10_0
  try clear hfz10_1
  try clear hx8_0
  try clear p8
  try clear q8
  obtain ⟨x7_1, x8_1, rfl, HA, HK1, HO_7, BK324, HB⟩ := hrel
  have hl7_1 := (Kd.R_reads' HO_7.out).1
  rw [hl7_1] at HO_7
  (try simp only [hl7_1])
  (try simp only [hl7_1] at BK324)
  cases gk with
  | zero => exact absurd HA.out (by simp [spec_l3Reach.l0])
  | succ k1 =>
   have H := HA.out
   clear HA
   simp only [spec_l3Reach.l0] at H
   by_cases c15 : x8_1 < a0_0
   rotate_left
   ·
    rw [if_neg c15] at H
    have c15b0 : decide (x8_1 < a0_0) = false := decide_eq_false c15
    clear c15
    obtain rfl := Option.some.inj H
    have hcz67_0 : wr.cell? ⟨gb324, 0, none⟩ = some (.int .i64 a0_0) := (blk_cell BK324.out 0).trans rfl
    have hcz67_1 : wr.cell? ⟨gb324, 1, none⟩ = some (.slice A0_1 l0_1.length c0_1) := (blk_cell BK324.out 1).trans rfl
    have hfz67_0 := blk_frozen BK324.out 0
    have hfz67_1 := blk_frozen BK324.out 1
    go_wp2
    go_ret
    exact ⟨_, fR, gR (HO_7.out), bl1 HB GE324⟩
   rw [if_pos c15] at H
   have c15b0 : decide (x8_1 < a0_0) = true := decide_eq_true c15
   clear c15
   have H' := Aside0.mk H
   clear H
   have hcz16_0 : wr.cell? ⟨gb324, 0, none⟩ = some (.int .i64 a0_0) := (blk_cell BK324.out 0).trans rfl
   have hcz16_1 : wr.cell? ⟨gb324, 1, none⟩ = some (.slice A0_1 l0_1.length c0_1) := (blk_cell BK324.out 1).trans rfl
   have hfz16_0 := blk_frozen BK324.out 0
   have hfz16_1 := blk_frozen BK324.out 1
   go_wp2
   go_loopg [9] k1 (fun kq v9 w' => ∃ (x7_2 : List Bool) (x9_2 : Int), v9 = .int .i64 x9_2 ∧ Aside0 (spec_l3Reach.l1 kq l1 x7_2 x8_1 x9_2 a0_0 l0_1 = some r) ∧ Aside0 (kq ≤ k1) ∧ Aside0 (Kd.R Kd.bool 4 w' w.heap.size (fun _ => True) (.slice (some ⟨go8, 0, none⟩) x7_1.length co8) x7_2) ∧ Aside0 (w'.heap[gb324]? = some (.cells #[.int .i64 a0_0, (.slice A0_1 l0_1.length c0_1)] 25 (0, 0))) ∧ Aside0 (Below w.heap.size w w'))
   case atStart => exact ⟨(x7_1), (0), fS, H', ⟨Nat.le_refl _⟩, ⟨by (try simp only [hl7_1]); (with_reducible repeat (first | apply Kd.R_alloc | apply Kd.R_drewN | apply Kd.R_drew)); exact HO_7.out⟩, ⟨by (try simp only [hl7_1]); (with_reducible repeat (first | refine blk_drewN ?_ _ | refine blk_drew ?_ | refine blk_alloc ?_ _)); exact BK324.out⟩, ⟨bl1 HB GE324⟩⟩
   case round =>
    clear H'
    try clear c1
    try clear p2
    try clear c4
    try clear c4b0
    try clear c4b1
    try clear c5
    try clear c5b0
    try clear c5b1
    try clear c6
    try clear c6b0
    try clear c7
    try clear c7b0
    try clear p8
    try clear q8
    try clear hx8
    try clear hf8
    try clear c11
    try clear c15
    try clear c15b0
    try clear hcz10_0
    try clear hcz10_1
    try clear hcz16_0
    try clear hcz16_1
    try clear hfz10_0
    try clear hfz10_1
    try clear hfz16_0
    try clear hfz16_1
    try clear hx8_0
    try clear p2
    try clear p8
    try clear q8
    obtain ⟨x7_2, x9_2, rfl, HA, HK2, HO_7, BK324, HB⟩ := hrel
    have hl7_2 := (Kd.R_reads' HO_7.out).1
    rw [hl7_2] at HO_7
    (try simp only [hl7_2])
    (try simp only [hl7_2] at BK324)
    cases gk with
    | zero => exact absurd HA.out (by simp [spec_l3Reach.l1])
    | succ k2 =>
     have H := HA.out
     clear HA
     simp only [spec_l3Reach.l1] at H
     by_cases c17 : x9_2 < (l0_1.length : Int)
     rotate_left
     ·
      rw [if_neg c17] at H
      have c17b0 : decide (x9_2 < (l0_1.length : Int)) = false := decide_eq_false c17
      clear c17
      have H' := Aside0.mk H
      clear H
      have hcz66_0 : wr.cell? ⟨gb324, 0, none⟩ = some (.int .i64 a0_0) := (blk_cell BK324.out 0).trans rfl
      have hcz66_1 : wr.cell? ⟨gb324, 1, none⟩ = some (.slice A0_1 l0_1.length c0_1) := (blk_cell BK324.out 1).trans rfl
      have hfz66_0 := blk_frozen BK324.out 0
      have hfz66_1 := blk_frozen BK324.out 1
      go_wp2
      (try simp only [← hl7_1, ← hl7_2])
      go_roundg k2
      case measure => have := HK1.out; have := HK2.out; omega
      case rel => exact ⟨(x7_2), (wrap64 (x8_1 + 1)), fS, H', ⟨by have := HK1.out; have := HK2.out; omega⟩, ⟨by (try simp only [hl7_1]); (try simp only [hl7_2]); (with_reducible repeat (first | apply Kd.R_alloc | apply Kd.R_drewN | apply Kd.R_drew)); exact HO_7.out⟩, ⟨by (try simp only [hl7_1]); (try simp only [hl7_2]); (with_reducible repeat (first | refine blk_drewN ?_ _ | refine blk_drew ?_ | refine blk_alloc ?_ _)); exact BK324.out⟩, ⟨bl1 HB GE324⟩⟩
     rw [if_pos c17] at H
     have c17b0 : decide (x9_2 < (l0_1.length : Int)) = true := decide_eq_true c17
     clear c17
     by_cases c18 : 0 ≤ x9_2
     rotate_left
     ·
      rw [if_neg c18] at H
      exact absurd H (by simp)
     rw [if_pos c18] at H
     have c18b0 : decide (0 ≤ x9_2) = true := decide_eq_true c18
     clear c18
     by_cases c19 : x9_2 < (l1.length : Int)
     rotate_left
     ·
      rw [if_neg c19] at H
      exact absurd H (by simp)
     rw [if_pos c19] at H
     have c19b0 : decide (x9_2 < (l1.length : Int)) = true := decide_eq_true c19
     clear c19
     obtain ⟨bq20, hbq20⟩ : ∃ b_ : Bool, b_ = (rdOf false l1 x9_2) := ⟨_, rfl⟩
     replace H : (if bq20 = true then (if 0 ≤ ((rd_T79 l0_1 x9_2).f0) then (if ((rd_T79 l0_1 x9_2).f0) < (x7_2.length : Int) then (if rdOf false x7_2 ((rd_T79 l0_1 x9_2).f0) = true then (if 0 ≤ ((rd_T79 l0_1 x9_2).f1) then (if ((rd_T79 l0_1 x9_2).f1) < (x7_2.length : Int) then (spec_l3Reach.l1 k2 l1 ((x7_2.set (((rd_T79 l0_1 x9_2).f0) : Int).toNat true).set (((rd_T79 l0_1 x9_2).f1) : Int).toNat true) x8_1 (wrap64 (x9_2 + 1)) a0_0 l0_1) else (none)) else (none)) else (if 0 ≤ ((rd_T79 l0_1 x9_2).f1) then (if ((rd_T79 l0_1 x9_2).f1) < (x7_2.length : Int) then (if rdOf false x7_2 ((rd_T79 l0_1 x9_2).f1) = true then (spec_l3Reach.l1 k2 l1 ((x7_2.set (((rd_T79 l0_1 x9_2).f0) : Int).toNat true).set (((rd_T79 l0_1 x9_2).f1) : Int).toNat true) x8_1 (wrap64 (x9_2 + 1)) a0_0 l0_1) else (spec_l3Reach.l1 k2 l1 x7_2 x8_1 (wrap64 (x9_2 + 1)) a0_0 l0_1)) else (none)) else (none))) else (none)) else (none)) else (spec_l3Reach.l1 k2 l1 x7_2 x8_1 (wrap64 (x9_2 + 1)) a0_0 l0_1)) = some r := by rw [← hbq20] at H; exact H
     have Nbq20 := Aside0.mk hbq20
     clear hbq20
     by_cases c21 : bq20 = true
     rotate_left
     ·
      replace c21 := Bool.eq_false_iff.mpr c21
      subst c21
      have H1 : (spec_l3Reach.l1 k2 l1 x7_2 x8_1 (wrap64 (x9_2 + 1)) a0_0 l0_1) = some r := by rw [if_neg (show ¬ (false = true) by decide)] at H; exact H
      clear H
      have H := H1
      clear H1
      have H' := Aside0.mk H
      clear H
      have hcz62_0 : wr.cell? ⟨gb324, 0, none⟩ = some (.int .i64 a0_0) := (blk_cell BK324.out 0).trans rfl
      have hcz62_1 : wr.cell? ⟨gb324, 1, none⟩ = some (.slice A0_1 l0_1.length c0_1) := (blk_cell BK324.out 1).trans rfl
      have hfz62_0 := blk_frozen BK324.out 0
      have hfz62_1 := blk_frozen BK324.out 1
      have p329 : 0 ≤ (x9_2 : Int) := oD
      have q329 : x9_2 < (l0_1.length : Int) := oD
      obtain ⟨ad329, e329, hx329_0, hx329_1, hx329_2⟩ := at_T79 HR0_1.out x9_2 p329 q329
      cases e329
      replace hx329_0 := (HB.out.cell (World.block_lt_of_cell? w _ hx329_0)).trans hx329_0
      replace hx329_1 := (HB.out.cell (World.block_lt_of_cell? w _ hx329_1)).trans hx329_1
      replace hx329_2 := (HB.out.cell (World.block_lt_of_cell? w _ hx329_2)).trans hx329_2
      replace p329 := eq_true p329
      replace q329 := eq_true q329
      go_wp2_with (first | ((with_reducible refine gate_dst (N := 10) rfl ?_); refine box_event ?hg (N := 10) ?hd (cs := #[.int .i64 0, .int .i64 0, .int .i64 0]) (t := 79) ?hr ?_; (case hd => rfl); (case hg => rfl); (case hr => exact hR); intro gb330 hg w63 hbox hb; have n0_ := aM (Kd.R_below (gR (HO_7.out)) hb); have n1_ := aM (blk_below (g := gb324) (o := .cells #[.int .i64 a0_0, .slice (some ad329) l0_1.length c0_1] 25 (0, 0)) (gB (BK324.out)) hb); have n2_ := aM (below_step (bl1 HB GE324) hb); have n3_ := aM (hbox); have n4_ := aM ((by rw [hg]; exact (below_size (bl1 HB GE324)) : w.heap.size ≤ gb330)); have n5_ := aM ((by rw [hg]; exact (below_size (bl1 HB GE324)) : w.heap.size ≤ gb330)); have n6_ := aM ((by rw [hg]; exact Nat.ne_of_lt (blk_lt (g := gb324) (o := .cells #[.int .i64 a0_0, .slice (some ad329) l0_1.length c0_1] 25 (0, 0)) (gB (BK324.out))) : gb324 ≠ gb330)); have n7_ := aM ((by rw [hg]; exact Nat.ne_of_gt (blk_lt (g := gb324) (o := .cells #[.int .i64 a0_0, .slice (some ad329) l0_1.length c0_1] 25 (0, 0)) (gB (BK324.out))) : gb330 ≠ gb324)); clear HO_7; clear BK324; clear HB; have HO_7 := n0_; have BK324 := n1_; have HB := n2_; have BK330 := n3_; have GW330 := n4_; have GE330 := n5_; have NB324_330 := n6_; have NB330_324 := n7_; clear n0_ n1_ n2_ n3_ n4_ n5_ n6_ n7_; clear hb hbox hg; have hnb64 := NB330_324.out; have hnc64 := NB324_330.out; have hcz65_0 : w63.cell? ⟨gb330, 0, none⟩ = some (.int .i64 0) := (blk_cell BK330.out 0).trans rfl; have hcz65_1 : w63.cell? ⟨gb330, 1, none⟩ = some (.int .i64 0) := (blk_cell BK330.out 1).trans rfl; have hcz65_2 : w63.cell? ⟨gb330, 2, none⟩ = some (.int .i64 0) := (blk_cell BK330.out 2).trans rfl; have hfz65_0 := blk_frozen BK330.out 0; have hfz65_1 := blk_frozen BK330.out 1; have hfz65_2 := blk_frozen BK330.out 2; have p331 : 0 ≤ (x9_2 : Int) := oD; have q331 : x9_2 < (l1.length : Int) := oD; obtain ⟨ad331, e331, hx331_0⟩ := Kd.at_bool HR1.out x9_2 p331 q331; (try rw [← Nbq20.out] at hx331_0); cases e331; have hn331_0 : ad331.block ≠ gb330 := Nat.ne_of_lt (Nat.lt_of_lt_of_le (by have := World.block_lt_of_cell? _ _ hx331_0; first | rwa [add_block] at this | exact this) GW330.out); have hn331_1 : ad331.block ≠ gb330 := Nat.ne_of_lt (Nat.lt_of_lt_of_le (by have := World.block_lt_of_cell? _ _ hx331_0; first | rwa [add_block] at this | exact this) GW330.out); have hn331_2 : ad331.block ≠ gb330 := Nat.ne_of_lt (Nat.lt_of_lt_of_le (by have := World.block_lt_of_cell? _ _ hx331_0; first | rwa [add_block] at this | exact this) GW330.out); replace hx331_0 := (HB.out.cell (World.block_lt_of_cell? w _ hx331_0)).trans hx331_0; replace hx331_0 := (cell_far (p := ⟨gb330, 0, none⟩) (by first | (rw [add_block]; exact hn331_0) | (show (Addr.add _ _).block ≠ _; rw [add_block]; exact hn331_0) | exact hn331_0) (.int .i64 ((rd_T79 l0_1 x9_2).f0))).trans hx331_0; replace hx331_0 := (cell_far (p := ⟨gb330, 1, none⟩) (by first | (rw [add_block]; exact hn331_1) | (show (Addr.add _ _).block ≠ _; rw [add_block]; exact hn331_1) | exact hn331_1) (.int .i64 ((rd_T79 l0_1 x9_2).f1))).trans hx331_0; replace hx331_0 := (cell_far (p := ⟨gb330, 2, none⟩) (by first | (rw [add_block]; exact hn331_2) | (show (Addr.add _ _).block ≠ _; rw [add_block]; exact hn331_2) | exact hn331_2) (.int .i64 ((rd_T79 l0_1 x9_2).f2))).trans hx331_0; clear hn331_0; clear hn331_1; clear hn331_2; replace p331 := eq_true p331; replace q331 := eq_true q331))
      (try simp only [← hl7_2])
      go_roundg k2
      case measure => have := HK1.out; have := HK2.out; omega
      case rel => exact ⟨(x7_2), (wrap64 (x9_2 + 1)), fS, H', ⟨by have := HK1.out; have := HK2.out; omega⟩, ⟨by (try simp only [hl7_1]); (try simp only [hl7_2]); (with_reducible repeat (first | apply Kd.R_alloc | apply Kd.R_drewN | apply Kd.R_drew)); exact Kd.R_mono (Kd.R_far (p := ⟨gb330, 2, none⟩) (Kd.R_far (p := ⟨gb330, 1, none⟩) (Kd.R_far (p := ⟨gb330, 0, none⟩) (Kd.R_types HO_7.out BK330.out (by decide)) (fun _ hk => hk.2) (.int .i64 ((rd_T79 l0_1 x9_2).f0))) (fun _ hk => hk.2) (.int .i64 ((rd_T79 l0_1 x9_2).f1))) (fun _ hk => hk.2) (.int .i64 ((rd_T79 l0_1 x9_2).f2))) (fun _ hk => trivial)⟩, ⟨by (try simp only [hl7_1]); (try simp only [hl7_2]); (with_reducible repeat (first | refine blk_drewN ?_ _ | refine blk_drew ?_ | refine blk_alloc ?_ _)); refine blk_far ?_ NB324_330.out _; (with_reducible repeat (first | refine blk_drewN ?_ _ | refine blk_drew ?_ | refine blk_alloc ?_ _)); refine blk_far ?_ NB324_330.out _; (with_reducible repeat (first | refine blk_drewN ?_ _ | refine blk_drew ?_ | refine blk_alloc ?_ _)); refine blk_far ?_ NB324_330.out _; (with_reducible repeat (first | refine blk_drewN ?_ _ | refine blk_drew ?_ | refine blk_alloc ?_ _)); exact BK324.out⟩, ⟨bl2 HB GE324 GE330⟩⟩
     subst c21
     have H1 : (if 0 ≤ ((rd_T79 l0_1 x9_2).f0) then (if ((rd_T79 l0_1 x9_2).f0) < (x7_2.length : Int) then (if rdOf false x7_2 ((rd_T79 l0_1 x9_2).f0) = true then (if 0 ≤ ((rd_T79 l0_1 x9_2).f1) then (if ((rd_T79 l0_1 x9_2).f1) < (x7_2.length : Int) then (spec_l3Reach.l1 k2 l1 ((x7_2.set (((rd_T79 l0_1 x9_2).f0) : Int).toNat true).set (((rd_T79 l0_1 x9_2).f1) : Int).toNat true) x8_1 (wrap64 (x9_2 + 1)) a0_0 l0_1) else (none)) else (none)) else (if 0 ≤ ((rd_T79 l0_1 x9_2).f1) then (if ((rd_T79 l0_1 x9_2).f1) < (x7_2.length : Int) then (if rdOf false x7_2 ((rd_T79 l0_1 x9_2).f1) = true then (spec_l3Reach.l1 k2 l1 ((x7_2.set (((rd_T79 l0_1 x9_2).f0) : Int).toNat true).set (((rd_T79 l0_1 x9_2).f1) : Int).toNat true) x8_1 (wrap64 (x9_2 + 1)) a0_0 l0_1) else (spec_l3Reach.l1 k2 l1 x7_2 x8_1 (wrap64 (x9_2 + 1)) a0_0 l0_1)) else (none)) else (none))) else (none)) else (none)) = some r := by rw [if_pos rfl] at H; exact H
     clear H
     have H := H1
     clear H1
     by_cases c22 : 0 ≤ ((rd_T79 l0_1 x9_2).f0)
     rotate_left
     ·
      rw [if_neg c22] at H
      exact absurd H (by simp)
     rw [if_pos c22] at H
     have c22b0 : decide (0 ≤ ((rd_T79 l0_1 x9_2).f0)) = true := decide_eq_true c22
     clear c22
     by_cases c23 : ((rd_T79 l0_1 x9_2).f0) < (x7_2.length : Int)
     rotate_left
     ·
      rw [if_neg c23] at H
      exact absurd H (by simp)
     rw [if_pos c23] at H
     have c23b0 : decide (((rd_T79 l0_1 x9_2).f0) < (x7_2.length : Int)) = true := decide_eq_true c23
     clear c23
     obtain ⟨bq24, hbq24⟩ : ∃ b_ : Bool, b_ = (rdOf false x7_2 ((rd_T79 l0_1 x9_2).f0)) := ⟨_, rfl⟩
     replace H : (if bq24 = true then (if 0 ≤ ((rd_T79 l0_1 x9_2).f1) then (if ((rd_T79 l0_1 x9_2).f1) < (x7_2.length : Int) then (spec_l3Reach.l1 k2 l1 ((x7_2.set (((rd_T79 l0_1 x9_2).f0) : Int).toNat true).set (((rd_T79 l0_1 x9_2).f1) : Int).toNat true) x8_1 (wrap64 (x9_2 + 1)) a0_0 l0_1) else (none)) else (none)) else (if 0 ≤ ((rd_T79 l0_1 x9_2).f1) then (if ((rd_T79 l0_1 x9_2).f1) < (x7_2.length : Int) then (if rdOf false x7_2 ((rd_T79 l0_1 x9_2).f1) = true then (spec_l3Reach.l1 k2 l1 ((x7_2.set (((rd_T79 l0_1 x9_2).f0) : Int).toNat true).set (((rd_T79 l0_1 x9_2).f1) : Int).toNat true) x8_1 (wrap64 (x9_2 + 1)) a0_0 l0_1) else (spec_l3Reach.l1 k2 l1 x7_2 x8_1 (wrap64 (x9_2 + 1)) a0_0 l0_1)) else (none)) else (none))) = some r := by rw [← hbq24] at H; exact H
     have Nbq24 := Aside0.mk hbq24
     clear hbq24
     by_cases c25 : bq24 = true
     ·
      subst c25
      have H1 : (if 0 ≤ ((rd_T79 l0_1 x9_2).f1) then (if ((rd_T79 l0_1 x9_2).f1) < (x7_2.length : Int) then (spec_l3Reach.l1 k2 l1 ((x7_2.set (((rd_T79 l0_1 x9_2).f0) : Int).toNat true).set (((rd_T79 l0_1 x9_2).f1) : Int).toNat true) x8_1 (wrap64 (x9_2 + 1)) a0_0 l0_1) else (none)) else (none)) = some r := by rw [if_pos rfl] at H; exact H
      clear H
      have H := H1
      clear H1
      obtain ⟨y333, hy333⟩ : ∃ y_ : List Bool, y_ = (x7_2.set (((rd_T79 l0_1 x9_2).f0) : Int).toNat true) := ⟨_, rfl⟩
      replace H : (if 0 ≤ ((rd_T79 l0_1 x9_2).f1) then (if ((rd_T79 l0_1 x9_2).f1) < (x7_2.length : Int) then (spec_l3Reach.l1 k2 l1 (y333.set (((rd_T79 l0_1 x9_2).f1) : Int).toNat true) x8_1 (wrap64 (x9_2 + 1)) a0_0 l0_1) else (none)) else (none)) = some r := by first | (rw [hy333]; with_reducible exact H) | (have H2_ := (Option.bind_some _ _).symm.trans H; rw [hy333]; with_reducible exact H2_) | (have H2_ := (Option.bind_some _ _).symm.trans H; with_reducible exact H2_) | with_reducible exact H | (rw [hy333]; exact H) | exact H
      have Ny333 := Aside0.mk hy333
      clear hy333
      by_cases c27 : 0 ≤ ((rd_T79 l0_1 x9_2).f1)
      rotate_left
      ·
       rw [if_neg c27] at H
       exact absurd H (by simp)
      rw [if_pos c27] at H
      have c27b0 : decide (0 ≤ ((rd_T79 l0_1 x9_2).f1)) = true := decide_eq_true c27
      clear c27
      by_cases c28 : ((rd_T79 l0_1 x9_2).f1) < (x7_2.length : Int)
      rotate_left
      ·
       rw [if_neg c28] at H
       exact absurd H (by simp)
      rw [if_pos c28] at H
      have c28b0 : decide (((rd_T79 l0_1 x9_2).f1) < (x7_2.length : Int)) = true := decide_eq_true c28
      clear c28
      obtain ⟨y334, hy334⟩ : ∃ y_ : List Bool, y_ = (y333.set (((rd_T79 l0_1 x9_2).f1) : Int).toNat true) := ⟨_, rfl⟩
      replace H : (spec_l3Reach.l1 k2 l1 y334 x8_1 (wrap64 (x9_2 + 1)) a0_0 l0_1) = some r := by first | (rw [hy334]; with_reducible exact H) | (have H2_ := (Option.bind_some _ _).symm.trans H; rw [hy334]; with_reducible exact H2_) | (have H2_ := (Option.bind_some _ _).symm.trans H; with_reducible exact H2_) | with_reducible exact H | (rw [hy334]; exact H) | exact H
      have Ny334 := Aside0.mk hy334
      clear hy334
      have H' := Aside0.mk H
      clear H
      have hcz30_0 : wr.cell? ⟨gb324, 0, none⟩ = some (.int .i64 a0_0) := (blk_cell BK324.out 0).trans rfl
      have hcz30_1 : wr.cell? ⟨gb324, 1, none⟩ = some (.slice A0_1 l0_1.length c0_1) := (blk_cell BK324.out 1).trans rfl
      have hfz30_0 := blk_frozen BK324.out 0
      have hfz30_1 := blk_frozen BK324.out 1
      have p329 : 0 ≤ (x9_2 : Int) := oD
      have q329 : x9_2 < (l0_1.length : Int) := oD
      obtain ⟨ad329, e329, hx329_0, hx329_1, hx329_2⟩ := at_T79 HR0_1.out x9_2 p329 q329
      cases e329
      replace hx329_0 := (HB.out.cell (World.block_lt_of_cell? w _ hx329_0)).trans hx329_0
      replace hx329_1 := (HB.out.cell (World.block_lt_of_cell? w _ hx329_1)).trans hx329_1
      replace hx329_2 := (HB.out.cell (World.block_lt_of_cell? w _ hx329_2)).trans hx329_2
      replace p329 := eq_true p329
      replace q329 := eq_true q329
      go_wp2_with (first | ((with_reducible refine gate_dst (N := 10) rfl ?_); refine box_event ?hg (N := 10) ?hd (cs := #[.int .i64 0, .int .i64 0, .int .i64 0]) (t := 79) ?hr ?_; (case hd => rfl); (case hg => rfl); (case hr => exact hR); intro gb330 hg w31 hbox hb; have n0_ := aM (Kd.R_below (gR (HO_7.out)) hb); have n1_ := aM (blk_below (g := gb324) (o := .cells #[.int .i64 a0_0, .slice (some ad329) l0_1.length c0_1] 25 (0, 0)) (gB (BK324.out)) hb); have n2_ := aM (below_step (bl1 HB GE324) hb); have n3_ := aM (hbox); have n4_ := aM ((by rw [hg]; exact (below_size (bl1 HB GE324)) : w.heap.size ≤ gb330)); have n5_ := aM ((by rw [hg]; exact (below_size (bl1 HB GE324)) : w.heap.size ≤ gb330)); have n6_ := aM ((by rw [hg]; exact Nat.ne_of_lt (blk_lt (g := gb324) (o := .cells #[.int .i64 a0_0, .slice (some ad329) l0_1.length c0_1] 25 (0, 0)) (gB (BK324.out))) : gb324 ≠ gb330)); have n7_ := aM ((by rw [hg]; exact Nat.ne_of_gt (blk_lt (g := gb324) (o := .cells #[.int .i64 a0_0, .slice (some ad329) l0_1.length c0_1] 25 (0, 0)) (gB (BK324.out))) : gb330 ≠ gb324)); clear HO_7; clear BK324; clear HB; have HO_7 := n0_; have BK324 := n1_; have HB := n2_; have BK330 := n3_; have GW330 := n4_; have GE330 := n5_; have NB324_330 := n6_; have NB330_324 := n7_; clear n0_ n1_ n2_ n3_ n4_ n5_ n6_ n7_; clear hb hbox hg; have hnb32 := NB330_324.out; have hnc32 := NB324_330.out; have hcz33_0 : w31.cell? ⟨gb330, 0, none⟩ = some (.int .i64 0) := (blk_cell BK330.out 0).trans rfl; have hcz33_1 : w31.cell? ⟨gb330, 1, none⟩ = some (.int .i64 0) := (blk_cell BK330.out 1).trans rfl; have hcz33_2 : w31.cell? ⟨gb330, 2, none⟩ = some (.int .i64 0) := (blk_cell BK330.out 2).trans rfl; have hfz33_0 := blk_frozen BK330.out 0; have hfz33_1 := blk_frozen BK330.out 1; have hfz33_2 := blk_frozen BK330.out 2) | ((with_reducible refine gate_store (t := 79) (p := 10) rfl ?_); refine store_event (t := 79) (p := 10) (v := ?vo_w34) (w1 := (((w31.setCell ⟨gb330, 0, none⟩ (.int .i64 ((rd_T79 l0_1 x9_2).f0))).setCell ⟨gb330, 1, none⟩ (.int .i64 ((rd_T79 l0_1 x9_2).f1))).setCell ⟨gb330, 2, none⟩ (.int .i64 ((rd_T79 l0_1 x9_2).f2)))) ?hg ?ho ?hn ?hr ?_; (case ho => rfl); (case hg => rfl); (case hn => rfl); (case hr => exact hR); intro w34 hw; have n0_ : Aside0 (Kd.R Kd.bool 4 w34 w.heap.size (fun _ => True) (.slice (some ⟨go8, 0, none⟩) x7_2.length co8) x7_2) := ⟨(by rw [hw]; exact (by (with_reducible repeat (first | apply Kd.R_alloc | apply Kd.R_drewN | apply Kd.R_drew)); exact Kd.R_mono (Kd.R_far (p := ⟨gb330, 2, none⟩) (Kd.R_far (p := ⟨gb330, 1, none⟩) (Kd.R_far (p := ⟨gb330, 0, none⟩) (Kd.R_types HO_7.out BK330.out (by decide)) (fun _ hk => hk.2) (.int .i64 ((rd_T79 l0_1 x9_2).f0))) (fun _ hk => hk.2) (.int .i64 ((rd_T79 l0_1 x9_2).f1))) (fun _ hk => hk.2) (.int .i64 ((rd_T79 l0_1 x9_2).f2))) (fun _ hk => trivial)))⟩; have n1_ : Aside0 (w34.heap[gb324]? = some (.cells #[.int .i64 a0_0, .slice (some ad329) l0_1.length c0_1] 25 (0, 0))) := ⟨(by rw [hw]; exact (by (with_reducible repeat (first | refine blk_drewN ?_ _ | refine blk_drew ?_ | refine blk_alloc ?_ _)); refine blk_far ?_ NB324_330.out _; (with_reducible repeat (first | refine blk_drewN ?_ _ | refine blk_drew ?_ | refine blk_alloc ?_ _)); refine blk_far ?_ NB324_330.out _; (with_reducible repeat (first | refine blk_drewN ?_ _ | refine blk_drew ?_ | refine blk_alloc ?_ _)); refine blk_far ?_ NB324_330.out _; (with_reducible repeat (first | refine blk_drewN ?_ _ | refine blk_drew ?_ | refine blk_alloc ?_ _)); exact BK324.out))⟩; have n2_ : Aside0 (w34.heap[gb330]? = some (.cells #[.int .i64 ((rd_T79 l0_1 x9_2).f0), .int .i64 ((rd_T79 l0_1 x9_2).f1), .int .i64 ((rd_T79 l0_1 x9_2).f2)] 79 (0, 0))) := ⟨(by rw [hw]; exact (by (with_reducible repeat (first | refine blk_drewN ?_ _ | refine blk_drew ?_ | refine blk_alloc ?_ _)); refine blk_put (cs := #[.int .i64 ((rd_T79 l0_1 x9_2).f0), .int .i64 ((rd_T79 l0_1 x9_2).f1), .int .i64 0]) ?_ 2 _ rfl; (with_reducible repeat (first | refine blk_drewN ?_ _ | refine blk_drew ?_ | refine blk_alloc ?_ _)); refine blk_put (cs := #[.int .i64 ((rd_T79 l0_1 x9_2).f0), .int .i64 0, .int .i64 0]) ?_ 1 _ rfl; (with_reducible repeat (first | refine blk_drewN ?_ _ | refine blk_drew ?_ | refine blk_alloc ?_ _)); refine blk_put (cs := #[.int .i64 0, .int .i64 0, .int .i64 0]) ?_ 0 _ rfl; (with_reducible repeat (first | refine blk_drewN ?_ _ | refine blk_drew ?_ | refine blk_alloc ?_ _)); exact BK330.out))⟩; have n3_ : Aside0 (Below w.heap.size w w34) := ⟨(by rw [hw]; exact (bl2 HB GE324 GE330))⟩; clear hw; clear HO_7; clear BK324; clear BK330; clear HB; have HO_7 := n0_; have BK324 := n1_; have BK330 := n2_; have HB := n3_; clear n0_ n1_ n2_ n3_; have p331 : 0 ≤ (x9_2 : Int) := oD; have q331 : x9_2 < (l1.length : Int) := oD; obtain ⟨ad331, e331, hx331_0⟩ := Kd.at_bool HR1.out x9_2 p331 q331; (try rw [← Nbq20.out] at hx331_0); (try rw [← Nbq24.out] at hx331_0); cases e331; replace hx331_0 := (HB.out.cell (World.block_lt_of_cell? w _ hx331_0)).trans hx331_0; replace p331 := eq_true p331; replace q331 := eq_true q331; have hcz35_0 : w34.cell? ⟨gb330, 0, none⟩ = some (.int .i64 ((rd_T79 l0_1 x9_2).f0)) := (blk_cell BK330.out 0).trans rfl; have hcz35_1 : w34.cell? ⟨gb330, 1, none⟩ = some (.int .i64 ((rd_T79 l0_1 x9_2).f1)) := (blk_cell BK330.out 1).trans rfl; have hcz35_2 : w34.cell? ⟨gb330, 2, none⟩ = some (.int .i64 ((rd_T79 l0_1 x9_2).f2)) := (blk_cell BK330.out 2).trans rfl; have hfz35_0 := blk_frozen BK330.out 0; have hfz35_1 := blk_frozen BK330.out 1; have hfz35_2 := blk_frozen BK330.out 2; have p332 : 0 ≤ (((rd_T79 l0_1 x9_2).f0) : Int) := oD; have q332 : ((rd_T79 l0_1 x9_2).f0) < (x7_2.length : Int) := oD; obtain ⟨ad332, e332, hx332_0⟩ := Kd.at_bool (Kd.R_reads' HO_7.out).2.2 ((rd_T79 l0_1 x9_2).f0) p332 q332; (try rw [← Nbq20.out] at hx332_0); (try rw [← Nbq24.out] at hx332_0); obtain rfl : (⟨go8, 0, none⟩ : Addr) = ad332 := (by injection e332); (first | simp only [add_plain] at hx332_0 | simp only [add_at] at hx332_0 | simp only [Addr.add, Nat.zero_add] at hx332_0 | skip); replace p332 := eq_true p332; replace q332 := eq_true q332; have p26 : 0 ≤ (((rd_T79 l0_1 x9_2).f0) : Int) := oD; have q26 : (((rd_T79 l0_1 x9_2).f0) : Int) < ((x7_2.length : Int) : Int) := oD; obtain ⟨hx26_0, hf26_0⟩ := Kd.R_celln false HO_7.out (((rd_T79 l0_1 x9_2).f0) : Int) p26 q26; replace p26 := eq_true p26; replace q26 := eq_true q26; obtain ⟨hy36_, hz36_⟩ := Kd.R_celln false HO_7.out (((rd_T79 l0_1 x9_2).f0) : Int) (oD) (oD); have HP36 := Kd.R_putg HO_7.out (((rd_T79 l0_1 x9_2).f0) : Int) true) | ((with_reducible refine gate_store (t := 4) (p := 56) rfl ?_); refine store_event (t := 4) (p := 56) (v := ?vo_w37) (w1 := (w34.setCell ⟨go8, (((rd_T79 l0_1 x9_2).f0) : Int).toNat, none⟩ (.bool true))) ?hg ?ho ?hn ?hr ?_; (case ho => rfl); (case hg => rfl); (case hn => rfl); (case hr => exact hR); intro w37 hw; have hg : w34.grownBy w37 (some go8) := (by rw [hw]; exact HP36.2); have hp_ : Kd.R Kd.bool 4 w37 w.heap.size (fun _ => True) (.slice (some ⟨go8, 0, none⟩) x7_2.length co8) y333 := (by rw [hw, Ny333.out]; exact HP36.1); clear HP36; have n0_ := aM (hp_); have n1_ := aM (blk_grown (g := gb324) (o := .cells #[.int .i64 a0_0, .slice (some ad329) l0_1.length c0_1] 25 (0, 0)) (gB (BK324.out)) hg (Kd.R_ne HO_7.out BK324.out (by decide))); have n2_ := aM (blk_grown (g := gb330) (o := .cells #[.int .i64 ((rd_T79 l0_1 x9_2).f0), .int .i64 ((rd_T79 l0_1 x9_2).f1), .int .i64 ((rd_T79 l0_1 x9_2).f2)] 79 (0, 0)) (gB (BK330.out)) hg (Kd.R_ne HO_7.out BK330.out (by decide))); have n3_ := aM ((by rw [hw]; exact below_set (HB.out) GB8.out : Below w.heap.size w w37)); clear HO_7; clear BK324; clear BK330; clear HB; have HO_7 := n0_; have BK324 := n1_; have BK330 := n2_; have HB := n3_; clear n0_ n1_ n2_ n3_; clear hg hw hp_; have hcz38_0 : w37.cell? ⟨gb330, 0, none⟩ = some (.int .i64 ((rd_T79 l0_1 x9_2).f0)) := (blk_cell BK330.out 0).trans rfl; have hcz38_1 : w37.cell? ⟨gb330, 1, none⟩ = some (.int .i64 ((rd_T79 l0_1 x9_2).f1)) := (blk_cell BK330.out 1).trans rfl; have hcz38_2 : w37.cell? ⟨gb330, 2, none⟩ = some (.int .i64 ((rd_T79 l0_1 x9_2).f2)) := (blk_cell BK330.out 2).trans rfl; have hfz38_0 := blk_frozen BK330.out 0; have hfz38_1 := blk_frozen BK330.out 1; have hfz38_2 := blk_frozen BK330.out 2; have p29 : 0 ≤ (((rd_T79 l0_1 x9_2).f1) : Int) := oD; have q29 : (((rd_T79 l0_1 x9_2).f1) : Int) < ((x7_2.length : Int) : Int) := oD; obtain ⟨hx29_0, hf29_0⟩ := Kd.R_celln false HO_7.out (((rd_T79 l0_1 x9_2).f1) : Int) p29 q29; replace p29 := eq_true p29; replace q29 := eq_true q29; obtain ⟨hy39_, hz39_⟩ := Kd.R_celln false HO_7.out (((rd_T79 l0_1 x9_2).f1) : Int) (oD) (oD); have HP39 := Kd.R_putg HO_7.out (((rd_T79 l0_1 x9_2).f1) : Int) true) | ((with_reducible refine gate_store (t := 4) (p := 60) rfl ?_); refine store_event (t := 4) (p := 60) (v := ?vo_w40) (w1 := (w37.setCell ⟨go8, (((rd_T79 l0_1 x9_2).f1) : Int).toNat, none⟩ (.bool true))) ?hg ?ho ?hn ?hr ?_; (case ho => rfl); (case hg => rfl); (case hn => rfl); (case hr => exact hR); intro w40 hw; have hg : w37.grownBy w40 (some go8) := (by rw [hw]; exact HP39.2); have hp_ : Kd.R Kd.bool 4 w40 w.heap.size (fun _ => True) (.slice (some ⟨go8, 0, none⟩) x7_2.length co8) y334 := (by rw [hw, Ny334.out]; exact HP39.1); clear HP39; have n0_ := aM (hp_); have n1_ := aM (blk_grown (g := gb324) (o := .cells #[.int .i64 a0_0, .slice (some ad329) l0_1.length c0_1] 25 (0, 0)) (gB (BK324.out)) hg (Kd.R_ne HO_7.out BK324.out (by decide))); have n2_ := aM (blk_grown (g := gb330) (o := .cells #[.int .i64 ((rd_T79 l0_1 x9_2).f0), .int .i64 ((rd_T79 l0_1 x9_2).f1), .int .i64 ((rd_T79 l0_1 x9_2).f2)] 79 (0, 0)) (gB (BK330.out)) hg (Kd.R_ne HO_7.out BK330.out (by decide))); have n3_ := aM ((by rw [hw]; exact below_set (HB.out) GB8.out : Below w.heap.size w w40)); clear HO_7; clear BK324; clear BK330; clear HB; have HO_7 := n0_; have BK324 := n1_; have BK330 := n2_; have HB := n3_; clear n0_ n1_ n2_ n3_; clear hg hw hp_))
      (try simp only [← hl7_2])
      go_roundg k2
      case measure => have := HK1.out; have := HK2.out; omega
      case rel => exact ⟨(y334), (wrap64 (x9_2 + 1)), fS, H', ⟨by have := HK1.out; have := HK2.out; omega⟩, ⟨by (try simp only [hl7_1]); (try simp only [hl7_2]); (with_reducible repeat (first | apply Kd.R_alloc | apply Kd.R_drewN | apply Kd.R_drew)); exact HO_7.out⟩, ⟨by (try simp only [hl7_1]); (try simp only [hl7_2]); (with_reducible repeat (first | refine blk_drewN ?_ _ | refine blk_drew ?_ | refine blk_alloc ?_ _)); exact BK324.out⟩, ⟨bl2 HB GE324 GE330⟩⟩
     replace c25 := Bool.eq_false_iff.mpr c25
     subst c25
     have H1 : (if 0 ≤ ((rd_T79 l0_1 x9_2).f1) then (if ((rd_T79 l0_1 x9_2).f1) < (x7_2.length : Int) then (if rdOf false x7_2 ((rd_T79 l0_1 x9_2).f1) = true then (spec_l3Reach.l1 k2 l1 ((x7_2.set (((rd_T79 l0_1 x9_2).f0) : Int).toNat true).set (((rd_T79 l0_1 x9_2).f1) : Int).toNat true) x8_1 (wrap64 (x9_2 + 1)) a0_0 l0_1) else (spec_l3Reach.l1 k2 l1 x7_2 x8_1 (wrap64 (x9_2 + 1)) a0_0 l0_1)) else (none)) else (none)) = some r := by rw [if_neg (show ¬ (false = true) by decide)] at H; exact H
     clear H
     have H := H1
     clear H1
     by_cases c41 : 0 ≤ ((rd_T79 l0_1 x9_2).f1)
     rotate_left
     ·
      rw [if_neg c41] at H
      exact absurd H (by simp)
     rw [if_pos c41] at H
     have c41b0 : decide (0 ≤ ((rd_T79 l0_1 x9_2).f1)) = true := decide_eq_true c41
     clear c41
     by_cases c42 : ((rd_T79 l0_1 x9_2).f1) < (x7_2.length : Int)
     rotate_left
     ·
      rw [if_neg c42] at H
      exact absurd H (by simp)
     rw [if_pos c42] at H
     have c42b0 : decide (((rd_T79 l0_1 x9_2).f1) < (x7_2.length : Int)) = true := decide_eq_true c42
     clear c42
     obtain ⟨bq43, hbq43⟩ : ∃ b_ : Bool, b_ = (rdOf false x7_2 ((rd_T79 l0_1 x9_2).f1)) := ⟨_, rfl⟩
     replace H : (if bq43 = true then (spec_l3Reach.l1 k2 l1 ((x7_2.set (((rd_T79 l0_1 x9_2).f0) : Int).toNat true).set (((rd_T79 l0_1 x9_2).f1) : Int).toNat true) x8_1 (wrap64 (x9_2 + 1)) a0_0 l0_1) else (spec_l3Reach.l1 k2 l1 x7_2 x8_1 (wrap64 (x9_2 + 1)) a0_0 l0_1)) = some r := by rw [← hbq43] at H; exact H
     have Nbq43 := Aside0.mk hbq43
     clear hbq43
     by_cases c44 : bq43 = true
     rotate_left
     ·
      replace c44 := Bool.eq_false_iff.mpr c44
      subst c44
      have H1 : (spec_l3Reach.l1 k2 l1 x7_2 x8_1 (wrap64 (x9_2 + 1)) a0_0 l0_1) = some r := by rw [if_neg (show ¬ (false = true) by decide)] at H; exact H
      clear H
      have H := H1
      clear H1
      have H' := Aside0.mk H
      clear H
      have hcz58_0 : wr.cell? ⟨gb324, 0, none⟩ = some (.int .i64 a0_0) := (blk_cell BK324.out 0).trans rfl
      have hcz58_1 : wr.cell? ⟨gb324, 1, none⟩ = some (.slice A0_1 l0_1.length c0_1) := (blk_cell BK324.out 1).trans rfl
      have hfz58_0 := blk_frozen BK324.out 0
      have hfz58_1 := blk_frozen BK324.out 1
      have p329 : 0 ≤ (x9_2 : Int) := oD
      have q329 : x9_2 < (l0_1.length : Int) := oD
      obtain ⟨ad329, e329, hx329_0, hx329_1, hx329_2⟩ := at_T79 HR0_1.out x9_2 p329 q329
      cases e329
      replace hx329_0 := (HB.out.cell (World.block_lt_of_cell? w _ hx329_0)).trans hx329_0
      replace hx329_1 := (HB.out.cell (World.block_lt_of_cell? w _ hx329_1)).trans hx329_1
      replace hx329_2 := (HB.out.cell (World.block_lt_of_cell? w _ hx329_2)).trans hx329_2
      replace p329 := eq_true p329
      replace q329 := eq_true q329
      go_wp2_with (first | ((with_reducible refine gate_dst (N := 10) rfl ?_); refine box_event ?hg (N := 10) ?hd (cs := #[.int .i64 0, .int .i64 0, .int .i64 0]) (t := 79) ?hr ?_; (case hd => rfl); (case hg => rfl); (case hr => exact hR); intro gb330 hg w59 hbox hb; have n0_ := aM (Kd.R_below (gR (HO_7.out)) hb); have n1_ := aM (blk_below (g := gb324) (o := .cells #[.int .i64 a0_0, .slice (some ad329) l0_1.length c0_1] 25 (0, 0)) (gB (BK324.out)) hb); have n2_ := aM (below_step (bl1 HB GE324) hb); have n3_ := aM (hbox); have n4_ := aM ((by rw [hg]; exact (below_size (bl1 HB GE324)) : w.heap.size ≤ gb330)); have n5_ := aM ((by rw [hg]; exact (below_size (bl1 HB GE324)) : w.heap.size ≤ gb330)); have n6_ := aM ((by rw [hg]; exact Nat.ne_of_lt (blk_lt (g := gb324) (o := .cells #[.int .i64 a0_0, .slice (some ad329) l0_1.length c0_1] 25 (0, 0)) (gB (BK324.out))) : gb324 ≠ gb330)); have n7_ := aM ((by rw [hg]; exact Nat.ne_of_gt (blk_lt (g := gb324) (o := .cells #[.int .i64 a0_0, .slice (some ad329) l0_1.length c0_1] 25 (0, 0)) (gB (BK324.out))) : gb330 ≠ gb324)); clear HO_7; clear BK324; clear HB; have HO_7 := n0_; have BK324 := n1_; have HB := n2_; have BK330 := n3_; have GW330 := n4_; have GE330 := n5_; have NB324_330 := n6_; have NB330_324 := n7_; clear n0_ n1_ n2_ n3_ n4_ n5_ n6_ n7_; clear hb hbox hg; have hnb60 := NB330_324.out; have hnc60 := NB324_330.out; have hcz61_0 : w59.cell? ⟨gb330, 0, none⟩ = some (.int .i64 0) := (blk_cell BK330.out 0).trans rfl; have hcz61_1 : w59.cell? ⟨gb330, 1, none⟩ = some (.int .i64 0) := (blk_cell BK330.out 1).trans rfl; have hcz61_2 : w59.cell? ⟨gb330, 2, none⟩ = some (.int .i64 0) := (blk_cell BK330.out 2).trans rfl; have hfz61_0 := blk_frozen BK330.out 0; have hfz61_1 := blk_frozen BK330.out 1; have hfz61_2 := blk_frozen BK330.out 2; have p331 : 0 ≤ (x9_2 : Int) := oD; have q331 : x9_2 < (l1.length : Int) := oD; obtain ⟨ad331, e331, hx331_0⟩ := Kd.at_bool HR1.out x9_2 p331 q331; (try rw [← Nbq20.out] at hx331_0); (try rw [← Nbq24.out] at hx331_0); (try rw [← Nbq43.out] at hx331_0); cases e331; have hn331_0 : ad331.block ≠ gb330 := Nat.ne_of_lt (Nat.lt_of_lt_of_le (by have := World.block_lt_of_cell? _ _ hx331_0; first | rwa [add_block] at this | exact this) GW330.out); have hn331_1 : ad331.block ≠ gb330 := Nat.ne_of_lt (Nat.lt_of_lt_of_le (by have := World.block_lt_of_cell? _ _ hx331_0; first | rwa [add_block] at this | exact this) GW330.out); have hn331_2 : ad331.block ≠ gb330 := Nat.ne_of_lt (Nat.lt_of_lt_of_le (by have := World.block_lt_of_cell? _ _ hx331_0; first | rwa [add_block] at this | exact this) GW330.out); replace hx331_0 := (HB.out.cell (World.block_lt_of_cell? w _ hx331_0)).trans hx331_0; replace hx331_0 := (cell_far (p := ⟨gb330, 0, none⟩) (by first | (rw [add_block]; exact hn331_0) | (show (Addr.add _ _).block ≠ _; rw [add_block]; exact hn331_0) | exact hn331_0) (.int .i64 ((rd_T79 l0_1 x9_2).f0))).trans hx331_0; replace hx331_0 := (cell_far (p := ⟨gb330, 1, none⟩) (by first | (rw [add_block]; exact hn331_1) | (show (Addr.add _ _).block ≠ _; rw [add_block]; exact hn331_1) | exact hn331_1) (.int .i64 ((rd_T79 l0_1 x9_2).f1))).trans hx331_0; replace hx331_0 := (cell_far (p := ⟨gb330, 2, none⟩) (by first | (rw [add_block]; exact hn331_2) | (show (Addr.add _ _).block ≠ _; rw [add_block]; exact hn331_2) | exact hn331_2) (.int .i64 ((rd_T79 l0_1 x9_2).f2))).trans hx331_0; clear hn331_0; clear hn331_1; clear hn331_2; replace p331 := eq_true p331; replace q331 := eq_true q331; have p332 : 0 ≤ (((rd_T79 l0_1 x9_2).f0) : Int) := oD; have q332 : ((rd_T79 l0_1 x9_2).f0) < (x7_2.length : Int) := oD; obtain ⟨ad332, e332, hx332_0⟩ := Kd.at_bool (Kd.R_reads' HO_7.out).2.2 ((rd_T79 l0_1 x9_2).f0) p332 q332; (try rw [← Nbq20.out] at hx332_0); (try rw [← Nbq24.out] at hx332_0); (try rw [← Nbq43.out] at hx332_0); obtain rfl : (⟨go8, 0, none⟩ : Addr) = ad332 := (by injection e332); (first | simp only [add_plain] at hx332_0 | simp only [add_at] at hx332_0 | simp only [Addr.add, Nat.zero_add] at hx332_0 | skip); have hn332_0 : (⟨go8, 0, none⟩ : Addr).block ≠ gb330 := Kd.own_blk (Kd.R_ne HO_7.out BK330.out (by decide)); have hn332_1 : (⟨go8, 0, none⟩ : Addr).block ≠ gb330 := Kd.own_blk (Kd.R_ne HO_7.out BK330.out (by decide)); have hn332_2 : (⟨go8, 0, none⟩ : Addr).block ≠ gb330 := Kd.own_blk (Kd.R_ne HO_7.out BK330.out (by decide)); replace hx332_0 := (cell_far (p := ⟨gb330, 0, none⟩) (by first | (rw [add_block]; exact hn332_0) | (show (Addr.add _ _).block ≠ _; rw [add_block]; exact hn332_0) | exact hn332_0) (.int .i64 ((rd_T79 l0_1 x9_2).f0))).trans hx332_0; replace hx332_0 := (cell_far (p := ⟨gb330, 1, none⟩) (by first | (rw [add_block]; exact hn332_1) | (show (Addr.add _ _).block ≠ _; rw [add_block]; exact hn332_1) | exact hn332_1) (.int .i64 ((rd_T79 l0_1 x9_2).f1))).trans hx332_0; replace hx332_0 := (cell_far (p := ⟨gb330, 2, none⟩) (by first | (rw [add_block]; exact hn332_2) | (show (Addr.add _ _).block ≠ _; rw [add_block]; exact hn332_2) | exact hn332_2) (.int .i64 ((rd_T79 l0_1 x9_2).f2))).trans hx332_0; clear hn332_0; clear hn332_1; clear hn332_2; replace p332 := eq_true p332; replace q332 := eq_true q332; have p335 : 0 ≤ (((rd_T79 l0_1 x9_2).f1) : Int) := oD; have q335 : ((rd_T79 l0_1 x9_2).f1) < (x7_2.length : Int) := oD; obtain ⟨ad335, e335, hx335_0⟩ := Kd.at_bool (Kd.R_reads' HO_7.out).2.2 ((rd_T79 l0_1 x9_2).f1) p335 q335; (try rw [← Nbq20.out] at hx335_0); (try rw [← Nbq24.out] at hx335_0); (try rw [← Nbq43.out] at hx335_0); obtain rfl : (⟨go8, 0, none⟩ : Addr) = ad335 := (by injection e335); (first | simp only [add_plain] at hx335_0 | simp only [add_at] at hx335_0 | simp only [Addr.add, Nat.zero_add] at hx335_0 | skip); have hn335_0 : (⟨go8, 0, none⟩ : Addr).block ≠ gb330 := Kd.own_blk (Kd.R_ne HO_7.out BK330.out (by decide)); have hn335_1 : (⟨go8, 0, none⟩ : Addr).block ≠ gb330 := Kd.own_blk (Kd.R_ne HO_7.out BK330.out (by decide)); have hn335_2 : (⟨go8, 0, none⟩ : Addr).block ≠ gb330 := Kd.own_blk (Kd.R_ne HO_7.out BK330.out (by decide)); replace hx335_0 := (cell_far (p := ⟨gb330, 0, none⟩) (by first | (rw [add_block]; exact hn335_0) | (show (Addr.add _ _).block ≠ _; rw [add_block]; exact hn335_0) | exact hn335_0) (.int .i64 ((rd_T79 l0_1 x9_2).f0))).trans hx335_0; replace hx335_0 := (cell_far (p := ⟨gb330, 1, none⟩) (by first | (rw [add_block]; exact hn335_1) | (show (Addr.add _ _).block ≠ _; rw [add_block]; exact hn335_1) | exact hn335_1) (.int .i64 ((rd_T79 l0_1 x9_2).f1))).trans hx335_0; replace hx335_0 := (cell_far (p := ⟨gb330, 2, none⟩) (by first | (rw [add_block]; exact hn335_2) | (show (Addr.add _ _).block ≠ _; rw [add_block]; exact hn335_2) | exact hn335_2) (.int .i64 ((rd_T79 l0_1 x9_2).f2))).trans hx335_0; clear hn335_0; clear hn335_1; clear hn335_2; replace p335 := eq_true p335; replace q335 := eq_true q335))
      (try simp only [← hl7_2])
      go_roundg k2
      case measure => have := HK1.out; have := HK2.out; omega
      case rel => exact ⟨(x7_2), (wrap64 (x9_2 + 1)), fS, H', ⟨by have := HK1.out; have := HK2.out; omega⟩, ⟨by (try simp only [hl7_1]); (try simp only [hl7_2]); (with_reducible repeat (first | apply Kd.R_alloc | apply Kd.R_drewN | apply Kd.R_drew)); exact Kd.R_mono (Kd.R_far (p := ⟨gb330, 2, none⟩) (Kd.R_far (p := ⟨gb330, 1, none⟩) (Kd.R_far (p := ⟨gb330, 0, none⟩) (Kd.R_types HO_7.out BK330.out (by decide)) (fun _ hk => hk.2) (.int .i64 ((rd_T79 l0_1 x9_2).f0))) (fun _ hk => hk.2) (.int .i64 ((rd_T79 l0_1 x9_2).f1))) (fun _ hk => hk.2) (.int .i64 ((rd_T79 l0_1 x9_2).f2))) (fun _ hk => trivial)⟩, ⟨by (try simp only [hl7_1]); (try simp only [hl7_2]); (with_reducible repeat (first | refine blk_drewN ?_ _ | refine blk_drew ?_ | refine blk_alloc ?_ _)); refine blk_far ?_ NB324_330.out _; (with_reducible repeat (first | refine blk_drewN ?_ _ | refine blk_drew ?_ | refine blk_alloc ?_ _)); refine blk_far ?_ NB324_330.out _; (with_reducible repeat (first | refine blk_drewN ?_ _ | refine blk_drew ?_ | refine blk_alloc ?_ _)); refine blk_far ?_ NB324_330.out _; (with_reducible repeat (first | refine blk_drewN ?_ _ | refine blk_drew ?_ | refine blk_alloc ?_ _)); exact BK324.out⟩, ⟨bl2 HB GE324 GE330⟩⟩
     subst c44
     have H1 : (spec_l3Reach.l1 k2 l1 ((x7_2.set (((rd_T79 l0_1 x9_2).f0) : Int).toNat true).set (((rd_T79 l0_1 x9_2).f1) : Int).toNat true) x8_1 (wrap64 (x9_2 + 1)) a0_0 l0_1) = some r := by rw [if_pos rfl] at H; exact H
     clear H
     have H := H1
     clear H1
     obtain ⟨y336, hy336⟩ : ∃ y_ : List Bool, y_ = (x7_2.set (((rd_T79 l0_1 x9_2).f0) : Int).toNat true) := ⟨_, rfl⟩
     replace H : (spec_l3Reach.l1 k2 l1 (y336.set (((rd_T79 l0_1 x9_2).f1) : Int).toNat true) x8_1 (wrap64 (x9_2 + 1)) a0_0 l0_1) = some r := by first | (rw [hy336]; with_reducible exact H) | (have H2_ := (Option.bind_some _ _).symm.trans H; rw [hy336]; with_reducible exact H2_) | (have H2_ := (Option.bind_some _ _).symm.trans H; with_reducible exact H2_) | with_reducible exact H | (rw [hy336]; exact H) | exact H
     have Ny336 := Aside0.mk hy336
     clear hy336
     obtain ⟨y337, hy337⟩ : ∃ y_ : List Bool, y_ = (y336.set (((rd_T79 l0_1 x9_2).f1) : Int).toNat true) := ⟨_, rfl⟩
     replace H : (spec_l3Reach.l1 k2 l1 y337 x8_1 (wrap64 (x9_2 + 1)) a0_0 l0_1) = some r := by first | (rw [hy337]; with_reducible exact H) | (have H2_ := (Option.bind_some _ _).symm.trans H; rw [hy337]; with_reducible exact H2_) | (have H2_ := (Option.bind_some _ _).symm.trans H; with_reducible exact H2_) | with_reducible exact H | (rw [hy337]; exact H) | exact H
     have Ny337 := Aside0.mk hy337
     clear hy337
     have H' := Aside0.mk H
     clear H
     have hcz47_0 : wr.cell? ⟨gb324, 0, none⟩ = some (.int .i64 a0_0) := (blk_cell BK324.out 0).trans rfl
     have hcz47_1 : wr.cell? ⟨gb324, 1, none⟩ = some (.slice A0_1 l0_1.length c0_1) := (blk_cell BK324.out 1).trans rfl
     have hfz47_0 := blk_frozen BK324.out 0
     have hfz47_1 := blk_frozen BK324.out 1
     have p329 : 0 ≤ (x9_2 : Int) := oD
     have q329 : x9_2 < (l0_1.length : Int) := oD
     obtain ⟨ad329, e329, hx329_0, hx329_1, hx329_2⟩ := at_T79 HR0_1.out x9_2 p329 q329
     cases e329
     replace hx329_0 := (HB.out.cell (World.block_lt_of_cell? w _ hx329_0)).trans hx329_0
     replace hx329_1 := (HB.out.cell (World.block_lt_of_cell? w _ hx329_1)).trans hx329_1
     replace hx329_2 := (HB.out.cell (World.block_lt_of_cell? w _ hx329_2)).trans hx329_2
     replace p329 := eq_true p329
     replace q329 := eq_true q329
     go_wp2_with (first | ((with_reducible refine gate_dst (N := 10) rfl ?_); refine box_event ?hg (N := 10) ?hd (cs := #[.int .i64 0, .int .i64 0, .int .i64 0]) (t := 79) ?hr ?_; (case hd => rfl); (case hg => rfl); (case hr => exact hR); intro gb330 hg w48 hbox hb; have n0_ := aM (Kd.R_below (gR (HO_7.out)) hb); have n1_ := aM (blk_below (g := gb324) (o := .cells #[.int .i64 a0_0, .slice (some ad329) l0_1.length c0_1] 25 (0, 0)) (gB (BK324.out)) hb); have n2_ := aM (below_step (bl1 HB GE324) hb); have n3_ := aM (hbox); have n4_ := aM ((by rw [hg]; exact (below_size (bl1 HB GE324)) : w.heap.size ≤ gb330)); have n5_ := aM ((by rw [hg]; exact (below_size (bl1 HB GE324)) : w.heap.size ≤ gb330)); have n6_ := aM ((by rw [hg]; exact Nat.ne_of_lt (blk_lt (g := gb324) (o := .cells #[.int .i64 a0_0, .slice (some ad329) l0_1.length c0_1] 25 (0, 0)) (gB (BK324.out))) : gb324 ≠ gb330)); have n7_ := aM ((by rw [hg]; exact Nat.ne_of_gt (blk_lt (g := gb324) (o := .cells #[.int .i64 a0_0, .slice (some ad329) l0_1.length c0_1] 25 (0, 0)) (gB (BK324.out))) : gb330 ≠ gb324)); clear HO_7; clear BK324; clear HB; have HO_7 := n0_; have BK324 := n1_; have HB := n2_; have BK330 := n3_; have GW330 := n4_; have GE330 := n5_; have NB324_330 := n6_; have NB330_324 := n7_; clear n0_ n1_ n2_ n3_ n4_ n5_ n6_ n7_; clear hb hbox hg; have hnb49 := NB330_324.out; have hnc49 := NB324_330.out; have hcz50_0 : w48.cell? ⟨gb330, 0, none⟩ = some (.int .i64 0) := (blk_cell BK330.out 0).trans rfl; have hcz50_1 : w48.cell? ⟨gb330, 1, none⟩ = some (.int .i64 0) := (blk_cell BK330.out 1).trans rfl; have hcz50_2 : w48.cell? ⟨gb330, 2, none⟩ = some (.int .i64 0) := (blk_cell BK330.out 2).trans rfl; have hfz50_0 := blk_frozen BK330.out 0; have hfz50_1 := blk_frozen BK330.out 1; have hfz50_2 := blk_frozen BK330.out 2) | ((with_reducible refine gate_store (t := 79) (p := 10) rfl ?_); refine store_event (t := 79) (p := 10) (v := ?vo_w51) (w1 := (((w48.setCell ⟨gb330, 0, none⟩ (.int .i64 ((rd_T79 l0_1 x9_2).f0))).setCell ⟨gb330, 1, none⟩ (.int .i64 ((rd_T79 l0_1 x9_2).f1))).setCell ⟨gb330, 2, none⟩ (.int .i64 ((rd_T79 l0_1 x9_2).f2)))) ?hg ?ho ?hn ?hr ?_; (case ho => rfl); (case hg => rfl); (case hn => rfl); (case hr => exact hR); intro w51 hw; have n0_ : Aside0 (Kd.R Kd.bool 4 w51 w.heap.size (fun _ => True) (.slice (some ⟨go8, 0, none⟩) x7_2.length co8) x7_2) := ⟨(by rw [hw]; exact (by (with_reducible repeat (first | apply Kd.R_alloc | apply Kd.R_drewN | apply Kd.R_drew)); exact Kd.R_mono (Kd.R_far (p := ⟨gb330, 2, none⟩) (Kd.R_far (p := ⟨gb330, 1, none⟩) (Kd.R_far (p := ⟨gb330, 0, none⟩) (Kd.R_types HO_7.out BK330.out (by decide)) (fun _ hk => hk.2) (.int .i64 ((rd_T79 l0_1 x9_2).f0))) (fun _ hk => hk.2) (.int .i64 ((rd_T79 l0_1 x9_2).f1))) (fun _ hk => hk.2) (.int .i64 ((rd_T79 l0_1 x9_2).f2))) (fun _ hk => trivial)))⟩; have n1_ : Aside0 (w51.heap[gb324]? = some (.cells #[.int .i64 a0_0, .slice (some ad329) l0_1.length c0_1] 25 (0, 0))) := ⟨(by rw [hw]; exact (by (with_reducible repeat (first | refine blk_drewN ?_ _ | refine blk_drew ?_ | refine blk_alloc ?_ _)); refine blk_far ?_ NB324_330.out _; (with_reducible repeat (first | refine blk_drewN ?_ _ | refine blk_drew ?_ | refine blk_alloc ?_ _)); refine blk_far ?_ NB324_330.out _; (with_reducible repeat (first | refine blk_drewN ?_ _ | refine blk_drew ?_ | refine blk_alloc ?_ _)); refine blk_far ?_ NB324_330.out _; (with_reducible repeat (first | refine blk_drewN ?_ _ | refine blk_drew ?_ | refine blk_alloc ?_ _)); exact BK324.out))⟩; have n2_ : Aside0 (w51.heap[gb330]? = some (.cells #[.int .i64 ((rd_T79 l0_1 x9_2).f0), .int .i64 ((rd_T79 l0_1 x9_2).f1), .int .i64 ((rd_T79 l0_1 x9_2).f2)] 79 (0, 0))) := ⟨(by rw [hw]; exact (by (with_reducible repeat (first | refine blk_drewN ?_ _ | refine blk_drew ?_ | refine blk_alloc ?_ _)); refine blk_put (cs := #[.int .i64 ((rd_T79 l0_1 x9_2).f0), .int .i64 ((rd_T79 l0_1 x9_2).f1), .int .i64 0]) ?_ 2 _ rfl; (with_reducible repeat (first | refine blk_drewN ?_ _ | refine blk_drew ?_ | refine blk_alloc ?_ _)); refine blk_put (cs := #[.int .i64 ((rd_T79 l0_1 x9_2).f0), .int .i64 0, .int .i64 0]) ?_ 1 _ rfl; (with_reducible repeat (first | refine blk_drewN ?_ _ | refine blk_drew ?_ | refine blk_alloc ?_ _)); refine blk_put (cs := #[.int .i64 0, .int .i64 0, .int .i64 0]) ?_ 0 _ rfl; (with_reducible repeat (first | refine blk_drewN ?_ _ | refine blk_drew ?_ | refine blk_alloc ?_ _)); exact BK330.out))⟩; have n3_ : Aside0 (Below w.heap.size w w51) := ⟨(by rw [hw]; exact (bl2 HB GE324 GE330))⟩; clear hw; clear HO_7; clear BK324; clear BK330; clear HB; have HO_7 := n0_; have BK324 := n1_; have BK330 := n2_; have HB := n3_; clear n0_ n1_ n2_ n3_; have p331 : 0 ≤ (x9_2 : Int) := oD; have q331 : x9_2 < (l1.length : Int) := oD; obtain ⟨ad331, e331, hx331_0⟩ := Kd.at_bool HR1.out x9_2 p331 q331; (try rw [← Nbq20.out] at hx331_0); (try rw [← Nbq24.out] at hx331_0); (try rw [← Nbq43.out] at hx331_0); cases e331; replace hx331_0 := (HB.out.cell (World.block_lt_of_cell? w _ hx331_0)).trans hx331_0; replace p331 := eq_true p331; replace q331 := eq_true q331; have hcz52_0 : w51.cell? ⟨gb330, 0, none⟩ = some (.int .i64 ((rd_T79 l0_1 x9_2).f0)) := (blk_cell BK330.out 0).trans rfl; have hcz52_1 : w51.cell? ⟨gb330, 1, none⟩ = some (.int .i64 ((rd_T79 l0_1 x9_2).f1)) := (blk_cell BK330.out 1).trans rfl; have hcz52_2 : w51.cell? ⟨gb330, 2, none⟩ = some (.int .i64 ((rd_T79 l0_1 x9_2).f2)) := (blk_cell BK330.out 2).trans rfl; have hfz52_0 := blk_frozen BK330.out 0; have hfz52_1 := blk_frozen BK330.out 1; have hfz52_2 := blk_frozen BK330.out 2; have p332 : 0 ≤ (((rd_T79 l0_1 x9_2).f0) : Int) := oD; have q332 : ((rd_T79 l0_1 x9_2).f0) < (x7_2.length : Int) := oD; obtain ⟨ad332, e332, hx332_0⟩ := Kd.at_bool (Kd.R_reads' HO_7.out).2.2 ((rd_T79 l0_1 x9_2).f0) p332 q332; (try rw [← Nbq20.out] at hx332_0); (try rw [← Nbq24.out] at hx332_0); (try rw [← Nbq43.out] at hx332_0); obtain rfl : (⟨go8, 0, none⟩ : Addr) = ad332 := (by injection e332); (first | simp only [add_plain] at hx332_0 | simp only [add_at] at hx332_0 | simp only [Addr.add, Nat.zero_add] at hx332_0 | skip); replace p332 := eq_true p332; replace q332 := eq_true q332; have p335 : 0 ≤ (((rd_T79 l0_1 x9_2).f1) : Int) := oD; have q335 : ((rd_T79 l0_1 x9_2).f1) < (x7_2.length : Int) := oD; obtain ⟨ad335, e335, hx335_0⟩ := Kd.at_bool (Kd.R_reads' HO_7.out).2.2 ((rd_T79 l0_1 x9_2).f1) p335 q335; (try rw [← Nbq20.out] at hx335_0); (try rw [← Nbq24.out] at hx335_0); (try rw [← Nbq43.out] at hx335_0); obtain rfl : (⟨go8, 0, none⟩ : Addr) = ad335 := (by injection e335); (first | simp only [add_plain] at hx335_0 | simp only [add_at] at hx335_0 | simp only [Addr.add, Nat.zero_add] at hx335_0 | skip); replace p335 := eq_true p335; replace q335 := eq_true q335; have p45 : 0 ≤ (((rd_T79 l0_1 x9_2).f0) : Int) := oD; have q45 : (((rd_T79 l0_1 x9_2).f0) : Int) < ((x7_2.length : Int) : Int) := oD; obtain ⟨hx45_0, hf45_0⟩ := Kd.R_celln false HO_7.out (((rd_T79 l0_1 x9_2).f0) : Int) p45 q45; replace p45 := eq_true p45; replace q45 := eq_true q45; obtain ⟨hy53_, hz53_⟩ := Kd.R_celln false HO_7.out (((rd_T79 l0_1 x9_2).f0) : Int) (oD) (oD); have HP53 := Kd.R_putg HO_7.out (((rd_T79 l0_1 x9_2).f0) : Int) true) | ((with_reducible refine gate_store (t := 4) (p := 56) rfl ?_); refine store_event (t := 4) (p := 56) (v := ?vo_w54) (w1 := (w51.setCell ⟨go8, (((rd_T79 l0_1 x9_2).f0) : Int).toNat, none⟩ (.bool true))) ?hg ?ho ?hn ?hr ?_; (case ho => rfl); (case hg => rfl); (case hn => rfl); (case hr => exact hR); intro w54 hw; have hg : w51.grownBy w54 (some go8) := (by rw [hw]; exact HP53.2); have hp_ : Kd.R Kd.bool 4 w54 w.heap.size (fun _ => True) (.slice (some ⟨go8, 0, none⟩) x7_2.length co8) y336 := (by rw [hw, Ny336.out]; exact HP53.1); clear HP53; have n0_ := aM (hp_); have n1_ := aM (blk_grown (g := gb324) (o := .cells #[.int .i64 a0_0, .slice (some ad329) l0_1.length c0_1] 25 (0, 0)) (gB (BK324.out)) hg (Kd.R_ne HO_7.out BK324.out (by decide))); have n2_ := aM (blk_grown (g := gb330) (o := .cells #[.int .i64 ((rd_T79 l0_1 x9_2).f0), .int .i64 ((rd_T79 l0_1 x9_2).f1), .int .i64 ((rd_T79 l0_1 x9_2).f2)] 79 (0, 0)) (gB (BK330.out)) hg (Kd.R_ne HO_7.out BK330.out (by decide))); have n3_ := aM ((by rw [hw]; exact below_set (HB.out) GB8.out : Below w.heap.size w w54)); clear HO_7; clear BK324; clear BK330; clear HB; have HO_7 := n0_; have BK324 := n1_; have BK330 := n2_; have HB := n3_; clear n0_ n1_ n2_ n3_; clear hg hw hp_; have hcz55_0 : w54.cell? ⟨gb330, 0, none⟩ = some (.int .i64 ((rd_T79 l0_1 x9_2).f0)) := (blk_cell BK330.out 0).trans rfl; have hcz55_1 : w54.cell? ⟨gb330, 1, none⟩ = some (.int .i64 ((rd_T79 l0_1 x9_2).f1)) := (blk_cell BK330.out 1).trans rfl; have hcz55_2 : w54.cell? ⟨gb330, 2, none⟩ = some (.int .i64 ((rd_T79 l0_1 x9_2).f2)) := (blk_cell BK330.out 2).trans rfl; have hfz55_0 := blk_frozen BK330.out 0; have hfz55_1 := blk_frozen BK330.out 1; have hfz55_2 := blk_frozen BK330.out 2; have p46 : 0 ≤ (((rd_T79 l0_1 x9_2).f1) : Int) := oD; have q46 : (((rd_T79 l0_1 x9_2).f1) : Int) < ((x7_2.length : Int) : Int) := oD; obtain ⟨hx46_0, hf46_0⟩ := Kd.R_celln false HO_7.out (((rd_T79 l0_1 x9_2).f1) : Int) p46 q46; replace p46 := eq_true p46; replace q46 := eq_true q46; obtain ⟨hy56_, hz56_⟩ := Kd.R_celln false HO_7.out (((rd_T79 l0_1 x9_2).f1) : Int) (oD) (oD); have HP56 := Kd.R_putg HO_7.out (((rd_T79 l0_1 x9_2).f1) : Int) true) | ((with_reducible refine gate_store (t := 4) (p := 60) rfl ?_); refine store_event (t := 4) (p := 60) (v := ?vo_w57) (w1 := (w54.setCell ⟨go8, (((rd_T79 l0_1 x9_2).f1) : Int).toNat, none⟩ (.bool true))) ?hg ?ho ?hn ?hr ?_; (case ho => rfl); (case hg => rfl); (case hn => rfl); (case hr => exact hR); intro w57 hw; have hg : w54.grownBy w57 (some go8) := (by rw [hw]; exact HP56.2); have hp_ : Kd.R Kd.bool 4 w57 w.heap.size (fun _ => True) (.slice (some ⟨go8, 0, none⟩) x7_2.length co8) y337 := (by rw [hw, Ny337.out]; exact HP56.1); clear HP56; have n0_ := aM (hp_); have n1_ := aM (blk_grown (g := gb324) (o := .cells #[.int .i64 a0_0, .slice (some ad329) l0_1.length c0_1] 25 (0, 0)) (gB (BK324.out)) hg (Kd.R_ne HO_7.out BK324.out (by decide))); have n2_ := aM (blk_grown (g := gb330) (o := .cells #[.int .i64 ((rd_T79 l0_1 x9_2).f0), .int .i64 ((rd_T79 l0_1 x9_2).f1), .int .i64 ((rd_T79 l0_1 x9_2).f2)] 79 (0, 0)) (gB (BK330.out)) hg (Kd.R_ne HO_7.out BK330.out (by decide))); have n3_ := aM ((by rw [hw]; exact below_set (HB.out) GB8.out : Below w.heap.size w w57)); clear HO_7; clear BK324; clear BK330; clear HB; have HO_7 := n0_; have BK324 := n1_; have BK330 := n2_; have HB := n3_; clear n0_ n1_ n2_ n3_; clear hg hw hp_))
     (try simp only [← hl7_2])
     go_roundg k2
     case measure => have := HK1.out; have := HK2.out; omega
     case rel => exact ⟨(y337), (wrap64 (x9_2 + 1)), fS, H', ⟨by have := HK1.out; have := HK2.out; omega⟩, ⟨by (try simp only [hl7_1]); (try simp only [hl7_2]); (with_reducible repeat (first | apply Kd.R_alloc | apply Kd.R_drewN | apply Kd.R_drew)); exact HO_7.out⟩, ⟨by (try simp only [hl7_1]); (try simp only [hl7_2]); (with_reducible repeat (first | refine blk_drewN ?_ _ | refine blk_drew ?_ | refine blk_alloc ?_ _)); exact BK324.out⟩, ⟨bl2 HB GE324 GE330⟩⟩

end Go.Proofs.YtpgjgbjkfgbpaaaDoor.P

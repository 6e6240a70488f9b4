/- Contracts of Go functions of this seat's translation, written by this repo's wip/mk.py: it calls the kit's print.py with contracts typed by hand in place of functions that it does not take. Not trusted: Lean checks it. -/
import Derived.Test.YtpgjgbjkfgbpaaaDoorP0
import Derived.Test.YtpgjgbjkfgbpaaaDoorP27
import Derived.Test.YtpgjgbjkfgbpaaaDoorP49
namespace Go.Proofs.YtpgjgbjkfgbpaaaDoor.P
open Go.RowKit Go.Proofs.YtpgjgbjkfgbpaaaDoorW.PrintWords Go.Proofs.YtpgjgbjkfgbpaaaDoorW.PrintLast Go.Proofs.YtpgjgbjkfgbpaaaDoorW.PrintMore
attribute [local go_sem] max2_int min2_int max_two min_two max_three min_three max_four min_four   -- for this text's walks alone
set_option linter.unusedVariables false
set_option linter.unusedSimpArgs false

/-! ### spec_SpanningLines: function 33 -/
mutual
def spec_SpanningLines.l0 : Nat → List Bool → List Int → List Bool → Int → Int → List (S79) → Option (List Int)
 | 0, _, _, _, _, _, _ => none
 | k + 1, x1, x5, x6, x7, x599000, x599001 => if x7 < (x1.length : Int) then ((spec_StateValid.f k x599000 x599001 x1).bind fun t605 => (spec_SpanningLines.j1 k x1 x5 x6 x7 t605 x599000 x599001)) else (spec_SpanningLines.j1 k x1 x5 x6 x7 false x599000 x599001)
def spec_SpanningLines.j1 : Nat → List Bool → List Int → List Bool → Int → Bool → Int → List (S79) → Option (List Int)
 | 0, _, _, _, _, _, _, _ => none
 | k + 1, x1, x5, x6, x7, x20, x599000, x599001 => if x20 = true then (if 0 ≤ x7 then (if x7 < (x1.length : Int) then (if rdOf false x1 x7 = true then (if x7 < (x599001.length : Int) then ((spec_SameIsland.f k x599000 x599001 x6 ((rd_T79 x599001 x7).f0) ((rd_T79 x599001 x7).f1)).bind fun t609 => (if t609 = true then (spec_SpanningLines.l0 k x1 x5 x6 (wrap64 (x7 + 1)) x599000 x599001) else (if x7 < (x6.length : Int) then (if x5.length < 17592186044416 then (spec_SpanningLines.l0 k x1 (x5 ++ [x7]) (x6.set (x7 : Int).toNat true) (wrap64 (x7 + 1)) x599000 x599001) else (none)) else (none)))) else (none)) else (spec_SpanningLines.l0 k x1 x5 x6 (wrap64 (x7 + 1)) x599000 x599001)) else (none)) else (none)) else (some x5)
end
def spec_SpanningLines.f (k : Nat) (a0_0 : Int) (l0_1 : List (S79)) (l1 : List Bool) : Option (List Int) := if 0 ≤ (l1.length : Int) then (if ((l1.length : Int) : Int).toNat ≤ 281474976710656 then (spec_SpanningLines.l0 k l1 (([] : List Int)) (List.replicate ((l1.length : Int) : Int).toNat false) 0 a0_0 l0_1) else (none)) else (none)
theorem spec_SpanningLines.mono_l : ∀ k, (∀ y0 y1 y2 y3 y4 y5, LeO (spec_SpanningLines.l0 k y0 y1 y2 y3 y4 y5) (spec_SpanningLines.l0 (k + 1) y0 y1 y2 y3 y4 y5)) ∧ (∀ y0 y1 y2 y3 y4 y5 y6, LeO (spec_SpanningLines.j1 k y0 y1 y2 y3 y4 y5 y6) (spec_SpanningLines.j1 (k + 1) y0 y1 y2 y3 y4 y5 y6))
 | 0 => ⟨fun _ _ _ _ _ _ r h => by simp [spec_SpanningLines.l0] at h, fun _ _ _ _ _ _ _ r h => by simp [spec_SpanningLines.j1] at h⟩
 | k + 1 => by
  obtain ⟨ih0, ih1⟩ := spec_SpanningLines.mono_l k
  refine ⟨?_, ?_⟩
  ·
   intro y0 y1 y2 y3 y4 y5
   unfold spec_SpanningLines.l0
   repeat' first
   | (with_reducible exact ih0 _ _ _ _ _ _)
   | (with_reducible exact ih1 _ _ _ _ _ _ _)
   | (with_reducible exact spec_SameIsland.mono _ _ _ _ _ _)
   | (with_reducible exact spec_StateValid.mono _ _ _ _)
   | (with_reducible exact LeO.refl _)
   | (with_reducible exact LeO.none _)
   | (with_reducible refine LeO.ite ?_ ?_)
   | (with_reducible refine LeO.bind ?_ (fun _ => ?_))
   | exact ih0 _ _ _ _ _ _
   | exact ih1 _ _ _ _ _ _ _
   | exact spec_SameIsland.mono _ _ _ _ _ _
   | exact spec_StateValid.mono _ _ _ _
   | exact LeO.none _
   | refine LeO.ite ?_ ?_
   | refine LeO.bind ?_ (fun _ => ?_)
  ·
   intro y0 y1 y2 y3 y4 y5 y6
   unfold spec_SpanningLines.j1
   repeat' first
   | (with_reducible exact ih0 _ _ _ _ _ _)
   | (with_reducible exact ih1 _ _ _ _ _ _ _)
   | (with_reducible exact spec_SameIsland.mono _ _ _ _ _ _)
   | (with_reducible exact spec_StateValid.mono _ _ _ _)
   | (with_reducible exact LeO.refl _)
   | (with_reducible exact LeO.none _)
   | (with_reducible refine LeO.ite ?_ ?_)
   | (with_reducible refine LeO.bind ?_ (fun _ => ?_))
   | exact ih0 _ _ _ _ _ _
   | exact ih1 _ _ _ _ _ _ _
   | exact spec_SameIsland.mono _ _ _ _ _ _
   | exact spec_StateValid.mono _ _ _ _
   | exact LeO.none _
   | refine LeO.ite ?_ ?_
   | refine LeO.bind ?_ (fun _ => ?_)
theorem spec_SpanningLines.mono : ∀ a0 a1 a2 k, LeO (spec_SpanningLines.f k a0 a1 a2) (spec_SpanningLines.f (k + 1) a0 a1 a2) := by
 intro a0 a1 a2 k
 obtain ⟨ih0, ih1⟩ := spec_SpanningLines.mono_l k
 unfold spec_SpanningLines.f
 repeat' first
   | (with_reducible exact ih0 _ _ _ _ _ _)
   | (with_reducible exact ih1 _ _ _ _ _ _ _)
   | (with_reducible exact spec_SameIsland.mono _ _ _ _ _ _)
   | (with_reducible exact spec_StateValid.mono _ _ _ _)
   | (with_reducible exact LeO.refl _)
   | (with_reducible exact LeO.none _)
   | (with_reducible refine LeO.ite ?_ ?_)
   | (with_reducible refine LeO.bind ?_ (fun _ => ?_))
   | exact ih0 _ _ _ _ _ _
   | exact ih1 _ _ _ _ _ _ _
   | exact spec_SameIsland.mono _ _ _ _ _ _
   | exact spec_StateValid.mono _ _ _ _
   | exact LeO.none _
   | refine LeO.ite ?_ ?_
   | refine LeO.bind ?_ (fun _ => ?_)
def spec_SpanningLines.T6 : Bool × List (List Nat × List Nat) := (true, [([], []), ([], []), ([0, 1], [0, 1]), ([2], [2]), ([3], [3]), ([4], [4]), ([4], [4]), ([4], [4]), ([7, 4], [4, 7]), ([4], [4]), ([8, 9, 4], [4, 8, 9]), ([10, 4], [4, 10]), ([11, 4], [4, 11]), ([4], [4]), ([13, 4], [4, 13]), ([4], [4]), ([14, 15, 4], [4, 14, 15]), ([16, 4], [4, 16]), ([17, 4], [4, 17]), ([5, 6, 12, 18, 4, 4], [4, 5, 6, 12, 18]), ([19, 4], [4, 19]), ([4, 20], [4, 20])])
def spec_SpanningLines.B6 : List Nat := [0, 0, 3, 7, 15, 31, 31, 31, 159, 31, 927, 1951, 3999, 31, 8223, 31, 57375, 122911, 253983, 524287, 1048575, 2097151]
theorem spec_SpanningLines.tab6 : rtab .any (opsOf Tryd.f33 6) = spec_SpanningLines.T6 := by kernel_rfl
theorem spec_SpanningLines.bits6 : waitsOk spec_SpanningLines.T6.2 spec_SpanningLines.B6 = true := by kernel_rfl
set_option maxHeartbeats 8000000 in
set_option maxRecDepth 100000 in
theorem spec_SpanningLines.calls (k : Nat) (a0_0 : Int) (A0_1 : Option Addr) (c0_1 : Nat) (l0_1 : List (S79)) (A1 : Option Addr) (c1 : Nat) (l1 : List Bool) (r : List Int) (w : World) (hr0_1 : Kd.C k79 w A0_1 l0_1.length l0_1) (hc0_1 : l0_1.length ≤ c0_1) (hr1 : Kd.C Kd.bool w A1 l1.length l1) (hc1 : l1.length ≤ c1) (h : spec_SpanningLines.f k a0_0 l0_1 l1 = some r) :
  Calls Tryd.prog 33 #[.agg #[.int .i64 a0_0, .slice A0_1 l0_1.length c0_1], .slice A1 l1.length c1] w fun e w' => ∃ v0_ : Value, e = .returned (v0_) ∧ Kd.R (Kd.int .i64) 3 w' w.heap.size (fun _ => True) v0_ r ∧ Below w.heap.size w w' := by
 have hu25 := Tryd.underlying25
 have HR0_1 := Aside0.mk hr0_1
 have HC0_1 := Aside0.mk hc0_1
 clear hr0_1 hc0_1
 have HR1 := Aside0.mk hr1
 have HC1 := Aside0.mk hc1
 clear hr1 hc1
 have HB := aM (Below.refl w.heap.size w)
 have H : (if 0 ≤ (l1.length : Int) then (if ((l1.length : Int) : Int).toNat ≤ 281474976710656 then (spec_SpanningLines.l0 k l1 (([] : List Int)) (List.replicate ((l1.length : Int) : Int).toNat false) 0 a0_0 l0_1) else (none)) else (none)) = some r := h
 clear h
 obtain ⟨y599, hy599⟩ : ∃ y_ : List Int, y_ = (([] : List Int)) := ⟨_, rfl⟩
 replace H : (if 0 ≤ (l1.length : Int) then (if ((l1.length : Int) : Int).toNat ≤ 281474976710656 then (spec_SpanningLines.l0 k l1 y599 (List.replicate ((l1.length : Int) : Int).toNat false) 0 a0_0 l0_1) else (none)) else (none)) = some r := by first | (rw [hy599]; with_reducible exact H) | (have H2_ := (Option.bind_some _ _).symm.trans H; rw [hy599]; with_reducible exact H2_) | (have H2_ := (Option.bind_some _ _).symm.trans H; with_reducible exact H2_) | with_reducible exact H | (rw [hy599]; exact H) | exact H
 have Ny599 := Aside0.mk hy599
 clear hy599
 by_cases c3 : 0 ≤ (l1.length : Int)
 rotate_left
 ·
  rw [if_neg c3] at H
  exact absurd H (by simp)
 rw [if_pos c3] at H
 have c3b0 := eq_true c3
 have c3b1 : decide (0 ≤ (l1.length : Int)) = true := decide_eq_true c3
 clear c3
 by_cases c4 : ((l1.length : Int) : Int).toNat ≤ 281474976710656
 rotate_left
 ·
  rw [if_neg c4] at H
  exact absurd H (by simp)
 rw [if_pos c4] at H
 have c4b0 := eq_true c4
 have c4b1 : decide (((l1.length : Int) : Int).toNat ≤ 281474976710656) = true := decide_eq_true c4
 clear c4
 obtain ⟨y602, hy602⟩ : ∃ y_ : List Bool, y_ = (List.replicate ((l1.length : Int) : Int).toNat false) := ⟨_, rfl⟩
 replace H : (spec_SpanningLines.l0 k l1 y599 y602 0 a0_0 l0_1) = some r := by first | (rw [hy602]; with_reducible exact H) | (have H2_ := (Option.bind_some _ _).symm.trans H; rw [hy602]; with_reducible exact H2_) | (have H2_ := (Option.bind_some _ _).symm.trans H; with_reducible exact H2_) | with_reducible exact H | (rw [hy602]; exact H) | exact H
 have Ny602 := Aside0.mk hy602
 clear hy602
 have H' := Aside0.mk H
 clear H
 go_enter Tryd.func33, Tryd.ntmps33
 go_wp2_with (first | ((with_reducible refine gate_dst (N := 2) rfl ?_); refine box_event ?hg (N := 2) ?hd (cs := #[.int .i64 a0_0, .slice A0_1 l0_1.length c0_1]) (t := 25) ?hr ?_; (case hd => rfl); (case hg => rfl); (case hr => exact hR); intro gb598 hg w5 hbox hb; have n0_ := aM (below_step (bl0 HB) hb); have n1_ := aM (hbox); have n2_ := aM ((by rw [hg]; exact (below_size (bl0 HB)) : w.heap.size ≤ gb598)); have n3_ := aM ((by rw [hg]; exact (below_size (bl0 HB)) : w.heap.size ≤ gb598)); clear HB; have HB := n0_; have BK598 := n1_; have GW598 := n2_; have GE598 := n3_; clear n0_ n1_ n2_ n3_; clear hb hbox hg) | ((with_reducible refine gate_dst (N := 8) rfl ?_); refine Kd.R_lit (Kd.int .i64) _ 3 ?hg (N := 8) ?hd (xs := ([] : List Int)) (inner := []) (ok := fun _ => True) (okp := fun _ => True) ?hr ?hp (fun _ hk => hk) trivial (Below.refl _ _) (Nat.le_refl _) (by simp) ?_; (case hd => rfl); (case hg => rfl); (case hr => exact hR); (case hp => exact (Reps.none _ _)); intro v600 w6 ho7 hb hg_ hnew_; clear hg_ hnew_; (first | rw [← Ny599.out] at ho7 | (simp only [Int.reduceToNat] at ho7; rw [← Ny599.out] at ho7)); have n0_ := aM (Kd.R_lower ho7 (below_size (bl1 HB GE598))); have n1_ := aM (blk_below (g := gb598) (o := .cells #[.int .i64 a0_0, .slice A0_1 l0_1.length c0_1] 25 (0, 0)) (gB (BK598.out)) hb); have n2_ := aM (below_step (bl1 HB GE598) hb); clear BK598; clear HB; have HO601 := n0_; have BK598 := n1_; have HB := n2_; clear n0_ n1_ n2_; clear hb ho7) | ((with_reducible refine gate_dst (N := 11) rfl ?_); refine Kd.R_make Kd.bool _ 4 rfl (N := 11) rfl 26 _ _ rfl (l1.length : Int) rfl rfl Tryd.underlying26 (.bool false) 1 info4 rfl (by decide) (by omega) false (ok := fun _ => True) (okp := fun _ => True) rfl (fun _ hk => hk) trivial (oD) (Nat.le_trans (Nat.mul_le_mul_right _ (oD : (l1.length : Int).toNat ≤ 281474976710656)) (by omega)) (Below.refl _ _) (Nat.le_refl _) ?_; intro v603 w8 ho9 hb hg_ hnew_; clear hg_ hnew_; (first | rw [← Ny602.out] at ho9 | (simp only [Int.reduceToNat] at ho9; rw [← Ny602.out] at ho9)); have n0_ := aM (Kd.R_below (gR (HO601.out)) hb); have n1_ := aM (Kd.R_lower ho9 (below_size (bl1 HB GE598))); have n2_ := aM (blk_below (g := gb598) (o := .cells #[.int .i64 a0_0, .slice A0_1 l0_1.length c0_1] 25 (0, 0)) (gB (BK598.out)) hb); have n3_ := aM (below_step (bl1 HB GE598) hb); clear HO601; clear BK598; clear HB; have HO601 := n0_; have HO604 := n1_; have BK598 := n2_; have HB := n3_; clear n0_ n1_ n2_ n3_; clear hb ho9))
 go_loopg [5, 7] k (fun kq v5 v7 w' => ∃ (x5_1 : List Int) (x6_1 : List Bool) (x7_1 : Int), v7 = .int .i64 x7_1 ∧ Aside0 (spec_SpanningLines.l0 kq l1 x5_1 x6_1 x7_1 a0_0 l0_1 = some r) ∧ Aside0 (kq ≤ k) ∧ Aside0 (Kd.R (Kd.int .i64) 3 w' w.heap.size (fun _ => True) v5 x5_1) ∧ Aside0 (Kd.R Kd.bool 4 w' w.heap.size (fun _ => True) v603 x6_1) ∧ Aside0 (w'.heap[gb598]? = some (.cells #[.int .i64 a0_0, (.slice A0_1 l0_1.length c0_1)] 25 (0, 0))) ∧ Aside0 (Below w.heap.size w w'))
 case atStart => exact ⟨(y599), (y602), (0), fS, H', ⟨Nat.le_refl _⟩, ⟨gR (HO601.out)⟩, ⟨gR (HO604.out)⟩, ⟨gB (BK598.out)⟩, ⟨bl1 HB GE598⟩⟩
 case round =>
  clear H'
  try clear c1
  try clear p2
  try clear c3
  try clear c3b0
  try clear c3b1
  try clear c4
  try clear c4b0
  try clear c4b1
  obtain ⟨x5_1, x6_1, x7_1, rfl, HA, HK1, HO_5, HO_6, BK598, HB⟩ := hrel
  cases gk with
  | zero => exact absurd HA.out (by simp [spec_SpanningLines.l0])
  | succ k1 =>
   have H := HA.out
   clear HA
   simp only [spec_SpanningLines.l0] at H
   have HC10 := Aside0.mk H
   clear H
   go_upto_region 4 with (fail)
   go_cut [20] (fun v20 wc => ∃ (kq : Nat) (x20_9 : Bool), v20 = .bool x20_9 ∧ Aside0 (spec_SpanningLines.j1 kq l1 x5_1 x6_1 x7_1 x20_9 a0_0 l0_1 = some r) ∧ Aside0 (kq ≤ k1) ∧ Aside0 (Kd.R (Kd.int .i64) 3 wc w.heap.size (fun _ => True) u5 x5_1) ∧ Aside0 (Kd.R Kd.bool 4 wc w.heap.size (fun _ => True) v603 x6_1) ∧ Aside0 (wc.heap[gb598]? = some (.cells #[.int .i64 a0_0, (.slice A0_1 l0_1.length c0_1)] 25 (0, 0))) ∧ Aside0 (Below w.heap.size w wc))
   case first =>
    have H := HC10.out
    clear HC10
    by_cases c11 : x7_1 < (l1.length : Int)
    rotate_left
    ·
     rw [if_neg c11] at H
     have c11b0 : decide (x7_1 < (l1.length : Int)) = false := decide_eq_false c11
     clear c11
     (first | rw [c11b0] | (simp only [i64_w, i32_w]; rw [c11b0]) | skip)
     have H' := Aside0.mk H
     clear H
     go_wp2
     go_meet
     case rel => exact ⟨_, (false), fS, H', ⟨by have := HK1.out; first | omega | exact Nat.le_refl _⟩, ⟨gR (HO_5.out)⟩, ⟨gR (HO_6.out)⟩, ⟨gB (BK598.out)⟩, ⟨bl1 HB GE598⟩⟩
    rw [if_pos c11] at H
    have c11b0 : decide (x7_1 < (l1.length : Int)) = true := decide_eq_true c11
    clear c11
    (first | rw [c11b0] | (simp only [i64_w, i32_w]; rw [c11b0]) | skip)
    replace H := Option.bind_eq_some_iff.mp H
    obtain ⟨t605, A120, H⟩ := H
    replace H : (spec_SpanningLines.j1 k1 l1 x5_1 x6_1 x7_1 t605 a0_0 l0_1) = some r := H
    have A12 := Aside0.mk A120
    clear A120
    have H' := Aside0.mk H
    clear H
    have hcz13_0 : wr.cell? ⟨gb598, 0, none⟩ = some (.int .i64 a0_0) := (blk_cell BK598.out 0).trans rfl
    have hcz13_1 : wr.cell? ⟨gb598, 1, none⟩ = some (.slice A0_1 l0_1.length c0_1) := (blk_cell BK598.out 1).trans rfl
    have hfz13_0 := blk_frozen BK598.out 0
    have hfz13_1 := blk_frozen BK598.out 1
    go_wp2_with (first | (go_at_call 34; (with_reducible refine (spec_StateValid.calls k1 a0_0 _ _ l0_1 _ _ l1 t605 _ ?side1 ?side2 ?side3 ?side4 A12.out).mono ?_); (case side1 => exact gC ((Kd.C_below HR0_1.out HB.out))); (case side2 => exact HC0_1.out); (case side3 => exact gC ((Kd.C_below HR1.out HB.out))); (case side4 => exact HC1.out); rintro e w14 ⟨rfl, hb⟩; have n0_ := aM (Kd.R_below (gR (HO_5.out)) hb); have n1_ := aM (Kd.R_below (gR (HO_6.out)) hb); have n2_ := aM (blk_below (g := gb598) (o := .cells #[.int .i64 a0_0, .slice A0_1 l0_1.length c0_1] 25 (0, 0)) (gB (BK598.out)) hb); have n3_ := aM (below_step (bl1 HB GE598) hb); clear HO_5; clear HO_6; clear BK598; clear HB; have HO_5 := n0_; have HO_6 := n1_; have BK598 := n2_; have HB := n3_; clear n0_ n1_ n2_ n3_; (try clear hb); (try clear hb2); (try clear hk); (try clear hi)))
    go_meet
    case rel => exact ⟨_, (t605), fS, H', ⟨by have := HK1.out; first | omega | exact Nat.le_refl _⟩, ⟨gR (HO_5.out)⟩, ⟨gR (HO_6.out)⟩, ⟨gB (BK598.out)⟩, ⟨bl1 HB GE598⟩⟩
   case rest =>
    clear HC10
    try clear c1
    try clear p2
    try clear c3
    try clear c3b0
    try clear c3b1
    try clear c4
    try clear c4b0
    try clear c4b1
    try clear c11
    try clear c11b0
    try clear hcz13_0
    try clear hcz13_1
    try clear hfz13_0
    try clear hfz13_1
    try clear p2
    obtain ⟨kq, x20_9, rfl, HA, HJ9, HO_5, HO_6, BK598, HB⟩ := hcut
    cases kq with
    | zero => exact absurd HA.out (by simp [spec_SpanningLines.j1])
    | succ kj9 =>
     have H := HA.out
     clear HA
     simp only [spec_SpanningLines.j1] at H
     by_cases c15 : x20_9 = true
     rotate_left
     ·
      replace c15 := Bool.eq_false_iff.mpr c15
      subst c15
      have H1 : (some x5_1) = some r := by rw [if_neg (show ¬ (false = true) by decide)] at H; exact H
      clear H
      have H := H1
      clear H1
      obtain rfl := Option.some.inj H
      go_wp2
      go_ret
      exact ⟨_, fR, gR (HO_5.out), bl1 HB GE598⟩
     subst c15
     have H1 : (if 0 ≤ x7_1 then (if x7_1 < (l1.length : Int) then (if rdOf false l1 x7_1 = true then (if x7_1 < (l0_1.length : Int) then ((spec_SameIsland.f kj9 a0_0 l0_1 x6_1 ((rd_T79 l0_1 x7_1).f0) ((rd_T79 l0_1 x7_1).f1)).bind fun t609 => (if t609 = true then (spec_SpanningLines.l0 kj9 l1 x5_1 x6_1 (wrap64 (x7_1 + 1)) a0_0 l0_1) else (if x7_1 < (x6_1.length : Int) then (if x5_1.length < 17592186044416 then (spec_SpanningLines.l0 kj9 l1 (x5_1 ++ [x7_1]) (x6_1.set (x7_1 : Int).toNat true) (wrap64 (x7_1 + 1)) a0_0 l0_1) else (none)) else (none)))) else (none)) else (spec_SpanningLines.l0 kj9 l1 x5_1 x6_1 (wrap64 (x7_1 + 1)) a0_0 l0_1)) else (none)) else (none)) = some r := by rw [if_pos rfl] at H; exact H
     clear H
     have H := H1
     clear H1
     by_cases c16 : 0 ≤ x7_1
     rotate_left
     ·
      rw [if_neg c16] at H
      exact absurd H (by simp)
     rw [if_pos c16] at H
     have c16b0 : decide (0 ≤ x7_1) = true := decide_eq_true c16
     clear c16
     by_cases c17 : x7_1 < (l1.length : Int)
     rotate_left
     ·
      rw [if_neg c17] at H
      exact absurd H (by simp)
     rw [if_pos c17] at H
     have c17b0 : decide (x7_1 < (l1.length : Int)) = true := decide_eq_true c17
     clear c17
     obtain ⟨bq18, hbq18⟩ : ∃ b_ : Bool, b_ = (rdOf false l1 x7_1) := ⟨_, rfl⟩
     replace H : (if bq18 = true then (if x7_1 < (l0_1.length : Int) then ((spec_SameIsland.f kj9 a0_0 l0_1 x6_1 ((rd_T79 l0_1 x7_1).f0) ((rd_T79 l0_1 x7_1).f1)).bind fun t609 => (if t609 = true then (spec_SpanningLines.l0 kj9 l1 x5_1 x6_1 (wrap64 (x7_1 + 1)) a0_0 l0_1) else (if x7_1 < (x6_1.length : Int) then (if x5_1.length < 17592186044416 then (spec_SpanningLines.l0 kj9 l1 (x5_1 ++ [x7_1]) (x6_1.set (x7_1 : Int).toNat true) (wrap64 (x7_1 + 1)) a0_0 l0_1) else (none)) else (none)))) else (none)) else (spec_SpanningLines.l0 kj9 l1 x5_1 x6_1 (wrap64 (x7_1 + 1)) a0_0 l0_1)) = some r := by rw [← hbq18] at H; exact H
     have Nbq18 := Aside0.mk hbq18
     clear hbq18
     by_cases c19 : bq18 = true
     rotate_left
     ·
      replace c19 := Bool.eq_false_iff.mpr c19
      subst c19
      have H1 : (spec_SpanningLines.l0 kj9 l1 x5_1 x6_1 (wrap64 (x7_1 + 1)) a0_0 l0_1) = some r := by rw [if_neg (show ¬ (false = true) by decide)] at H; exact H
      clear H
      have H := H1
      clear H1
      have H' := Aside0.mk H
      clear H
      try go_wp2
      have n0_ := aM (Kd.R_drew HO_5.out)
      have n1_ := aM (Kd.R_drew HO_6.out)
      have n2_ := aM (blk_drew BK598.out)
      have n3_ := aM (below_drew1 HB.out)
      clear HO_5
      clear HO_6
      clear BK598
      clear HB
      have HO_5 := n0_
      have HO_6 := n1_
      have BK598 := n2_
      have HB := n3_
      clear n0_ n1_ n2_ n3_
      have p606 : 0 ≤ (x7_1 : Int) := oD
      have q606 : x7_1 < (l1.length : Int) := oD
      obtain ⟨ad606, e606, hx606_0⟩ := Kd.at_bool HR1.out x7_1 p606 q606
      have hw606_0 := hx606_0
      (try rw [← Nbq18.out] at hx606_0)
      cases e606
      replace hx606_0 := (HB.out.cell (World.block_lt_of_cell? w _ hx606_0)).trans hx606_0
      replace p606 := eq_true p606
      replace q606 := eq_true q606
      refine start_ (n := 22) (S := fun w' => w'.cell? (ad606.add (x7_1).toNat) = some (.bool false)) (ds := []) #[zz,zz,zz,zz,zz,zz,zz,zz,zz,zz,zz,zz,zz,zz,zz,zz,zz,zz,zz,zz,zz,zz] (by kernel_rfl) rfl rfl (((HB.out.cell (World.block_lt_of_cell? w _ hw606_0)).trans (by first | exact hw606_0 | (refine (hw606_0).trans ?_; congr 2; first | assumption | exact Eq.symm (Aside0.out (by assumption)) | exact Aside0.out (by assumption))))) (fun hHeld => ?_); refine with_tabW spec_SpanningLines.tab6 spec_SpanningLines.bits6 (fun HT_ HW_ => ?_)
      generalize wc.drew = w35 at HO_5 HO_6 BK598 HB hx606_0 hHeld ⊢
      refine pure_ (i := 0) (N := some 23) (v := ?_) (a' := ?_) #[oo,zz,zz,zz,zz,zz,zz,zz,zz,zz,zz,zz,zz,zz,zz,zz,zz,zz,zz,zz,zz,zz] rfl rfl (any_of HT_.out (by kernel_rfl)) (fun _ _ _ h => h) (Or.inl ⟨by rfl, ?_⟩) ?_ ?_
      rotate_left
      ·
       intro w'
       go_simp
       with_reducible rfl
      rotate_left
      ·
       simp only [Act.put, List.setIfInBounds_toArray, List.set_cons_zero, List.set_cons_succ, i64_w, i32_w]
       rfl
      refine pure_ (i := 1) (N := some 24) (v := ?_) (a' := ?_) #[oo,oo,zz,zz,zz,zz,zz,zz,zz,zz,zz,zz,zz,zz,zz,zz,zz,zz,zz,zz,zz,zz] rfl rfl (any_of HT_.out (by kernel_rfl)) (fun _ _ _ h => h) (Or.inl ⟨by rfl, ?_⟩) ?_ ?_
      rotate_left
      ·
       intro w'
       go_simp
       with_reducible rfl
      rotate_left
      ·
       simp only [Act.put, List.setIfInBounds_toArray, List.set_cons_zero, List.set_cons_succ, i64_w, i32_w]
       rfl
      refine pure_ (i := 2) (N := some 25) (v := ?_) (a' := ?_) #[oo,oo,oo,zz,zz,zz,zz,zz,zz,zz,zz,zz,zz,zz,zz,zz,zz,zz,zz,zz,zz,zz] rfl rfl (any_of HT_.out (by kernel_rfl)) (fun _ _ _ h => h) (Or.inl ⟨by rfl, ?_⟩) ?_ ?_
      rotate_left
      ·
       intro w'
       go_simp
       with_reducible rfl
      rotate_left
      ·
       simp only [Act.put, List.setIfInBounds_toArray, List.set_cons_zero, List.set_cons_succ, i64_w, i32_w]
       rfl
      refine take_ (i := 3) (N := some 26) (v := ?_) (a' := ?_) #[oo,oo,oo,oo,zz,zz,zz,zz,zz,zz,zz,zz,zz,zz,zz,zz,zz,zz,zz,zz,zz,zz] rfl rfl (take_ofW HT_.out HW_.out (by kernel_rfl)) (fun _ _ _ h => h) (Or.inl ⟨by rfl, ?_⟩) hHeld ?_ ?_
      rotate_left
      ·
       intro w' s0
       go_simp
       with_reducible rfl
      rotate_left
      ·
       simp only [Act.put, List.setIfInBounds_toArray, List.set_cons_zero, List.set_cons_succ, i64_w, i32_w]
       rfl
      refine pure_ (i := 4) (N := some 27) (v := ?_) (a' := ?_) #[oo,oo,oo,oo,oo,zz,zz,zz,zz,zz,zz,zz,zz,zz,zz,zz,zz,zz,zz,zz,zz,zz] rfl rfl (any_of HT_.out (by kernel_rfl)) (fun _ _ _ h => h) (Or.inl ⟨by rfl, ?_⟩) ?_ ?_
      rotate_left
      ·
       intro w'
       go_simp
       with_reducible rfl
      rotate_left
      ·
       simp only [Act.put, List.setIfInBounds_toArray, List.set_cons_zero, List.set_cons_succ, i64_w, i32_w]
       rfl
      refine pure_ (i := 5) (N := some 28) (v := undef) (a' := ?_) #[oo,oo,oo,oo,oo,oo,zz,zz,zz,zz,zz,zz,zz,zz,zz,zz,zz,zz,zz,zz,zz,zz] rfl rfl (any_of HT_.out (by kernel_rfl)) (fun _ _ _ h => h) (Or.inr ⟨by rfl, rfl⟩) ?_ ?_
      rotate_left
      ·
       simp only [Act.put, List.setIfInBounds_toArray, List.set_cons_zero, List.set_cons_succ, i64_w, i32_w]
       rfl
      refine pure_ (i := 6) (N := some 29) (v := undef) (a' := ?_) #[oo,oo,oo,oo,oo,oo,oo,zz,zz,zz,zz,zz,zz,zz,zz,zz,zz,zz,zz,zz,zz,zz] rfl rfl (any_of HT_.out (by kernel_rfl)) (fun _ _ _ h => h) (Or.inr ⟨by rfl, rfl⟩) ?_ ?_
      rotate_left
      ·
       simp only [Act.put, List.setIfInBounds_toArray, List.set_cons_zero, List.set_cons_succ, i64_w, i32_w]
       rfl
      refine pure_ (i := 7) (N := some 30) (v := undef) (a' := ?_) #[oo,oo,oo,oo,oo,oo,oo,oo,zz,zz,zz,zz,zz,zz,zz,zz,zz,zz,zz,zz,zz,zz] rfl rfl (any_of HT_.out (by kernel_rfl)) (fun _ _ _ h => h) (Or.inr ⟨by rfl, rfl⟩) ?_ ?_
      rotate_left
      ·
       simp only [Act.put, List.setIfInBounds_toArray, List.set_cons_zero, List.set_cons_succ, i64_w, i32_w]
       rfl
      refine pure_ (i := 8) (N := some 31) (v := undef) (a' := ?_) #[oo,oo,oo,oo,oo,oo,oo,oo,oo,zz,zz,zz,zz,zz,zz,zz,zz,zz,zz,zz,zz,zz] rfl rfl (any_of HT_.out (by kernel_rfl)) (fun _ _ _ h => h) (Or.inr ⟨by rfl, rfl⟩) ?_ ?_
      rotate_left
      ·
       simp only [Act.put, List.setIfInBounds_toArray, List.set_cons_zero, List.set_cons_succ, i64_w, i32_w]
       rfl
      refine pure_ (i := 9) (N := some 32) (v := undef) (a' := ?_) #[oo,oo,oo,oo,oo,oo,oo,oo,oo,oo,zz,zz,zz,zz,zz,zz,zz,zz,zz,zz,zz,zz] rfl rfl (any_of HT_.out (by kernel_rfl)) (fun _ _ _ h => h) (Or.inr ⟨by rfl, rfl⟩) ?_ ?_
      rotate_left
      ·
       simp only [Act.put, List.setIfInBounds_toArray, List.set_cons_zero, List.set_cons_succ, i64_w, i32_w]
       rfl
      refine pure_ (i := 10) (N := some 33) (v := undef) (a' := ?_) #[oo,oo,oo,oo,oo,oo,oo,oo,oo,oo,oo,zz,zz,zz,zz,zz,zz,zz,zz,zz,zz,zz] rfl rfl (any_of HT_.out (by kernel_rfl)) (fun _ _ _ h => h) (Or.inr ⟨by rfl, rfl⟩) ?_ ?_
      rotate_left
      ·
       simp only [Act.put, List.setIfInBounds_toArray, List.set_cons_zero, List.set_cons_succ, i64_w, i32_w]
       rfl
      refine pure_ (i := 11) (N := some 34) (v := undef) (a' := ?_) #[oo,oo,oo,oo,oo,oo,oo,oo,oo,oo,oo,oo,zz,zz,zz,zz,zz,zz,zz,zz,zz,zz] rfl rfl (any_of HT_.out (by kernel_rfl)) (fun _ _ _ h => h) (Or.inr ⟨by rfl, rfl⟩) ?_ ?_
      rotate_left
      ·
       simp only [Act.put, List.setIfInBounds_toArray, List.set_cons_zero, List.set_cons_succ, i64_w, i32_w]
       rfl
      refine pure_ (i := 12) (N := some 35) (v := undef) (a' := ?_) #[oo,oo,oo,oo,oo,oo,oo,oo,oo,oo,oo,oo,oo,zz,zz,zz,zz,zz,zz,zz,zz,zz] rfl rfl (any_of HT_.out (by kernel_rfl)) (fun _ _ _ h => h) (Or.inr ⟨by rfl, rfl⟩) ?_ ?_
      rotate_left
      ·
       simp only [Act.put, List.setIfInBounds_toArray, List.set_cons_zero, List.set_cons_succ, i64_w, i32_w]
       rfl
      refine pure_ (i := 13) (N := some 36) (v := undef) (a' := ?_) #[oo,oo,oo,oo,oo,oo,oo,oo,oo,oo,oo,oo,oo,oo,zz,zz,zz,zz,zz,zz,zz,zz] rfl rfl (any_of HT_.out (by kernel_rfl)) (fun _ _ _ h => h) (Or.inr ⟨by rfl, rfl⟩) ?_ ?_
      rotate_left
      ·
       simp only [Act.put, List.setIfInBounds_toArray, List.set_cons_zero, List.set_cons_succ, i64_w, i32_w]
       rfl
      refine pure_ (i := 14) (N := some 37) (v := undef) (a' := ?_) #[oo,oo,oo,oo,oo,oo,oo,oo,oo,oo,oo,oo,oo,oo,oo,zz,zz,zz,zz,zz,zz,zz] rfl rfl (any_of HT_.out (by kernel_rfl)) (fun _ _ _ h => h) (Or.inr ⟨by rfl, rfl⟩) ?_ ?_
      rotate_left
      ·
       simp only [Act.put, List.setIfInBounds_toArray, List.set_cons_zero, List.set_cons_succ, i64_w, i32_w]
       rfl
      refine pure_ (i := 15) (N := some 38) (v := undef) (a' := ?_) #[oo,oo,oo,oo,oo,oo,oo,oo,oo,oo,oo,oo,oo,oo,oo,oo,zz,zz,zz,zz,zz,zz] rfl rfl (any_of HT_.out (by kernel_rfl)) (fun _ _ _ h => h) (Or.inr ⟨by rfl, rfl⟩) ?_ ?_
      rotate_left
      ·
       simp only [Act.put, List.setIfInBounds_toArray, List.set_cons_zero, List.set_cons_succ, i64_w, i32_w]
       rfl
      refine pure_ (i := 16) (N := some 39) (v := undef) (a' := ?_) #[oo,oo,oo,oo,oo,oo,oo,oo,oo,oo,oo,oo,oo,oo,oo,oo,oo,zz,zz,zz,zz,zz] rfl rfl (any_of HT_.out (by kernel_rfl)) (fun _ _ _ h => h) (Or.inr ⟨by rfl, rfl⟩) ?_ ?_
      rotate_left
      ·
       simp only [Act.put, List.setIfInBounds_toArray, List.set_cons_zero, List.set_cons_succ, i64_w, i32_w]
       rfl
      refine pure_ (i := 17) (N := some 40) (v := undef) (a' := ?_) #[oo,oo,oo,oo,oo,oo,oo,oo,oo,oo,oo,oo,oo,oo,oo,oo,oo,oo,zz,zz,zz,zz] rfl rfl (any_of HT_.out (by kernel_rfl)) (fun _ _ _ h => h) (Or.inr ⟨by rfl, rfl⟩) ?_ ?_
      rotate_left
      ·
       simp only [Act.put, List.setIfInBounds_toArray, List.set_cons_zero, List.set_cons_succ, i64_w, i32_w]
       rfl
      refine pure_ (i := 18) (N := some 41) (v := undef) (a' := ?_) #[oo,oo,oo,oo,oo,oo,oo,oo,oo,oo,oo,oo,oo,oo,oo,oo,oo,oo,oo,zz,zz,zz] rfl rfl (any_of HT_.out (by kernel_rfl)) (fun _ _ _ h => h) (Or.inr ⟨by rfl, rfl⟩) ?_ ?_
      rotate_left
      ·
       simp only [Act.put, List.setIfInBounds_toArray, List.set_cons_zero, List.set_cons_succ, i64_w, i32_w]
       rfl
      refine pure_ (i := 19) (N := some 42) (v := undef) (a' := ?_) #[oo,oo,oo,oo,oo,oo,oo,oo,oo,oo,oo,oo,oo,oo,oo,oo,oo,oo,oo,oo,zz,zz] rfl rfl (any_of HT_.out (by kernel_rfl)) (fun _ _ _ h => h) (Or.inr ⟨by rfl, rfl⟩) ?_ ?_
      rotate_left
      ·
       simp only [Act.put, List.setIfInBounds_toArray, List.set_cons_zero, List.set_cons_succ, i64_w, i32_w]
       rfl
      refine pure_ (i := 20) (N := some 43) (v := undef) (a' := ?_) #[oo,oo,oo,oo,oo,oo,oo,oo,oo,oo,oo,oo,oo,oo,oo,oo,oo,oo,oo,oo,oo,zz] rfl rfl (any_of HT_.out (by kernel_rfl)) (fun _ _ _ h => h) (Or.inr ⟨by rfl, rfl⟩) ?_ ?_
      rotate_left
      ·
       simp only [Act.put, List.setIfInBounds_toArray, List.set_cons_zero, List.set_cons_succ, i64_w, i32_w]
       rfl
      refine pure_ (i := 21) (N := some 44) (v := ?_) (a' := ?_) #[oo,oo,oo,oo,oo,oo,oo,oo,oo,oo,oo,oo,oo,oo,oo,oo,oo,oo,oo,oo,oo,oo] rfl rfl (any_of HT_.out (by kernel_rfl)) (fun _ _ _ h => h) (Or.inl ⟨by rfl, ?_⟩) ?_ ?_
      rotate_left
      ·
       intro w'
       go_simp
       with_reducible rfl
      rotate_left
      ·
       simp only [Act.put, List.setIfInBounds_toArray, List.set_cons_zero, List.set_cons_succ, i64_w, i32_w]
       rfl
      refine done_ (done_of HT_.out (by kernel_rfl)) ?_
      try go_wp2
      go_roundg kj9
      case measure => have := HK1.out; have := HJ9.out; omega
      case rel => exact ⟨(x5_1), (x6_1), (wrap64 (x7_1 + 1)), fS, H', ⟨by have := HK1.out; have := HJ9.out; omega⟩, ⟨gR (HO_5.out)⟩, ⟨gR (HO_6.out)⟩, ⟨gB (BK598.out)⟩, ⟨bl1 HB GE598⟩⟩
     subst c19
     have H1 : (if x7_1 < (l0_1.length : Int) then ((spec_SameIsland.f kj9 a0_0 l0_1 x6_1 ((rd_T79 l0_1 x7_1).f0) ((rd_T79 l0_1 x7_1).f1)).bind fun t609 => (if t609 = true then (spec_SpanningLines.l0 kj9 l1 x5_1 x6_1 (wrap64 (x7_1 + 1)) a0_0 l0_1) else (if x7_1 < (x6_1.length : Int) then (if x5_1.length < 17592186044416 then (spec_SpanningLines.l0 kj9 l1 (x5_1 ++ [x7_1]) (x6_1.set (x7_1 : Int).toNat true) (wrap64 (x7_1 + 1)) a0_0 l0_1) else (none)) else (none)))) else (none)) = some r := by rw [if_pos rfl] at H; exact H
     clear H
     have H := H1
     clear H1
     by_cases c20 : x7_1 < (l0_1.length : Int)
     rotate_left
     ·
      rw [if_neg c20] at H
      exact absurd H (by simp)
     rw [if_pos c20] at H
     have c20b0 : decide (x7_1 < (l0_1.length : Int)) = true := decide_eq_true c20
     clear c20
     replace H := Option.bind_eq_some_iff.mp H
     obtain ⟨t609, A210, H⟩ := H
     replace H : (if t609 = true then (spec_SpanningLines.l0 kj9 l1 x5_1 x6_1 (wrap64 (x7_1 + 1)) a0_0 l0_1) else (if x7_1 < (x6_1.length : Int) then (if x5_1.length < 17592186044416 then (spec_SpanningLines.l0 kj9 l1 (x5_1 ++ [x7_1]) (x6_1.set (x7_1 : Int).toNat true) (wrap64 (x7_1 + 1)) a0_0 l0_1) else (none)) else (none))) = some r := H
     have A21 := Aside0.mk A210
     clear A210
     by_cases c22 : t609 = true
     ·
      subst c22
      have H1 : (spec_SpanningLines.l0 kj9 l1 x5_1 x6_1 (wrap64 (x7_1 + 1)) a0_0 l0_1) = some r := by rw [if_pos rfl] at H; exact H
      clear H
      have H := H1
      clear H1
      have H' := Aside0.mk H
      clear H
      try go_wp2
      have n0_ := aM (Kd.R_drew HO_5.out)
      have n1_ := aM (Kd.R_drew HO_6.out)
      have n2_ := aM (blk_drew BK598.out)
      have n3_ := aM (below_drew1 HB.out)
      clear HO_5
      clear HO_6
      clear BK598
      clear HB
      have HO_5 := n0_
      have HO_6 := n1_
      have BK598 := n2_
      have HB := n3_
      clear n0_ n1_ n2_ n3_
      have p606 : 0 ≤ (x7_1 : Int) := oD
      have q606 : x7_1 < (l1.length : Int) := oD
      obtain ⟨ad606, e606, hx606_0⟩ := Kd.at_bool HR1.out x7_1 p606 q606
      have hw606_0 := hx606_0
      (try rw [← Nbq18.out] at hx606_0)
      cases e606
      replace hx606_0 := (HB.out.cell (World.block_lt_of_cell? w _ hx606_0)).trans hx606_0
      replace p606 := eq_true p606
      replace q606 := eq_true q606
      have p607 : 0 ≤ (x7_1 : Int) := oD
      have q607 : x7_1 < (l0_1.length : Int) := oD
      obtain ⟨ad607, e607, hx607_0, hx607_1, hx607_2⟩ := at_T79 HR0_1.out x7_1 p607 q607
      have hw607_2 := hx607_2
      have hw607_1 := hx607_1
      have hw607_0 := hx607_0
      cases e607
      replace hx607_0 := (HB.out.cell (World.block_lt_of_cell? w _ hx607_0)).trans hx607_0
      replace hx607_1 := (HB.out.cell (World.block_lt_of_cell? w _ hx607_1)).trans hx607_1
      replace hx607_2 := (HB.out.cell (World.block_lt_of_cell? w _ hx607_2)).trans hx607_2
      replace p607 := eq_true p607
      replace q607 := eq_true q607
      have p608 : 0 ≤ (x7_1 : Int) := oD
      have q608 : x7_1 < (l0_1.length : Int) := oD
      obtain ⟨ad608, e608, hx608_0, hx608_1, hx608_2⟩ := at_T79 HR0_1.out x7_1 p608 q608
      have hw608_2 := hx608_2
      have hw608_1 := hx608_1
      have hw608_0 := hx608_0
      obtain rfl : ad607 = ad608 := (by injection e608)
      replace hx608_0 := (HB.out.cell (World.block_lt_of_cell? w _ hx608_0)).trans hx608_0
      replace hx608_1 := (HB.out.cell (World.block_lt_of_cell? w _ hx608_1)).trans hx608_1
      replace hx608_2 := (HB.out.cell (World.block_lt_of_cell? w _ hx608_2)).trans hx608_2
      replace p608 := eq_true p608
      replace q608 := eq_true q608
      obtain ⟨Ao24, co24, eo24⟩ := Kd.R_slice HO_6.out
      (first | subst eo24 | (injection eo24 with f1_ f2_ f3_; have f4_ := f1_.symm; have f5_ := f3_.symm; clear f1_ f2_ f3_; subst f4_; subst f5_))
      refine start_ (n := 22) (S := fun w' => w'.cell? ⟨gb598, 0, none⟩ = some (.int .i64 a0_0) ∧ w'.cell? ⟨gb598, 1, none⟩ = some (.slice (some ad607) l0_1.length c0_1) ∧ w'.cell? (ad606.add (x7_1).toNat) = some (.bool true) ∧ w'.cell? (ad607.add ((x7_1).toNat * 3)) = some (.int .i64 ((rd_T79 l0_1 x7_1).f0)) ∧ w'.cell? ⟨(ad607.add ((x7_1).toNat * 3)).block, (ad607.add ((x7_1).toNat * 3)).off + 1, none⟩ = some (.int .i64 ((rd_T79 l0_1 x7_1).f1)) ∧ w'.cell? ⟨(ad607.add ((x7_1).toNat * 3)).block, (ad607.add ((x7_1).toNat * 3)).off + 2, none⟩ = some (.int .i64 ((rd_T79 l0_1 x7_1).f2)) ∧ w'.cell? (ad607.add ((x7_1).toNat * 3)) = some (.int .i64 ((rd_T79 l0_1 x7_1).f0)) ∧ w'.cell? ⟨(ad607.add ((x7_1).toNat * 3)).block, (ad607.add ((x7_1).toNat * 3)).off + 1, none⟩ = some (.int .i64 ((rd_T79 l0_1 x7_1).f1)) ∧ w'.cell? ⟨(ad607.add ((x7_1).toNat * 3)).block, (ad607.add ((x7_1).toNat * 3)).off + 2, none⟩ = some (.int .i64 ((rd_T79 l0_1 x7_1).f2))) (ds := []) #[zz,zz,zz,zz,zz,zz,zz,zz,zz,zz,zz,zz,zz,zz,zz,zz,zz,zz,zz,zz,zz,zz] (by kernel_rfl) rfl rfl ⟨(blk_cell BK598.out 0).trans rfl, (blk_cell BK598.out 1).trans rfl, ((HB.out.cell (World.block_lt_of_cell? w _ hw606_0)).trans (by first | exact hw606_0 | (refine (hw606_0).trans ?_; congr 2; first | assumption | exact Eq.symm (Aside0.out (by assumption)) | exact Aside0.out (by assumption)))), ((HB.out.cell (World.block_lt_of_cell? w _ hw607_0)).trans (by first | exact hw607_0 | (refine (hw607_0).trans ?_; congr 2; first | assumption | exact Eq.symm (Aside0.out (by assumption)) | exact Aside0.out (by assumption)))), ((HB.out.cell (World.block_lt_of_cell? w _ hw607_1)).trans (by first | exact hw607_1 | (refine (hw607_1).trans ?_; congr 2; first | assumption | exact Eq.symm (Aside0.out (by assumption)) | exact Aside0.out (by assumption)))), ((HB.out.cell (World.block_lt_of_cell? w _ hw607_2)).trans (by first | exact hw607_2 | (refine (hw607_2).trans ?_; congr 2; first | assumption | exact Eq.symm (Aside0.out (by assumption)) | exact Aside0.out (by assumption)))), ((HB.out.cell (World.block_lt_of_cell? w _ hw608_0)).trans (by first | exact hw608_0 | (refine (hw608_0).trans ?_; congr 2; first | assumption | exact Eq.symm (Aside0.out (by assumption)) | exact Aside0.out (by assumption)))), ((HB.out.cell (World.block_lt_of_cell? w _ hw608_1)).trans (by first | exact hw608_1 | (refine (hw608_1).trans ?_; congr 2; first | assumption | exact Eq.symm (Aside0.out (by assumption)) | exact Aside0.out (by assumption)))), ((HB.out.cell (World.block_lt_of_cell? w _ hw608_2)).trans (by first | exact hw608_2 | (refine (hw608_2).trans ?_; congr 2; first | assumption | exact Eq.symm (Aside0.out (by assumption)) | exact Aside0.out (by assumption))))⟩ (fun hHeld => ?_); refine with_tabW spec_SpanningLines.tab6 spec_SpanningLines.bits6 (fun HT_ HW_ => ?_)
      generalize wc.drew = w23 at HO_5 HO_6 BK598 HB hx606_0 hx607_0 hx607_1 hx607_2 hx608_0 hx608_1 hx608_2 hHeld ⊢
      refine pure_ (i := 0) (N := some 23) (v := ?_) (a' := ?_) #[oo,zz,zz,zz,zz,zz,zz,zz,zz,zz,zz,zz,zz,zz,zz,zz,zz,zz,zz,zz,zz,zz] rfl rfl (any_of HT_.out (by kernel_rfl)) (fun _ _ _ h => h) (Or.inl ⟨by rfl, ?_⟩) ?_ ?_
      rotate_left
      ·
       intro w'
       go_simp
       with_reducible rfl
      rotate_left
      ·
       simp only [Act.put, List.setIfInBounds_toArray, List.set_cons_zero, List.set_cons_succ, i64_w, i32_w]
       rfl
      refine pure_ (i := 1) (N := some 24) (v := ?_) (a' := ?_) #[oo,oo,zz,zz,zz,zz,zz,zz,zz,zz,zz,zz,zz,zz,zz,zz,zz,zz,zz,zz,zz,zz] rfl rfl (any_of HT_.out (by kernel_rfl)) (fun _ _ _ h => h) (Or.inl ⟨by rfl, ?_⟩) ?_ ?_
      rotate_left
      ·
       intro w'
       go_simp
       with_reducible rfl
      rotate_left
      ·
       simp only [Act.put, List.setIfInBounds_toArray, List.set_cons_zero, List.set_cons_succ, i64_w, i32_w]
       rfl
      refine pure_ (i := 2) (N := some 25) (v := ?_) (a' := ?_) #[oo,oo,oo,zz,zz,zz,zz,zz,zz,zz,zz,zz,zz,zz,zz,zz,zz,zz,zz,zz,zz,zz] rfl rfl (any_of HT_.out (by kernel_rfl)) (fun _ _ _ h => h) (Or.inl ⟨by rfl, ?_⟩) ?_ ?_
      rotate_left
      ·
       intro w'
       go_simp
       with_reducible rfl
      rotate_left
      ·
       simp only [Act.put, List.setIfInBounds_toArray, List.set_cons_zero, List.set_cons_succ, i64_w, i32_w]
       rfl
      refine take_ (i := 3) (N := some 26) (v := ?_) (a' := ?_) #[oo,oo,oo,oo,zz,zz,zz,zz,zz,zz,zz,zz,zz,zz,zz,zz,zz,zz,zz,zz,zz,zz] rfl rfl (take_ofW HT_.out HW_.out (by kernel_rfl)) (fun _ _ _ h => h) (Or.inl ⟨by rfl, ?_⟩) hHeld ?_ ?_
      rotate_left
      ·
       rintro w' ⟨s0, s1, s2, s3, s4, s5, s6, s7, s8⟩
       go_simp
       with_reducible rfl
      rotate_left
      ·
       simp only [Act.put, List.setIfInBounds_toArray, List.set_cons_zero, List.set_cons_succ, i64_w, i32_w]
       rfl
      refine pure_ (i := 4) (N := some 27) (v := ?_) (a' := ?_) #[oo,oo,oo,oo,oo,zz,zz,zz,zz,zz,zz,zz,zz,zz,zz,zz,zz,zz,zz,zz,zz,zz] rfl rfl (any_of HT_.out (by kernel_rfl)) (fun _ _ _ h => h) (Or.inl ⟨by rfl, ?_⟩) ?_ ?_
      rotate_left
      ·
       intro w'
       go_simp
       with_reducible rfl
      rotate_left
      ·
       simp only [Act.put, List.setIfInBounds_toArray, List.set_cons_zero, List.set_cons_succ, i64_w, i32_w]
       rfl
      refine pure_ (i := 6) (N := some 29) (v := ?_) (a' := ?_) #[oo,oo,oo,oo,oo,zz,oo,zz,zz,zz,zz,zz,zz,zz,zz,zz,zz,zz,zz,zz,zz,zz] rfl rfl (any_of HT_.out (by kernel_rfl)) (fun _ _ _ h => h) (Or.inl ⟨by rfl, ?_⟩) ?_ ?_
      rotate_left
      ·
       intro w'
       go_simp
       with_reducible rfl
      rotate_left
      ·
       simp only [Act.put, List.setIfInBounds_toArray, List.set_cons_zero, List.set_cons_succ, i64_w, i32_w]
       rfl
      refine pure_ (i := 7) (N := some 30) (v := ?_) (a' := ?_) #[oo,oo,oo,oo,oo,zz,oo,oo,zz,zz,zz,zz,zz,zz,zz,zz,zz,zz,zz,zz,zz,zz] rfl rfl (any_of HT_.out (by kernel_rfl)) (fun _ _ _ h => h) (Or.inl ⟨by rfl, ?_⟩) ?_ ?_
      rotate_left
      ·
       intro w'
       go_simp
       with_reducible rfl
      rotate_left
      ·
       simp only [Act.put, List.setIfInBounds_toArray, List.set_cons_zero, List.set_cons_succ, i64_w, i32_w]
       rfl
      refine pure_ (i := 9) (N := some 32) (v := ?_) (a' := ?_) #[oo,oo,oo,oo,oo,zz,oo,oo,zz,oo,zz,zz,zz,zz,zz,zz,zz,zz,zz,zz,zz,zz] rfl rfl (any_of HT_.out (by kernel_rfl)) (fun _ _ _ h => h) (Or.inl ⟨by rfl, ?_⟩) ?_ ?_
      rotate_left
      ·
       intro w'
       go_simp
       with_reducible rfl
      rotate_left
      ·
       simp only [Act.put, List.setIfInBounds_toArray, List.set_cons_zero, List.set_cons_succ, i64_w, i32_w]
       rfl
      refine pure_ (i := 13) (N := some 36) (v := ?_) (a' := ?_) #[oo,oo,oo,oo,oo,zz,oo,oo,zz,oo,zz,zz,zz,oo,zz,zz,zz,zz,zz,zz,zz,zz] rfl rfl (any_of HT_.out (by kernel_rfl)) (fun _ _ _ h => h) (Or.inl ⟨by rfl, ?_⟩) ?_ ?_
      rotate_left
      ·
       intro w'
       go_simp
       with_reducible rfl
      rotate_left
      ·
       simp only [Act.put, List.setIfInBounds_toArray, List.set_cons_zero, List.set_cons_succ, i64_w, i32_w]
       rfl
      refine pure_ (i := 15) (N := some 38) (v := ?_) (a' := ?_) #[oo,oo,oo,oo,oo,zz,oo,oo,zz,oo,zz,zz,zz,oo,zz,oo,zz,zz,zz,zz,zz,zz] rfl rfl (any_of HT_.out (by kernel_rfl)) (fun _ _ _ h => h) (Or.inl ⟨by rfl, ?_⟩) ?_ ?_
      rotate_left
      ·
       intro w'
       go_simp
       with_reducible rfl
      rotate_left
      ·
       simp only [Act.put, List.setIfInBounds_toArray, List.set_cons_zero, List.set_cons_succ, i64_w, i32_w]
       rfl
      refine take_ (i := 5) (N := some 28) (v := ?_) (a' := ?_) #[oo,oo,oo,oo,oo,oo,oo,oo,zz,oo,zz,zz,zz,oo,zz,oo,zz,zz,zz,zz,zz,zz] rfl rfl (take_ofW HT_.out HW_.out (by kernel_rfl)) (fun _ _ _ h => h) (Or.inl ⟨by rfl, ?_⟩) hHeld ?_ ?_
      rotate_left
      ·
       rintro w' ⟨s0, s1, s2, s3, s4, s5, s6, s7, s8⟩
       go_simp
       with_reducible rfl
      rotate_left
      ·
       simp only [Act.put, List.setIfInBounds_toArray, List.set_cons_zero, List.set_cons_succ, i64_w, i32_w]
       rfl
      refine take_ (i := 8) (N := some 31) (v := ?_) (a' := ?_) #[oo,oo,oo,oo,oo,oo,oo,oo,oo,oo,zz,zz,zz,oo,zz,oo,zz,zz,zz,zz,zz,zz] rfl rfl (take_ofW HT_.out HW_.out (by kernel_rfl)) (fun _ _ _ h => h) (Or.inl ⟨by rfl, ?_⟩) hHeld ?_ ?_
      rotate_left
      ·
       rintro w' ⟨s0, s1, s2, s3, s4, s5, s6, s7, s8⟩
       go_simp
       with_reducible rfl
      rotate_left
      ·
       simp only [Act.put, List.setIfInBounds_toArray, List.set_cons_zero, List.set_cons_succ, i64_w, i32_w]
       rfl
      refine pure_ (i := 10) (N := some 33) (v := ?_) (a' := ?_) #[oo,oo,oo,oo,oo,oo,oo,oo,oo,oo,oo,zz,zz,oo,zz,oo,zz,zz,zz,zz,zz,zz] rfl rfl (any_of HT_.out (by kernel_rfl)) (fun _ _ _ h => h) (Or.inl ⟨by rfl, ?_⟩) ?_ ?_
      rotate_left
      ·
       intro w'
       go_simp
       with_reducible rfl
      rotate_left
      ·
       simp only [Act.put, List.setIfInBounds_toArray, List.set_cons_zero, List.set_cons_succ, i64_w, i32_w]
       rfl
      refine pure_ (i := 11) (N := some 34) (v := ?_) (a' := ?_) #[oo,oo,oo,oo,oo,oo,oo,oo,oo,oo,oo,oo,zz,oo,zz,oo,zz,zz,zz,zz,zz,zz] rfl rfl (any_of HT_.out (by kernel_rfl)) (fun _ _ _ h => h) (Or.inl ⟨by rfl, ?_⟩) ?_ ?_
      rotate_left
      ·
       intro w'
       go_simp
       with_reducible rfl
      rotate_left
      ·
       simp only [Act.put, List.setIfInBounds_toArray, List.set_cons_zero, List.set_cons_succ, i64_w, i32_w]
       rfl
      refine take_ (i := 12) (N := some 35) (v := ?_) (a' := ?_) #[oo,oo,oo,oo,oo,oo,oo,oo,oo,oo,oo,oo,oo,oo,zz,oo,zz,zz,zz,zz,zz,zz] rfl rfl (take_ofW HT_.out HW_.out (by kernel_rfl)) (fun _ _ _ h => h) (Or.inl ⟨by rfl, ?_⟩) hHeld ?_ ?_
      rotate_left
      ·
       rintro w' ⟨s0, s1, s2, s3, s4, s5, s6, s7, s8⟩
       go_simp
       with_reducible rfl
      rotate_left
      ·
       simp only [Act.put, List.setIfInBounds_toArray, List.set_cons_zero, List.set_cons_succ, i64_w, i32_w]
       rfl
      refine take_ (i := 14) (N := some 37) (v := ?_) (a' := ?_) #[oo,oo,oo,oo,oo,oo,oo,oo,oo,oo,oo,oo,oo,oo,oo,oo,zz,zz,zz,zz,zz,zz] rfl rfl (take_ofW HT_.out HW_.out (by kernel_rfl)) (fun _ _ _ h => h) (Or.inl ⟨by rfl, ?_⟩) hHeld ?_ ?_
      rotate_left
      ·
       rintro w' ⟨s0, s1, s2, s3, s4, s5, s6, s7, s8⟩
       go_simp
       with_reducible rfl
      rotate_left
      ·
       simp only [Act.put, List.setIfInBounds_toArray, List.set_cons_zero, List.set_cons_succ, i64_w, i32_w]
       rfl
      refine pure_ (i := 16) (N := some 39) (v := ?_) (a' := ?_) #[oo,oo,oo,oo,oo,oo,oo,oo,oo,oo,oo,oo,oo,oo,oo,oo,oo,zz,zz,zz,zz,zz] rfl rfl (any_of HT_.out (by kernel_rfl)) (fun _ _ _ h => h) (Or.inl ⟨by rfl, ?_⟩) ?_ ?_
      rotate_left
      ·
       intro w'
       go_simp
       with_reducible rfl
      rotate_left
      ·
       simp only [Act.put, List.setIfInBounds_toArray, List.set_cons_zero, List.set_cons_succ, i64_w, i32_w]
       rfl
      refine pure_ (i := 17) (N := some 40) (v := ?_) (a' := ?_) #[oo,oo,oo,oo,oo,oo,oo,oo,oo,oo,oo,oo,oo,oo,oo,oo,oo,oo,zz,zz,zz,zz] rfl rfl (any_of HT_.out (by kernel_rfl)) (fun _ _ _ h => h) (Or.inl ⟨by rfl, ?_⟩) ?_ ?_
      rotate_left
      ·
       intro w'
       go_simp
       with_reducible rfl
      rotate_left
      ·
       simp only [Act.put, List.setIfInBounds_toArray, List.set_cons_zero, List.set_cons_succ, i64_w, i32_w]
       rfl
      refine take_ (i := 18) (N := some 41) (v := ?_) (a' := ?_) #[oo,oo,oo,oo,oo,oo,oo,oo,oo,oo,oo,oo,oo,oo,oo,oo,oo,oo,oo,zz,zz,zz] rfl rfl (take_ofW HT_.out HW_.out (by kernel_rfl)) (fun _ _ _ h => h) (Or.inl ⟨by rfl, ?_⟩) hHeld ?_ ?_
      rotate_left
      ·
       rintro w' ⟨s0, s1, s2, s3, s4, s5, s6, s7, s8⟩
       go_simp
       with_reducible rfl
      rotate_left
      ·
       simp only [Act.put, List.setIfInBounds_toArray, List.set_cons_zero, List.set_cons_succ, i64_w, i32_w]
       rfl
      refine one_ (i := 19) (N := some 42) #[oo,oo,oo,oo,oo,oo,oo,oo,oo,oo,oo,oo,oo,oo,oo,oo,oo,oo,oo,oo,zz,zz] rfl rfl (one_of HT_.out (by kernel_rfl)) (by decide) (fun K hK => ?_)
      refine goes_ Tryd.func85 (by kernel_rfl) rfl #[.agg #[.int .i64 a0_0, .slice (some ad607) l0_1.length c0_1], .slice Ao24 x6_1.length co24, .int .i64 ((rd_T79 l0_1 x7_1).f0), .int .i64 ((rd_T79 l0_1 x7_1).f1)] (by rfl) rfl rfl mP ?_
      with_reducible refine (spec_SameIsland.calls kj9 a0_0 _ _ l0_1 _ _ x6_1 ((rd_T79 l0_1 x7_1).f0) ((rd_T79 l0_1 x7_1).f1) true _ ?side1 ?side2 ?side3 ?side4 A21.out).mono ?_
      (case side1 => exact gC ((Kd.C_below HR0_1.out HB.out)))
      (case side2 => exact HC0_1.out)
      (case side3 => exact gC ((Kd.R_reads' HO_6.out).2.2))
      (case side4 => exact (Kd.R_reads' HO_6.out).2.1)
      rintro e w25 ⟨rfl, hb⟩
      refine ⟨_, rfl, ?_⟩
      have n0_ := aM (Kd.R_below (gR (HO_5.out)) hb)
      have n1_ := aM (Kd.R_below (gR (HO_6.out)) hb)
      have n2_ := aM (blk_below (g := gb598) (o := .cells #[.int .i64 a0_0, .slice (some ad607) l0_1.length c0_1] 25 (0, 0)) (gB (BK598.out)) hb)
      have n3_ := aM (below_step (bl1 HB GE598) hb)
      clear HO_5
      clear HO_6
      clear BK598
      clear HB
      have HO_5 := n0_
      have HO_6 := n1_
      have BK598 := n2_
      have HB := n3_
      clear n0_ n1_ n2_ n3_
      (try clear hb)
      (try clear hb2)
      (try clear hk)
      (try clear hi)
      refine hK.out _ _ ⟨(blk_cell BK598.out 0).trans rfl, (blk_cell BK598.out 1).trans rfl, ((HB.out.cell (World.block_lt_of_cell? w _ hw606_0)).trans (by first | exact hw606_0 | (refine (hw606_0).trans ?_; congr 2; first | assumption | exact Eq.symm (Aside0.out (by assumption)) | exact Aside0.out (by assumption)))), ((HB.out.cell (World.block_lt_of_cell? w _ hw607_0)).trans (by first | exact hw607_0 | (refine (hw607_0).trans ?_; congr 2; first | assumption | exact Eq.symm (Aside0.out (by assumption)) | exact Aside0.out (by assumption)))), ((HB.out.cell (World.block_lt_of_cell? w _ hw607_1)).trans (by first | exact hw607_1 | (refine (hw607_1).trans ?_; congr 2; first | assumption | exact Eq.symm (Aside0.out (by assumption)) | exact Aside0.out (by assumption)))), ((HB.out.cell (World.block_lt_of_cell? w _ hw607_2)).trans (by first | exact hw607_2 | (refine (hw607_2).trans ?_; congr 2; first | assumption | exact Eq.symm (Aside0.out (by assumption)) | exact Aside0.out (by assumption)))), ((HB.out.cell (World.block_lt_of_cell? w _ hw608_0)).trans (by first | exact hw608_0 | (refine (hw608_0).trans ?_; congr 2; first | assumption | exact Eq.symm (Aside0.out (by assumption)) | exact Aside0.out (by assumption)))), ((HB.out.cell (World.block_lt_of_cell? w _ hw608_1)).trans (by first | exact hw608_1 | (refine (hw608_1).trans ?_; congr 2; first | assumption | exact Eq.symm (Aside0.out (by assumption)) | exact Aside0.out (by assumption)))), ((HB.out.cell (World.block_lt_of_cell? w _ hw608_2)).trans (by first | exact hw608_2 | (refine (hw608_2).trans ?_; congr 2; first | assumption | exact Eq.symm (Aside0.out (by assumption)) | exact Aside0.out (by assumption))))⟩ (fun hHeld => ?_)
      clear hK K
      refine norm_ (a' := ?_) ?_ ?_
      rotate_left
      ·
       show Act.put _ (some 42) _ = _
       simp only [Act.put, List.setIfInBounds_toArray, List.set_cons_zero, List.set_cons_succ, i64_w, i32_w]
       rfl
      refine pure_ (i := 20) (N := some 43) (v := ?_) (a' := ?_) #[oo,oo,oo,oo,oo,oo,oo,oo,oo,oo,oo,oo,oo,oo,oo,oo,oo,oo,oo,oo,oo,zz] rfl rfl (any_of HT_.out (by kernel_rfl)) (fun _ _ _ h => h) (Or.inl ⟨by rfl, ?_⟩) ?_ ?_
      rotate_left
      ·
       intro w'
       go_simp
       with_reducible rfl
      rotate_left
      ·
       simp only [Act.put, List.setIfInBounds_toArray, List.set_cons_zero, List.set_cons_succ, i64_w, i32_w]
       rfl
      refine pure_ (i := 21) (N := some 44) (v := ?_) (a' := ?_) #[oo,oo,oo,oo,oo,oo,oo,oo,oo,oo,oo,oo,oo,oo,oo,oo,oo,oo,oo,oo,oo,oo] rfl rfl (any_of HT_.out (by kernel_rfl)) (fun _ _ _ h => h) (Or.inl ⟨by rfl, ?_⟩) ?_ ?_
      rotate_left
      ·
       intro w'
       go_simp
       with_reducible rfl
      rotate_left
      ·
       simp only [Act.put, List.setIfInBounds_toArray, List.set_cons_zero, List.set_cons_succ, i64_w, i32_w]
       rfl
      refine done_ (done_of HT_.out (by kernel_rfl)) ?_
      try go_wp2
      go_roundg kj9
      case measure => have := HK1.out; have := HJ9.out; omega
      case rel => exact ⟨(x5_1), (x6_1), (wrap64 (x7_1 + 1)), fS, H', ⟨by have := HK1.out; have := HJ9.out; omega⟩, ⟨gR (HO_5.out)⟩, ⟨gR (HO_6.out)⟩, ⟨gB (BK598.out)⟩, ⟨bl1 HB GE598⟩⟩
     replace c22 := Bool.eq_false_iff.mpr c22
     subst c22
     have H1 : (if x7_1 < (x6_1.length : Int) then (if x5_1.length < 17592186044416 then (spec_SpanningLines.l0 kj9 l1 (x5_1 ++ [x7_1]) (x6_1.set (x7_1 : Int).toNat true) (wrap64 (x7_1 + 1)) a0_0 l0_1) else (none)) else (none)) = some r := by rw [if_neg (show ¬ (false = true) by decide)] at H; exact H
     clear H
     have H := H1
     clear H1
     by_cases c26 : x7_1 < (x6_1.length : Int)
     rotate_left
     ·
      rw [if_neg c26] at H
      exact absurd H (by simp)
     rw [if_pos c26] at H
     have c26b0 : decide (x7_1 < (x6_1.length : Int)) = true := decide_eq_true c26
     clear c26
     obtain ⟨y610, hy610⟩ : ∃ y_ : List Bool, y_ = (x6_1.set (x7_1 : Int).toNat true) := ⟨_, rfl⟩
     replace H : (if x5_1.length < 17592186044416 then (spec_SpanningLines.l0 kj9 l1 (x5_1 ++ [x7_1]) y610 (wrap64 (x7_1 + 1)) a0_0 l0_1) else (none)) = some r := by first | (rw [hy610]; with_reducible exact H) | (have H2_ := (Option.bind_some _ _).symm.trans H; rw [hy610]; with_reducible exact H2_) | (have H2_ := (Option.bind_some _ _).symm.trans H; with_reducible exact H2_) | with_reducible exact H | (rw [hy610]; exact H) | exact H
     have Ny610 := Aside0.mk hy610
     clear hy610
     by_cases c28 : x5_1.length < 17592186044416
     rotate_left
     ·
      rw [if_neg c28] at H
      exact absurd H (by simp)
     rw [if_pos c28] at H
     have LMc28 := Aside0.mk c28
     clear c28
     obtain ⟨y611, hy611⟩ : ∃ y_ : List Int, y_ = (x5_1 ++ [x7_1]) := ⟨_, rfl⟩
     replace H : (spec_SpanningLines.l0 kj9 l1 y611 y610 (wrap64 (x7_1 + 1)) a0_0 l0_1) = some r := by first | (rw [hy611]; with_reducible exact H) | (have H2_ := (Option.bind_some _ _).symm.trans H; rw [hy611]; with_reducible exact H2_) | (have H2_ := (Option.bind_some _ _).symm.trans H; with_reducible exact H2_) | with_reducible exact H | (rw [hy611]; exact H) | exact H
     have Ny611 := Aside0.mk hy611
     clear hy611
     have H' := Aside0.mk H
     clear H
     try go_wp2
     have n0_ := aM (Kd.R_drew HO_5.out)
     have n1_ := aM (Kd.R_drew HO_6.out)
     have n2_ := aM (blk_drew BK598.out)
     have n3_ := aM (below_drew1 HB.out)
     clear HO_5
     clear HO_6
     clear BK598
     clear HB
     have HO_5 := n0_
     have HO_6 := n1_
     have BK598 := n2_
     have HB := n3_
     clear n0_ n1_ n2_ n3_
     have p606 : 0 ≤ (x7_1 : Int) := oD
     have q606 : x7_1 < (l1.length : Int) := oD
     obtain ⟨ad606, e606, hx606_0⟩ := Kd.at_bool HR1.out x7_1 p606 q606
     have hw606_0 := hx606_0
     (try rw [← Nbq18.out] at hx606_0)
     cases e606
     replace hx606_0 := (HB.out.cell (World.block_lt_of_cell? w _ hx606_0)).trans hx606_0
     replace p606 := eq_true p606
     replace q606 := eq_true q606
     have p607 : 0 ≤ (x7_1 : Int) := oD
     have q607 : x7_1 < (l0_1.length : Int) := oD
     obtain ⟨ad607, e607, hx607_0, hx607_1, hx607_2⟩ := at_T79 HR0_1.out x7_1 p607 q607
     have hw607_2 := hx607_2
     have hw607_1 := hx607_1
     have hw607_0 := hx607_0
     cases e607
     replace hx607_0 := (HB.out.cell (World.block_lt_of_cell? w _ hx607_0)).trans hx607_0
     replace hx607_1 := (HB.out.cell (World.block_lt_of_cell? w _ hx607_1)).trans hx607_1
     replace hx607_2 := (HB.out.cell (World.block_lt_of_cell? w _ hx607_2)).trans hx607_2
     replace p607 := eq_true p607
     replace q607 := eq_true q607
     have p608 : 0 ≤ (x7_1 : Int) := oD
     have q608 : x7_1 < (l0_1.length : Int) := oD
     obtain ⟨ad608, e608, hx608_0, hx608_1, hx608_2⟩ := at_T79 HR0_1.out x7_1 p608 q608
     have hw608_2 := hx608_2
     have hw608_1 := hx608_1
     have hw608_0 := hx608_0
     obtain rfl : ad607 = ad608 := (by injection e608)
     replace hx608_0 := (HB.out.cell (World.block_lt_of_cell? w _ hx608_0)).trans hx608_0
     replace hx608_1 := (HB.out.cell (World.block_lt_of_cell? w _ hx608_1)).trans hx608_1
     replace hx608_2 := (HB.out.cell (World.block_lt_of_cell? w _ hx608_2)).trans hx608_2
     replace p608 := eq_true p608
     replace q608 := eq_true q608
     obtain ⟨Ao30, co30, eo30⟩ := Kd.R_slice HO_6.out
     (first | subst eo30 | (injection eo30 with f1_ f2_ f3_; have f4_ := f1_.symm; have f5_ := f3_.symm; clear f1_ f2_ f3_; subst f4_; subst f5_))
     refine start_ (n := 22) (S := fun w' => w'.cell? ⟨gb598, 0, none⟩ = some (.int .i64 a0_0) ∧ w'.cell? ⟨gb598, 1, none⟩ = some (.slice (some ad607) l0_1.length c0_1) ∧ w'.cell? (ad606.add (x7_1).toNat) = some (.bool true) ∧ w'.cell? (ad607.add ((x7_1).toNat * 3)) = some (.int .i64 ((rd_T79 l0_1 x7_1).f0)) ∧ w'.cell? ⟨(ad607.add ((x7_1).toNat * 3)).block, (ad607.add ((x7_1).toNat * 3)).off + 1, none⟩ = some (.int .i64 ((rd_T79 l0_1 x7_1).f1)) ∧ w'.cell? ⟨(ad607.add ((x7_1).toNat * 3)).block, (ad607.add ((x7_1).toNat * 3)).off + 2, none⟩ = some (.int .i64 ((rd_T79 l0_1 x7_1).f2)) ∧ w'.cell? (ad607.add ((x7_1).toNat * 3)) = some (.int .i64 ((rd_T79 l0_1 x7_1).f0)) ∧ w'.cell? ⟨(ad607.add ((x7_1).toNat * 3)).block, (ad607.add ((x7_1).toNat * 3)).off + 1, none⟩ = some (.int .i64 ((rd_T79 l0_1 x7_1).f1)) ∧ w'.cell? ⟨(ad607.add ((x7_1).toNat * 3)).block, (ad607.add ((x7_1).toNat * 3)).off + 2, none⟩ = some (.int .i64 ((rd_T79 l0_1 x7_1).f2))) (ds := []) #[zz,zz,zz,zz,zz,zz,zz,zz,zz,zz,zz,zz,zz,zz,zz,zz,zz,zz,zz,zz,zz,zz] (by kernel_rfl) rfl rfl ⟨(blk_cell BK598.out 0).trans rfl, (blk_cell BK598.out 1).trans rfl, ((HB.out.cell (World.block_lt_of_cell? w _ hw606_0)).trans (by first | exact hw606_0 | (refine (hw606_0).trans ?_; congr 2; first | assumption | exact Eq.symm (Aside0.out (by assumption)) | exact Aside0.out (by assumption)))), ((HB.out.cell (World.block_lt_of_cell? w _ hw607_0)).trans (by first | exact hw607_0 | (refine (hw607_0).trans ?_; congr 2; first | assumption | exact Eq.symm (Aside0.out (by assumption)) | exact Aside0.out (by assumption)))), ((HB.out.cell (World.block_lt_of_cell? w _ hw607_1)).trans (by first | exact hw607_1 | (refine (hw607_1).trans ?_; congr 2; first | assumption | exact Eq.symm (Aside0.out (by assumption)) | exact Aside0.out (by assumption)))), ((HB.out.cell (World.block_lt_of_cell? w _ hw607_2)).trans (by first | exact hw607_2 | (refine (hw607_2).trans ?_; congr 2; first | assumption | exact Eq.symm (Aside0.out (by assumption)) | exact Aside0.out (by assumption)))), ((HB.out.cell (World.block_lt_of_cell? w _ hw608_0)).trans (by first | exact hw608_0 | (refine (hw608_0).trans ?_; congr 2; first | assumption | exact Eq.symm (Aside0.out (by assumption)) | exact Aside0.out (by assumption)))), ((HB.out.cell (World.block_lt_of_cell? w _ hw608_1)).trans (by first | exact hw608_1 | (refine (hw608_1).trans ?_; congr 2; first | assumption | exact Eq.symm (Aside0.out (by assumption)) | exact Aside0.out (by assumption)))), ((HB.out.cell (World.block_lt_of_cell? w _ hw608_2)).trans (by first | exact hw608_2 | (refine (hw608_2).trans ?_; congr 2; first | assumption | exact Eq.symm (Aside0.out (by assumption)) | exact Aside0.out (by assumption))))⟩ (fun hHeld => ?_); refine with_tabW spec_SpanningLines.tab6 spec_SpanningLines.bits6 (fun HT_ HW_ => ?_)
     generalize wc.drew = w29 at HO_5 HO_6 BK598 HB hx606_0 hx607_0 hx607_1 hx607_2 hx608_0 hx608_1 hx608_2 hHeld ⊢
     refine pure_ (i := 0) (N := some 23) (v := ?_) (a' := ?_) #[oo,zz,zz,zz,zz,zz,zz,zz,zz,zz,zz,zz,zz,zz,zz,zz,zz,zz,zz,zz,zz,zz] rfl rfl (any_of HT_.out (by kernel_rfl)) (fun _ _ _ h => h) (Or.inl ⟨by rfl, ?_⟩) ?_ ?_
     rotate_left
     ·
      intro w'
      go_simp
      with_reducible rfl
     rotate_left
     ·
      simp only [Act.put, List.setIfInBounds_toArray, List.set_cons_zero, List.set_cons_succ, i64_w, i32_w]
      rfl
     refine pure_ (i := 1) (N := some 24) (v := ?_) (a' := ?_) #[oo,oo,zz,zz,zz,zz,zz,zz,zz,zz,zz,zz,zz,zz,zz,zz,zz,zz,zz,zz,zz,zz] rfl rfl (any_of HT_.out (by kernel_rfl)) (fun _ _ _ h => h) (Or.inl ⟨by rfl, ?_⟩) ?_ ?_
     rotate_left
     ·
      intro w'
      go_simp
      with_reducible rfl
     rotate_left
     ·
      simp only [Act.put, List.setIfInBounds_toArray, List.set_cons_zero, List.set_cons_succ, i64_w, i32_w]
      rfl
     refine pure_ (i := 2) (N := some 25) (v := ?_) (a' := ?_) #[oo,oo,oo,zz,zz,zz,zz,zz,zz,zz,zz,zz,zz,zz,zz,zz,zz,zz,zz,zz,zz,zz] rfl rfl (any_of HT_.out (by kernel_rfl)) (fun _ _ _ h => h) (Or.inl ⟨by rfl, ?_⟩) ?_ ?_
     rotate_left
     ·
      intro w'
      go_simp
      with_reducible rfl
     rotate_left
     ·
      simp only [Act.put, List.setIfInBounds_toArray, List.set_cons_zero, List.set_cons_succ, i64_w, i32_w]
      rfl
     refine take_ (i := 3) (N := some 26) (v := ?_) (a' := ?_) #[oo,oo,oo,oo,zz,zz,zz,zz,zz,zz,zz,zz,zz,zz,zz,zz,zz,zz,zz,zz,zz,zz] rfl rfl (take_ofW HT_.out HW_.out (by kernel_rfl)) (fun _ _ _ h => h) (Or.inl ⟨by rfl, ?_⟩) hHeld ?_ ?_
     rotate_left
     ·
      rintro w' ⟨s0, s1, s2, s3, s4, s5, s6, s7, s8⟩
      go_simp
      with_reducible rfl
     rotate_left
     ·
      simp only [Act.put, List.setIfInBounds_toArray, List.set_cons_zero, List.set_cons_succ, i64_w, i32_w]
      rfl
     refine pure_ (i := 4) (N := some 27) (v := ?_) (a' := ?_) #[oo,oo,oo,oo,oo,zz,zz,zz,zz,zz,zz,zz,zz,zz,zz,zz,zz,zz,zz,zz,zz,zz] rfl rfl (any_of HT_.out (by kernel_rfl)) (fun _ _ _ h => h) (Or.inl ⟨by rfl, ?_⟩) ?_ ?_
     rotate_left
     ·
      intro w'
      go_simp
      with_reducible rfl
     rotate_left
     ·
      simp only [Act.put, List.setIfInBounds_toArray, List.set_cons_zero, List.set_cons_succ, i64_w, i32_w]
      rfl
     refine pure_ (i := 6) (N := some 29) (v := ?_) (a' := ?_) #[oo,oo,oo,oo,oo,zz,oo,zz,zz,zz,zz,zz,zz,zz,zz,zz,zz,zz,zz,zz,zz,zz] rfl rfl (any_of HT_.out (by kernel_rfl)) (fun _ _ _ h => h) (Or.inl ⟨by rfl, ?_⟩) ?_ ?_
     rotate_left
     ·
      intro w'
      go_simp
      with_reducible rfl
     rotate_left
     ·
      simp only [Act.put, List.setIfInBounds_toArray, List.set_cons_zero, List.set_cons_succ, i64_w, i32_w]
      rfl
     refine pure_ (i := 7) (N := some 30) (v := ?_) (a' := ?_) #[oo,oo,oo,oo,oo,zz,oo,oo,zz,zz,zz,zz,zz,zz,zz,zz,zz,zz,zz,zz,zz,zz] rfl rfl (any_of HT_.out (by kernel_rfl)) (fun _ _ _ h => h) (Or.inl ⟨by rfl, ?_⟩) ?_ ?_
     rotate_left
     ·
      intro w'
      go_simp
      with_reducible rfl
     rotate_left
     ·
      simp only [Act.put, List.setIfInBounds_toArray, List.set_cons_zero, List.set_cons_succ, i64_w, i32_w]
      rfl
     refine pure_ (i := 9) (N := some 32) (v := ?_) (a' := ?_) #[oo,oo,oo,oo,oo,zz,oo,oo,zz,oo,zz,zz,zz,zz,zz,zz,zz,zz,zz,zz,zz,zz] rfl rfl (any_of HT_.out (by kernel_rfl)) (fun _ _ _ h => h) (Or.inl ⟨by rfl, ?_⟩) ?_ ?_
     rotate_left
     ·
      intro w'
      go_simp
      with_reducible rfl
     rotate_left
     ·
      simp only [Act.put, List.setIfInBounds_toArray, List.set_cons_zero, List.set_cons_succ, i64_w, i32_w]
      rfl
     refine pure_ (i := 13) (N := some 36) (v := ?_) (a' := ?_) #[oo,oo,oo,oo,oo,zz,oo,oo,zz,oo,zz,zz,zz,oo,zz,zz,zz,zz,zz,zz,zz,zz] rfl rfl (any_of HT_.out (by kernel_rfl)) (fun _ _ _ h => h) (Or.inl ⟨by rfl, ?_⟩) ?_ ?_
     rotate_left
     ·
      intro w'
      go_simp
      with_reducible rfl
     rotate_left
     ·
      simp only [Act.put, List.setIfInBounds_toArray, List.set_cons_zero, List.set_cons_succ, i64_w, i32_w]
      rfl
     refine pure_ (i := 15) (N := some 38) (v := ?_) (a' := ?_) #[oo,oo,oo,oo,oo,zz,oo,oo,zz,oo,zz,zz,zz,oo,zz,oo,zz,zz,zz,zz,zz,zz] rfl rfl (any_of HT_.out (by kernel_rfl)) (fun _ _ _ h => h) (Or.inl ⟨by rfl, ?_⟩) ?_ ?_
     rotate_left
     ·
      intro w'
      go_simp
      with_reducible rfl
     rotate_left
     ·
      simp only [Act.put, List.setIfInBounds_toArray, List.set_cons_zero, List.set_cons_succ, i64_w, i32_w]
      rfl
     refine take_ (i := 5) (N := some 28) (v := ?_) (a' := ?_) #[oo,oo,oo,oo,oo,oo,oo,oo,zz,oo,zz,zz,zz,oo,zz,oo,zz,zz,zz,zz,zz,zz] rfl rfl (take_ofW HT_.out HW_.out (by kernel_rfl)) (fun _ _ _ h => h) (Or.inl ⟨by rfl, ?_⟩) hHeld ?_ ?_
     rotate_left
     ·
      rintro w' ⟨s0, s1, s2, s3, s4, s5, s6, s7, s8⟩
      go_simp
      with_reducible rfl
     rotate_left
     ·
      simp only [Act.put, List.setIfInBounds_toArray, List.set_cons_zero, List.set_cons_succ, i64_w, i32_w]
      rfl
     refine take_ (i := 8) (N := some 31) (v := ?_) (a' := ?_) #[oo,oo,oo,oo,oo,oo,oo,oo,oo,oo,zz,zz,zz,oo,zz,oo,zz,zz,zz,zz,zz,zz] rfl rfl (take_ofW HT_.out HW_.out (by kernel_rfl)) (fun _ _ _ h => h) (Or.inl ⟨by rfl, ?_⟩) hHeld ?_ ?_
     rotate_left
     ·
      rintro w' ⟨s0, s1, s2, s3, s4, s5, s6, s7, s8⟩
      go_simp
      with_reducible rfl
     rotate_left
     ·
      simp only [Act.put, List.setIfInBounds_toArray, List.set_cons_zero, List.set_cons_succ, i64_w, i32_w]
      rfl
     refine pure_ (i := 10) (N := some 33) (v := ?_) (a' := ?_) #[oo,oo,oo,oo,oo,oo,oo,oo,oo,oo,oo,zz,zz,oo,zz,oo,zz,zz,zz,zz,zz,zz] rfl rfl (any_of HT_.out (by kernel_rfl)) (fun _ _ _ h => h) (Or.inl ⟨by rfl, ?_⟩) ?_ ?_
     rotate_left
     ·
      intro w'
      go_simp
      with_reducible rfl
     rotate_left
     ·
      simp only [Act.put, List.setIfInBounds_toArray, List.set_cons_zero, List.set_cons_succ, i64_w, i32_w]
      rfl
     refine pure_ (i := 11) (N := some 34) (v := ?_) (a' := ?_) #[oo,oo,oo,oo,oo,oo,oo,oo,oo,oo,oo,oo,zz,oo,zz,oo,zz,zz,zz,zz,zz,zz] rfl rfl (any_of HT_.out (by kernel_rfl)) (fun _ _ _ h => h) (Or.inl ⟨by rfl, ?_⟩) ?_ ?_
     rotate_left
     ·
      intro w'
      go_simp
      with_reducible rfl
     rotate_left
     ·
      simp only [Act.put, List.setIfInBounds_toArray, List.set_cons_zero, List.set_cons_succ, i64_w, i32_w]
      rfl
     refine take_ (i := 12) (N := some 35) (v := ?_) (a' := ?_) #[oo,oo,oo,oo,oo,oo,oo,oo,oo,oo,oo,oo,oo,oo,zz,oo,zz,zz,zz,zz,zz,zz] rfl rfl (take_ofW HT_.out HW_.out (by kernel_rfl)) (fun _ _ _ h => h) (Or.inl ⟨by rfl, ?_⟩) hHeld ?_ ?_
     rotate_left
     ·
      rintro w' ⟨s0, s1, s2, s3, s4, s5, s6, s7, s8⟩
      go_simp
      with_reducible rfl
     rotate_left
     ·
      simp only [Act.put, List.setIfInBounds_toArray, List.set_cons_zero, List.set_cons_succ, i64_w, i32_w]
      rfl
     refine take_ (i := 14) (N := some 37) (v := ?_) (a' := ?_) #[oo,oo,oo,oo,oo,oo,oo,oo,oo,oo,oo,oo,oo,oo,oo,oo,zz,zz,zz,zz,zz,zz] rfl rfl (take_ofW HT_.out HW_.out (by kernel_rfl)) (fun _ _ _ h => h) (Or.inl ⟨by rfl, ?_⟩) hHeld ?_ ?_
     rotate_left
     ·
      rintro w' ⟨s0, s1, s2, s3, s4, s5, s6, s7, s8⟩
      go_simp
      with_reducible rfl
     rotate_left
     ·
      simp only [Act.put, List.setIfInBounds_toArray, List.set_cons_zero, List.set_cons_succ, i64_w, i32_w]
      rfl
     refine pure_ (i := 16) (N := some 39) (v := ?_) (a' := ?_) #[oo,oo,oo,oo,oo,oo,oo,oo,oo,oo,oo,oo,oo,oo,oo,oo,oo,zz,zz,zz,zz,zz] rfl rfl (any_of HT_.out (by kernel_rfl)) (fun _ _ _ h => h) (Or.inl ⟨by rfl, ?_⟩) ?_ ?_
     rotate_left
     ·
      intro w'
      go_simp
      with_reducible rfl
     rotate_left
     ·
      simp only [Act.put, List.setIfInBounds_toArray, List.set_cons_zero, List.set_cons_succ, i64_w, i32_w]
      rfl
     refine pure_ (i := 17) (N := some 40) (v := ?_) (a' := ?_) #[oo,oo,oo,oo,oo,oo,oo,oo,oo,oo,oo,oo,oo,oo,oo,oo,oo,oo,zz,zz,zz,zz] rfl rfl (any_of HT_.out (by kernel_rfl)) (fun _ _ _ h => h) (Or.inl ⟨by rfl, ?_⟩) ?_ ?_
     rotate_left
     ·
      intro w'
      go_simp
      with_reducible rfl
     rotate_left
     ·
      simp only [Act.put, List.setIfInBounds_toArray, List.set_cons_zero, List.set_cons_succ, i64_w, i32_w]
      rfl
     refine take_ (i := 18) (N := some 41) (v := ?_) (a' := ?_) #[oo,oo,oo,oo,oo,oo,oo,oo,oo,oo,oo,oo,oo,oo,oo,oo,oo,oo,oo,zz,zz,zz] rfl rfl (take_ofW HT_.out HW_.out (by kernel_rfl)) (fun _ _ _ h => h) (Or.inl ⟨by rfl, ?_⟩) hHeld ?_ ?_
     rotate_left
     ·
      rintro w' ⟨s0, s1, s2, s3, s4, s5, s6, s7, s8⟩
      go_simp
      with_reducible rfl
     rotate_left
     ·
      simp only [Act.put, List.setIfInBounds_toArray, List.set_cons_zero, List.set_cons_succ, i64_w, i32_w]
      rfl
     refine one_ (i := 19) (N := some 42) #[oo,oo,oo,oo,oo,oo,oo,oo,oo,oo,oo,oo,oo,oo,oo,oo,oo,oo,oo,oo,zz,zz] rfl rfl (one_of HT_.out (by kernel_rfl)) (by decide) (fun K hK => ?_)
     refine goes_ Tryd.func85 (by kernel_rfl) rfl #[.agg #[.int .i64 a0_0, .slice (some ad607) l0_1.length c0_1], .slice Ao30 x6_1.length co30, .int .i64 ((rd_T79 l0_1 x7_1).f0), .int .i64 ((rd_T79 l0_1 x7_1).f1)] (by rfl) rfl rfl mP ?_
     with_reducible refine (spec_SameIsland.calls kj9 a0_0 _ _ l0_1 _ _ x6_1 ((rd_T79 l0_1 x7_1).f0) ((rd_T79 l0_1 x7_1).f1) false _ ?side1 ?side2 ?side3 ?side4 A21.out).mono ?_
     (case side1 => exact gC ((Kd.C_below HR0_1.out HB.out)))
     (case side2 => exact HC0_1.out)
     (case side3 => exact gC ((Kd.R_reads' HO_6.out).2.2))
     (case side4 => exact (Kd.R_reads' HO_6.out).2.1)
     rintro e w31 ⟨rfl, hb⟩
     refine ⟨_, rfl, ?_⟩
     have n0_ := aM (Kd.R_below (gR (HO_5.out)) hb)
     have n1_ := aM (Kd.R_below (gR (HO_6.out)) hb)
     have n2_ := aM (blk_below (g := gb598) (o := .cells #[.int .i64 a0_0, .slice (some ad607) l0_1.length c0_1] 25 (0, 0)) (gB (BK598.out)) hb)
     have n3_ := aM (below_step (bl1 HB GE598) hb)
     clear HO_5
     clear HO_6
     clear BK598
     clear HB
     have HO_5 := n0_
     have HO_6 := n1_
     have BK598 := n2_
     have HB := n3_
     clear n0_ n1_ n2_ n3_
     (try clear hb)
     (try clear hb2)
     (try clear hk)
     (try clear hi)
     refine hK.out _ _ ⟨(blk_cell BK598.out 0).trans rfl, (blk_cell BK598.out 1).trans rfl, ((HB.out.cell (World.block_lt_of_cell? w _ hw606_0)).trans (by first | exact hw606_0 | (refine (hw606_0).trans ?_; congr 2; first | assumption | exact Eq.symm (Aside0.out (by assumption)) | exact Aside0.out (by assumption)))), ((HB.out.cell (World.block_lt_of_cell? w _ hw607_0)).trans (by first | exact hw607_0 | (refine (hw607_0).trans ?_; congr 2; first | assumption | exact Eq.symm (Aside0.out (by assumption)) | exact Aside0.out (by assumption)))), ((HB.out.cell (World.block_lt_of_cell? w _ hw607_1)).trans (by first | exact hw607_1 | (refine (hw607_1).trans ?_; congr 2; first | assumption | exact Eq.symm (Aside0.out (by assumption)) | exact Aside0.out (by assumption)))), ((HB.out.cell (World.block_lt_of_cell? w _ hw607_2)).trans (by first | exact hw607_2 | (refine (hw607_2).trans ?_; congr 2; first | assumption | exact Eq.symm (Aside0.out (by assumption)) | exact Aside0.out (by assumption)))), ((HB.out.cell (World.block_lt_of_cell? w _ hw608_0)).trans (by first | exact hw608_0 | (refine (hw608_0).trans ?_; congr 2; first | assumption | exact Eq.symm (Aside0.out (by assumption)) | exact Aside0.out (by assumption)))), ((HB.out.cell (World.block_lt_of_cell? w _ hw608_1)).trans (by first | exact hw608_1 | (refine (hw608_1).trans ?_; congr 2; first | assumption | exact Eq.symm (Aside0.out (by assumption)) | exact Aside0.out (by assumption)))), ((HB.out.cell (World.block_lt_of_cell? w _ hw608_2)).trans (by first | exact hw608_2 | (refine (hw608_2).trans ?_; congr 2; first | assumption | exact Eq.symm (Aside0.out (by assumption)) | exact Aside0.out (by assumption))))⟩ (fun hHeld => ?_)
     clear hK K
     refine norm_ (a' := ?_) ?_ ?_
     rotate_left
     ·
      show Act.put _ (some 42) _ = _
      simp only [Act.put, List.setIfInBounds_toArray, List.set_cons_zero, List.set_cons_succ, i64_w, i32_w]
      rfl
     refine pure_ (i := 20) (N := some 43) (v := ?_) (a' := ?_) #[oo,oo,oo,oo,oo,oo,oo,oo,oo,oo,oo,oo,oo,oo,oo,oo,oo,oo,oo,oo,oo,zz] rfl rfl (any_of HT_.out (by kernel_rfl)) (fun _ _ _ h => h) (Or.inl ⟨by rfl, ?_⟩) ?_ ?_
     rotate_left
     ·
      intro w'
      go_simp
      with_reducible rfl
     rotate_left
     ·
      simp only [Act.put, List.setIfInBounds_toArray, List.set_cons_zero, List.set_cons_succ, i64_w, i32_w]
      rfl
     refine pure_ (i := 21) (N := some 44) (v := ?_) (a' := ?_) #[oo,oo,oo,oo,oo,oo,oo,oo,oo,oo,oo,oo,oo,oo,oo,oo,oo,oo,oo,oo,oo,oo] rfl rfl (any_of HT_.out (by kernel_rfl)) (fun _ _ _ h => h) (Or.inl ⟨by rfl, ?_⟩) ?_ ?_
     rotate_left
     ·
      intro w'
      go_simp
      with_reducible rfl
     rotate_left
     ·
      simp only [Act.put, List.setIfInBounds_toArray, List.set_cons_zero, List.set_cons_succ, i64_w, i32_w]
      rfl
     refine done_ (done_of HT_.out (by kernel_rfl)) ?_
     have p27 : 0 ≤ (x7_1 : Int) := oD
     have q27 : (x7_1 : Int) < ((x6_1.length : Int) : Int) := oD
     obtain ⟨go27, co27, eo27, gb27, gl27, cl27, HG27⟩ := Kd.R_form HO_6.out (by first | omega | (obtain ⟨_, _, e_⟩ := Kd.R_slice HO_6.out; injection e_ with _ e_ _; omega))
     (first | cases eo27 | (injection eo27 with ea_ en_ ec_; (first | subst ea_ | (injection ea_ with ea_; subst ea_)); subst ec_; clear en_))
     have GB27 := Aside0.mk gb27
     have GG27 := Aside0.mk HG27
     clear gb27 gl27 HG27
     obtain ⟨hx27_0, hf27_0⟩ := Kd.R_celln false HO_6.out (x7_1 : Int) p27 q27
     replace p27 := eq_true p27
     replace q27 := eq_true q27
     obtain ⟨hy32_, hz32_⟩ := Kd.R_celln false HO_6.out (x7_1 : Int) (oD) (oD)
     have HP32 := Kd.R_putg HO_6.out (x7_1 : Int) true
     try go_wp2_with (first | ((with_reducible refine gate_store (t := 4) (p := 47) rfl ?_); refine store_event (t := 4) (p := 47) (v := ?vo_w33) (w1 := (w31.setCell ⟨go27, (x7_1 : Int).toNat, none⟩ (.bool true))) ?hg ?ho ?hn ?hr ?_; (case ho => rfl); (case hg => rfl); (case hn => rfl); (case hr => exact hR); intro w33 hw; have hg : w31.grownBy w33 (some go27) := (by rw [hw]; exact HP32.2); have hp_ : Kd.R Kd.bool 4 w33 w.heap.size (fun _ => True) (.slice (some ⟨go27, 0, none⟩) x6_1.length co30) y610 := (by rw [hw, Ny610.out]; exact HP32.1); clear HP32; have n0_ := aM (Kd.R_over' (v := (.slice (some ⟨go27, 0, none⟩) x6_1.length co30)) (gR (HO_5.out)) (Kd.R_typed HO_6.out) (by decide) hg); have n1_ := aM (hp_); have n2_ := aM (blk_grown (g := gb598) (o := .cells #[.int .i64 a0_0, .slice (some ad607) l0_1.length c0_1] 25 (0, 0)) (gB (BK598.out)) hg (Kd.R_ne HO_6.out BK598.out (by decide))); have n3_ := aM ((by rw [hw]; exact below_set (HB.out) GB27.out : Below w.heap.size w w33)); clear HO_5; clear HO_6; clear BK598; clear HB; have HO_5 := n0_; have HO_6 := n1_; have BK598 := n2_; have HB := n3_; clear n0_ n1_ n2_ n3_; clear hg hw hp_) | ((with_reducible refine gate_builtin (b := .append) (xs := #[.tmp 48, .tmp 50]) rfl ?_); at_builtin; refine Kd.R_append (Kd.int .i64) (w0 := w) w.heap.size rfl (.tmp 48) (.tmp 50) 37 3 (.int .i64 0) 8 rfl Tryd.underlying37 info3 rfl (by decide) (by omega) u5 x5_1 x7_1 [.int .i64 x7_1] (fun _ => True) (fun _ => False) rfl rfl ?aP (fun _ hk => hk.elim) ?aF ?aO ?aB ?aS ?aL ?_; (case aP => exact rfl); (case aB => exact (bl1 HB GE598)); (case aF => exact (fun _ _ => trivial)); (case aO => exact (gR (HO_5.out))); (case aS => exact (below_size (bl1 HB GE598))); (case aL => have := LMc28.out; omega); intro v612 w34 ho hb hg hat; rw [← Ny611.out] at ho; have n0_ := aM (Kd.R_over' (gR (HO_6.out)) (Kd.R_typed (gR (HO_5.out))) (by decide) hg); have n1_ := aM (blk_grown (g := gb598) (o := .cells #[.int .i64 a0_0, .slice (some ad607) l0_1.length c0_1] 25 (0, 0)) (gB (BK598.out)) hg (Kd.R_ne HO_5.out BK598.out (by decide))); have n2_ := aM (hb); have n3_ := aM (ho); clear HO_6; clear BK598; clear HB; clear HO_5; have HO_6 := n0_; have BK598 := n1_; have HB := n2_; have HO613 := n3_; clear n0_ n1_ n2_ n3_; clear ho hb hg hat))
     go_roundg kj9
     case measure => have := HK1.out; have := HJ9.out; omega
     case rel => exact ⟨(y611), (y610), (wrap64 (x7_1 + 1)), fS, H', ⟨by have := HK1.out; have := HJ9.out; omega⟩, ⟨gR (HO613.out)⟩, ⟨gR (HO_6.out)⟩, ⟨gB (BK598.out)⟩, ⟨bl1 HB GE598⟩⟩

end Go.Proofs.YtpgjgbjkfgbpaaaDoor.P

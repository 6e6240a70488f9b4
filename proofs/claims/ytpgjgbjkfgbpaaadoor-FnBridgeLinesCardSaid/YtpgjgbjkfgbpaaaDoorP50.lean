/- Contracts of Go functions of this seat's translation, written by this repo's wip/mk.py: it calls the kit's print.py with contracts typed by hand in place of functions that it does not take. Not trusted: Lean checks it. -/
import Derived.Test.YtpgjgbjkfgbpaaaDoorP0
import Derived.Test.YtpgjgbjkfgbpaaaDoorP27
import Derived.Test.YtpgjgbjkfgbpaaaDoorP49
namespace Go.Proofs.YtpgjgbjkfgbpaaaDoor.P
open Go.RowKit Go.Proofs.YtpgjgbjkfgbpaaaDoorW.PrintWords Go.Proofs.YtpgjgbjkfgbpaaaDoorW.PrintLast Go.Proofs.YtpgjgbjkfgbpaaaDoorW.PrintMore
attribute [local go_sem] max2_int min2_int max_two min_two max_three min_three max_four min_four   -- for this text's walks alone
set_option linter.unusedVariables false
set_option linter.unusedSimpArgs false

/-! ### spec_CycleLines: function 23 -/
mutual
def spec_CycleLines.l0 : Nat → List Bool → List Int → Int → Int → List (S79) → Option (List Int)
 | 0, _, _, _, _, _ => none
 | k + 1, x1, x5, x6, x463000, x463001 => if x6 < (x1.length : Int) then ((spec_StateValid.f k x463000 x463001 x1).bind fun t466 => (spec_CycleLines.j1 k x1 x5 x6 t466 x463000 x463001)) else (spec_CycleLines.j1 k x1 x5 x6 false x463000 x463001)
def spec_CycleLines.j1 : Nat → List Bool → List Int → Int → Bool → Int → List (S79) → Option (List Int)
 | 0, _, _, _, _, _, _ => none
 | k + 1, x1, x5, x6, x18, x463000, x463001 => if x18 = true then ((spec_SwitchLine.f k x463000 x463001 x1 x6 false).bind fun bt467 => (if 0 ≤ x6 then (if x6 < (x1.length : Int) then (if rdOf false x1 x6 = true then (if x6 < (x463001.length : Int) then ((spec_SameIsland.f k x463000 x463001 bt467.1 ((rd_T79 x463001 x6).f0) ((rd_T79 x463001 x6).f1)).bind fun t474 => (if t474 = true then (if x5.length < 17592186044416 then (spec_CycleLines.l0 k x1 (x5 ++ [x6]) (wrap64 (x6 + 1)) x463000 x463001) else (none)) else (spec_CycleLines.l0 k x1 x5 (wrap64 (x6 + 1)) x463000 x463001))) else (none)) else (spec_CycleLines.l0 k x1 x5 (wrap64 (x6 + 1)) x463000 x463001)) else (none)) else (none))) else (some x5)
end
def spec_CycleLines.f (k : Nat) (a0_0 : Int) (l0_1 : List (S79)) (l1 : List Bool) : Option (List Int) := spec_CycleLines.l0 k l1 (([] : List Int)) 0 a0_0 l0_1
theorem spec_CycleLines.mono_l : ∀ k, (∀ y0 y1 y2 y3 y4, LeO (spec_CycleLines.l0 k y0 y1 y2 y3 y4) (spec_CycleLines.l0 (k + 1) y0 y1 y2 y3 y4)) ∧ (∀ y0 y1 y2 y3 y4 y5, LeO (spec_CycleLines.j1 k y0 y1 y2 y3 y4 y5) (spec_CycleLines.j1 (k + 1) y0 y1 y2 y3 y4 y5))
 | 0 => ⟨fun _ _ _ _ _ r h => by simp [spec_CycleLines.l0] at h, fun _ _ _ _ _ _ r h => by simp [spec_CycleLines.j1] at h⟩
 | k + 1 => by
  obtain ⟨ih0, ih1⟩ := spec_CycleLines.mono_l k
  refine ⟨?_, ?_⟩
  ·
   intro y0 y1 y2 y3 y4
   unfold spec_CycleLines.l0
   repeat' first
   | (with_reducible exact ih0 _ _ _ _ _)
   | (with_reducible exact ih1 _ _ _ _ _ _)
   | (with_reducible exact spec_SameIsland.mono _ _ _ _ _ _)
   | (with_reducible exact spec_StateValid.mono _ _ _ _)
   | (with_reducible exact spec_SwitchLine.mono _ _ _ _ _ _)
   | (with_reducible exact LeO.refl _)
   | (with_reducible exact LeO.none _)
   | (with_reducible refine LeO.ite ?_ ?_)
   | (with_reducible refine LeO.bind ?_ (fun _ => ?_))
   | exact ih0 _ _ _ _ _
   | exact ih1 _ _ _ _ _ _
   | exact spec_SameIsland.mono _ _ _ _ _ _
   | exact spec_StateValid.mono _ _ _ _
   | exact spec_SwitchLine.mono _ _ _ _ _ _
   | exact LeO.none _
   | refine LeO.ite ?_ ?_
   | refine LeO.bind ?_ (fun _ => ?_)
  ·
   intro y0 y1 y2 y3 y4 y5
   unfold spec_CycleLines.j1
   repeat' first
   | (with_reducible exact ih0 _ _ _ _ _)
   | (with_reducible exact ih1 _ _ _ _ _ _)
   | (with_reducible exact spec_SameIsland.mono _ _ _ _ _ _)
   | (with_reducible exact spec_StateValid.mono _ _ _ _)
   | (with_reducible exact spec_SwitchLine.mono _ _ _ _ _ _)
   | (with_reducible exact LeO.refl _)
   | (with_reducible exact LeO.none _)
   | (with_reducible refine LeO.ite ?_ ?_)
   | (with_reducible refine LeO.bind ?_ (fun _ => ?_))
   | exact ih0 _ _ _ _ _
   | exact ih1 _ _ _ _ _ _
   | exact spec_SameIsland.mono _ _ _ _ _ _
   | exact spec_StateValid.mono _ _ _ _
   | exact spec_SwitchLine.mono _ _ _ _ _ _
   | exact LeO.none _
   | refine LeO.ite ?_ ?_
   | refine LeO.bind ?_ (fun _ => ?_)
theorem spec_CycleLines.mono : ∀ a0 a1 a2 k, LeO (spec_CycleLines.f k a0 a1 a2) (spec_CycleLines.f (k + 1) a0 a1 a2) := by
 intro a0 a1 a2 k
 obtain ⟨ih0, ih1⟩ := spec_CycleLines.mono_l k
 unfold spec_CycleLines.f
 repeat' first
   | (with_reducible exact ih0 _ _ _ _ _)
   | (with_reducible exact ih1 _ _ _ _ _ _)
   | (with_reducible exact spec_SameIsland.mono _ _ _ _ _ _)
   | (with_reducible exact spec_StateValid.mono _ _ _ _)
   | (with_reducible exact spec_SwitchLine.mono _ _ _ _ _ _)
   | (with_reducible exact LeO.refl _)
   | (with_reducible exact LeO.none _)
   | (with_reducible refine LeO.ite ?_ ?_)
   | (with_reducible refine LeO.bind ?_ (fun _ => ?_))
   | exact ih0 _ _ _ _ _
   | exact ih1 _ _ _ _ _ _
   | exact spec_SameIsland.mono _ _ _ _ _ _
   | exact spec_StateValid.mono _ _ _ _
   | exact spec_SwitchLine.mono _ _ _ _ _ _
   | exact LeO.none _
   | refine LeO.ite ?_ ?_
   | refine LeO.bind ?_ (fun _ => ?_)
def spec_CycleLines.T6 : Bool × List (List Nat × List Nat) := (true, [([], []), ([], []), ([0, 1], [0, 1]), ([2], [2]), ([3], [3]), ([4], [4]), ([4], [4]), ([4], [4]), ([7, 4], [4, 7]), ([4], [4]), ([8, 9, 4], [4, 8, 9]), ([10, 4], [4, 10]), ([11, 4], [4, 11]), ([4], [4]), ([13, 4], [4, 13]), ([4], [4]), ([14, 15, 4], [4, 14, 15]), ([16, 4], [4, 16]), ([17, 4], [4, 17]), ([5, 6, 12, 18, 4, 4], [4, 5, 6, 12, 18]), ([4, 19], [4, 19])])
def spec_CycleLines.B6 : List Nat := [0, 0, 3, 7, 15, 31, 31, 31, 159, 31, 927, 1951, 3999, 31, 8223, 31, 57375, 122911, 253983, 524287, 1048575]
theorem spec_CycleLines.tab6 : rtab .any (opsOf Tryd.f23 6) = spec_CycleLines.T6 := by kernel_rfl
theorem spec_CycleLines.bits6 : waitsOk spec_CycleLines.T6.2 spec_CycleLines.B6 = true := by kernel_rfl
set_option maxHeartbeats 8000000 in
set_option maxRecDepth 100000 in
theorem spec_CycleLines.calls (k : Nat) (a0_0 : Int) (A0_1 : Option Addr) (c0_1 : Nat) (l0_1 : List (S79)) (A1 : Option Addr) (c1 : Nat) (l1 : List Bool) (r : List Int) (w : World) (hr0_1 : Kd.C k79 w A0_1 l0_1.length l0_1) (hc0_1 : l0_1.length ≤ c0_1) (hr1 : Kd.C Kd.bool w A1 l1.length l1) (hc1 : l1.length ≤ c1) (h : spec_CycleLines.f k a0_0 l0_1 l1 = some r) :
  Calls Tryd.prog 23 #[.agg #[.int .i64 a0_0, .slice A0_1 l0_1.length c0_1], .slice A1 l1.length c1] w fun e w' => ∃ v0_ : Value, e = .returned (v0_) ∧ Kd.R (Kd.int .i64) 3 w' w.heap.size (fun _ => True) v0_ r ∧ Below w.heap.size w w' := by
 have hu25 := Tryd.underlying25
 have HR0_1 := Aside0.mk hr0_1
 have HC0_1 := Aside0.mk hc0_1
 clear hr0_1 hc0_1
 have HR1 := Aside0.mk hr1
 have HC1 := Aside0.mk hc1
 clear hr1 hc1
 have HB := aM (Below.refl w.heap.size w)
 have H : (spec_CycleLines.l0 k l1 (([] : List Int)) 0 a0_0 l0_1) = some r := h
 clear h
 obtain ⟨y463, hy463⟩ : ∃ y_ : List Int, y_ = (([] : List Int)) := ⟨_, rfl⟩
 replace H : (spec_CycleLines.l0 k l1 y463 0 a0_0 l0_1) = some r := by first | (rw [hy463]; with_reducible exact H) | (have H2_ := (Option.bind_some _ _).symm.trans H; rw [hy463]; with_reducible exact H2_) | (have H2_ := (Option.bind_some _ _).symm.trans H; with_reducible exact H2_) | with_reducible exact H | (rw [hy463]; exact H) | exact H
 have Ny463 := Aside0.mk hy463
 clear hy463
 have H' := Aside0.mk H
 clear H
 go_enter Tryd.func23, Tryd.ntmps23
 go_wp2_with (first | ((with_reducible refine gate_dst (N := 2) rfl ?_); refine box_event ?hg (N := 2) ?hd (cs := #[.int .i64 a0_0, .slice A0_1 l0_1.length c0_1]) (t := 25) ?hr ?_; (case hd => rfl); (case hg => rfl); (case hr => exact hR); intro gb462 hg w3 hbox hb; have n0_ := aM (below_step (bl0 HB) hb); have n1_ := aM (hbox); have n2_ := aM ((by rw [hg]; exact (below_size (bl0 HB)) : w.heap.size ≤ gb462)); have n3_ := aM ((by rw [hg]; exact (below_size (bl0 HB)) : w.heap.size ≤ gb462)); clear HB; have HB := n0_; have BK462 := n1_; have GW462 := n2_; have GE462 := n3_; clear n0_ n1_ n2_ n3_; clear hb hbox hg) | ((with_reducible refine gate_dst (N := 9) rfl ?_); refine Kd.R_lit (Kd.int .i64) _ 3 ?hg (N := 9) ?hd (xs := ([] : List Int)) (inner := []) (ok := fun _ => True) (okp := fun _ => True) ?hr ?hp (fun _ hk => hk) trivial (Below.refl _ _) (Nat.le_refl _) (by simp) ?_; (case hd => rfl); (case hg => rfl); (case hr => exact hR); (case hp => exact (Reps.none _ _)); intro v464 w4 ho5 hb hg_ hnew_; clear hg_ hnew_; (first | rw [← Ny463.out] at ho5 | (simp only [Int.reduceToNat] at ho5; rw [← Ny463.out] at ho5)); have n0_ := aM (Kd.R_lower ho5 (below_size (bl1 HB GE462))); have n1_ := aM (blk_below (g := gb462) (o := .cells #[.int .i64 a0_0, .slice A0_1 l0_1.length c0_1] 25 (0, 0)) (gB (BK462.out)) hb); have n2_ := aM (below_step (bl1 HB GE462) hb); clear BK462; clear HB; have HO465 := n0_; have BK462 := n1_; have HB := n2_; clear n0_ n1_ n2_; clear hb ho5))
 go_loopg [5, 6] k (fun kq v5 v6 w' => ∃ (x5_1 : List Int) (x6_1 : Int), v6 = .int .i64 x6_1 ∧ Aside0 (spec_CycleLines.l0 kq l1 x5_1 x6_1 a0_0 l0_1 = some r) ∧ Aside0 (kq ≤ k) ∧ Aside0 (Kd.R (Kd.int .i64) 3 w' w.heap.size (fun _ => True) v5 x5_1) ∧ Aside0 (w'.heap[gb462]? = some (.cells #[.int .i64 a0_0, (.slice A0_1 l0_1.length c0_1)] 25 (0, 0))) ∧ Aside0 (Below w.heap.size w w'))
 case atStart => exact ⟨(y463), (0), fS, H', ⟨Nat.le_refl _⟩, ⟨gR (HO465.out)⟩, ⟨gB (BK462.out)⟩, ⟨bl1 HB GE462⟩⟩
 case round =>
  clear H'
  try clear c1
  try clear c2
  try clear p2
  obtain ⟨x5_1, x6_1, rfl, HA, HK1, HO_5, BK462, HB⟩ := hrel
  cases gk with
  | zero => exact absurd HA.out (by simp [spec_CycleLines.l0])
  | succ k1 =>
   have H := HA.out
   clear HA
   simp only [spec_CycleLines.l0] at H
   have HC6 := Aside0.mk H
   clear H
   go_upto_region 3 with (fail)
   go_cut [18] (fun v18 wc => ∃ (kq : Nat) (x18_5 : Bool), v18 = .bool x18_5 ∧ Aside0 (spec_CycleLines.j1 kq l1 x5_1 x6_1 x18_5 a0_0 l0_1 = some r) ∧ Aside0 (kq ≤ k1) ∧ Aside0 (Kd.R (Kd.int .i64) 3 wc w.heap.size (fun _ => True) u5 x5_1) ∧ Aside0 (wc.heap[gb462]? = some (.cells #[.int .i64 a0_0, (.slice A0_1 l0_1.length c0_1)] 25 (0, 0))) ∧ Aside0 (Below w.heap.size w wc))
   case first =>
    have H := HC6.out
    clear HC6
    by_cases c7 : x6_1 < (l1.length : Int)
    rotate_left
    ·
     rw [if_neg c7] at H
     have c7b0 : decide (x6_1 < (l1.length : Int)) = false := decide_eq_false c7
     clear c7
     (first | rw [c7b0] | (simp only [i64_w, i32_w]; rw [c7b0]) | skip)
     have H' := Aside0.mk H
     clear H
     go_wp2
     go_meet
     case rel => exact ⟨_, (false), fS, H', ⟨by have := HK1.out; first | omega | exact Nat.le_refl _⟩, ⟨gR (HO_5.out)⟩, ⟨gB (BK462.out)⟩, ⟨bl1 HB GE462⟩⟩
    rw [if_pos c7] at H
    have c7b0 : decide (x6_1 < (l1.length : Int)) = true := decide_eq_true c7
    clear c7
    (first | rw [c7b0] | (simp only [i64_w, i32_w]; rw [c7b0]) | skip)
    replace H := Option.bind_eq_some_iff.mp H
    obtain ⟨t466, A80, H⟩ := H
    replace H : (spec_CycleLines.j1 k1 l1 x5_1 x6_1 t466 a0_0 l0_1) = some r := H
    have A8 := Aside0.mk A80
    clear A80
    have H' := Aside0.mk H
    clear H
    have hcz9_0 : wr.cell? ⟨gb462, 0, none⟩ = some (.int .i64 a0_0) := (blk_cell BK462.out 0).trans rfl
    have hcz9_1 : wr.cell? ⟨gb462, 1, none⟩ = some (.slice A0_1 l0_1.length c0_1) := (blk_cell BK462.out 1).trans rfl
    have hfz9_0 := blk_frozen BK462.out 0
    have hfz9_1 := blk_frozen BK462.out 1
    go_wp2_with (first | (go_at_call 34; (with_reducible refine (spec_StateValid.calls k1 a0_0 _ _ l0_1 _ _ l1 t466 _ ?side1 ?side2 ?side3 ?side4 A8.out).mono ?_); (case side1 => exact gC ((Kd.C_below HR0_1.out HB.out))); (case side2 => exact HC0_1.out); (case side3 => exact gC ((Kd.C_below HR1.out HB.out))); (case side4 => exact HC1.out); rintro e w10 ⟨rfl, hb⟩; have n0_ := aM (Kd.R_below (gR (HO_5.out)) hb); have n1_ := aM (blk_below (g := gb462) (o := .cells #[.int .i64 a0_0, .slice A0_1 l0_1.length c0_1] 25 (0, 0)) (gB (BK462.out)) hb); have n2_ := aM (below_step (bl1 HB GE462) hb); clear HO_5; clear BK462; clear HB; have HO_5 := n0_; have BK462 := n1_; have HB := n2_; clear n0_ n1_ n2_; (try clear hb); (try clear hb2); (try clear hk); (try clear hi)))
    go_meet
    case rel => exact ⟨_, (t466), fS, H', ⟨by have := HK1.out; first | omega | exact Nat.le_refl _⟩, ⟨gR (HO_5.out)⟩, ⟨gB (BK462.out)⟩, ⟨bl1 HB GE462⟩⟩
   case rest =>
    clear HC6
    try clear c1
    try clear c2
    try clear p2
    try clear c7
    try clear c7b0
    try clear hcz9_0
    try clear hcz9_1
    try clear hfz9_0
    try clear hfz9_1
    try clear p2
    obtain ⟨kq, x18_5, rfl, HA, HJ5, HO_5, BK462, HB⟩ := hcut
    cases kq with
    | zero => exact absurd HA.out (by simp [spec_CycleLines.j1])
    | succ kj5 =>
     have H := HA.out
     clear HA
     simp only [spec_CycleLines.j1] at H
     by_cases c11 : x18_5 = true
     rotate_left
     ·
      replace c11 := Bool.eq_false_iff.mpr c11
      subst c11
      have H1 : (some x5_1) = some r := by rw [if_neg (show ¬ (false = true) by decide)] at H; exact H
      clear H
      have H := H1
      clear H1
      obtain rfl := Option.some.inj H
      go_wp2
      go_ret
      exact ⟨_, fR, gR (HO_5.out), bl1 HB GE462⟩
     subst c11
     have H1 : ((spec_SwitchLine.f kj5 a0_0 l0_1 l1 x6_1 false).bind fun bt467 => (if 0 ≤ x6_1 then (if x6_1 < (l1.length : Int) then (if rdOf false l1 x6_1 = true then (if x6_1 < (l0_1.length : Int) then ((spec_SameIsland.f kj5 a0_0 l0_1 bt467.1 ((rd_T79 l0_1 x6_1).f0) ((rd_T79 l0_1 x6_1).f1)).bind fun t474 => (if t474 = true then (if x5_1.length < 17592186044416 then (spec_CycleLines.l0 kj5 l1 (x5_1 ++ [x6_1]) (wrap64 (x6_1 + 1)) a0_0 l0_1) else (none)) else (spec_CycleLines.l0 kj5 l1 x5_1 (wrap64 (x6_1 + 1)) a0_0 l0_1))) else (none)) else (spec_CycleLines.l0 kj5 l1 x5_1 (wrap64 (x6_1 + 1)) a0_0 l0_1)) else (none)) else (none))) = some r := by rw [if_pos rfl] at H; exact H
     clear H
     have H := H1
     clear H1
     replace H := Option.bind_eq_some_iff.mp H
     obtain ⟨⟨t467, t470⟩, A120, H⟩ := H
     replace H : (if 0 ≤ x6_1 then (if x6_1 < (l1.length : Int) then (if rdOf false l1 x6_1 = true then (if x6_1 < (l0_1.length : Int) then ((spec_SameIsland.f kj5 a0_0 l0_1 t467 ((rd_T79 l0_1 x6_1).f0) ((rd_T79 l0_1 x6_1).f1)).bind fun t474 => (if t474 = true then (if x5_1.length < 17592186044416 then (spec_CycleLines.l0 kj5 l1 (x5_1 ++ [x6_1]) (wrap64 (x6_1 + 1)) a0_0 l0_1) else (none)) else (spec_CycleLines.l0 kj5 l1 x5_1 (wrap64 (x6_1 + 1)) a0_0 l0_1))) else (none)) else (spec_CycleLines.l0 kj5 l1 x5_1 (wrap64 (x6_1 + 1)) a0_0 l0_1)) else (none)) else (none)) = some r := H
     have A12 := Aside0.mk A120
     clear A120
     by_cases c13 : 0 ≤ x6_1
     rotate_left
     ·
      rw [if_neg c13] at H
      exact absurd H (by simp)
     rw [if_pos c13] at H
     have c13b0 : decide (0 ≤ x6_1) = true := decide_eq_true c13
     clear c13
     by_cases c14 : x6_1 < (l1.length : Int)
     rotate_left
     ·
      rw [if_neg c14] at H
      exact absurd H (by simp)
     rw [if_pos c14] at H
     have c14b0 : decide (x6_1 < (l1.length : Int)) = true := decide_eq_true c14
     clear c14
     obtain ⟨bq15, hbq15⟩ : ∃ b_ : Bool, b_ = (rdOf false l1 x6_1) := ⟨_, rfl⟩
     replace H : (if bq15 = true then (if x6_1 < (l0_1.length : Int) then ((spec_SameIsland.f kj5 a0_0 l0_1 t467 ((rd_T79 l0_1 x6_1).f0) ((rd_T79 l0_1 x6_1).f1)).bind fun t474 => (if t474 = true then (if x5_1.length < 17592186044416 then (spec_CycleLines.l0 kj5 l1 (x5_1 ++ [x6_1]) (wrap64 (x6_1 + 1)) a0_0 l0_1) else (none)) else (spec_CycleLines.l0 kj5 l1 x5_1 (wrap64 (x6_1 + 1)) a0_0 l0_1))) else (none)) else (spec_CycleLines.l0 kj5 l1 x5_1 (wrap64 (x6_1 + 1)) a0_0 l0_1)) = some r := by rw [← hbq15] at H; exact H
     have Nbq15 := Aside0.mk hbq15
     clear hbq15
     by_cases c16 : bq15 = true
     rotate_left
     ·
      replace c16 := Bool.eq_false_iff.mpr c16
      subst c16
      have H1 : (spec_CycleLines.l0 kj5 l1 x5_1 (wrap64 (x6_1 + 1)) a0_0 l0_1) = some r := by rw [if_neg (show ¬ (false = true) by decide)] at H; exact H
      clear H
      have H := H1
      clear H1
      have H' := Aside0.mk H
      clear H
      have hcz32_0 : wc.cell? ⟨gb462, 0, none⟩ = some (.int .i64 a0_0) := (blk_cell BK462.out 0).trans rfl
      have hcz32_1 : wc.cell? ⟨gb462, 1, none⟩ = some (.slice A0_1 l0_1.length c0_1) := (blk_cell BK462.out 1).trans rfl
      have hfz32_0 := blk_frozen BK462.out 0
      have hfz32_1 := blk_frozen BK462.out 1
      try go_wp2_with (first | ((with_reducible refine gate_callee (f := 84) rfl ?_); refine goesL_ (some 25) rfl rfl Tryd.func84 (by kernel_rfl) rfl #[.agg #[.int .i64 a0_0, .slice A0_1 l0_1.length c0_1], .slice A1 l1.length c1, .int .i64 x6_1, .bool false] rfl mP ?_; (with_reducible refine (spec_SwitchLine.calls kj5 a0_0 _ _ l0_1 _ _ l1 x6_1 false t467 t470 _ ?side1 ?side2 ?side3 ?side4 A12.out).mono ?_); (case side1 => exact gC ((Kd.C_below HR0_1.out HB.out))); (case side2 => exact HC0_1.out); (case side3 => exact gC ((Kd.C_below HR1.out HB.out))); (case side4 => exact HC1.out); rintro e w33 ⟨v468, rfl, ho0, hb⟩; refine ⟨_, rfl, ?_⟩; have n0_ := aM (Kd.R_below (gR (HO_5.out)) hb); have n1_ := aM (Kd.R_lower ho0 (below_size (bl1 HB GE462))); have n2_ := aM (blk_below (g := gb462) (o := .cells #[.int .i64 a0_0, .slice A0_1 l0_1.length c0_1] 25 (0, 0)) (gB (BK462.out)) hb); have n3_ := aM (below_step (bl1 HB GE462) hb); clear HO_5; clear BK462; clear HB; have HO_5 := n0_; have HO469 := n1_; have BK462 := n2_; have HB := n3_; clear n0_ n1_ n2_ n3_; (try clear hb); (try clear hb2); (try clear hk); (try clear hi); (try clear ho0)))
      have n0_ := aM (Kd.R_drew HO_5.out)
      have n1_ := aM (Kd.R_drew HO469.out)
      have n2_ := aM (blk_drew BK462.out)
      have n3_ := aM (below_drew1 HB.out)
      clear HO_5
      clear HO469
      clear BK462
      clear HB
      have HO_5 := n0_
      have HO469 := n1_
      have BK462 := n2_
      have HB := n3_
      clear n0_ n1_ n2_ n3_
      have p471 : 0 ≤ (x6_1 : Int) := oD
      have q471 : x6_1 < (l1.length : Int) := oD
      obtain ⟨ad471, e471, hx471_0⟩ := Kd.at_bool HR1.out x6_1 p471 q471
      have hw471_0 := hx471_0
      (try rw [← Nbq15.out] at hx471_0)
      cases e471
      replace hx471_0 := (HB.out.cell (World.block_lt_of_cell? w _ hx471_0)).trans hx471_0
      replace p471 := eq_true p471
      replace q471 := eq_true q471
      refine start_ (n := 21) (S := fun w' => w'.cell? (ad471.add (x6_1).toNat) = some (.bool false)) (ds := []) #[zz,zz,zz,zz,zz,zz,zz,zz,zz,zz,zz,zz,zz,zz,zz,zz,zz,zz,zz,zz,zz] (by kernel_rfl) rfl rfl (((HB.out.cell (World.block_lt_of_cell? w _ hw471_0)).trans (by first | exact hw471_0 | (refine (hw471_0).trans ?_; congr 2; first | assumption | exact Eq.symm (Aside0.out (by assumption)) | exact Aside0.out (by assumption))))) (fun hHeld => ?_); refine with_tabW spec_CycleLines.tab6 spec_CycleLines.bits6 (fun HT_ HW_ => ?_)
      generalize w33.drew = w34 at HO_5 HO469 BK462 HB hx471_0 hHeld ⊢
      refine pure_ (i := 0) (N := some 28) (v := ?_) (a' := ?_) #[oo,zz,zz,zz,zz,zz,zz,zz,zz,zz,zz,zz,zz,zz,zz,zz,zz,zz,zz,zz,zz] rfl rfl (any_of HT_.out (by kernel_rfl)) (fun _ _ _ h => h) (Or.inl ⟨by rfl, ?_⟩) ?_ ?_
      rotate_left
      ·
       intro w'
       go_simp
       with_reducible rfl
      rotate_left
      ·
       simp only [Act.put, List.setIfInBounds_toArray, List.set_cons_zero, List.set_cons_succ, i64_w, i32_w]
       rfl
      refine pure_ (i := 1) (N := some 29) (v := ?_) (a' := ?_) #[oo,oo,zz,zz,zz,zz,zz,zz,zz,zz,zz,zz,zz,zz,zz,zz,zz,zz,zz,zz,zz] rfl rfl (any_of HT_.out (by kernel_rfl)) (fun _ _ _ h => h) (Or.inl ⟨by rfl, ?_⟩) ?_ ?_
      rotate_left
      ·
       intro w'
       go_simp
       with_reducible rfl
      rotate_left
      ·
       simp only [Act.put, List.setIfInBounds_toArray, List.set_cons_zero, List.set_cons_succ, i64_w, i32_w]
       rfl
      refine pure_ (i := 2) (N := some 30) (v := ?_) (a' := ?_) #[oo,oo,oo,zz,zz,zz,zz,zz,zz,zz,zz,zz,zz,zz,zz,zz,zz,zz,zz,zz,zz] rfl rfl (any_of HT_.out (by kernel_rfl)) (fun _ _ _ h => h) (Or.inl ⟨by rfl, ?_⟩) ?_ ?_
      rotate_left
      ·
       intro w'
       go_simp
       with_reducible rfl
      rotate_left
      ·
       simp only [Act.put, List.setIfInBounds_toArray, List.set_cons_zero, List.set_cons_succ, i64_w, i32_w]
       rfl
      refine take_ (i := 3) (N := some 31) (v := ?_) (a' := ?_) #[oo,oo,oo,oo,zz,zz,zz,zz,zz,zz,zz,zz,zz,zz,zz,zz,zz,zz,zz,zz,zz] rfl rfl (take_ofW HT_.out HW_.out (by kernel_rfl)) (fun _ _ _ h => h) (Or.inl ⟨by rfl, ?_⟩) hHeld ?_ ?_
      rotate_left
      ·
       intro w' s0
       go_simp
       with_reducible rfl
      rotate_left
      ·
       simp only [Act.put, List.setIfInBounds_toArray, List.set_cons_zero, List.set_cons_succ, i64_w, i32_w]
       rfl
      refine pure_ (i := 4) (N := some 32) (v := ?_) (a' := ?_) #[oo,oo,oo,oo,oo,zz,zz,zz,zz,zz,zz,zz,zz,zz,zz,zz,zz,zz,zz,zz,zz] rfl rfl (any_of HT_.out (by kernel_rfl)) (fun _ _ _ h => h) (Or.inl ⟨by rfl, ?_⟩) ?_ ?_
      rotate_left
      ·
       intro w'
       go_simp
       with_reducible rfl
      rotate_left
      ·
       simp only [Act.put, List.setIfInBounds_toArray, List.set_cons_zero, List.set_cons_succ, i64_w, i32_w]
       rfl
      refine pure_ (i := 5) (N := some 33) (v := undef) (a' := ?_) #[oo,oo,oo,oo,oo,oo,zz,zz,zz,zz,zz,zz,zz,zz,zz,zz,zz,zz,zz,zz,zz] rfl rfl (any_of HT_.out (by kernel_rfl)) (fun _ _ _ h => h) (Or.inr ⟨by rfl, rfl⟩) ?_ ?_
      rotate_left
      ·
       simp only [Act.put, List.setIfInBounds_toArray, List.set_cons_zero, List.set_cons_succ, i64_w, i32_w]
       rfl
      refine pure_ (i := 6) (N := some 34) (v := undef) (a' := ?_) #[oo,oo,oo,oo,oo,oo,oo,zz,zz,zz,zz,zz,zz,zz,zz,zz,zz,zz,zz,zz,zz] rfl rfl (any_of HT_.out (by kernel_rfl)) (fun _ _ _ h => h) (Or.inr ⟨by rfl, rfl⟩) ?_ ?_
      rotate_left
      ·
       simp only [Act.put, List.setIfInBounds_toArray, List.set_cons_zero, List.set_cons_succ, i64_w, i32_w]
       rfl
      refine pure_ (i := 7) (N := some 35) (v := undef) (a' := ?_) #[oo,oo,oo,oo,oo,oo,oo,oo,zz,zz,zz,zz,zz,zz,zz,zz,zz,zz,zz,zz,zz] rfl rfl (any_of HT_.out (by kernel_rfl)) (fun _ _ _ h => h) (Or.inr ⟨by rfl, rfl⟩) ?_ ?_
      rotate_left
      ·
       simp only [Act.put, List.setIfInBounds_toArray, List.set_cons_zero, List.set_cons_succ, i64_w, i32_w]
       rfl
      refine pure_ (i := 8) (N := some 36) (v := undef) (a' := ?_) #[oo,oo,oo,oo,oo,oo,oo,oo,oo,zz,zz,zz,zz,zz,zz,zz,zz,zz,zz,zz,zz] rfl rfl (any_of HT_.out (by kernel_rfl)) (fun _ _ _ h => h) (Or.inr ⟨by rfl, rfl⟩) ?_ ?_
      rotate_left
      ·
       simp only [Act.put, List.setIfInBounds_toArray, List.set_cons_zero, List.set_cons_succ, i64_w, i32_w]
       rfl
      refine pure_ (i := 9) (N := some 37) (v := undef) (a' := ?_) #[oo,oo,oo,oo,oo,oo,oo,oo,oo,oo,zz,zz,zz,zz,zz,zz,zz,zz,zz,zz,zz] rfl rfl (any_of HT_.out (by kernel_rfl)) (fun _ _ _ h => h) (Or.inr ⟨by rfl, rfl⟩) ?_ ?_
      rotate_left
      ·
       simp only [Act.put, List.setIfInBounds_toArray, List.set_cons_zero, List.set_cons_succ, i64_w, i32_w]
       rfl
      refine pure_ (i := 10) (N := some 38) (v := undef) (a' := ?_) #[oo,oo,oo,oo,oo,oo,oo,oo,oo,oo,oo,zz,zz,zz,zz,zz,zz,zz,zz,zz,zz] rfl rfl (any_of HT_.out (by kernel_rfl)) (fun _ _ _ h => h) (Or.inr ⟨by rfl, rfl⟩) ?_ ?_
      rotate_left
      ·
       simp only [Act.put, List.setIfInBounds_toArray, List.set_cons_zero, List.set_cons_succ, i64_w, i32_w]
       rfl
      refine pure_ (i := 11) (N := some 39) (v := undef) (a' := ?_) #[oo,oo,oo,oo,oo,oo,oo,oo,oo,oo,oo,oo,zz,zz,zz,zz,zz,zz,zz,zz,zz] rfl rfl (any_of HT_.out (by kernel_rfl)) (fun _ _ _ h => h) (Or.inr ⟨by rfl, rfl⟩) ?_ ?_
      rotate_left
      ·
       simp only [Act.put, List.setIfInBounds_toArray, List.set_cons_zero, List.set_cons_succ, i64_w, i32_w]
       rfl
      refine pure_ (i := 12) (N := some 40) (v := undef) (a' := ?_) #[oo,oo,oo,oo,oo,oo,oo,oo,oo,oo,oo,oo,oo,zz,zz,zz,zz,zz,zz,zz,zz] rfl rfl (any_of HT_.out (by kernel_rfl)) (fun _ _ _ h => h) (Or.inr ⟨by rfl, rfl⟩) ?_ ?_
      rotate_left
      ·
       simp only [Act.put, List.setIfInBounds_toArray, List.set_cons_zero, List.set_cons_succ, i64_w, i32_w]
       rfl
      refine pure_ (i := 13) (N := some 41) (v := undef) (a' := ?_) #[oo,oo,oo,oo,oo,oo,oo,oo,oo,oo,oo,oo,oo,oo,zz,zz,zz,zz,zz,zz,zz] rfl rfl (any_of HT_.out (by kernel_rfl)) (fun _ _ _ h => h) (Or.inr ⟨by rfl, rfl⟩) ?_ ?_
      rotate_left
      ·
       simp only [Act.put, List.setIfInBounds_toArray, List.set_cons_zero, List.set_cons_succ, i64_w, i32_w]
       rfl
      refine pure_ (i := 14) (N := some 42) (v := undef) (a' := ?_) #[oo,oo,oo,oo,oo,oo,oo,oo,oo,oo,oo,oo,oo,oo,oo,zz,zz,zz,zz,zz,zz] rfl rfl (any_of HT_.out (by kernel_rfl)) (fun _ _ _ h => h) (Or.inr ⟨by rfl, rfl⟩) ?_ ?_
      rotate_left
      ·
       simp only [Act.put, List.setIfInBounds_toArray, List.set_cons_zero, List.set_cons_succ, i64_w, i32_w]
       rfl
      refine pure_ (i := 15) (N := some 43) (v := undef) (a' := ?_) #[oo,oo,oo,oo,oo,oo,oo,oo,oo,oo,oo,oo,oo,oo,oo,oo,zz,zz,zz,zz,zz] rfl rfl (any_of HT_.out (by kernel_rfl)) (fun _ _ _ h => h) (Or.inr ⟨by rfl, rfl⟩) ?_ ?_
      rotate_left
      ·
       simp only [Act.put, List.setIfInBounds_toArray, List.set_cons_zero, List.set_cons_succ, i64_w, i32_w]
       rfl
      refine pure_ (i := 16) (N := some 44) (v := undef) (a' := ?_) #[oo,oo,oo,oo,oo,oo,oo,oo,oo,oo,oo,oo,oo,oo,oo,oo,oo,zz,zz,zz,zz] rfl rfl (any_of HT_.out (by kernel_rfl)) (fun _ _ _ h => h) (Or.inr ⟨by rfl, rfl⟩) ?_ ?_
      rotate_left
      ·
       simp only [Act.put, List.setIfInBounds_toArray, List.set_cons_zero, List.set_cons_succ, i64_w, i32_w]
       rfl
      refine pure_ (i := 17) (N := some 45) (v := undef) (a' := ?_) #[oo,oo,oo,oo,oo,oo,oo,oo,oo,oo,oo,oo,oo,oo,oo,oo,oo,oo,zz,zz,zz] rfl rfl (any_of HT_.out (by kernel_rfl)) (fun _ _ _ h => h) (Or.inr ⟨by rfl, rfl⟩) ?_ ?_
      rotate_left
      ·
       simp only [Act.put, List.setIfInBounds_toArray, List.set_cons_zero, List.set_cons_succ, i64_w, i32_w]
       rfl
      refine pure_ (i := 18) (N := some 46) (v := undef) (a' := ?_) #[oo,oo,oo,oo,oo,oo,oo,oo,oo,oo,oo,oo,oo,oo,oo,oo,oo,oo,oo,zz,zz] rfl rfl (any_of HT_.out (by kernel_rfl)) (fun _ _ _ h => h) (Or.inr ⟨by rfl, rfl⟩) ?_ ?_
      rotate_left
      ·
       simp only [Act.put, List.setIfInBounds_toArray, List.set_cons_zero, List.set_cons_succ, i64_w, i32_w]
       rfl
      refine pure_ (i := 19) (N := some 47) (v := undef) (a' := ?_) #[oo,oo,oo,oo,oo,oo,oo,oo,oo,oo,oo,oo,oo,oo,oo,oo,oo,oo,oo,oo,zz] rfl rfl (any_of HT_.out (by kernel_rfl)) (fun _ _ _ h => h) (Or.inr ⟨by rfl, rfl⟩) ?_ ?_
      rotate_left
      ·
       simp only [Act.put, List.setIfInBounds_toArray, List.set_cons_zero, List.set_cons_succ, i64_w, i32_w]
       rfl
      refine pure_ (i := 20) (N := some 48) (v := ?_) (a' := ?_) #[oo,oo,oo,oo,oo,oo,oo,oo,oo,oo,oo,oo,oo,oo,oo,oo,oo,oo,oo,oo,oo] rfl rfl (any_of HT_.out (by kernel_rfl)) (fun _ _ _ h => h) (Or.inl ⟨by rfl, ?_⟩) ?_ ?_
      rotate_left
      ·
       intro w'
       go_simp
       with_reducible rfl
      rotate_left
      ·
       simp only [Act.put, List.setIfInBounds_toArray, List.set_cons_zero, List.set_cons_succ, i64_w, i32_w]
       rfl
      refine done_ (done_of HT_.out (by kernel_rfl)) ?_
      try go_wp2
      go_roundg kj5
      case measure => have := HK1.out; have := HJ5.out; omega
      case rel => exact ⟨(x5_1), (wrap64 (x6_1 + 1)), fS, H', ⟨by have := HK1.out; have := HJ5.out; omega⟩, ⟨gR (HO_5.out)⟩, ⟨gB (BK462.out)⟩, ⟨bl1 HB GE462⟩⟩
     subst c16
     have H1 : (if x6_1 < (l0_1.length : Int) then ((spec_SameIsland.f kj5 a0_0 l0_1 t467 ((rd_T79 l0_1 x6_1).f0) ((rd_T79 l0_1 x6_1).f1)).bind fun t474 => (if t474 = true then (if x5_1.length < 17592186044416 then (spec_CycleLines.l0 kj5 l1 (x5_1 ++ [x6_1]) (wrap64 (x6_1 + 1)) a0_0 l0_1) else (none)) else (spec_CycleLines.l0 kj5 l1 x5_1 (wrap64 (x6_1 + 1)) a0_0 l0_1))) else (none)) = some r := by rw [if_pos rfl] at H; exact H
     clear H
     have H := H1
     clear H1
     by_cases c17 : x6_1 < (l0_1.length : Int)
     rotate_left
     ·
      rw [if_neg c17] at H
      exact absurd H (by simp)
     rw [if_pos c17] at H
     have c17b0 : decide (x6_1 < (l0_1.length : Int)) = true := decide_eq_true c17
     clear c17
     replace H := Option.bind_eq_some_iff.mp H
     obtain ⟨t474, A180, H⟩ := H
     replace H : (if t474 = true then (if x5_1.length < 17592186044416 then (spec_CycleLines.l0 kj5 l1 (x5_1 ++ [x6_1]) (wrap64 (x6_1 + 1)) a0_0 l0_1) else (none)) else (spec_CycleLines.l0 kj5 l1 x5_1 (wrap64 (x6_1 + 1)) a0_0 l0_1)) = some r := H
     have A18 := Aside0.mk A180
     clear A180
     by_cases c19 : t474 = true
     rotate_left
     ·
      replace c19 := Bool.eq_false_iff.mpr c19
      subst c19
      have H1 : (spec_CycleLines.l0 kj5 l1 x5_1 (wrap64 (x6_1 + 1)) a0_0 l0_1) = some r := by rw [if_neg (show ¬ (false = true) by decide)] at H; exact H
      clear H
      have H := H1
      clear H1
      have H' := Aside0.mk H
      clear H
      have hcz27_0 : wc.cell? ⟨gb462, 0, none⟩ = some (.int .i64 a0_0) := (blk_cell BK462.out 0).trans rfl
      have hcz27_1 : wc.cell? ⟨gb462, 1, none⟩ = some (.slice A0_1 l0_1.length c0_1) := (blk_cell BK462.out 1).trans rfl
      have hfz27_0 := blk_frozen BK462.out 0
      have hfz27_1 := blk_frozen BK462.out 1
      try go_wp2_with (first | ((with_reducible refine gate_callee (f := 84) rfl ?_); refine goesL_ (some 25) rfl rfl Tryd.func84 (by kernel_rfl) rfl #[.agg #[.int .i64 a0_0, .slice A0_1 l0_1.length c0_1], .slice A1 l1.length c1, .int .i64 x6_1, .bool false] rfl mP ?_; (with_reducible refine (spec_SwitchLine.calls kj5 a0_0 _ _ l0_1 _ _ l1 x6_1 false t467 t470 _ ?side1 ?side2 ?side3 ?side4 A12.out).mono ?_); (case side1 => exact gC ((Kd.C_below HR0_1.out HB.out))); (case side2 => exact HC0_1.out); (case side3 => exact gC ((Kd.C_below HR1.out HB.out))); (case side4 => exact HC1.out); rintro e w28 ⟨v468, rfl, ho0, hb⟩; refine ⟨_, rfl, ?_⟩; have n0_ := aM (Kd.R_below (gR (HO_5.out)) hb); have n1_ := aM (Kd.R_lower ho0 (below_size (bl1 HB GE462))); have n2_ := aM (blk_below (g := gb462) (o := .cells #[.int .i64 a0_0, .slice A0_1 l0_1.length c0_1] 25 (0, 0)) (gB (BK462.out)) hb); have n3_ := aM (below_step (bl1 HB GE462) hb); clear HO_5; clear BK462; clear HB; have HO_5 := n0_; have HO469 := n1_; have BK462 := n2_; have HB := n3_; clear n0_ n1_ n2_ n3_; (try clear hb); (try clear hb2); (try clear hk); (try clear hi); (try clear ho0)))
      have n0_ := aM (Kd.R_drew HO_5.out)
      have n1_ := aM (Kd.R_drew HO469.out)
      have n2_ := aM (blk_drew BK462.out)
      have n3_ := aM (below_drew1 HB.out)
      clear HO_5
      clear HO469
      clear BK462
      clear HB
      have HO_5 := n0_
      have HO469 := n1_
      have BK462 := n2_
      have HB := n3_
      clear n0_ n1_ n2_ n3_
      have p471 : 0 ≤ (x6_1 : Int) := oD
      have q471 : x6_1 < (l1.length : Int) := oD
      obtain ⟨ad471, e471, hx471_0⟩ := Kd.at_bool HR1.out x6_1 p471 q471
      have hw471_0 := hx471_0
      (try rw [← Nbq15.out] at hx471_0)
      cases e471
      replace hx471_0 := (HB.out.cell (World.block_lt_of_cell? w _ hx471_0)).trans hx471_0
      replace p471 := eq_true p471
      replace q471 := eq_true q471
      have p472 : 0 ≤ (x6_1 : Int) := oD
      have q472 : x6_1 < (l0_1.length : Int) := oD
      obtain ⟨ad472, e472, hx472_0, hx472_1, hx472_2⟩ := at_T79 HR0_1.out x6_1 p472 q472
      have hw472_2 := hx472_2
      have hw472_1 := hx472_1
      have hw472_0 := hx472_0
      cases e472
      replace hx472_0 := (HB.out.cell (World.block_lt_of_cell? w _ hx472_0)).trans hx472_0
      replace hx472_1 := (HB.out.cell (World.block_lt_of_cell? w _ hx472_1)).trans hx472_1
      replace hx472_2 := (HB.out.cell (World.block_lt_of_cell? w _ hx472_2)).trans hx472_2
      replace p472 := eq_true p472
      replace q472 := eq_true q472
      have p473 : 0 ≤ (x6_1 : Int) := oD
      have q473 : x6_1 < (l0_1.length : Int) := oD
      obtain ⟨ad473, e473, hx473_0, hx473_1, hx473_2⟩ := at_T79 HR0_1.out x6_1 p473 q473
      have hw473_2 := hx473_2
      have hw473_1 := hx473_1
      have hw473_0 := hx473_0
      obtain rfl : ad472 = ad473 := (by injection e473)
      replace hx473_0 := (HB.out.cell (World.block_lt_of_cell? w _ hx473_0)).trans hx473_0
      replace hx473_1 := (HB.out.cell (World.block_lt_of_cell? w _ hx473_1)).trans hx473_1
      replace hx473_2 := (HB.out.cell (World.block_lt_of_cell? w _ hx473_2)).trans hx473_2
      replace p473 := eq_true p473
      replace q473 := eq_true q473
      obtain ⟨Ao30, co30, eo30⟩ := Kd.R_slice HO469.out
      (first | subst eo30 | (injection eo30 with f1_ f2_ f3_; have f4_ := f1_.symm; have f5_ := f3_.symm; clear f1_ f2_ f3_; subst f4_; subst f5_))
      refine start_ (n := 21) (S := fun w' => w'.cell? ⟨gb462, 0, none⟩ = some (.int .i64 a0_0) ∧ w'.cell? ⟨gb462, 1, none⟩ = some (.slice (some ad472) l0_1.length c0_1) ∧ w'.cell? (ad471.add (x6_1).toNat) = some (.bool true) ∧ w'.cell? (ad472.add ((x6_1).toNat * 3)) = some (.int .i64 ((rd_T79 l0_1 x6_1).f0)) ∧ w'.cell? ⟨(ad472.add ((x6_1).toNat * 3)).block, (ad472.add ((x6_1).toNat * 3)).off + 1, none⟩ = some (.int .i64 ((rd_T79 l0_1 x6_1).f1)) ∧ w'.cell? ⟨(ad472.add ((x6_1).toNat * 3)).block, (ad472.add ((x6_1).toNat * 3)).off + 2, none⟩ = some (.int .i64 ((rd_T79 l0_1 x6_1).f2)) ∧ w'.cell? (ad472.add ((x6_1).toNat * 3)) = some (.int .i64 ((rd_T79 l0_1 x6_1).f0)) ∧ w'.cell? ⟨(ad472.add ((x6_1).toNat * 3)).block, (ad472.add ((x6_1).toNat * 3)).off + 1, none⟩ = some (.int .i64 ((rd_T79 l0_1 x6_1).f1)) ∧ w'.cell? ⟨(ad472.add ((x6_1).toNat * 3)).block, (ad472.add ((x6_1).toNat * 3)).off + 2, none⟩ = some (.int .i64 ((rd_T79 l0_1 x6_1).f2))) (ds := []) #[zz,zz,zz,zz,zz,zz,zz,zz,zz,zz,zz,zz,zz,zz,zz,zz,zz,zz,zz,zz,zz] (by kernel_rfl) rfl rfl ⟨(blk_cell BK462.out 0).trans rfl, (blk_cell BK462.out 1).trans rfl, ((HB.out.cell (World.block_lt_of_cell? w _ hw471_0)).trans (by first | exact hw471_0 | (refine (hw471_0).trans ?_; congr 2; first | assumption | exact Eq.symm (Aside0.out (by assumption)) | exact Aside0.out (by assumption)))), ((HB.out.cell (World.block_lt_of_cell? w _ hw472_0)).trans (by first | exact hw472_0 | (refine (hw472_0).trans ?_; congr 2; first | assumption | exact Eq.symm (Aside0.out (by assumption)) | exact Aside0.out (by assumption)))), ((HB.out.cell (World.block_lt_of_cell? w _ hw472_1)).trans (by first | exact hw472_1 | (refine (hw472_1).trans ?_; congr 2; first | assumption | exact Eq.symm (Aside0.out (by assumption)) | exact Aside0.out (by assumption)))), ((HB.out.cell (World.block_lt_of_cell? w _ hw472_2)).trans (by first | exact hw472_2 | (refine (hw472_2).trans ?_; congr 2; first | assumption | exact Eq.symm (Aside0.out (by assumption)) | exact Aside0.out (by assumption)))), ((HB.out.cell (World.block_lt_of_cell? w _ hw473_0)).trans (by first | exact hw473_0 | (refine (hw473_0).trans ?_; congr 2; first | assumption | exact Eq.symm (Aside0.out (by assumption)) | exact Aside0.out (by assumption)))), ((HB.out.cell (World.block_lt_of_cell? w _ hw473_1)).trans (by first | exact hw473_1 | (refine (hw473_1).trans ?_; congr 2; first | assumption | exact Eq.symm (Aside0.out (by assumption)) | exact Aside0.out (by assumption)))), ((HB.out.cell (World.block_lt_of_cell? w _ hw473_2)).trans (by first | exact hw473_2 | (refine (hw473_2).trans ?_; congr 2; first | assumption | exact Eq.symm (Aside0.out (by assumption)) | exact Aside0.out (by assumption))))⟩ (fun hHeld => ?_); refine with_tabW spec_CycleLines.tab6 spec_CycleLines.bits6 (fun HT_ HW_ => ?_)
      generalize w28.drew = w29 at HO_5 HO469 BK462 HB hx471_0 hx472_0 hx472_1 hx472_2 hx473_0 hx473_1 hx473_2 hHeld ⊢
      refine pure_ (i := 0) (N := some 28) (v := ?_) (a' := ?_) #[oo,zz,zz,zz,zz,zz,zz,zz,zz,zz,zz,zz,zz,zz,zz,zz,zz,zz,zz,zz,zz] rfl rfl (any_of HT_.out (by kernel_rfl)) (fun _ _ _ h => h) (Or.inl ⟨by rfl, ?_⟩) ?_ ?_
      rotate_left
      ·
       intro w'
       go_simp
       with_reducible rfl
      rotate_left
      ·
       simp only [Act.put, List.setIfInBounds_toArray, List.set_cons_zero, List.set_cons_succ, i64_w, i32_w]
       rfl
      refine pure_ (i := 1) (N := some 29) (v := ?_) (a' := ?_) #[oo,oo,zz,zz,zz,zz,zz,zz,zz,zz,zz,zz,zz,zz,zz,zz,zz,zz,zz,zz,zz] rfl rfl (any_of HT_.out (by kernel_rfl)) (fun _ _ _ h => h) (Or.inl ⟨by rfl, ?_⟩) ?_ ?_
      rotate_left
      ·
       intro w'
       go_simp
       with_reducible rfl
      rotate_left
      ·
       simp only [Act.put, List.setIfInBounds_toArray, List.set_cons_zero, List.set_cons_succ, i64_w, i32_w]
       rfl
      refine pure_ (i := 2) (N := some 30) (v := ?_) (a' := ?_) #[oo,oo,oo,zz,zz,zz,zz,zz,zz,zz,zz,zz,zz,zz,zz,zz,zz,zz,zz,zz,zz] rfl rfl (any_of HT_.out (by kernel_rfl)) (fun _ _ _ h => h) (Or.inl ⟨by rfl, ?_⟩) ?_ ?_
      rotate_left
      ·
       intro w'
       go_simp
       with_reducible rfl
      rotate_left
      ·
       simp only [Act.put, List.setIfInBounds_toArray, List.set_cons_zero, List.set_cons_succ, i64_w, i32_w]
       rfl
      refine take_ (i := 3) (N := some 31) (v := ?_) (a' := ?_) #[oo,oo,oo,oo,zz,zz,zz,zz,zz,zz,zz,zz,zz,zz,zz,zz,zz,zz,zz,zz,zz] rfl rfl (take_ofW HT_.out HW_.out (by kernel_rfl)) (fun _ _ _ h => h) (Or.inl ⟨by rfl, ?_⟩) hHeld ?_ ?_
      rotate_left
      ·
       rintro w' ⟨s0, s1, s2, s3, s4, s5, s6, s7, s8⟩
       go_simp
       with_reducible rfl
      rotate_left
      ·
       simp only [Act.put, List.setIfInBounds_toArray, List.set_cons_zero, List.set_cons_succ, i64_w, i32_w]
       rfl
      refine pure_ (i := 4) (N := some 32) (v := ?_) (a' := ?_) #[oo,oo,oo,oo,oo,zz,zz,zz,zz,zz,zz,zz,zz,zz,zz,zz,zz,zz,zz,zz,zz] rfl rfl (any_of HT_.out (by kernel_rfl)) (fun _ _ _ h => h) (Or.inl ⟨by rfl, ?_⟩) ?_ ?_
      rotate_left
      ·
       intro w'
       go_simp
       with_reducible rfl
      rotate_left
      ·
       simp only [Act.put, List.setIfInBounds_toArray, List.set_cons_zero, List.set_cons_succ, i64_w, i32_w]
       rfl
      refine pure_ (i := 6) (N := some 34) (v := ?_) (a' := ?_) #[oo,oo,oo,oo,oo,zz,oo,zz,zz,zz,zz,zz,zz,zz,zz,zz,zz,zz,zz,zz,zz] rfl rfl (any_of HT_.out (by kernel_rfl)) (fun _ _ _ h => h) (Or.inl ⟨by rfl, ?_⟩) ?_ ?_
      rotate_left
      ·
       intro w'
       go_simp
       with_reducible rfl
      rotate_left
      ·
       simp only [Act.put, List.setIfInBounds_toArray, List.set_cons_zero, List.set_cons_succ, i64_w, i32_w]
       rfl
      refine pure_ (i := 7) (N := some 35) (v := ?_) (a' := ?_) #[oo,oo,oo,oo,oo,zz,oo,oo,zz,zz,zz,zz,zz,zz,zz,zz,zz,zz,zz,zz,zz] rfl rfl (any_of HT_.out (by kernel_rfl)) (fun _ _ _ h => h) (Or.inl ⟨by rfl, ?_⟩) ?_ ?_
      rotate_left
      ·
       intro w'
       go_simp
       with_reducible rfl
      rotate_left
      ·
       simp only [Act.put, List.setIfInBounds_toArray, List.set_cons_zero, List.set_cons_succ, i64_w, i32_w]
       rfl
      refine pure_ (i := 9) (N := some 37) (v := ?_) (a' := ?_) #[oo,oo,oo,oo,oo,zz,oo,oo,zz,oo,zz,zz,zz,zz,zz,zz,zz,zz,zz,zz,zz] rfl rfl (any_of HT_.out (by kernel_rfl)) (fun _ _ _ h => h) (Or.inl ⟨by rfl, ?_⟩) ?_ ?_
      rotate_left
      ·
       intro w'
       go_simp
       with_reducible rfl
      rotate_left
      ·
       simp only [Act.put, List.setIfInBounds_toArray, List.set_cons_zero, List.set_cons_succ, i64_w, i32_w]
       rfl
      refine pure_ (i := 13) (N := some 41) (v := ?_) (a' := ?_) #[oo,oo,oo,oo,oo,zz,oo,oo,zz,oo,zz,zz,zz,oo,zz,zz,zz,zz,zz,zz,zz] rfl rfl (any_of HT_.out (by kernel_rfl)) (fun _ _ _ h => h) (Or.inl ⟨by rfl, ?_⟩) ?_ ?_
      rotate_left
      ·
       intro w'
       go_simp
       with_reducible rfl
      rotate_left
      ·
       simp only [Act.put, List.setIfInBounds_toArray, List.set_cons_zero, List.set_cons_succ, i64_w, i32_w]
       rfl
      refine pure_ (i := 15) (N := some 43) (v := ?_) (a' := ?_) #[oo,oo,oo,oo,oo,zz,oo,oo,zz,oo,zz,zz,zz,oo,zz,oo,zz,zz,zz,zz,zz] rfl rfl (any_of HT_.out (by kernel_rfl)) (fun _ _ _ h => h) (Or.inl ⟨by rfl, ?_⟩) ?_ ?_
      rotate_left
      ·
       intro w'
       go_simp
       with_reducible rfl
      rotate_left
      ·
       simp only [Act.put, List.setIfInBounds_toArray, List.set_cons_zero, List.set_cons_succ, i64_w, i32_w]
       rfl
      refine take_ (i := 5) (N := some 33) (v := ?_) (a' := ?_) #[oo,oo,oo,oo,oo,oo,oo,oo,zz,oo,zz,zz,zz,oo,zz,oo,zz,zz,zz,zz,zz] rfl rfl (take_ofW HT_.out HW_.out (by kernel_rfl)) (fun _ _ _ h => h) (Or.inl ⟨by rfl, ?_⟩) hHeld ?_ ?_
      rotate_left
      ·
       rintro w' ⟨s0, s1, s2, s3, s4, s5, s6, s7, s8⟩
       go_simp
       with_reducible rfl
      rotate_left
      ·
       simp only [Act.put, List.setIfInBounds_toArray, List.set_cons_zero, List.set_cons_succ, i64_w, i32_w]
       rfl
      refine take_ (i := 8) (N := some 36) (v := ?_) (a' := ?_) #[oo,oo,oo,oo,oo,oo,oo,oo,oo,oo,zz,zz,zz,oo,zz,oo,zz,zz,zz,zz,zz] rfl rfl (take_ofW HT_.out HW_.out (by kernel_rfl)) (fun _ _ _ h => h) (Or.inl ⟨by rfl, ?_⟩) hHeld ?_ ?_
      rotate_left
      ·
       rintro w' ⟨s0, s1, s2, s3, s4, s5, s6, s7, s8⟩
       go_simp
       with_reducible rfl
      rotate_left
      ·
       simp only [Act.put, List.setIfInBounds_toArray, List.set_cons_zero, List.set_cons_succ, i64_w, i32_w]
       rfl
      refine pure_ (i := 10) (N := some 38) (v := ?_) (a' := ?_) #[oo,oo,oo,oo,oo,oo,oo,oo,oo,oo,oo,zz,zz,oo,zz,oo,zz,zz,zz,zz,zz] rfl rfl (any_of HT_.out (by kernel_rfl)) (fun _ _ _ h => h) (Or.inl ⟨by rfl, ?_⟩) ?_ ?_
      rotate_left
      ·
       intro w'
       go_simp
       with_reducible rfl
      rotate_left
      ·
       simp only [Act.put, List.setIfInBounds_toArray, List.set_cons_zero, List.set_cons_succ, i64_w, i32_w]
       rfl
      refine pure_ (i := 11) (N := some 39) (v := ?_) (a' := ?_) #[oo,oo,oo,oo,oo,oo,oo,oo,oo,oo,oo,oo,zz,oo,zz,oo,zz,zz,zz,zz,zz] rfl rfl (any_of HT_.out (by kernel_rfl)) (fun _ _ _ h => h) (Or.inl ⟨by rfl, ?_⟩) ?_ ?_
      rotate_left
      ·
       intro w'
       go_simp
       with_reducible rfl
      rotate_left
      ·
       simp only [Act.put, List.setIfInBounds_toArray, List.set_cons_zero, List.set_cons_succ, i64_w, i32_w]
       rfl
      refine take_ (i := 12) (N := some 40) (v := ?_) (a' := ?_) #[oo,oo,oo,oo,oo,oo,oo,oo,oo,oo,oo,oo,oo,oo,zz,oo,zz,zz,zz,zz,zz] rfl rfl (take_ofW HT_.out HW_.out (by kernel_rfl)) (fun _ _ _ h => h) (Or.inl ⟨by rfl, ?_⟩) hHeld ?_ ?_
      rotate_left
      ·
       rintro w' ⟨s0, s1, s2, s3, s4, s5, s6, s7, s8⟩
       go_simp
       with_reducible rfl
      rotate_left
      ·
       simp only [Act.put, List.setIfInBounds_toArray, List.set_cons_zero, List.set_cons_succ, i64_w, i32_w]
       rfl
      refine take_ (i := 14) (N := some 42) (v := ?_) (a' := ?_) #[oo,oo,oo,oo,oo,oo,oo,oo,oo,oo,oo,oo,oo,oo,oo,oo,zz,zz,zz,zz,zz] rfl rfl (take_ofW HT_.out HW_.out (by kernel_rfl)) (fun _ _ _ h => h) (Or.inl ⟨by rfl, ?_⟩) hHeld ?_ ?_
      rotate_left
      ·
       rintro w' ⟨s0, s1, s2, s3, s4, s5, s6, s7, s8⟩
       go_simp
       with_reducible rfl
      rotate_left
      ·
       simp only [Act.put, List.setIfInBounds_toArray, List.set_cons_zero, List.set_cons_succ, i64_w, i32_w]
       rfl
      refine pure_ (i := 16) (N := some 44) (v := ?_) (a' := ?_) #[oo,oo,oo,oo,oo,oo,oo,oo,oo,oo,oo,oo,oo,oo,oo,oo,oo,zz,zz,zz,zz] rfl rfl (any_of HT_.out (by kernel_rfl)) (fun _ _ _ h => h) (Or.inl ⟨by rfl, ?_⟩) ?_ ?_
      rotate_left
      ·
       intro w'
       go_simp
       with_reducible rfl
      rotate_left
      ·
       simp only [Act.put, List.setIfInBounds_toArray, List.set_cons_zero, List.set_cons_succ, i64_w, i32_w]
       rfl
      refine pure_ (i := 17) (N := some 45) (v := ?_) (a' := ?_) #[oo,oo,oo,oo,oo,oo,oo,oo,oo,oo,oo,oo,oo,oo,oo,oo,oo,oo,zz,zz,zz] rfl rfl (any_of HT_.out (by kernel_rfl)) (fun _ _ _ h => h) (Or.inl ⟨by rfl, ?_⟩) ?_ ?_
      rotate_left
      ·
       intro w'
       go_simp
       with_reducible rfl
      rotate_left
      ·
       simp only [Act.put, List.setIfInBounds_toArray, List.set_cons_zero, List.set_cons_succ, i64_w, i32_w]
       rfl
      refine take_ (i := 18) (N := some 46) (v := ?_) (a' := ?_) #[oo,oo,oo,oo,oo,oo,oo,oo,oo,oo,oo,oo,oo,oo,oo,oo,oo,oo,oo,zz,zz] rfl rfl (take_ofW HT_.out HW_.out (by kernel_rfl)) (fun _ _ _ h => h) (Or.inl ⟨by rfl, ?_⟩) hHeld ?_ ?_
      rotate_left
      ·
       rintro w' ⟨s0, s1, s2, s3, s4, s5, s6, s7, s8⟩
       go_simp
       with_reducible rfl
      rotate_left
      ·
       simp only [Act.put, List.setIfInBounds_toArray, List.set_cons_zero, List.set_cons_succ, i64_w, i32_w]
       rfl
      refine one_ (i := 19) (N := some 47) #[oo,oo,oo,oo,oo,oo,oo,oo,oo,oo,oo,oo,oo,oo,oo,oo,oo,oo,oo,oo,zz] rfl rfl (one_of HT_.out (by kernel_rfl)) (by decide) (fun K hK => ?_)
      refine goes_ Tryd.func85 (by kernel_rfl) rfl #[.agg #[.int .i64 a0_0, .slice (some ad472) l0_1.length c0_1], .slice Ao30 t467.length co30, .int .i64 ((rd_T79 l0_1 x6_1).f0), .int .i64 ((rd_T79 l0_1 x6_1).f1)] (by rfl) rfl rfl mP ?_
      with_reducible refine (spec_SameIsland.calls kj5 a0_0 _ _ l0_1 _ _ t467 ((rd_T79 l0_1 x6_1).f0) ((rd_T79 l0_1 x6_1).f1) false _ ?side1 ?side2 ?side3 ?side4 A18.out).mono ?_
      (case side1 => exact gC ((Kd.C_below HR0_1.out HB.out)))
      (case side2 => exact HC0_1.out)
      (case side3 => exact gC ((Kd.R_reads' HO469.out).2.2))
      (case side4 => exact (Kd.R_reads' HO469.out).2.1)
      rintro e w31 ⟨rfl, hb⟩
      refine ⟨_, rfl, ?_⟩
      have n0_ := aM (Kd.R_below (gR (HO_5.out)) hb)
      have n1_ := aM (Kd.R_below (gR (HO469.out)) hb)
      have n2_ := aM (blk_below (g := gb462) (o := .cells #[.int .i64 a0_0, .slice (some ad472) l0_1.length c0_1] 25 (0, 0)) (gB (BK462.out)) hb)
      have n3_ := aM (below_step (bl1 HB GE462) hb)
      clear HO_5
      clear HO469
      clear BK462
      clear HB
      have HO_5 := n0_
      have HO469 := n1_
      have BK462 := n2_
      have HB := n3_
      clear n0_ n1_ n2_ n3_
      (try clear hb)
      (try clear hb2)
      (try clear hk)
      (try clear hi)
      refine hK.out _ _ ⟨(blk_cell BK462.out 0).trans rfl, (blk_cell BK462.out 1).trans rfl, ((HB.out.cell (World.block_lt_of_cell? w _ hw471_0)).trans (by first | exact hw471_0 | (refine (hw471_0).trans ?_; congr 2; first | assumption | exact Eq.symm (Aside0.out (by assumption)) | exact Aside0.out (by assumption)))), ((HB.out.cell (World.block_lt_of_cell? w _ hw472_0)).trans (by first | exact hw472_0 | (refine (hw472_0).trans ?_; congr 2; first | assumption | exact Eq.symm (Aside0.out (by assumption)) | exact Aside0.out (by assumption)))), ((HB.out.cell (World.block_lt_of_cell? w _ hw472_1)).trans (by first | exact hw472_1 | (refine (hw472_1).trans ?_; congr 2; first | assumption | exact Eq.symm (Aside0.out (by assumption)) | exact Aside0.out (by assumption)))), ((HB.out.cell (World.block_lt_of_cell? w _ hw472_2)).trans (by first | exact hw472_2 | (refine (hw472_2).trans ?_; congr 2; first | assumption | exact Eq.symm (Aside0.out (by assumption)) | exact Aside0.out (by assumption)))), ((HB.out.cell (World.block_lt_of_cell? w _ hw473_0)).trans (by first | exact hw473_0 | (refine (hw473_0).trans ?_; congr 2; first | assumption | exact Eq.symm (Aside0.out (by assumption)) | exact Aside0.out (by assumption)))), ((HB.out.cell (World.block_lt_of_cell? w _ hw473_1)).trans (by first | exact hw473_1 | (refine (hw473_1).trans ?_; congr 2; first | assumption | exact Eq.symm (Aside0.out (by assumption)) | exact Aside0.out (by assumption)))), ((HB.out.cell (World.block_lt_of_cell? w _ hw473_2)).trans (by first | exact hw473_2 | (refine (hw473_2).trans ?_; congr 2; first | assumption | exact Eq.symm (Aside0.out (by assumption)) | exact Aside0.out (by assumption))))⟩ (fun hHeld => ?_)
      clear hK K
      refine norm_ (a' := ?_) ?_ ?_
      rotate_left
      ·
       show Act.put _ (some 47) _ = _
       simp only [Act.put, List.setIfInBounds_toArray, List.set_cons_zero, List.set_cons_succ, i64_w, i32_w]
       rfl
      refine pure_ (i := 20) (N := some 48) (v := ?_) (a' := ?_) #[oo,oo,oo,oo,oo,oo,oo,oo,oo,oo,oo,oo,oo,oo,oo,oo,oo,oo,oo,oo,oo] rfl rfl (any_of HT_.out (by kernel_rfl)) (fun _ _ _ h => h) (Or.inl ⟨by rfl, ?_⟩) ?_ ?_
      rotate_left
      ·
       intro w'
       go_simp
       with_reducible rfl
      rotate_left
      ·
       simp only [Act.put, List.setIfInBounds_toArray, List.set_cons_zero, List.set_cons_succ, i64_w, i32_w]
       rfl
      refine done_ (done_of HT_.out (by kernel_rfl)) ?_
      try go_wp2
      go_roundg kj5
      case measure => have := HK1.out; have := HJ5.out; omega
      case rel => exact ⟨(x5_1), (wrap64 (x6_1 + 1)), fS, H', ⟨by have := HK1.out; have := HJ5.out; omega⟩, ⟨gR (HO_5.out)⟩, ⟨gB (BK462.out)⟩, ⟨bl1 HB GE462⟩⟩
     subst c19
     have H1 : (if x5_1.length < 17592186044416 then (spec_CycleLines.l0 kj5 l1 (x5_1 ++ [x6_1]) (wrap64 (x6_1 + 1)) a0_0 l0_1) else (none)) = some r := by rw [if_pos rfl] at H; exact H
     clear H
     have H := H1
     clear H1
     by_cases c20 : x5_1.length < 17592186044416
     rotate_left
     ·
      rw [if_neg c20] at H
      exact absurd H (by simp)
     rw [if_pos c20] at H
     have LMc20 := Aside0.mk c20
     clear c20
     obtain ⟨y475, hy475⟩ : ∃ y_ : List Int, y_ = (x5_1 ++ [x6_1]) := ⟨_, rfl⟩
     replace H : (spec_CycleLines.l0 kj5 l1 y475 (wrap64 (x6_1 + 1)) a0_0 l0_1) = some r := by first | (rw [hy475]; with_reducible exact H) | (have H2_ := (Option.bind_some _ _).symm.trans H; rw [hy475]; with_reducible exact H2_) | (have H2_ := (Option.bind_some _ _).symm.trans H; with_reducible exact H2_) | with_reducible exact H | (rw [hy475]; exact H) | exact H
     have Ny475 := Aside0.mk hy475
     clear hy475
     have H' := Aside0.mk H
     clear H
     have hcz21_0 : wc.cell? ⟨gb462, 0, none⟩ = some (.int .i64 a0_0) := (blk_cell BK462.out 0).trans rfl
     have hcz21_1 : wc.cell? ⟨gb462, 1, none⟩ = some (.slice A0_1 l0_1.length c0_1) := (blk_cell BK462.out 1).trans rfl
     have hfz21_0 := blk_frozen BK462.out 0
     have hfz21_1 := blk_frozen BK462.out 1
     try go_wp2_with (first | ((with_reducible refine gate_callee (f := 84) rfl ?_); refine goesL_ (some 25) rfl rfl Tryd.func84 (by kernel_rfl) rfl #[.agg #[.int .i64 a0_0, .slice A0_1 l0_1.length c0_1], .slice A1 l1.length c1, .int .i64 x6_1, .bool false] rfl mP ?_; (with_reducible refine (spec_SwitchLine.calls kj5 a0_0 _ _ l0_1 _ _ l1 x6_1 false t467 t470 _ ?side1 ?side2 ?side3 ?side4 A12.out).mono ?_); (case side1 => exact gC ((Kd.C_below HR0_1.out HB.out))); (case side2 => exact HC0_1.out); (case side3 => exact gC ((Kd.C_below HR1.out HB.out))); (case side4 => exact HC1.out); rintro e w22 ⟨v468, rfl, ho0, hb⟩; refine ⟨_, rfl, ?_⟩; have n0_ := aM (Kd.R_below (gR (HO_5.out)) hb); have n1_ := aM (Kd.R_lower ho0 (below_size (bl1 HB GE462))); have n2_ := aM (blk_below (g := gb462) (o := .cells #[.int .i64 a0_0, .slice A0_1 l0_1.length c0_1] 25 (0, 0)) (gB (BK462.out)) hb); have n3_ := aM (below_step (bl1 HB GE462) hb); clear HO_5; clear BK462; clear HB; have HO_5 := n0_; have HO469 := n1_; have BK462 := n2_; have HB := n3_; clear n0_ n1_ n2_ n3_; (try clear hb); (try clear hb2); (try clear hk); (try clear hi); (try clear ho0)))
     have n0_ := aM (Kd.R_drew HO_5.out)
     have n1_ := aM (Kd.R_drew HO469.out)
     have n2_ := aM (blk_drew BK462.out)
     have n3_ := aM (below_drew1 HB.out)
     clear HO_5
     clear HO469
     clear BK462
     clear HB
     have HO_5 := n0_
     have HO469 := n1_
     have BK462 := n2_
     have HB := n3_
     clear n0_ n1_ n2_ n3_
     have p471 : 0 ≤ (x6_1 : Int) := oD
     have q471 : x6_1 < (l1.length : Int) := oD
     obtain ⟨ad471, e471, hx471_0⟩ := Kd.at_bool HR1.out x6_1 p471 q471
     have hw471_0 := hx471_0
     (try rw [← Nbq15.out] at hx471_0)
     cases e471
     replace hx471_0 := (HB.out.cell (World.block_lt_of_cell? w _ hx471_0)).trans hx471_0
     replace p471 := eq_true p471
     replace q471 := eq_true q471
     have p472 : 0 ≤ (x6_1 : Int) := oD
     have q472 : x6_1 < (l0_1.length : Int) := oD
     obtain ⟨ad472, e472, hx472_0, hx472_1, hx472_2⟩ := at_T79 HR0_1.out x6_1 p472 q472
     have hw472_2 := hx472_2
     have hw472_1 := hx472_1
     have hw472_0 := hx472_0
     cases e472
     replace hx472_0 := (HB.out.cell (World.block_lt_of_cell? w _ hx472_0)).trans hx472_0
     replace hx472_1 := (HB.out.cell (World.block_lt_of_cell? w _ hx472_1)).trans hx472_1
     replace hx472_2 := (HB.out.cell (World.block_lt_of_cell? w _ hx472_2)).trans hx472_2
     replace p472 := eq_true p472
     replace q472 := eq_true q472
     have p473 : 0 ≤ (x6_1 : Int) := oD
     have q473 : x6_1 < (l0_1.length : Int) := oD
     obtain ⟨ad473, e473, hx473_0, hx473_1, hx473_2⟩ := at_T79 HR0_1.out x6_1 p473 q473
     have hw473_2 := hx473_2
     have hw473_1 := hx473_1
     have hw473_0 := hx473_0
     obtain rfl : ad472 = ad473 := (by injection e473)
     replace hx473_0 := (HB.out.cell (World.block_lt_of_cell? w _ hx473_0)).trans hx473_0
     replace hx473_1 := (HB.out.cell (World.block_lt_of_cell? w _ hx473_1)).trans hx473_1
     replace hx473_2 := (HB.out.cell (World.block_lt_of_cell? w _ hx473_2)).trans hx473_2
     replace p473 := eq_true p473
     replace q473 := eq_true q473
     obtain ⟨Ao24, co24, eo24⟩ := Kd.R_slice HO469.out
     (first | subst eo24 | (injection eo24 with f1_ f2_ f3_; have f4_ := f1_.symm; have f5_ := f3_.symm; clear f1_ f2_ f3_; subst f4_; subst f5_))
     refine start_ (n := 21) (S := fun w' => w'.cell? ⟨gb462, 0, none⟩ = some (.int .i64 a0_0) ∧ w'.cell? ⟨gb462, 1, none⟩ = some (.slice (some ad472) l0_1.length c0_1) ∧ w'.cell? (ad471.add (x6_1).toNat) = some (.bool true) ∧ w'.cell? (ad472.add ((x6_1).toNat * 3)) = some (.int .i64 ((rd_T79 l0_1 x6_1).f0)) ∧ w'.cell? ⟨(ad472.add ((x6_1).toNat * 3)).block, (ad472.add ((x6_1).toNat * 3)).off + 1, none⟩ = some (.int .i64 ((rd_T79 l0_1 x6_1).f1)) ∧ w'.cell? ⟨(ad472.add ((x6_1).toNat * 3)).block, (ad472.add ((x6_1).toNat * 3)).off + 2, none⟩ = some (.int .i64 ((rd_T79 l0_1 x6_1).f2)) ∧ w'.cell? (ad472.add ((x6_1).toNat * 3)) = some (.int .i64 ((rd_T79 l0_1 x6_1).f0)) ∧ w'.cell? ⟨(ad472.add ((x6_1).toNat * 3)).block, (ad472.add ((x6_1).toNat * 3)).off + 1, none⟩ = some (.int .i64 ((rd_T79 l0_1 x6_1).f1)) ∧ w'.cell? ⟨(ad472.add ((x6_1).toNat * 3)).block, (ad472.add ((x6_1).toNat * 3)).off + 2, none⟩ = some (.int .i64 ((rd_T79 l0_1 x6_1).f2))) (ds := []) #[zz,zz,zz,zz,zz,zz,zz,zz,zz,zz,zz,zz,zz,zz,zz,zz,zz,zz,zz,zz,zz] (by kernel_rfl) rfl rfl ⟨(blk_cell BK462.out 0).trans rfl, (blk_cell BK462.out 1).trans rfl, ((HB.out.cell (World.block_lt_of_cell? w _ hw471_0)).trans (by first | exact hw471_0 | (refine (hw471_0).trans ?_; congr 2; first | assumption | exact Eq.symm (Aside0.out (by assumption)) | exact Aside0.out (by assumption)))), ((HB.out.cell (World.block_lt_of_cell? w _ hw472_0)).trans (by first | exact hw472_0 | (refine (hw472_0).trans ?_; congr 2; first | assumption | exact Eq.symm (Aside0.out (by assumption)) | exact Aside0.out (by assumption)))), ((HB.out.cell (World.block_lt_of_cell? w _ hw472_1)).trans (by first | exact hw472_1 | (refine (hw472_1).trans ?_; congr 2; first | assumption | exact Eq.symm (Aside0.out (by assumption)) | exact Aside0.out (by assumption)))), ((HB.out.cell (World.block_lt_of_cell? w _ hw472_2)).trans (by first | exact hw472_2 | (refine (hw472_2).trans ?_; congr 2; first | assumption | exact Eq.symm (Aside0.out (by assumption)) | exact Aside0.out (by assumption)))), ((HB.out.cell (World.block_lt_of_cell? w _ hw473_0)).trans (by first | exact hw473_0 | (refine (hw473_0).trans ?_; congr 2; first | assumption | exact Eq.symm (Aside0.out (by assumption)) | exact Aside0.out (by assumption)))), ((HB.out.cell (World.block_lt_of_cell? w _ hw473_1)).trans (by first | exact hw473_1 | (refine (hw473_1).trans ?_; congr 2; first | assumption | exact Eq.symm (Aside0.out (by assumption)) | exact Aside0.out (by assumption)))), ((HB.out.cell (World.block_lt_of_cell? w _ hw473_2)).trans (by first | exact hw473_2 | (refine (hw473_2).trans ?_; congr 2; first | assumption | exact Eq.symm (Aside0.out (by assumption)) | exact Aside0.out (by assumption))))⟩ (fun hHeld => ?_); refine with_tabW spec_CycleLines.tab6 spec_CycleLines.bits6 (fun HT_ HW_ => ?_)
     generalize w22.drew = w23 at HO_5 HO469 BK462 HB hx471_0 hx472_0 hx472_1 hx472_2 hx473_0 hx473_1 hx473_2 hHeld ⊢
     refine pure_ (i := 0) (N := some 28) (v := ?_) (a' := ?_) #[oo,zz,zz,zz,zz,zz,zz,zz,zz,zz,zz,zz,zz,zz,zz,zz,zz,zz,zz,zz,zz] rfl rfl (any_of HT_.out (by kernel_rfl)) (fun _ _ _ h => h) (Or.inl ⟨by rfl, ?_⟩) ?_ ?_
     rotate_left
     ·
      intro w'
      go_simp
      with_reducible rfl
     rotate_left
     ·
      simp only [Act.put, List.setIfInBounds_toArray, List.set_cons_zero, List.set_cons_succ, i64_w, i32_w]
      rfl
     refine pure_ (i := 1) (N := some 29) (v := ?_) (a' := ?_) #[oo,oo,zz,zz,zz,zz,zz,zz,zz,zz,zz,zz,zz,zz,zz,zz,zz,zz,zz,zz,zz] rfl rfl (any_of HT_.out (by kernel_rfl)) (fun _ _ _ h => h) (Or.inl ⟨by rfl, ?_⟩) ?_ ?_
     rotate_left
     ·
      intro w'
      go_simp
      with_reducible rfl
     rotate_left
     ·
      simp only [Act.put, List.setIfInBounds_toArray, List.set_cons_zero, List.set_cons_succ, i64_w, i32_w]
      rfl
     refine pure_ (i := 2) (N := some 30) (v := ?_) (a' := ?_) #[oo,oo,oo,zz,zz,zz,zz,zz,zz,zz,zz,zz,zz,zz,zz,zz,zz,zz,zz,zz,zz] rfl rfl (any_of HT_.out (by kernel_rfl)) (fun _ _ _ h => h) (Or.inl ⟨by rfl, ?_⟩) ?_ ?_
     rotate_left
     ·
      intro w'
      go_simp
      with_reducible rfl
     rotate_left
     ·
      simp only [Act.put, List.setIfInBounds_toArray, List.set_cons_zero, List.set_cons_succ, i64_w, i32_w]
      rfl
     refine take_ (i := 3) (N := some 31) (v := ?_) (a' := ?_) #[oo,oo,oo,oo,zz,zz,zz,zz,zz,zz,zz,zz,zz,zz,zz,zz,zz,zz,zz,zz,zz] rfl rfl (take_ofW HT_.out HW_.out (by kernel_rfl)) (fun _ _ _ h => h) (Or.inl ⟨by rfl, ?_⟩) hHeld ?_ ?_
     rotate_left
     ·
      rintro w' ⟨s0, s1, s2, s3, s4, s5, s6, s7, s8⟩
      go_simp
      with_reducible rfl
     rotate_left
     ·
      simp only [Act.put, List.setIfInBounds_toArray, List.set_cons_zero, List.set_cons_succ, i64_w, i32_w]
      rfl
     refine pure_ (i := 4) (N := some 32) (v := ?_) (a' := ?_) #[oo,oo,oo,oo,oo,zz,zz,zz,zz,zz,zz,zz,zz,zz,zz,zz,zz,zz,zz,zz,zz] rfl rfl (any_of HT_.out (by kernel_rfl)) (fun _ _ _ h => h) (Or.inl ⟨by rfl, ?_⟩) ?_ ?_
     rotate_left
     ·
      intro w'
      go_simp
      with_reducible rfl
     rotate_left
     ·
      simp only [Act.put, List.setIfInBounds_toArray, List.set_cons_zero, List.set_cons_succ, i64_w, i32_w]
      rfl
     refine pure_ (i := 6) (N := some 34) (v := ?_) (a' := ?_) #[oo,oo,oo,oo,oo,zz,oo,zz,zz,zz,zz,zz,zz,zz,zz,zz,zz,zz,zz,zz,zz] rfl rfl (any_of HT_.out (by kernel_rfl)) (fun _ _ _ h => h) (Or.inl ⟨by rfl, ?_⟩) ?_ ?_
     rotate_left
     ·
      intro w'
      go_simp
      with_reducible rfl
     rotate_left
     ·
      simp only [Act.put, List.setIfInBounds_toArray, List.set_cons_zero, List.set_cons_succ, i64_w, i32_w]
      rfl
     refine pure_ (i := 7) (N := some 35) (v := ?_) (a' := ?_) #[oo,oo,oo,oo,oo,zz,oo,oo,zz,zz,zz,zz,zz,zz,zz,zz,zz,zz,zz,zz,zz] rfl rfl (any_of HT_.out (by kernel_rfl)) (fun _ _ _ h => h) (Or.inl ⟨by rfl, ?_⟩) ?_ ?_
     rotate_left
     ·
      intro w'
      go_simp
      with_reducible rfl
     rotate_left
     ·
      simp only [Act.put, List.setIfInBounds_toArray, List.set_cons_zero, List.set_cons_succ, i64_w, i32_w]
      rfl
     refine pure_ (i := 9) (N := some 37) (v := ?_) (a' := ?_) #[oo,oo,oo,oo,oo,zz,oo,oo,zz,oo,zz,zz,zz,zz,zz,zz,zz,zz,zz,zz,zz] rfl rfl (any_of HT_.out (by kernel_rfl)) (fun _ _ _ h => h) (Or.inl ⟨by rfl, ?_⟩) ?_ ?_
     rotate_left
     ·
      intro w'
      go_simp
      with_reducible rfl
     rotate_left
     ·
      simp only [Act.put, List.setIfInBounds_toArray, List.set_cons_zero, List.set_cons_succ, i64_w, i32_w]
      rfl
     refine pure_ (i := 13) (N := some 41) (v := ?_) (a' := ?_) #[oo,oo,oo,oo,oo,zz,oo,oo,zz,oo,zz,zz,zz,oo,zz,zz,zz,zz,zz,zz,zz] rfl rfl (any_of HT_.out (by kernel_rfl)) (fun _ _ _ h => h) (Or.inl ⟨by rfl, ?_⟩) ?_ ?_
     rotate_left
     ·
      intro w'
      go_simp
      with_reducible rfl
     rotate_left
     ·
      simp only [Act.put, List.setIfInBounds_toArray, List.set_cons_zero, List.set_cons_succ, i64_w, i32_w]
      rfl
     refine pure_ (i := 15) (N := some 43) (v := ?_) (a' := ?_) #[oo,oo,oo,oo,oo,zz,oo,oo,zz,oo,zz,zz,zz,oo,zz,oo,zz,zz,zz,zz,zz] rfl rfl (any_of HT_.out (by kernel_rfl)) (fun _ _ _ h => h) (Or.inl ⟨by rfl, ?_⟩) ?_ ?_
     rotate_left
     ·
      intro w'
      go_simp
      with_reducible rfl
     rotate_left
     ·
      simp only [Act.put, List.setIfInBounds_toArray, List.set_cons_zero, List.set_cons_succ, i64_w, i32_w]
      rfl
     refine take_ (i := 5) (N := some 33) (v := ?_) (a' := ?_) #[oo,oo,oo,oo,oo,oo,oo,oo,zz,oo,zz,zz,zz,oo,zz,oo,zz,zz,zz,zz,zz] rfl rfl (take_ofW HT_.out HW_.out (by kernel_rfl)) (fun _ _ _ h => h) (Or.inl ⟨by rfl, ?_⟩) hHeld ?_ ?_
     rotate_left
     ·
      rintro w' ⟨s0, s1, s2, s3, s4, s5, s6, s7, s8⟩
      go_simp
      with_reducible rfl
     rotate_left
     ·
      simp only [Act.put, List.setIfInBounds_toArray, List.set_cons_zero, List.set_cons_succ, i64_w, i32_w]
      rfl
     refine take_ (i := 8) (N := some 36) (v := ?_) (a' := ?_) #[oo,oo,oo,oo,oo,oo,oo,oo,oo,oo,zz,zz,zz,oo,zz,oo,zz,zz,zz,zz,zz] rfl rfl (take_ofW HT_.out HW_.out (by kernel_rfl)) (fun _ _ _ h => h) (Or.inl ⟨by rfl, ?_⟩) hHeld ?_ ?_
     rotate_left
     ·
      rintro w' ⟨s0, s1, s2, s3, s4, s5, s6, s7, s8⟩
      go_simp
      with_reducible rfl
     rotate_left
     ·
      simp only [Act.put, List.setIfInBounds_toArray, List.set_cons_zero, List.set_cons_succ, i64_w, i32_w]
      rfl
     refine pure_ (i := 10) (N := some 38) (v := ?_) (a' := ?_) #[oo,oo,oo,oo,oo,oo,oo,oo,oo,oo,oo,zz,zz,oo,zz,oo,zz,zz,zz,zz,zz] rfl rfl (any_of HT_.out (by kernel_rfl)) (fun _ _ _ h => h) (Or.inl ⟨by rfl, ?_⟩) ?_ ?_
     rotate_left
     ·
      intro w'
      go_simp
      with_reducible rfl
     rotate_left
     ·
      simp only [Act.put, List.setIfInBounds_toArray, List.set_cons_zero, List.set_cons_succ, i64_w, i32_w]
      rfl
     refine pure_ (i := 11) (N := some 39) (v := ?_) (a' := ?_) #[oo,oo,oo,oo,oo,oo,oo,oo,oo,oo,oo,oo,zz,oo,zz,oo,zz,zz,zz,zz,zz] rfl rfl (any_of HT_.out (by kernel_rfl)) (fun _ _ _ h => h) (Or.inl ⟨by rfl, ?_⟩) ?_ ?_
     rotate_left
     ·
      intro w'
      go_simp
      with_reducible rfl
     rotate_left
     ·
      simp only [Act.put, List.setIfInBounds_toArray, List.set_cons_zero, List.set_cons_succ, i64_w, i32_w]
      rfl
     refine take_ (i := 12) (N := some 40) (v := ?_) (a' := ?_) #[oo,oo,oo,oo,oo,oo,oo,oo,oo,oo,oo,oo,oo,oo,zz,oo,zz,zz,zz,zz,zz] rfl rfl (take_ofW HT_.out HW_.out (by kernel_rfl)) (fun _ _ _ h => h) (Or.inl ⟨by rfl, ?_⟩) hHeld ?_ ?_
     rotate_left
     ·
      rintro w' ⟨s0, s1, s2, s3, s4, s5, s6, s7, s8⟩
      go_simp
      with_reducible rfl
     rotate_left
     ·
      simp only [Act.put, List.setIfInBounds_toArray, List.set_cons_zero, List.set_cons_succ, i64_w, i32_w]
      rfl
     refine take_ (i := 14) (N := some 42) (v := ?_) (a' := ?_) #[oo,oo,oo,oo,oo,oo,oo,oo,oo,oo,oo,oo,oo,oo,oo,oo,zz,zz,zz,zz,zz] rfl rfl (take_ofW HT_.out HW_.out (by kernel_rfl)) (fun _ _ _ h => h) (Or.inl ⟨by rfl, ?_⟩) hHeld ?_ ?_
     rotate_left
     ·
      rintro w' ⟨s0, s1, s2, s3, s4, s5, s6, s7, s8⟩
      go_simp
      with_reducible rfl
     rotate_left
     ·
      simp only [Act.put, List.setIfInBounds_toArray, List.set_cons_zero, List.set_cons_succ, i64_w, i32_w]
      rfl
     refine pure_ (i := 16) (N := some 44) (v := ?_) (a' := ?_) #[oo,oo,oo,oo,oo,oo,oo,oo,oo,oo,oo,oo,oo,oo,oo,oo,oo,zz,zz,zz,zz] rfl rfl (any_of HT_.out (by kernel_rfl)) (fun _ _ _ h => h) (Or.inl ⟨by rfl, ?_⟩) ?_ ?_
     rotate_left
     ·
      intro w'
      go_simp
      with_reducible rfl
     rotate_left
     ·
      simp only [Act.put, List.setIfInBounds_toArray, List.set_cons_zero, List.set_cons_succ, i64_w, i32_w]
      rfl
     refine pure_ (i := 17) (N := some 45) (v := ?_) (a' := ?_) #[oo,oo,oo,oo,oo,oo,oo,oo,oo,oo,oo,oo,oo,oo,oo,oo,oo,oo,zz,zz,zz] rfl rfl (any_of HT_.out (by kernel_rfl)) (fun _ _ _ h => h) (Or.inl ⟨by rfl, ?_⟩) ?_ ?_
     rotate_left
     ·
      intro w'
      go_simp
      with_reducible rfl
     rotate_left
     ·
      simp only [Act.put, List.setIfInBounds_toArray, List.set_cons_zero, List.set_cons_succ, i64_w, i32_w]
      rfl
     refine take_ (i := 18) (N := some 46) (v := ?_) (a' := ?_) #[oo,oo,oo,oo,oo,oo,oo,oo,oo,oo,oo,oo,oo,oo,oo,oo,oo,oo,oo,zz,zz] rfl rfl (take_ofW HT_.out HW_.out (by kernel_rfl)) (fun _ _ _ h => h) (Or.inl ⟨by rfl, ?_⟩) hHeld ?_ ?_
     rotate_left
     ·
      rintro w' ⟨s0, s1, s2, s3, s4, s5, s6, s7, s8⟩
      go_simp
      with_reducible rfl
     rotate_left
     ·
      simp only [Act.put, List.setIfInBounds_toArray, List.set_cons_zero, List.set_cons_succ, i64_w, i32_w]
      rfl
     refine one_ (i := 19) (N := some 47) #[oo,oo,oo,oo,oo,oo,oo,oo,oo,oo,oo,oo,oo,oo,oo,oo,oo,oo,oo,oo,zz] rfl rfl (one_of HT_.out (by kernel_rfl)) (by decide) (fun K hK => ?_)
     refine goes_ Tryd.func85 (by kernel_rfl) rfl #[.agg #[.int .i64 a0_0, .slice (some ad472) l0_1.length c0_1], .slice Ao24 t467.length co24, .int .i64 ((rd_T79 l0_1 x6_1).f0), .int .i64 ((rd_T79 l0_1 x6_1).f1)] (by rfl) rfl rfl mP ?_
     with_reducible refine (spec_SameIsland.calls kj5 a0_0 _ _ l0_1 _ _ t467 ((rd_T79 l0_1 x6_1).f0) ((rd_T79 l0_1 x6_1).f1) true _ ?side1 ?side2 ?side3 ?side4 A18.out).mono ?_
     (case side1 => exact gC ((Kd.C_below HR0_1.out HB.out)))
     (case side2 => exact HC0_1.out)
     (case side3 => exact gC ((Kd.R_reads' HO469.out).2.2))
     (case side4 => exact (Kd.R_reads' HO469.out).2.1)
     rintro e w25 ⟨rfl, hb⟩
     refine ⟨_, rfl, ?_⟩
     have n0_ := aM (Kd.R_below (gR (HO_5.out)) hb)
     have n1_ := aM (Kd.R_below (gR (HO469.out)) hb)
     have n2_ := aM (blk_below (g := gb462) (o := .cells #[.int .i64 a0_0, .slice (some ad472) l0_1.length c0_1] 25 (0, 0)) (gB (BK462.out)) hb)
     have n3_ := aM (below_step (bl1 HB GE462) hb)
     clear HO_5
     clear HO469
     clear BK462
     clear HB
     have HO_5 := n0_
     have HO469 := n1_
     have BK462 := n2_
     have HB := n3_
     clear n0_ n1_ n2_ n3_
     (try clear hb)
     (try clear hb2)
     (try clear hk)
     (try clear hi)
     refine hK.out _ _ ⟨(blk_cell BK462.out 0).trans rfl, (blk_cell BK462.out 1).trans rfl, ((HB.out.cell (World.block_lt_of_cell? w _ hw471_0)).trans (by first | exact hw471_0 | (refine (hw471_0).trans ?_; congr 2; first | assumption | exact Eq.symm (Aside0.out (by assumption)) | exact Aside0.out (by assumption)))), ((HB.out.cell (World.block_lt_of_cell? w _ hw472_0)).trans (by first | exact hw472_0 | (refine (hw472_0).trans ?_; congr 2; first | assumption | exact Eq.symm (Aside0.out (by assumption)) | exact Aside0.out (by assumption)))), ((HB.out.cell (World.block_lt_of_cell? w _ hw472_1)).trans (by first | exact hw472_1 | (refine (hw472_1).trans ?_; congr 2; first | assumption | exact Eq.symm (Aside0.out (by assumption)) | exact Aside0.out (by assumption)))), ((HB.out.cell (World.block_lt_of_cell? w _ hw472_2)).trans (by first | exact hw472_2 | (refine (hw472_2).trans ?_; congr 2; first | assumption | exact Eq.symm (Aside0.out (by assumption)) | exact Aside0.out (by assumption)))), ((HB.out.cell (World.block_lt_of_cell? w _ hw473_0)).trans (by first | exact hw473_0 | (refine (hw473_0).trans ?_; congr 2; first | assumption | exact Eq.symm (Aside0.out (by assumption)) | exact Aside0.out (by assumption)))), ((HB.out.cell (World.block_lt_of_cell? w _ hw473_1)).trans (by first | exact hw473_1 | (refine (hw473_1).trans ?_; congr 2; first | assumption | exact Eq.symm (Aside0.out (by assumption)) | exact Aside0.out (by assumption)))), ((HB.out.cell (World.block_lt_of_cell? w _ hw473_2)).trans (by first | exact hw473_2 | (refine (hw473_2).trans ?_; congr 2; first | assumption | exact Eq.symm (Aside0.out (by assumption)) | exact Aside0.out (by assumption))))⟩ (fun hHeld => ?_)
     clear hK K
     refine norm_ (a' := ?_) ?_ ?_
     rotate_left
     ·
      show Act.put _ (some 47) _ = _
      simp only [Act.put, List.setIfInBounds_toArray, List.set_cons_zero, List.set_cons_succ, i64_w, i32_w]
      rfl
     refine pure_ (i := 20) (N := some 48) (v := ?_) (a' := ?_) #[oo,oo,oo,oo,oo,oo,oo,oo,oo,oo,oo,oo,oo,oo,oo,oo,oo,oo,oo,oo,oo] rfl rfl (any_of HT_.out (by kernel_rfl)) (fun _ _ _ h => h) (Or.inl ⟨by rfl, ?_⟩) ?_ ?_
     rotate_left
     ·
      intro w'
      go_simp
      with_reducible rfl
     rotate_left
     ·
      simp only [Act.put, List.setIfInBounds_toArray, List.set_cons_zero, List.set_cons_succ, i64_w, i32_w]
      rfl
     refine done_ (done_of HT_.out (by kernel_rfl)) ?_
     try go_wp2_with (first | ((with_reducible refine gate_builtin (b := .append) (xs := #[.tmp 49, .tmp 51]) rfl ?_); at_builtin; refine Kd.R_append (Kd.int .i64) (w0 := w) w.heap.size rfl (.tmp 49) (.tmp 51) 37 3 (.int .i64 0) 8 rfl Tryd.underlying37 info3 rfl (by decide) (by omega) u5 x5_1 x6_1 [.int .i64 x6_1] (fun _ => True) (fun _ => False) rfl rfl ?aP (fun _ hk => hk.elim) ?aF ?aO ?aB ?aS ?aL ?_; (case aP => exact rfl); (case aB => exact (bl1 HB GE462)); (case aF => exact (fun _ _ => trivial)); (case aO => exact (gR (HO_5.out))); (case aS => exact (below_size (bl1 HB GE462))); (case aL => have := LMc20.out; omega); intro v476 w26 ho hb hg hat; rw [← Ny475.out] at ho; have n0_ := aM (blk_grown (g := gb462) (o := .cells #[.int .i64 a0_0, .slice (some ad472) l0_1.length c0_1] 25 (0, 0)) (gB (BK462.out)) hg (Kd.R_ne HO_5.out BK462.out (by decide))); have n1_ := aM (Kd.R_over' (gR (HO469.out)) (Kd.R_typed (gR (HO_5.out))) (by decide) hg); have n2_ := aM (hb); have n3_ := aM (ho); clear BK462; clear HO469; clear HB; clear HO_5; have BK462 := n0_; have HO469 := n1_; have HB := n2_; have HO477 := n3_; clear n0_ n1_ n2_ n3_; clear ho hb hg hat))
     go_roundg kj5
     case measure => have := HK1.out; have := HJ5.out; omega
     case rel => exact ⟨(y475), (wrap64 (x6_1 + 1)), fS, H', ⟨by have := HK1.out; have := HJ5.out; omega⟩, ⟨gR (HO477.out)⟩, ⟨gB (BK462.out)⟩, ⟨bl1 HB GE462⟩⟩

end Go.Proofs.YtpgjgbjkfgbpaaaDoor.P

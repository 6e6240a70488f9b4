/- Contracts of Go functions of this seat's translation, written by this repo's wip/mk.py: it calls the kit's print.py with contracts typed by hand in place of functions that it does not take. Not trusted: Lean checks it. -/
import Derived.Test.YtpgjgbjkfgbpaaaDoorP0
import Derived.Test.YtpgjgbjkfgbpaaaDoorP29
import Derived.Test.YtpgjgbjkfgbpaaaDoorP32
import Derived.Test.YtpgjgbjkfgbpaaaDoorP59
namespace Go.Proofs.YtpgjgbjkfgbpaaaDoor.P
open Go.RowKit Go.Proofs.YtpgjgbjkfgbpaaaDoorW.PrintWords Go.Proofs.YtpgjgbjkfgbpaaaDoorW.PrintLast Go.Proofs.YtpgjgbjkfgbpaaaDoorW.PrintMore
attribute [local go_sem] max2_int min2_int max_two min_two max_three min_three max_four min_four   -- for this text's walks alone
set_option linter.unusedVariables false
set_option linter.unusedSimpArgs false

/-! ### spec_ServedLoad: function 44 -/
def spec_ServedLoad.l0 : Nat → List Bool → List (S33) → Int → Int → Int → List (S79) → Option (Int)
 | 0, _, _, _, _, _, _ => none
 | k + 1, x1, x2, x7, x8, x743000, x743001 => if x8 < x743000 then ((spec_IslandFeed.f k x743000 x743001 x1 x2 x8).bind fun t744 => ((spec_IslandLoad.f k x743000 x743001 x1 x2 x8).bind fun t745 => (if t744 ≥ t745 then (if 0 ≤ x8 then (if x8 < (x2.length : Int) then (spec_ServedLoad.l0 k x1 x2 (wrap64 (x7 + ((rd_T33 x2 x8).f1))) (wrap64 (x8 + 1)) x743000 x743001) else (none)) else (none)) else (spec_ServedLoad.l0 k x1 x2 x7 (wrap64 (x8 + 1)) x743000 x743001)))) else (some x7)
def spec_ServedLoad.f (k : Nat) (a0_0 : Int) (l0_1 : List (S79)) (l1 : List Bool) (l2 : List (S33)) : Option (Int) := (spec_l5Ok.f k a0_0 l0_1 l1 l2).bind fun t743 => (if t743 = true then (spec_ServedLoad.l0 k l1 l2 0 0 a0_0 l0_1) else (some (-1)))
theorem spec_ServedLoad.mono_l : ∀ k, (∀ y0 y1 y2 y3 y4 y5, LeO (spec_ServedLoad.l0 k y0 y1 y2 y3 y4 y5) (spec_ServedLoad.l0 (k + 1) y0 y1 y2 y3 y4 y5))
 | 0 => fun _ _ _ _ _ _ r h => by simp [spec_ServedLoad.l0] at h
 | k + 1 => by
  have ih0 := spec_ServedLoad.mono_l k
  ·
   intro y0 y1 y2 y3 y4 y5
   unfold spec_ServedLoad.l0
   repeat' first
   | (with_reducible exact ih0 _ _ _ _ _ _)
   | (with_reducible exact spec_IslandFeed.mono _ _ _ _ _ _)
   | (with_reducible exact spec_IslandLoad.mono _ _ _ _ _ _)
   | (with_reducible exact spec_l5Ok.mono _ _ _ _ _)
   | (with_reducible exact LeO.refl _)
   | (with_reducible exact LeO.none _)
   | (with_reducible refine LeO.ite ?_ ?_)
   | (with_reducible refine LeO.bind ?_ (fun _ => ?_))
   | exact ih0 _ _ _ _ _ _
   | exact spec_IslandFeed.mono _ _ _ _ _ _
   | exact spec_IslandLoad.mono _ _ _ _ _ _
   | exact spec_l5Ok.mono _ _ _ _ _
   | exact LeO.none _
   | refine LeO.ite ?_ ?_
   | refine LeO.bind ?_ (fun _ => ?_)
theorem spec_ServedLoad.mono : ∀ a0 a1 a2 a3 k, LeO (spec_ServedLoad.f k a0 a1 a2 a3) (spec_ServedLoad.f (k + 1) a0 a1 a2 a3) := by
 intro a0 a1 a2 a3 k
 have ih0 := spec_ServedLoad.mono_l k
 unfold spec_ServedLoad.f
 repeat' first
   | (with_reducible exact ih0 _ _ _ _ _ _)
   | (with_reducible exact spec_IslandFeed.mono _ _ _ _ _ _)
   | (with_reducible exact spec_IslandLoad.mono _ _ _ _ _ _)
   | (with_reducible exact spec_l5Ok.mono _ _ _ _ _)
   | (with_reducible exact LeO.refl _)
   | (with_reducible exact LeO.none _)
   | (with_reducible refine LeO.ite ?_ ?_)
   | (with_reducible refine LeO.bind ?_ (fun _ => ?_))
   | exact ih0 _ _ _ _ _ _
   | exact spec_IslandFeed.mono _ _ _ _ _ _
   | exact spec_IslandLoad.mono _ _ _ _ _ _
   | exact spec_l5Ok.mono _ _ _ _ _
   | exact LeO.none _
   | refine LeO.ite ?_ ?_
   | refine LeO.bind ?_ (fun _ => ?_)
def spec_ServedLoad.T7 : Bool × List (List Nat × List Nat) := (true, [([], []), ([], []), ([], []), ([], []), ([0, 1, 2, 3], [0, 1, 2, 3]), ([], []), ([], []), ([], []), ([], []), ([5, 6, 7, 8, 4], [5, 6, 7, 8]), ([4, 9], [4, 9])])
def spec_ServedLoad.B7 : List Nat := [0, 0, 0, 0, 15, 0, 0, 0, 0, 511, 1023]
theorem spec_ServedLoad.tab7 : rtab .any (opsOf Tryd.f44 7) = spec_ServedLoad.T7 := by kernel_rfl
theorem spec_ServedLoad.bits7 : waitsOk spec_ServedLoad.T7.2 spec_ServedLoad.B7 = true := by kernel_rfl
set_option maxHeartbeats 8000000 in
set_option maxRecDepth 100000 in
theorem spec_ServedLoad.calls (k : Nat) (a0_0 : Int) (A0_1 : Option Addr) (c0_1 : Nat) (l0_1 : List (S79)) (A1 : Option Addr) (c1 : Nat) (l1 : List Bool) (A2 : Option Addr) (c2 : Nat) (l2 : List (S33)) (r : Int) (w : World) (hr0_1 : Kd.C k79 w A0_1 l0_1.length l0_1) (hc0_1 : l0_1.length ≤ c0_1) (hr1 : Kd.C Kd.bool w A1 l1.length l1) (hc1 : l1.length ≤ c1) (hr2 : Kd.C k33 w A2 l2.length l2) (hc2 : l2.length ≤ c2) (h : spec_ServedLoad.f k a0_0 l0_1 l1 l2 = some r) :
  Calls Tryd.prog 44 #[.agg #[.int .i64 a0_0, .slice A0_1 l0_1.length c0_1], .slice A1 l1.length c1, .slice A2 l2.length c2] w fun e w' => e = .returned (.int .i64 r) ∧ Below w.heap.size w w' := by
 have hu25 := Tryd.underlying25
 have HR0_1 := Aside0.mk hr0_1
 have HC0_1 := Aside0.mk hc0_1
 clear hr0_1 hc0_1
 have HR1 := Aside0.mk hr1
 have HC1 := Aside0.mk hc1
 clear hr1 hc1
 have HR2 := Aside0.mk hr2
 have HC2 := Aside0.mk hc2
 clear hr2 hc2
 have HB := aM (Below.refl w.heap.size w)
 have H : ((spec_l5Ok.f k a0_0 l0_1 l1 l2).bind fun t743 => (if t743 = true then (spec_ServedLoad.l0 k l1 l2 0 0 a0_0 l0_1) else (some (-1)))) = some r := h
 clear h
 replace H := Option.bind_eq_some_iff.mp H
 obtain ⟨t743, A40, H⟩ := H
 replace H : (if t743 = true then (spec_ServedLoad.l0 k l1 l2 0 0 a0_0 l0_1) else (some (-1))) = some r := H
 have A4 := Aside0.mk A40
 clear A40
 by_cases c5 : t743 = true
 rotate_left
 ·
  replace c5 := Bool.eq_false_iff.mpr c5
  subst c5
  have H1 : (some (-1)) = some r := by rw [if_neg (show ¬ (false = true) by decide)] at H; exact H
  clear H
  have H := H1
  clear H1
  obtain rfl := Option.some.inj H
  go_enter Tryd.func44, Tryd.ntmps44
  go_wp2_with (first | ((with_reducible refine gate_dst (N := 3) rfl ?_); refine box_event ?hg (N := 3) ?hd (cs := #[.int .i64 a0_0, .slice A0_1 l0_1.length c0_1]) (t := 25) ?hr ?_; (case hd => rfl); (case hg => rfl); (case hr => exact hR); intro gb742 hg w24 hbox hb; have n0_ := aM (below_step (bl0 HB) hb); have n1_ := aM (hbox); have n2_ := aM ((by rw [hg]; exact (below_size (bl0 HB)) : w.heap.size ≤ gb742)); have n3_ := aM ((by rw [hg]; exact (below_size (bl0 HB)) : w.heap.size ≤ gb742)); clear HB; have HB := n0_; have BK742 := n1_; have GW742 := n2_; have GE742 := n3_; clear n0_ n1_ n2_ n3_; clear hb hbox hg; have hcz25_0 : w24.cell? ⟨gb742, 0, none⟩ = some (.int .i64 a0_0) := (blk_cell BK742.out 0).trans rfl; have hcz25_1 : w24.cell? ⟨gb742, 1, none⟩ = some (.slice A0_1 l0_1.length c0_1) := (blk_cell BK742.out 1).trans rfl; have hfz25_0 := blk_frozen BK742.out 0; have hfz25_1 := blk_frozen BK742.out 1) | ((with_reducible refine gate_callee (f := 74) rfl ?_); refine goesL_ (some 12) rfl rfl Tryd.func74 (by kernel_rfl) rfl #[.agg #[.int .i64 a0_0, .slice A0_1 l0_1.length c0_1], .slice A1 l1.length c1, .slice A2 l2.length c2] rfl mP ?_; (with_reducible refine (spec_l5Ok.calls k a0_0 _ _ l0_1 _ _ l1 _ _ l2 false _ ?side1 ?side2 ?side3 ?side4 ?side5 ?side6 A4.out).mono ?_); (case side1 => exact gC ((Kd.C_below HR0_1.out HB.out))); (case side2 => exact HC0_1.out); (case side3 => exact gC ((Kd.C_below HR1.out HB.out))); (case side4 => exact HC1.out); (case side5 => exact gC ((Kd.C_below HR2.out HB.out))); (case side6 => exact HC2.out); rintro e w26 ⟨rfl, hb⟩; refine ⟨_, rfl, ?_⟩; have n0_ := aM (blk_below (g := gb742) (o := .cells #[.int .i64 a0_0, .slice A0_1 l0_1.length c0_1] 25 (0, 0)) (gB (BK742.out)) hb); have n1_ := aM (below_step (bl1 HB GE742) hb); clear BK742; clear HB; have BK742 := n0_; have HB := n1_; clear n0_ n1_; (try clear hb); (try clear hb2); (try clear hk); (try clear hi)))
  go_ret
  exact ⟨fR, bl1 HB GE742⟩
 subst c5
 have H1 : (spec_ServedLoad.l0 k l1 l2 0 0 a0_0 l0_1) = some r := by rw [if_pos rfl] at H; exact H
 clear H
 have H := H1
 clear H1
 have H' := Aside0.mk H
 clear H
 go_enter Tryd.func44, Tryd.ntmps44
 go_wp2_with (first | ((with_reducible refine gate_dst (N := 3) rfl ?_); refine box_event ?hg (N := 3) ?hd (cs := #[.int .i64 a0_0, .slice A0_1 l0_1.length c0_1]) (t := 25) ?hr ?_; (case hd => rfl); (case hg => rfl); (case hr => exact hR); intro gb742 hg w6 hbox hb; have n0_ := aM (below_step (bl0 HB) hb); have n1_ := aM (hbox); have n2_ := aM ((by rw [hg]; exact (below_size (bl0 HB)) : w.heap.size ≤ gb742)); have n3_ := aM ((by rw [hg]; exact (below_size (bl0 HB)) : w.heap.size ≤ gb742)); clear HB; have HB := n0_; have BK742 := n1_; have GW742 := n2_; have GE742 := n3_; clear n0_ n1_ n2_ n3_; clear hb hbox hg; have hcz7_0 : w6.cell? ⟨gb742, 0, none⟩ = some (.int .i64 a0_0) := (blk_cell BK742.out 0).trans rfl; have hcz7_1 : w6.cell? ⟨gb742, 1, none⟩ = some (.slice A0_1 l0_1.length c0_1) := (blk_cell BK742.out 1).trans rfl; have hfz7_0 := blk_frozen BK742.out 0; have hfz7_1 := blk_frozen BK742.out 1) | ((with_reducible refine gate_callee (f := 74) rfl ?_); refine goesL_ (some 12) rfl rfl Tryd.func74 (by kernel_rfl) rfl #[.agg #[.int .i64 a0_0, .slice A0_1 l0_1.length c0_1], .slice A1 l1.length c1, .slice A2 l2.length c2] rfl mP ?_; (with_reducible refine (spec_l5Ok.calls k a0_0 _ _ l0_1 _ _ l1 _ _ l2 true _ ?side1 ?side2 ?side3 ?side4 ?side5 ?side6 A4.out).mono ?_); (case side1 => exact gC ((Kd.C_below HR0_1.out HB.out))); (case side2 => exact HC0_1.out); (case side3 => exact gC ((Kd.C_below HR1.out HB.out))); (case side4 => exact HC1.out); (case side5 => exact gC ((Kd.C_below HR2.out HB.out))); (case side6 => exact HC2.out); rintro e w8 ⟨rfl, hb⟩; refine ⟨_, rfl, ?_⟩; have n0_ := aM (blk_below (g := gb742) (o := .cells #[.int .i64 a0_0, .slice A0_1 l0_1.length c0_1] 25 (0, 0)) (gB (BK742.out)) hb); have n1_ := aM (below_step (bl1 HB GE742) hb); clear BK742; clear HB; have BK742 := n0_; have HB := n1_; clear n0_ n1_; (try clear hb); (try clear hb2); (try clear hk); (try clear hi)))
 go_loopg [7, 8] k (fun kq v7 v8 w' => ∃ (x7_1 : Int) (x8_1 : Int), v7 = .int .i64 x7_1 ∧ v8 = .int .i64 x8_1 ∧ Aside0 (spec_ServedLoad.l0 kq l1 l2 x7_1 x8_1 a0_0 l0_1 = some r) ∧ Aside0 (kq ≤ k) ∧ Aside0 (w'.heap[gb742]? = some (.cells #[.int .i64 a0_0, (.slice A0_1 l0_1.length c0_1)] 25 (0, 0))) ∧ Aside0 (Below w.heap.size w w'))
 case atStart => exact ⟨(0), (0), fS, fS, H', ⟨Nat.le_refl _⟩, ⟨gB (BK742.out)⟩, ⟨bl1 HB GE742⟩⟩
 case round =>
  clear H'
  try clear c1
  try clear c2
  try clear p2
  try clear c4
  try clear c5
  try clear c7
  try clear hcz7_0
  try clear hcz7_1
  try clear hfz7_0
  try clear hfz7_1
  obtain ⟨x7_1, x8_1, rfl, rfl, HA, HK1, BK742, HB⟩ := hrel
  cases gk with
  | zero => exact absurd HA.out (by simp [spec_ServedLoad.l0])
  | succ k1 =>
   have H := HA.out
   clear HA
   simp only [spec_ServedLoad.l0] at H
   by_cases c9 : x8_1 < a0_0
   rotate_left
   ·
    rw [if_neg c9] at H
    have c9b0 : decide (x8_1 < a0_0) = false := decide_eq_false c9
    clear c9
    obtain rfl := Option.some.inj H
    have hcz23_0 : wr.cell? ⟨gb742, 0, none⟩ = some (.int .i64 a0_0) := (blk_cell BK742.out 0).trans rfl
    have hcz23_1 : wr.cell? ⟨gb742, 1, none⟩ = some (.slice A0_1 l0_1.length c0_1) := (blk_cell BK742.out 1).trans rfl
    have hfz23_0 := blk_frozen BK742.out 0
    have hfz23_1 := blk_frozen BK742.out 1
    go_wp2
    go_ret
    exact ⟨fR, bl1 HB GE742⟩
   rw [if_pos c9] at H
   have c9b0 : decide (x8_1 < a0_0) = true := decide_eq_true c9
   clear c9
   replace H := Option.bind_eq_some_iff.mp H
   obtain ⟨t744, A100, H⟩ := H
   replace H : ((spec_IslandLoad.f k1 a0_0 l0_1 l1 l2 x8_1).bind fun t745 => (if t744 ≥ t745 then (if 0 ≤ x8_1 then (if x8_1 < (l2.length : Int) then (spec_ServedLoad.l0 k1 l1 l2 (wrap64 (x7_1 + ((rd_T33 l2 x8_1).f1))) (wrap64 (x8_1 + 1)) a0_0 l0_1) else (none)) else (none)) else (spec_ServedLoad.l0 k1 l1 l2 x7_1 (wrap64 (x8_1 + 1)) a0_0 l0_1))) = some r := H
   have A10 := Aside0.mk A100
   clear A100
   replace H := Option.bind_eq_some_iff.mp H
   obtain ⟨t745, A110, H⟩ := H
   replace H : (if t744 ≥ t745 then (if 0 ≤ x8_1 then (if x8_1 < (l2.length : Int) then (spec_ServedLoad.l0 k1 l1 l2 (wrap64 (x7_1 + ((rd_T33 l2 x8_1).f1))) (wrap64 (x8_1 + 1)) a0_0 l0_1) else (none)) else (none)) else (spec_ServedLoad.l0 k1 l1 l2 x7_1 (wrap64 (x8_1 + 1)) a0_0 l0_1)) = some r := H
   have A11 := Aside0.mk A110
   clear A110
   by_cases c12 : t744 ≥ t745
   rotate_left
   ·
    rw [if_neg c12] at H
    have c12b0 : decide (t745 ≤ t744) = false := decide_eq_false c12
    clear c12
    have H' := Aside0.mk H
    clear H
    have hcz19_0 : wr.cell? ⟨gb742, 0, none⟩ = some (.int .i64 a0_0) := (blk_cell BK742.out 0).trans rfl
    have hcz19_1 : wr.cell? ⟨gb742, 1, none⟩ = some (.slice A0_1 l0_1.length c0_1) := (blk_cell BK742.out 1).trans rfl
    have hfz19_0 := blk_frozen BK742.out 0
    have hfz19_1 := blk_frozen BK742.out 1
    try go_wp2
    have n0_ := aM (blk_drew BK742.out)
    have n1_ := aM (below_drew1 HB.out)
    clear BK742
    clear HB
    have BK742 := n0_
    have HB := n1_
    clear n0_ n1_
    refine start_ (n := 11) (S := fun w' => w'.cell? ⟨gb742, 0, none⟩ = some (.int .i64 a0_0) ∧ w'.cell? ⟨gb742, 1, none⟩ = some (.slice A0_1 l0_1.length c0_1)) (ds := []) #[false, false, false, false, false, false, false, false, false, false, false] (by kernel_rfl) rfl rfl ⟨(blk_cell BK742.out 0).trans rfl, (blk_cell BK742.out 1).trans rfl⟩ (fun hHeld => ?_); refine with_tabW spec_ServedLoad.tab7 spec_ServedLoad.bits7 (fun HT_ HW_ => ?_)
    generalize wr.drew = w20 at BK742 HB hHeld ⊢
    refine pure_ (i := 1) (N := some 21) (v := ?_) (a' := ?_) #[false, true, false, false, false, false, false, false, false, false, false] rfl rfl (any_of HT_.out (by kernel_rfl)) (fun _ _ _ h => h) (Or.inl ⟨by rfl, ?_⟩) ?_ ?_
    rotate_left
    ·
     intro w'
     go_simp
     with_reducible rfl
    rotate_left
    ·
     simp only [Act.put, List.setIfInBounds_toArray, List.set_cons_zero, List.set_cons_succ, i64_w, i32_w]
     rfl
    refine pure_ (i := 2) (N := some 22) (v := ?_) (a' := ?_) #[false, true, true, false, false, false, false, false, false, false, false] rfl rfl (any_of HT_.out (by kernel_rfl)) (fun _ _ _ h => h) (Or.inl ⟨by rfl, ?_⟩) ?_ ?_
    rotate_left
    ·
     intro w'
     go_simp
     with_reducible rfl
    rotate_left
    ·
     simp only [Act.put, List.setIfInBounds_toArray, List.set_cons_zero, List.set_cons_succ, i64_w, i32_w]
     rfl
    refine pure_ (i := 3) (N := some 23) (v := ?_) (a' := ?_) #[false, true, true, true, false, false, false, false, false, false, false] rfl rfl (any_of HT_.out (by kernel_rfl)) (fun _ _ _ h => h) (Or.inl ⟨by rfl, ?_⟩) ?_ ?_
    rotate_left
    ·
     intro w'
     go_simp
     with_reducible rfl
    rotate_left
    ·
     simp only [Act.put, List.setIfInBounds_toArray, List.set_cons_zero, List.set_cons_succ, i64_w, i32_w]
     rfl
    refine pure_ (i := 6) (N := some 26) (v := ?_) (a' := ?_) #[false, true, true, true, false, false, true, false, false, false, false] rfl rfl (any_of HT_.out (by kernel_rfl)) (fun _ _ _ h => h) (Or.inl ⟨by rfl, ?_⟩) ?_ ?_
    rotate_left
    ·
     intro w'
     go_simp
     with_reducible rfl
    rotate_left
    ·
     simp only [Act.put, List.setIfInBounds_toArray, List.set_cons_zero, List.set_cons_succ, i64_w, i32_w]
     rfl
    refine pure_ (i := 7) (N := some 27) (v := ?_) (a' := ?_) #[false, true, true, true, false, false, true, true, false, false, false] rfl rfl (any_of HT_.out (by kernel_rfl)) (fun _ _ _ h => h) (Or.inl ⟨by rfl, ?_⟩) ?_ ?_
    rotate_left
    ·
     intro w'
     go_simp
     with_reducible rfl
    rotate_left
    ·
     simp only [Act.put, List.setIfInBounds_toArray, List.set_cons_zero, List.set_cons_succ, i64_w, i32_w]
     rfl
    refine pure_ (i := 8) (N := some 28) (v := ?_) (a' := ?_) #[false, true, true, true, false, false, true, true, true, false, false] rfl rfl (any_of HT_.out (by kernel_rfl)) (fun _ _ _ h => h) (Or.inl ⟨by rfl, ?_⟩) ?_ ?_
    rotate_left
    ·
     intro w'
     go_simp
     with_reducible rfl
    rotate_left
    ·
     simp only [Act.put, List.setIfInBounds_toArray, List.set_cons_zero, List.set_cons_succ, i64_w, i32_w]
     rfl
    refine take_ (i := 0) (N := some 20) (v := ?_) (a' := ?_) #[true, true, true, true, false, false, true, true, true, false, false] rfl rfl (take_ofW HT_.out HW_.out (by kernel_rfl)) (fun _ _ _ h => h) (Or.inl ⟨by rfl, ?_⟩) hHeld ?_ ?_
    rotate_left
    ·
     rintro w' ⟨s0, s1⟩
     go_simp
     with_reducible rfl
    rotate_left
    ·
     simp only [Act.put, List.setIfInBounds_toArray, List.set_cons_zero, List.set_cons_succ, i64_w, i32_w]
     rfl
    refine take_ (i := 5) (N := some 25) (v := ?_) (a' := ?_) #[true, true, true, true, false, true, true, true, true, false, false] rfl rfl (take_ofW HT_.out HW_.out (by kernel_rfl)) (fun _ _ _ h => h) (Or.inl ⟨by rfl, ?_⟩) hHeld ?_ ?_
    rotate_left
    ·
     rintro w' ⟨s0, s1⟩
     go_simp
     with_reducible rfl
    rotate_left
    ·
     simp only [Act.put, List.setIfInBounds_toArray, List.set_cons_zero, List.set_cons_succ, i64_w, i32_w]
     rfl
    refine one_ (i := 4) (N := some 24) #[true, true, true, true, true, true, true, true, true, false, false] rfl rfl (one_of HT_.out (by kernel_rfl)) (by decide) (fun K hK => ?_)
    refine goes_ Tryd.func16 (by kernel_rfl) rfl #[.agg #[.int .i64 a0_0, .slice A0_1 l0_1.length c0_1], .slice A1 l1.length c1, .slice A2 l2.length c2, .int .i64 x8_1] (by rfl) rfl rfl mP ?_
    with_reducible refine (spec_IslandFeed.calls k1 a0_0 _ _ l0_1 _ _ l1 _ _ l2 x8_1 t744 _ ?side1 ?side2 ?side3 ?side4 ?side5 ?side6 A10.out).mono ?_
    (case side1 => exact gC ((Kd.C_below HR0_1.out HB.out)))
    (case side2 => exact HC0_1.out)
    (case side3 => exact gC ((Kd.C_below HR1.out HB.out)))
    (case side4 => exact HC1.out)
    (case side5 => exact gC ((Kd.C_below HR2.out HB.out)))
    (case side6 => exact HC2.out)
    rintro e w21 ⟨rfl, hb⟩
    refine ⟨_, rfl, ?_⟩
    have n0_ := aM (blk_below (g := gb742) (o := .cells #[.int .i64 a0_0, .slice A0_1 l0_1.length c0_1] 25 (0, 0)) (gB (BK742.out)) hb)
    have n1_ := aM (below_step (bl1 HB GE742) hb)
    clear BK742
    clear HB
    have BK742 := n0_
    have HB := n1_
    clear n0_ n1_
    (try clear hb)
    (try clear hb2)
    (try clear hk)
    (try clear hi)
    refine hK.out _ _ ⟨(blk_cell BK742.out 0).trans rfl, (blk_cell BK742.out 1).trans rfl⟩ (fun hHeld => ?_)
    clear hK K
    refine norm_ (a' := ?_) ?_ ?_
    rotate_left
    ·
     show Act.put _ (some 24) _ = _
     simp only [Act.put, List.setIfInBounds_toArray, List.set_cons_zero, List.set_cons_succ, i64_w, i32_w]
     rfl
    refine one_ (i := 9) (N := some 29) #[true, true, true, true, true, true, true, true, true, true, false] rfl rfl (one_of HT_.out (by kernel_rfl)) (by decide) (fun K hK => ?_)
    refine goes_ Tryd.func29 (by kernel_rfl) rfl #[.agg #[.int .i64 a0_0, .slice A0_1 l0_1.length c0_1], .slice A1 l1.length c1, .slice A2 l2.length c2, .int .i64 x8_1] (by rfl) rfl rfl mP ?_
    with_reducible refine (spec_IslandLoad.calls k1 a0_0 _ _ l0_1 _ _ l1 _ _ l2 x8_1 t745 _ ?side1 ?side2 ?side3 ?side4 ?side5 ?side6 A11.out).mono ?_
    (case side1 => exact gC ((Kd.C_below HR0_1.out HB.out)))
    (case side2 => exact HC0_1.out)
    (case side3 => exact gC ((Kd.C_below HR1.out HB.out)))
    (case side4 => exact HC1.out)
    (case side5 => exact gC ((Kd.C_below HR2.out HB.out)))
    (case side6 => exact HC2.out)
    rintro e w22 ⟨rfl, hb⟩
    refine ⟨_, rfl, ?_⟩
    have n0_ := aM (blk_below (g := gb742) (o := .cells #[.int .i64 a0_0, .slice A0_1 l0_1.length c0_1] 25 (0, 0)) (gB (BK742.out)) hb)
    have n1_ := aM (below_step (bl1 HB GE742) hb)
    clear BK742
    clear HB
    have BK742 := n0_
    have HB := n1_
    clear n0_ n1_
    (try clear hb)
    (try clear hb2)
    (try clear hk)
    (try clear hi)
    refine hK.out _ _ ⟨(blk_cell BK742.out 0).trans rfl, (blk_cell BK742.out 1).trans rfl⟩ (fun hHeld => ?_)
    clear hK K
    refine norm_ (a' := ?_) ?_ ?_
    rotate_left
    ·
     show Act.put _ (some 29) _ = _
     simp only [Act.put, List.setIfInBounds_toArray, List.set_cons_zero, List.set_cons_succ, i64_w, i32_w]
     rfl
    refine pure_ (i := 10) (N := some 30) (v := ?_) (a' := ?_) #[true, true, true, true, true, true, true, true, true, true, true] rfl rfl (any_of HT_.out (by kernel_rfl)) (fun _ _ _ h => h) (Or.inl ⟨by rfl, ?_⟩) ?_ ?_
    rotate_left
    ·
     intro w'
     go_simp
     with_reducible rfl
    rotate_left
    ·
     simp only [Act.put, List.setIfInBounds_toArray, List.set_cons_zero, List.set_cons_succ, i64_w, i32_w]
     rfl
    refine done_ (done_of HT_.out (by kernel_rfl)) ?_
    try go_wp2
    go_roundg k1
    case measure => have := HK1.out; omega
    case rel => exact ⟨(x7_1), (wrap64 (x8_1 + 1)), fS, fS, H', ⟨by have := HK1.out; omega⟩, ⟨gB (BK742.out)⟩, ⟨bl1 HB GE742⟩⟩
   rw [if_pos c12] at H
   have c12b0 : decide (t745 ≤ t744) = true := decide_eq_true c12
   clear c12
   by_cases c13 : 0 ≤ x8_1
   rotate_left
   ·
    rw [if_neg c13] at H
    exact absurd H (by simp)
   rw [if_pos c13] at H
   have c13b0 : decide (0 ≤ x8_1) = true := decide_eq_true c13
   clear c13
   by_cases c14 : x8_1 < (l2.length : Int)
   rotate_left
   ·
    rw [if_neg c14] at H
    exact absurd H (by simp)
   rw [if_pos c14] at H
   have c14b0 : decide (x8_1 < (l2.length : Int)) = true := decide_eq_true c14
   clear c14
   have H' := Aside0.mk H
   clear H
   have hcz15_0 : wr.cell? ⟨gb742, 0, none⟩ = some (.int .i64 a0_0) := (blk_cell BK742.out 0).trans rfl
   have hcz15_1 : wr.cell? ⟨gb742, 1, none⟩ = some (.slice A0_1 l0_1.length c0_1) := (blk_cell BK742.out 1).trans rfl
   have hfz15_0 := blk_frozen BK742.out 0
   have hfz15_1 := blk_frozen BK742.out 1
   try go_wp2
   have n0_ := aM (blk_drew BK742.out)
   have n1_ := aM (below_drew1 HB.out)
   clear BK742
   clear HB
   have BK742 := n0_
   have HB := n1_
   clear n0_ n1_
   refine start_ (n := 11) (S := fun w' => w'.cell? ⟨gb742, 0, none⟩ = some (.int .i64 a0_0) ∧ w'.cell? ⟨gb742, 1, none⟩ = some (.slice A0_1 l0_1.length c0_1)) (ds := []) #[false, false, false, false, false, false, false, false, false, false, false] (by kernel_rfl) rfl rfl ⟨(blk_cell BK742.out 0).trans rfl, (blk_cell BK742.out 1).trans rfl⟩ (fun hHeld => ?_); refine with_tabW spec_ServedLoad.tab7 spec_ServedLoad.bits7 (fun HT_ HW_ => ?_)
   generalize wr.drew = w16 at BK742 HB hHeld ⊢
   refine pure_ (i := 1) (N := some 21) (v := ?_) (a' := ?_) #[false, true, false, false, false, false, false, false, false, false, false] rfl rfl (any_of HT_.out (by kernel_rfl)) (fun _ _ _ h => h) (Or.inl ⟨by rfl, ?_⟩) ?_ ?_
   rotate_left
   ·
    intro w'
    go_simp
    with_reducible rfl
   rotate_left
   ·
    simp only [Act.put, List.setIfInBounds_toArray, List.set_cons_zero, List.set_cons_succ, i64_w, i32_w]
    rfl
   refine pure_ (i := 2) (N := some 22) (v := ?_) (a' := ?_) #[false, true, true, false, false, false, false, false, false, false, false] rfl rfl (any_of HT_.out (by kernel_rfl)) (fun _ _ _ h => h) (Or.inl ⟨by rfl, ?_⟩) ?_ ?_
   rotate_left
   ·
    intro w'
    go_simp
    with_reducible rfl
   rotate_left
   ·
    simp only [Act.put, List.setIfInBounds_toArray, List.set_cons_zero, List.set_cons_succ, i64_w, i32_w]
    rfl
   refine pure_ (i := 3) (N := some 23) (v := ?_) (a' := ?_) #[false, true, true, true, false, false, false, false, false, false, false] rfl rfl (any_of HT_.out (by kernel_rfl)) (fun _ _ _ h => h) (Or.inl ⟨by rfl, ?_⟩) ?_ ?_
   rotate_left
   ·
    intro w'
    go_simp
    with_reducible rfl
   rotate_left
   ·
    simp only [Act.put, List.setIfInBounds_toArray, List.set_cons_zero, List.set_cons_succ, i64_w, i32_w]
    rfl
   refine pure_ (i := 6) (N := some 26) (v := ?_) (a' := ?_) #[false, true, true, true, false, false, true, false, false, false, false] rfl rfl (any_of HT_.out (by kernel_rfl)) (fun _ _ _ h => h) (Or.inl ⟨by rfl, ?_⟩) ?_ ?_
   rotate_left
   ·
    intro w'
    go_simp
    with_reducible rfl
   rotate_left
   ·
    simp only [Act.put, List.setIfInBounds_toArray, List.set_cons_zero, List.set_cons_succ, i64_w, i32_w]
    rfl
   refine pure_ (i := 7) (N := some 27) (v := ?_) (a' := ?_) #[false, true, true, true, false, false, true, true, false, false, false] rfl rfl (any_of HT_.out (by kernel_rfl)) (fun _ _ _ h => h) (Or.inl ⟨by rfl, ?_⟩) ?_ ?_
   rotate_left
   ·
    intro w'
    go_simp
    with_reducible rfl
   rotate_left
   ·
    simp only [Act.put, List.setIfInBounds_toArray, List.set_cons_zero, List.set_cons_succ, i64_w, i32_w]
    rfl
   refine pure_ (i := 8) (N := some 28) (v := ?_) (a' := ?_) #[false, true, true, true, false, false, true, true, true, false, false] rfl rfl (any_of HT_.out (by kernel_rfl)) (fun _ _ _ h => h) (Or.inl ⟨by rfl, ?_⟩) ?_ ?_
   rotate_left
   ·
    intro w'
    go_simp
    with_reducible rfl
   rotate_left
   ·
    simp only [Act.put, List.setIfInBounds_toArray, List.set_cons_zero, List.set_cons_succ, i64_w, i32_w]
    rfl
   refine take_ (i := 0) (N := some 20) (v := ?_) (a' := ?_) #[true, true, true, true, false, false, true, true, true, false, false] rfl rfl (take_ofW HT_.out HW_.out (by kernel_rfl)) (fun _ _ _ h => h) (Or.inl ⟨by rfl, ?_⟩) hHeld ?_ ?_
   rotate_left
   ·
    rintro w' ⟨s0, s1⟩
    go_simp
    with_reducible rfl
   rotate_left
   ·
    simp only [Act.put, List.setIfInBounds_toArray, List.set_cons_zero, List.set_cons_succ, i64_w, i32_w]
    rfl
   refine take_ (i := 5) (N := some 25) (v := ?_) (a' := ?_) #[true, true, true, true, false, true, true, true, true, false, false] rfl rfl (take_ofW HT_.out HW_.out (by kernel_rfl)) (fun _ _ _ h => h) (Or.inl ⟨by rfl, ?_⟩) hHeld ?_ ?_
   rotate_left
   ·
    rintro w' ⟨s0, s1⟩
    go_simp
    with_reducible rfl
   rotate_left
   ·
    simp only [Act.put, List.setIfInBounds_toArray, List.set_cons_zero, List.set_cons_succ, i64_w, i32_w]
    rfl
   refine one_ (i := 4) (N := some 24) #[true, true, true, true, true, true, true, true, true, false, false] rfl rfl (one_of HT_.out (by kernel_rfl)) (by decide) (fun K hK => ?_)
   refine goes_ Tryd.func16 (by kernel_rfl) rfl #[.agg #[.int .i64 a0_0, .slice A0_1 l0_1.length c0_1], .slice A1 l1.length c1, .slice A2 l2.length c2, .int .i64 x8_1] (by rfl) rfl rfl mP ?_
   with_reducible refine (spec_IslandFeed.calls k1 a0_0 _ _ l0_1 _ _ l1 _ _ l2 x8_1 t744 _ ?side1 ?side2 ?side3 ?side4 ?side5 ?side6 A10.out).mono ?_
   (case side1 => exact gC ((Kd.C_below HR0_1.out HB.out)))
   (case side2 => exact HC0_1.out)
   (case side3 => exact gC ((Kd.C_below HR1.out HB.out)))
   (case side4 => exact HC1.out)
   (case side5 => exact gC ((Kd.C_below HR2.out HB.out)))
   (case side6 => exact HC2.out)
   rintro e w17 ⟨rfl, hb⟩
   refine ⟨_, rfl, ?_⟩
   have n0_ := aM (blk_below (g := gb742) (o := .cells #[.int .i64 a0_0, .slice A0_1 l0_1.length c0_1] 25 (0, 0)) (gB (BK742.out)) hb)
   have n1_ := aM (below_step (bl1 HB GE742) hb)
   clear BK742
   clear HB
   have BK742 := n0_
   have HB := n1_
   clear n0_ n1_
   (try clear hb)
   (try clear hb2)
   (try clear hk)
   (try clear hi)
   refine hK.out _ _ ⟨(blk_cell BK742.out 0).trans rfl, (blk_cell BK742.out 1).trans rfl⟩ (fun hHeld => ?_)
   clear hK K
   refine norm_ (a' := ?_) ?_ ?_
   rotate_left
   ·
    show Act.put _ (some 24) _ = _
    simp only [Act.put, List.setIfInBounds_toArray, List.set_cons_zero, List.set_cons_succ, i64_w, i32_w]
    rfl
   refine one_ (i := 9) (N := some 29) #[true, true, true, true, true, true, true, true, true, true, false] rfl rfl (one_of HT_.out (by kernel_rfl)) (by decide) (fun K hK => ?_)
   refine goes_ Tryd.func29 (by kernel_rfl) rfl #[.agg #[.int .i64 a0_0, .slice A0_1 l0_1.length c0_1], .slice A1 l1.length c1, .slice A2 l2.length c2, .int .i64 x8_1] (by rfl) rfl rfl mP ?_
   with_reducible refine (spec_IslandLoad.calls k1 a0_0 _ _ l0_1 _ _ l1 _ _ l2 x8_1 t745 _ ?side1 ?side2 ?side3 ?side4 ?side5 ?side6 A11.out).mono ?_
   (case side1 => exact gC ((Kd.C_below HR0_1.out HB.out)))
   (case side2 => exact HC0_1.out)
   (case side3 => exact gC ((Kd.C_below HR1.out HB.out)))
   (case side4 => exact HC1.out)
   (case side5 => exact gC ((Kd.C_below HR2.out HB.out)))
   (case side6 => exact HC2.out)
   rintro e w18 ⟨rfl, hb⟩
   refine ⟨_, rfl, ?_⟩
   have n0_ := aM (blk_below (g := gb742) (o := .cells #[.int .i64 a0_0, .slice A0_1 l0_1.length c0_1] 25 (0, 0)) (gB (BK742.out)) hb)
   have n1_ := aM (below_step (bl1 HB GE742) hb)
   clear BK742
   clear HB
   have BK742 := n0_
   have HB := n1_
   clear n0_ n1_
   (try clear hb)
   (try clear hb2)
   (try clear hk)
   (try clear hi)
   refine hK.out _ _ ⟨(blk_cell BK742.out 0).trans rfl, (blk_cell BK742.out 1).trans rfl⟩ (fun hHeld => ?_)
   clear hK K
   refine norm_ (a' := ?_) ?_ ?_
   rotate_left
   ·
    show Act.put _ (some 29) _ = _
    simp only [Act.put, List.setIfInBounds_toArray, List.set_cons_zero, List.set_cons_succ, i64_w, i32_w]
    rfl
   refine pure_ (i := 10) (N := some 30) (v := ?_) (a' := ?_) #[true, true, true, true, true, true, true, true, true, true, true] rfl rfl (any_of HT_.out (by kernel_rfl)) (fun _ _ _ h => h) (Or.inl ⟨by rfl, ?_⟩) ?_ ?_
   rotate_left
   ·
    intro w'
    go_simp
    with_reducible rfl
   rotate_left
   ·
    simp only [Act.put, List.setIfInBounds_toArray, List.set_cons_zero, List.set_cons_succ, i64_w, i32_w]
    rfl
   refine done_ (done_of HT_.out (by kernel_rfl)) ?_
   have p746 : 0 ≤ (x8_1 : Int) := oD
   have q746 : x8_1 < (l2.length : Int) := oD
   obtain ⟨ad746, e746, hx746_0, hx746_1⟩ := at_T33 HR2.out x8_1 p746 q746
   cases e746
   replace hx746_0 := (HB.out.cell (World.block_lt_of_cell? w _ hx746_0)).trans hx746_0
   replace hx746_1 := (HB.out.cell (World.block_lt_of_cell? w _ hx746_1)).trans hx746_1
   replace p746 := eq_true p746
   replace q746 := eq_true q746
   try go_wp2
   go_roundg k1
   case measure => have := HK1.out; omega
   case rel => exact ⟨(wrap64 (x7_1 + ((rd_T33 l2 x8_1).f1))), (wrap64 (x8_1 + 1)), fS, fS, H', ⟨by have := HK1.out; omega⟩, ⟨gB (BK742.out)⟩, ⟨bl1 HB GE742⟩⟩

end Go.Proofs.YtpgjgbjkfgbpaaaDoor.P

/- Contracts of Go functions of this seat's translation, written by this repo's wip/mk.py: it calls the kit's print.py with contracts typed by hand in place of functions that it does not take. Not trusted: Lean checks it. -/
import Derived.Test.YtpgjgbjkfgbpaaaDoorP0
import Derived.Test.YtpgjgbjkfgbpaaaDoorP5
namespace Go.Proofs.YtpgjgbjkfgbpaaaDoor.P
open Go.RowKit Go.Proofs.YtpgjgbjkfgbpaaaDoorW.PrintWords Go.Proofs.YtpgjgbjkfgbpaaaDoorW.PrintLast Go.Proofs.YtpgjgbjkfgbpaaaDoorW.PrintMore
attribute [local go_sem] max2_int min2_int max_two min_two max_three min_three max_four min_four   -- for this text's walks alone
set_option linter.unusedVariables false
set_option linter.unusedSimpArgs false

/-! ### impl_onCycle: function 83 -/
def impl_onCycle.l0 : Nat → List Bool → Int → List Int → List (S79) → Int → Int → Int → List (S79) → Option (Bool)
 | 0, _, _, _, _, _, _, _, _ => none
 | k + 1, x1, x2, x7, x14, x15, x16, x120000, x120001 => if x16 < x15 then (if 0 ≤ x16 then (if x16 < (x14.length : Int) then (if x16 < (x1.length : Int) then (if rdOf false x1 x16 = true then (if x16 = x2 then (impl_onCycle.l0 k x1 x2 x7 x14 x15 (wrap64 (x16 + 1)) x120000 x120001) else ((impl_union_join.f k x7 ((rd_T79 x14 x16).f0) ((rd_T79 x14 x16).f1)).bind fun t126 => (impl_onCycle.l0 k x1 x2 t126 x14 x15 (wrap64 (x16 + 1)) x120000 x120001))) else (impl_onCycle.l0 k x1 x2 x7 x14 x15 (wrap64 (x16 + 1)) x120000 x120001)) else (none)) else (none)) else (none)) else (if 0 ≤ x2 then (if x2 < (x120001.length : Int) then ((impl_union_same.f k x7 ((rd_T79 x120001 x2).f0) ((rd_T79 x120001 x2).f1)).bind fun bt129 => (some bt129.1)) else (none)) else (none))
def impl_onCycle.f (k : Nat) (a0_0 : Int) (l0_1 : List (S79)) (l1 : List Bool) (a2 : Int) : Option (Bool) := (impl_newUnion.f k a0_0).bind fun t120 => (impl_onCycle.l0 k l1 a2 t120 l0_1 (l0_1.length : Int) 0 a0_0 l0_1)
theorem impl_onCycle.mono_l : ∀ k, (∀ y0 y1 y2 y3 y4 y5 y6 y7, LeO (impl_onCycle.l0 k y0 y1 y2 y3 y4 y5 y6 y7) (impl_onCycle.l0 (k + 1) y0 y1 y2 y3 y4 y5 y6 y7))
 | 0 => fun _ _ _ _ _ _ _ _ r h => by simp [impl_onCycle.l0] at h
 | k + 1 => by
  have ih0 := impl_onCycle.mono_l k
  ·
   intro y0 y1 y2 y3 y4 y5 y6 y7
   unfold impl_onCycle.l0
   repeat' first
   | (with_reducible exact ih0 _ _ _ _ _ _ _ _)
   | (with_reducible exact impl_newUnion.mono _ _)
   | (with_reducible exact impl_union_join.mono _ _ _ _)
   | (with_reducible exact impl_union_same.mono _ _ _ _)
   | (with_reducible exact LeO.refl _)
   | (with_reducible exact LeO.none _)
   | (with_reducible refine LeO.ite ?_ ?_)
   | (with_reducible refine LeO.bind ?_ (fun _ => ?_))
   | exact ih0 _ _ _ _ _ _ _ _
   | exact impl_newUnion.mono _ _
   | exact impl_union_join.mono _ _ _ _
   | exact impl_union_same.mono _ _ _ _
   | exact LeO.none _
   | refine LeO.ite ?_ ?_
   | refine LeO.bind ?_ (fun _ => ?_)
theorem impl_onCycle.mono : ∀ a0 a1 a2 a3 k, LeO (impl_onCycle.f k a0 a1 a2 a3) (impl_onCycle.f (k + 1) a0 a1 a2 a3) := by
 intro a0 a1 a2 a3 k
 have ih0 := impl_onCycle.mono_l k
 unfold impl_onCycle.f
 repeat' first
   | (with_reducible exact ih0 _ _ _ _ _ _ _ _)
   | (with_reducible exact impl_newUnion.mono _ _)
   | (with_reducible exact impl_union_join.mono _ _ _ _)
   | (with_reducible exact impl_union_same.mono _ _ _ _)
   | (with_reducible exact LeO.refl _)
   | (with_reducible exact LeO.none _)
   | (with_reducible refine LeO.ite ?_ ?_)
   | (with_reducible refine LeO.bind ?_ (fun _ => ?_))
   | exact ih0 _ _ _ _ _ _ _ _
   | exact impl_newUnion.mono _ _
   | exact impl_union_join.mono _ _ _ _
   | exact impl_union_same.mono _ _ _ _
   | exact LeO.none _
   | refine LeO.ite ?_ ?_
   | refine LeO.bind ?_ (fun _ => ?_)
def impl_onCycle.T8 : Bool × List (List Nat × List Nat) := (true, [([], []), ([], []), ([1], [1]), ([], []), ([2, 3], [2, 3]), ([4], [4]), ([5], [5]), ([], []), ([7], [7]), ([], []), ([8, 9], [8, 9]), ([10], [10]), ([11], [11]), ([0, 6, 12], [0, 6, 12]), ([13, 13, 0, 1, 2, 3, 4, 5, 6, 7, 8, 9, 10, 11, 12, 13], [13])])
def impl_onCycle.B8 : List Nat := [0, 0, 2, 0, 14, 30, 62, 0, 128, 0, 896, 1920, 3968, 8191, 16383]
theorem impl_onCycle.tab8 : rtab .any (opsOf Tryd.f83 8) = impl_onCycle.T8 := by kernel_rfl
theorem impl_onCycle.bits8 : waitsOk impl_onCycle.T8.2 impl_onCycle.B8 = true := by kernel_rfl
set_option maxHeartbeats 8000000 in
set_option maxRecDepth 100000 in
theorem impl_onCycle.calls (k : Nat) (a0_0 : Int) (A0_1 : Option Addr) (c0_1 : Nat) (l0_1 : List (S79)) (A1 : Option Addr) (c1 : Nat) (l1 : List Bool) (a2 : Int) (r : Bool) (w : World) (hr0_1 : Kd.C k79 w A0_1 l0_1.length l0_1) (hc0_1 : l0_1.length ≤ c0_1) (hr1 : Kd.C Kd.bool w A1 l1.length l1) (hc1 : l1.length ≤ c1) (h : impl_onCycle.f k a0_0 l0_1 l1 a2 = some r) :
  Calls Tryd.prog 83 #[.agg #[.int .i64 a0_0, .slice A0_1 l0_1.length c0_1], .slice A1 l1.length c1, .int .i64 a2] w fun e w' => e = .returned (.bool r) ∧ Below w.heap.size w w' := by
 have hu25 := Tryd.underlying25
 have hu79 := Tryd.underlying79
 have HR0_1 := Aside0.mk hr0_1
 have HC0_1 := Aside0.mk hc0_1
 clear hr0_1 hc0_1
 have HR1 := Aside0.mk hr1
 have HC1 := Aside0.mk hc1
 clear hr1 hc1
 have HB := aM (Below.refl w.heap.size w)
 have H : ((impl_newUnion.f k a0_0).bind fun t120 => (impl_onCycle.l0 k l1 a2 t120 l0_1 (l0_1.length : Int) 0 a0_0 l0_1)) = some r := h
 clear h
 replace H := Option.bind_eq_some_iff.mp H
 obtain ⟨t120, A40, H⟩ := H
 replace H : (impl_onCycle.l0 k l1 a2 t120 l0_1 (l0_1.length : Int) 0 a0_0 l0_1) = some r := H
 have A4 := Aside0.mk A40
 clear A40
 have H' := Aside0.mk H
 clear H
 go_enter Tryd.func83, Tryd.ntmps83
 go_wp2_with (first | ((with_reducible refine gate_dst (N := 3) rfl ?_); refine box_event ?hg (N := 3) ?hd (cs := #[.int .i64 a0_0, .slice A0_1 l0_1.length c0_1]) (t := 25) ?hr ?_; (case hd => rfl); (case hg => rfl); (case hr => exact hR); intro gb119 hg w5 hbox hb; have n0_ := aM (below_step (bl0 HB) hb); have n1_ := aM (hbox); have n2_ := aM ((by rw [hg]; exact (below_size (bl0 HB)) : w.heap.size ≤ gb119)); have n3_ := aM ((by rw [hg]; exact (below_size (bl0 HB)) : w.heap.size ≤ gb119)); clear HB; have HB := n0_; have BK119 := n1_; have GW119 := n2_; have GE119 := n3_; clear n0_ n1_ n2_ n3_; clear hb hbox hg; have hcz6_0 : w5.cell? ⟨gb119, 0, none⟩ = some (.int .i64 a0_0) := (blk_cell BK119.out 0).trans rfl; have hcz6_1 : w5.cell? ⟨gb119, 1, none⟩ = some (.slice A0_1 l0_1.length c0_1) := (blk_cell BK119.out 1).trans rfl; have hfz6_0 := blk_frozen BK119.out 0; have hfz6_1 := blk_frozen BK119.out 1) | ((with_reducible refine gate_callee (f := 87) rfl ?_); refine goesL_ (some 12) rfl rfl Tryd.func87 (by kernel_rfl) rfl #[.int .i64 a0_0] rfl mP ?_; (with_reducible refine (impl_newUnion.calls k a0_0 t120 _ A4.out).mono ?_); rintro e w7 ⟨v121, rfl, ho0, hb⟩; refine ⟨_, rfl, ?_⟩; have n0_ := aM (Kd.R_lower ho0 (below_size (bl1 HB GE119))); have n1_ := aM (blk_below (g := gb119) (o := .cells #[.int .i64 a0_0, .slice A0_1 l0_1.length c0_1] 25 (0, 0)) (gB (BK119.out)) hb); have n2_ := aM (below_step (bl1 HB GE119) hb); clear BK119; clear HB; have HO122 := n0_; have BK119 := n1_; have HB := n2_; clear n0_ n1_ n2_; (try clear hb); (try clear hb2); (try clear hk); (try clear hi); (try clear ho0); have hcz8_0 : w7.cell? ⟨gb119, 0, none⟩ = some (.int .i64 a0_0) := (blk_cell BK119.out 0).trans rfl; have hcz8_1 : w7.cell? ⟨gb119, 1, none⟩ = some (.slice A0_1 l0_1.length c0_1) := (blk_cell BK119.out 1).trans rfl; have hfz8_0 := blk_frozen BK119.out 0; have hfz8_1 := blk_frozen BK119.out 1))
 go_loopg [16] k (fun kq v16 w' => ∃ (x7_1 : List Int) (x16_1 : Int), v16 = .int .i64 x16_1 ∧ Aside0 (impl_onCycle.l0 kq l1 a2 x7_1 l0_1 (l0_1.length : Int) x16_1 a0_0 l0_1 = some r) ∧ Aside0 (kq ≤ k) ∧ Aside0 (Kd.R (Kd.int .i64) 3 w' w.heap.size (fun _ => True) v121 x7_1) ∧ Aside0 (w'.heap[gb119]? = some (.cells #[.int .i64 a0_0, (.slice A0_1 l0_1.length c0_1)] 25 (0, 0))) ∧ Aside0 (Below w.heap.size w w'))
 case atStart => exact ⟨(t120), (0), fS, H', ⟨Nat.le_refl _⟩, ⟨gR (HO122.out)⟩, ⟨gB (BK119.out)⟩, ⟨bl1 HB GE119⟩⟩
 case round =>
  clear H'
  try clear c1
  try clear p2
  try clear c8
  try clear hcz6_0
  try clear hcz6_1
  try clear hcz8_0
  try clear hcz8_1
  try clear hfz6_0
  try clear hfz6_1
  try clear hfz8_0
  try clear hfz8_1
  obtain ⟨x7_1, x16_1, rfl, HA, HK1, HO_7, BK119, HB⟩ := hrel
  cases gk with
  | zero => exact absurd HA.out (by simp [impl_onCycle.l0])
  | succ k1 =>
   have H := HA.out
   clear HA
   simp only [impl_onCycle.l0] at H
   by_cases c9 : x16_1 < (l0_1.length : Int)
   rotate_left
   ·
    rw [if_neg c9] at H
    have c9b0 : decide (x16_1 < (l0_1.length : Int)) = false := decide_eq_false c9
    clear c9
    by_cases c30 : 0 ≤ a2
    rotate_left
    ·
     rw [if_neg c30] at H
     exact absurd H (by simp)
    rw [if_pos c30] at H
    have c30b0 : decide (0 ≤ a2) = true := decide_eq_true c30
    clear c30
    by_cases c31 : a2 < (l0_1.length : Int)
    rotate_left
    ·
     rw [if_neg c31] at H
     exact absurd H (by simp)
    rw [if_pos c31] at H
    have c31b0 : decide (a2 < (l0_1.length : Int)) = true := decide_eq_true c31
    clear c31
    replace H := Option.bind_eq_some_iff.mp H
    obtain ⟨⟨t129, t130⟩, A320, H⟩ := H
    replace H : (some t129) = some r := H
    have A32 := Aside0.mk A320
    clear A320
    obtain rfl := Option.some.inj H
    try go_wp2
    have n0_ := aM (Kd.R_drew HO_7.out)
    have n1_ := aM (blk_drew BK119.out)
    have n2_ := aM (below_drew1 HB.out)
    clear HO_7
    clear BK119
    clear HB
    have HO_7 := n0_
    have BK119 := n1_
    have HB := n2_
    clear n0_ n1_ n2_
    have p127 : 0 ≤ (a2 : Int) := oD
    have q127 : a2 < (l0_1.length : Int) := oD
    obtain ⟨ad127, e127, hx127_0, hx127_1, hx127_2⟩ := at_T79 HR0_1.out a2 p127 q127
    have hw127_2 := hx127_2
    have hw127_1 := hx127_1
    have hw127_0 := hx127_0
    cases e127
    replace hx127_0 := (HB.out.cell (World.block_lt_of_cell? w _ hx127_0)).trans hx127_0
    replace hx127_1 := (HB.out.cell (World.block_lt_of_cell? w _ hx127_1)).trans hx127_1
    replace hx127_2 := (HB.out.cell (World.block_lt_of_cell? w _ hx127_2)).trans hx127_2
    replace p127 := eq_true p127
    replace q127 := eq_true q127
    have p128 : 0 ≤ (a2 : Int) := oD
    have q128 : a2 < (l0_1.length : Int) := oD
    obtain ⟨ad128, e128, hx128_0, hx128_1, hx128_2⟩ := at_T79 HR0_1.out a2 p128 q128
    have hw128_2 := hx128_2
    have hw128_1 := hx128_1
    have hw128_0 := hx128_0
    obtain rfl : ad127 = ad128 := (by injection e128)
    replace hx128_0 := (HB.out.cell (World.block_lt_of_cell? w _ hx128_0)).trans hx128_0
    replace hx128_1 := (HB.out.cell (World.block_lt_of_cell? w _ hx128_1)).trans hx128_1
    replace hx128_2 := (HB.out.cell (World.block_lt_of_cell? w _ hx128_2)).trans hx128_2
    replace p128 := eq_true p128
    replace q128 := eq_true q128
    obtain ⟨Ao34, co34, eo34⟩ := Kd.R_slice HO_7.out
    (first | subst eo34 | (injection eo34 with f1_ f2_ f3_; have f4_ := f1_.symm; have f5_ := f3_.symm; clear f1_ f2_ f3_; subst f4_; subst f5_))
    refine start_ (n := 15) (S := fun w' => w'.cell? ⟨gb119, 0, none⟩ = some (.int .i64 a0_0) ∧ w'.cell? ⟨gb119, 1, none⟩ = some (.slice (some ad127) l0_1.length c0_1) ∧ w'.cell? (ad127.add ((a2).toNat * 3)) = some (.int .i64 ((rd_T79 l0_1 a2).f0)) ∧ w'.cell? ⟨(ad127.add ((a2).toNat * 3)).block, (ad127.add ((a2).toNat * 3)).off + 1, none⟩ = some (.int .i64 ((rd_T79 l0_1 a2).f1)) ∧ w'.cell? ⟨(ad127.add ((a2).toNat * 3)).block, (ad127.add ((a2).toNat * 3)).off + 2, none⟩ = some (.int .i64 ((rd_T79 l0_1 a2).f2)) ∧ w'.cell? (ad127.add ((a2).toNat * 3)) = some (.int .i64 ((rd_T79 l0_1 a2).f0)) ∧ w'.cell? ⟨(ad127.add ((a2).toNat * 3)).block, (ad127.add ((a2).toNat * 3)).off + 1, none⟩ = some (.int .i64 ((rd_T79 l0_1 a2).f1)) ∧ w'.cell? ⟨(ad127.add ((a2).toNat * 3)).block, (ad127.add ((a2).toNat * 3)).off + 2, none⟩ = some (.int .i64 ((rd_T79 l0_1 a2).f2))) (ds := []) #[zz,zz,zz,zz,zz,zz,zz,zz,zz,zz,zz,zz,zz,zz,zz] (by kernel_rfl) rfl rfl ⟨(blk_cell BK119.out 0).trans rfl, (blk_cell BK119.out 1).trans rfl, ((HB.out.cell (World.block_lt_of_cell? w _ hw127_0)).trans (by first | exact hw127_0 | (refine (hw127_0).trans ?_; congr 2; first | assumption | exact Eq.symm (Aside0.out (by assumption)) | exact Aside0.out (by assumption)))), ((HB.out.cell (World.block_lt_of_cell? w _ hw127_1)).trans (by first | exact hw127_1 | (refine (hw127_1).trans ?_; congr 2; first | assumption | exact Eq.symm (Aside0.out (by assumption)) | exact Aside0.out (by assumption)))), ((HB.out.cell (World.block_lt_of_cell? w _ hw127_2)).trans (by first | exact hw127_2 | (refine (hw127_2).trans ?_; congr 2; first | assumption | exact Eq.symm (Aside0.out (by assumption)) | exact Aside0.out (by assumption)))), ((HB.out.cell (World.block_lt_of_cell? w _ hw128_0)).trans (by first | exact hw128_0 | (refine (hw128_0).trans ?_; congr 2; first | assumption | exact Eq.symm (Aside0.out (by assumption)) | exact Aside0.out (by assumption)))), ((HB.out.cell (World.block_lt_of_cell? w _ hw128_1)).trans (by first | exact hw128_1 | (refine (hw128_1).trans ?_; congr 2; first | assumption | exact Eq.symm (Aside0.out (by assumption)) | exact Aside0.out (by assumption)))), ((HB.out.cell (World.block_lt_of_cell? w _ hw128_2)).trans (by first | exact hw128_2 | (refine (hw128_2).trans ?_; congr 2; first | assumption | exact Eq.symm (Aside0.out (by assumption)) | exact Aside0.out (by assumption))))⟩ (fun hHeld => ?_); refine with_tabW impl_onCycle.tab8 impl_onCycle.bits8 (fun HT_ HW_ => ?_)
    generalize wr.drew = w33 at HO_7 BK119 HB hx127_0 hx127_1 hx127_2 hx128_0 hx128_1 hx128_2 hHeld ⊢
    refine pure_ (i := 0) (N := some 37) (v := ?_) (a' := ?_) #[oo,zz,zz,zz,zz,zz,zz,zz,zz,zz,zz,zz,zz,zz,zz] rfl rfl (any_of HT_.out (by kernel_rfl)) (fun _ _ _ h => h) (Or.inl ⟨by rfl, ?_⟩) ?_ ?_
    rotate_left
    ·
     intro w'
     go_simp
     with_reducible rfl
    rotate_left
    ·
     simp only [Act.put, List.setIfInBounds_toArray, List.set_cons_zero, List.set_cons_succ, i64_w, i32_w]
     rfl
    refine pure_ (i := 1) (N := some 38) (v := ?_) (a' := ?_) #[oo,oo,zz,zz,zz,zz,zz,zz,zz,zz,zz,zz,zz,zz,zz] rfl rfl (any_of HT_.out (by kernel_rfl)) (fun _ _ _ h => h) (Or.inl ⟨by rfl, ?_⟩) ?_ ?_
    rotate_left
    ·
     intro w'
     go_simp
     with_reducible rfl
    rotate_left
    ·
     simp only [Act.put, List.setIfInBounds_toArray, List.set_cons_zero, List.set_cons_succ, i64_w, i32_w]
     rfl
    refine pure_ (i := 3) (N := some 40) (v := ?_) (a' := ?_) #[oo,oo,zz,oo,zz,zz,zz,zz,zz,zz,zz,zz,zz,zz,zz] rfl rfl (any_of HT_.out (by kernel_rfl)) (fun _ _ _ h => h) (Or.inl ⟨by rfl, ?_⟩) ?_ ?_
    rotate_left
    ·
     intro w'
     go_simp
     with_reducible rfl
    rotate_left
    ·
     simp only [Act.put, List.setIfInBounds_toArray, List.set_cons_zero, List.set_cons_succ, i64_w, i32_w]
     rfl
    refine pure_ (i := 7) (N := some 44) (v := ?_) (a' := ?_) #[oo,oo,zz,oo,zz,zz,zz,oo,zz,zz,zz,zz,zz,zz,zz] rfl rfl (any_of HT_.out (by kernel_rfl)) (fun _ _ _ h => h) (Or.inl ⟨by rfl, ?_⟩) ?_ ?_
    rotate_left
    ·
     intro w'
     go_simp
     with_reducible rfl
    rotate_left
    ·
     simp only [Act.put, List.setIfInBounds_toArray, List.set_cons_zero, List.set_cons_succ, i64_w, i32_w]
     rfl
    refine pure_ (i := 9) (N := some 46) (v := ?_) (a' := ?_) #[oo,oo,zz,oo,zz,zz,zz,oo,zz,oo,zz,zz,zz,zz,zz] rfl rfl (any_of HT_.out (by kernel_rfl)) (fun _ _ _ h => h) (Or.inl ⟨by rfl, ?_⟩) ?_ ?_
    rotate_left
    ·
     intro w'
     go_simp
     with_reducible rfl
    rotate_left
    ·
     simp only [Act.put, List.setIfInBounds_toArray, List.set_cons_zero, List.set_cons_succ, i64_w, i32_w]
     rfl
    refine take_ (i := 2) (N := some 39) (v := ?_) (a' := ?_) #[oo,oo,oo,oo,zz,zz,zz,oo,zz,oo,zz,zz,zz,zz,zz] rfl rfl (take_ofW HT_.out HW_.out (by kernel_rfl)) (fun _ _ _ h => h) (Or.inl ⟨by rfl, ?_⟩) hHeld ?_ ?_
    rotate_left
    ·
     rintro w' ⟨s0, s1, s2, s3, s4, s5, s6, s7⟩
     go_simp
     with_reducible rfl
    rotate_left
    ·
     simp only [Act.put, List.setIfInBounds_toArray, List.set_cons_zero, List.set_cons_succ, i64_w, i32_w]
     rfl
    refine pure_ (i := 4) (N := some 41) (v := ?_) (a' := ?_) #[oo,oo,oo,oo,oo,zz,zz,oo,zz,oo,zz,zz,zz,zz,zz] rfl rfl (any_of HT_.out (by kernel_rfl)) (fun _ _ _ h => h) (Or.inl ⟨by rfl, ?_⟩) ?_ ?_
    rotate_left
    ·
     intro w'
     go_simp
     with_reducible rfl
    rotate_left
    ·
     simp only [Act.put, List.setIfInBounds_toArray, List.set_cons_zero, List.set_cons_succ, i64_w, i32_w]
     rfl
    refine pure_ (i := 5) (N := some 42) (v := ?_) (a' := ?_) #[oo,oo,oo,oo,oo,oo,zz,oo,zz,oo,zz,zz,zz,zz,zz] rfl rfl (any_of HT_.out (by kernel_rfl)) (fun _ _ _ h => h) (Or.inl ⟨by rfl, ?_⟩) ?_ ?_
    rotate_left
    ·
     intro w'
     go_simp
     with_reducible rfl
    rotate_left
    ·
     simp only [Act.put, List.setIfInBounds_toArray, List.set_cons_zero, List.set_cons_succ, i64_w, i32_w]
     rfl
    refine take_ (i := 6) (N := some 43) (v := ?_) (a' := ?_) #[oo,oo,oo,oo,oo,oo,oo,oo,zz,oo,zz,zz,zz,zz,zz] rfl rfl (take_ofW HT_.out HW_.out (by kernel_rfl)) (fun _ _ _ h => h) (Or.inl ⟨by rfl, ?_⟩) hHeld ?_ ?_
    rotate_left
    ·
     rintro w' ⟨s0, s1, s2, s3, s4, s5, s6, s7⟩
     go_simp
     with_reducible rfl
    rotate_left
    ·
     simp only [Act.put, List.setIfInBounds_toArray, List.set_cons_zero, List.set_cons_succ, i64_w, i32_w]
     rfl
    refine take_ (i := 8) (N := some 45) (v := ?_) (a' := ?_) #[oo,oo,oo,oo,oo,oo,oo,oo,oo,oo,zz,zz,zz,zz,zz] rfl rfl (take_ofW HT_.out HW_.out (by kernel_rfl)) (fun _ _ _ h => h) (Or.inl ⟨by rfl, ?_⟩) hHeld ?_ ?_
    rotate_left
    ·
     rintro w' ⟨s0, s1, s2, s3, s4, s5, s6, s7⟩
     go_simp
     with_reducible rfl
    rotate_left
    ·
     simp only [Act.put, List.setIfInBounds_toArray, List.set_cons_zero, List.set_cons_succ, i64_w, i32_w]
     rfl
    refine pure_ (i := 10) (N := some 47) (v := ?_) (a' := ?_) #[oo,oo,oo,oo,oo,oo,oo,oo,oo,oo,oo,zz,zz,zz,zz] rfl rfl (any_of HT_.out (by kernel_rfl)) (fun _ _ _ h => h) (Or.inl ⟨by rfl, ?_⟩) ?_ ?_
    rotate_left
    ·
     intro w'
     go_simp
     with_reducible rfl
    rotate_left
    ·
     simp only [Act.put, List.setIfInBounds_toArray, List.set_cons_zero, List.set_cons_succ, i64_w, i32_w]
     rfl
    refine pure_ (i := 11) (N := some 48) (v := ?_) (a' := ?_) #[oo,oo,oo,oo,oo,oo,oo,oo,oo,oo,oo,oo,zz,zz,zz] rfl rfl (any_of HT_.out (by kernel_rfl)) (fun _ _ _ h => h) (Or.inl ⟨by rfl, ?_⟩) ?_ ?_
    rotate_left
    ·
     intro w'
     go_simp
     with_reducible rfl
    rotate_left
    ·
     simp only [Act.put, List.setIfInBounds_toArray, List.set_cons_zero, List.set_cons_succ, i64_w, i32_w]
     rfl
    refine take_ (i := 12) (N := some 49) (v := ?_) (a' := ?_) #[oo,oo,oo,oo,oo,oo,oo,oo,oo,oo,oo,oo,oo,zz,zz] rfl rfl (take_ofW HT_.out HW_.out (by kernel_rfl)) (fun _ _ _ h => h) (Or.inl ⟨by rfl, ?_⟩) hHeld ?_ ?_
    rotate_left
    ·
     rintro w' ⟨s0, s1, s2, s3, s4, s5, s6, s7⟩
     go_simp
     with_reducible rfl
    rotate_left
    ·
     simp only [Act.put, List.setIfInBounds_toArray, List.set_cons_zero, List.set_cons_succ, i64_w, i32_w]
     rfl
    refine one_ (i := 13) (N := some 50) #[oo,oo,oo,oo,oo,oo,oo,oo,oo,oo,oo,oo,oo,oo,zz] rfl rfl (one_of HT_.out (by kernel_rfl)) (by decide) (fun K hK => ?_)
    refine goes_ Tryd.func78 (by kernel_rfl) rfl #[.slice Ao34 x7_1.length co34, .int .i64 ((rd_T79 l0_1 a2).f0), .int .i64 ((rd_T79 l0_1 a2).f1)] (by rfl) rfl rfl mP ?_
    with_reducible refine (impl_union_same.calls k1 (fun k_ => some k_ = (.slice Ao34 x7_1.length co34 : Value).ownBlock) (.slice Ao34 x7_1.length co34) x7_1 ((rd_T79 l0_1 a2).f0) ((rd_T79 l0_1 a2).f1) t129 t130 w _ ?side1 ?side2 A32.out).mono ?_
    (case side1 => repeat (first | (with_reducible first | exact HB.out | apply below_alloc | apply pw_below_drewN | apply below_drew1 | refine below_set ?_ GE119.out) | exact HB.out))
    (case side2 => exact Kd.R_tight rfl HO_7.out)
    rintro e w35 ⟨rfl, hy0, hb, hkp⟩
    refine ⟨_, rfl, ?_⟩
    have n0_ := aM (Kd.R_reok rfl hy0 (fun k_ e_ => HO_7.out.1 k_ e_))
    have n1_ := aM (blk_kept (gB (BK119.out)) hkp (fun hs_ => (fun e_ => (Kd.R_ne HO_7.out BK119.out (by decide)) e_) hs_))
    have n2_ := aM (hb)
    clear HO_7
    clear BK119
    clear HB
    have HO_7 := n0_
    have BK119 := n1_
    have HB := n2_
    clear n0_ n1_ n2_
    (try clear hb)
    (try clear hkp)
    (try clear hy0)
    refine hK.out _ _ ⟨(blk_cell BK119.out 0).trans rfl, (blk_cell BK119.out 1).trans rfl, ((HB.out.cell (World.block_lt_of_cell? w _ hw127_0)).trans (by first | exact hw127_0 | (refine (hw127_0).trans ?_; congr 2; first | assumption | exact Eq.symm (Aside0.out (by assumption)) | exact Aside0.out (by assumption)))), ((HB.out.cell (World.block_lt_of_cell? w _ hw127_1)).trans (by first | exact hw127_1 | (refine (hw127_1).trans ?_; congr 2; first | assumption | exact Eq.symm (Aside0.out (by assumption)) | exact Aside0.out (by assumption)))), ((HB.out.cell (World.block_lt_of_cell? w _ hw127_2)).trans (by first | exact hw127_2 | (refine (hw127_2).trans ?_; congr 2; first | assumption | exact Eq.symm (Aside0.out (by assumption)) | exact Aside0.out (by assumption)))), ((HB.out.cell (World.block_lt_of_cell? w _ hw128_0)).trans (by first | exact hw128_0 | (refine (hw128_0).trans ?_; congr 2; first | assumption | exact Eq.symm (Aside0.out (by assumption)) | exact Aside0.out (by assumption)))), ((HB.out.cell (World.block_lt_of_cell? w _ hw128_1)).trans (by first | exact hw128_1 | (refine (hw128_1).trans ?_; congr 2; first | assumption | exact Eq.symm (Aside0.out (by assumption)) | exact Aside0.out (by assumption)))), ((HB.out.cell (World.block_lt_of_cell? w _ hw128_2)).trans (by first | exact hw128_2 | (refine (hw128_2).trans ?_; congr 2; first | assumption | exact Eq.symm (Aside0.out (by assumption)) | exact Aside0.out (by assumption))))⟩ (fun hHeld => ?_)
    clear hK K
    refine norm_ (a' := ?_) ?_ ?_
    rotate_left
    ·
     show Act.put _ (some 50) _ = _
     simp only [Act.put, List.setIfInBounds_toArray, List.set_cons_zero, List.set_cons_succ, i64_w, i32_w]
     rfl
    refine pure_ (i := 14) (N := some 6) (v := ?_) (a' := ?_) #[oo,oo,oo,oo,oo,oo,oo,oo,oo,oo,oo,oo,oo,oo,oo] rfl rfl (any_of HT_.out (by kernel_rfl)) (fun _ _ _ h => h) (Or.inl ⟨by rfl, ?_⟩) ?_ ?_
    rotate_left
    ·
     intro w'
     go_simp
     with_reducible rfl
    rotate_left
    ·
     simp only [Act.put, List.setIfInBounds_toArray, List.set_cons_zero, List.set_cons_succ, i64_w, i32_w]
     rfl
    refine done_ (done_of HT_.out (by kernel_rfl)) ?_
    try go_wp2
    go_ret
    exact ⟨fR, bl1 HB GE119⟩
   rw [if_pos c9] at H
   have c9b0 : decide (x16_1 < (l0_1.length : Int)) = true := decide_eq_true c9
   clear c9
   by_cases c10 : 0 ≤ x16_1
   rotate_left
   ·
    rw [if_neg c10] at H
    exact absurd H (by simp)
   rw [if_pos c10] at H
   have c10b0 : decide (0 ≤ x16_1) = true := decide_eq_true c10
   clear c10
   by_cases c11 : x16_1 < (l0_1.length : Int)
   rotate_left
   ·
    rw [if_neg c11] at H
    exact absurd H (by simp)
   rw [if_pos c11] at H
   have c11b0 : decide (x16_1 < (l0_1.length : Int)) = true := decide_eq_true c11
   clear c11
   by_cases c12 : x16_1 < (l1.length : Int)
   rotate_left
   ·
    rw [if_neg c12] at H
    exact absurd H (by simp)
   rw [if_pos c12] at H
   have c12b0 : decide (x16_1 < (l1.length : Int)) = true := decide_eq_true c12
   clear c12
   obtain ⟨bq13, hbq13⟩ : ∃ b_ : Bool, b_ = (rdOf false l1 x16_1) := ⟨_, rfl⟩
   replace H : (if bq13 = true then (if x16_1 = a2 then (impl_onCycle.l0 k1 l1 a2 x7_1 l0_1 (l0_1.length : Int) (wrap64 (x16_1 + 1)) a0_0 l0_1) else ((impl_union_join.f k1 x7_1 ((rd_T79 l0_1 x16_1).f0) ((rd_T79 l0_1 x16_1).f1)).bind fun t126 => (impl_onCycle.l0 k1 l1 a2 t126 l0_1 (l0_1.length : Int) (wrap64 (x16_1 + 1)) a0_0 l0_1))) else (impl_onCycle.l0 k1 l1 a2 x7_1 l0_1 (l0_1.length : Int) (wrap64 (x16_1 + 1)) a0_0 l0_1)) = some r := by rw [← hbq13] at H; exact H
   have Nbq13 := Aside0.mk hbq13
   clear hbq13
   by_cases c14 : bq13 = true
   rotate_left
   ·
    replace c14 := Bool.eq_false_iff.mpr c14
    subst c14
    have H1 : (impl_onCycle.l0 k1 l1 a2 x7_1 l0_1 (l0_1.length : Int) (wrap64 (x16_1 + 1)) a0_0 l0_1) = some r := by rw [if_neg (show ¬ (false = true) by decide)] at H; exact H
    clear H
    have H := H1
    clear H1
    have H' := Aside0.mk H
    clear H
    have p123 : 0 ≤ (x16_1 : Int) := oD
    have q123 : x16_1 < (l0_1.length : Int) := oD
    obtain ⟨ad123, e123, hx123_0, hx123_1, hx123_2⟩ := at_T79 HR0_1.out x16_1 p123 q123
    cases e123
    replace hx123_0 := (HB.out.cell (World.block_lt_of_cell? w _ hx123_0)).trans hx123_0
    replace hx123_1 := (HB.out.cell (World.block_lt_of_cell? w _ hx123_1)).trans hx123_1
    replace hx123_2 := (HB.out.cell (World.block_lt_of_cell? w _ hx123_2)).trans hx123_2
    replace p123 := eq_true p123
    replace q123 := eq_true q123
    go_wp2_with (first | ((with_reducible refine gate_dst (N := 9) rfl ?_); refine box_event ?hg (N := 9) ?hd (cs := #[.int .i64 0, .int .i64 0, .int .i64 0]) (t := 79) ?hr ?_; (case hd => rfl); (case hg => rfl); (case hr => exact hR); intro gb124 hg w27 hbox hb; have n0_ := aM (Kd.R_below (gR (HO_7.out)) hb); have n1_ := aM (blk_below (g := gb119) (o := .cells #[.int .i64 a0_0, .slice (some ad123) l0_1.length c0_1] 25 (0, 0)) (gB (BK119.out)) hb); have n2_ := aM (below_step (bl1 HB GE119) hb); have n3_ := aM (hbox); have n4_ := aM ((by rw [hg]; exact (below_size (bl1 HB GE119)) : w.heap.size ≤ gb124)); have n5_ := aM ((by rw [hg]; exact (below_size (bl1 HB GE119)) : w.heap.size ≤ gb124)); have n6_ := aM ((by rw [hg]; exact Nat.ne_of_lt (blk_lt (g := gb119) (o := .cells #[.int .i64 a0_0, .slice (some ad123) l0_1.length c0_1] 25 (0, 0)) (gB (BK119.out))) : gb119 ≠ gb124)); have n7_ := aM ((by rw [hg]; exact Nat.ne_of_gt (blk_lt (g := gb119) (o := .cells #[.int .i64 a0_0, .slice (some ad123) l0_1.length c0_1] 25 (0, 0)) (gB (BK119.out))) : gb124 ≠ gb119)); clear HO_7; clear BK119; clear HB; have HO_7 := n0_; have BK119 := n1_; have HB := n2_; have BK124 := n3_; have GW124 := n4_; have GE124 := n5_; have NB119_124 := n6_; have NB124_119 := n7_; clear n0_ n1_ n2_ n3_ n4_ n5_ n6_ n7_; clear hb hbox hg; have hnb28 := NB124_119.out; have hnc28 := NB119_124.out; have hcz29_0 : w27.cell? ⟨gb124, 0, none⟩ = some (.int .i64 0) := (blk_cell BK124.out 0).trans rfl; have hcz29_1 : w27.cell? ⟨gb124, 1, none⟩ = some (.int .i64 0) := (blk_cell BK124.out 1).trans rfl; have hcz29_2 : w27.cell? ⟨gb124, 2, none⟩ = some (.int .i64 0) := (blk_cell BK124.out 2).trans rfl; have hfz29_0 := blk_frozen BK124.out 0; have hfz29_1 := blk_frozen BK124.out 1; have hfz29_2 := blk_frozen BK124.out 2; have p125 : 0 ≤ (x16_1 : Int) := oD; have q125 : x16_1 < (l1.length : Int) := oD; obtain ⟨ad125, e125, hx125_0⟩ := Kd.at_bool HR1.out x16_1 p125 q125; (try rw [← Nbq13.out] at hx125_0); cases e125; have hn125_0 : ad125.block ≠ gb124 := Nat.ne_of_lt (Nat.lt_of_lt_of_le (by have := World.block_lt_of_cell? _ _ hx125_0; first | rwa [add_block] at this | exact this) GW124.out); have hn125_1 : ad125.block ≠ gb124 := Nat.ne_of_lt (Nat.lt_of_lt_of_le (by have := World.block_lt_of_cell? _ _ hx125_0; first | rwa [add_block] at this | exact this) GW124.out); have hn125_2 : ad125.block ≠ gb124 := Nat.ne_of_lt (Nat.lt_of_lt_of_le (by have := World.block_lt_of_cell? _ _ hx125_0; first | rwa [add_block] at this | exact this) GW124.out); replace hx125_0 := (HB.out.cell (World.block_lt_of_cell? w _ hx125_0)).trans hx125_0; replace hx125_0 := (cell_far (p := ⟨gb124, 0, none⟩) (by first | (rw [add_block]; exact hn125_0) | (show (Addr.add _ _).block ≠ _; rw [add_block]; exact hn125_0) | exact hn125_0) (.int .i64 ((rd_T79 l0_1 x16_1).f0))).trans hx125_0; replace hx125_0 := (cell_far (p := ⟨gb124, 1, none⟩) (by first | (rw [add_block]; exact hn125_1) | (show (Addr.add _ _).block ≠ _; rw [add_block]; exact hn125_1) | exact hn125_1) (.int .i64 ((rd_T79 l0_1 x16_1).f1))).trans hx125_0; replace hx125_0 := (cell_far (p := ⟨gb124, 2, none⟩) (by first | (rw [add_block]; exact hn125_2) | (show (Addr.add _ _).block ≠ _; rw [add_block]; exact hn125_2) | exact hn125_2) (.int .i64 ((rd_T79 l0_1 x16_1).f2))).trans hx125_0; clear hn125_0; clear hn125_1; clear hn125_2; replace p125 := eq_true p125; replace q125 := eq_true q125))
    go_roundg k1
    case measure => have := HK1.out; omega
    case rel => exact ⟨(x7_1), (wrap64 (x16_1 + 1)), fS, H', ⟨by have := HK1.out; omega⟩, ⟨by (with_reducible repeat (first | apply Kd.R_alloc | apply Kd.R_drewN | apply Kd.R_drew)); exact Kd.R_mono (Kd.R_far (p := ⟨gb124, 2, none⟩) (Kd.R_far (p := ⟨gb124, 1, none⟩) (Kd.R_far (p := ⟨gb124, 0, none⟩) (Kd.R_types HO_7.out BK124.out (by decide)) (fun _ hk => hk.2) (.int .i64 ((rd_T79 l0_1 x16_1).f0))) (fun _ hk => hk.2) (.int .i64 ((rd_T79 l0_1 x16_1).f1))) (fun _ hk => hk.2) (.int .i64 ((rd_T79 l0_1 x16_1).f2))) (fun _ hk => trivial)⟩, ⟨by (with_reducible repeat (first | refine blk_drewN ?_ _ | refine blk_drew ?_ | refine blk_alloc ?_ _)); refine blk_far ?_ NB119_124.out _; (with_reducible repeat (first | refine blk_drewN ?_ _ | refine blk_drew ?_ | refine blk_alloc ?_ _)); refine blk_far ?_ NB119_124.out _; (with_reducible repeat (first | refine blk_drewN ?_ _ | refine blk_drew ?_ | refine blk_alloc ?_ _)); refine blk_far ?_ NB119_124.out _; (with_reducible repeat (first | refine blk_drewN ?_ _ | refine blk_drew ?_ | refine blk_alloc ?_ _)); exact BK119.out⟩, ⟨bl2 HB GE119 GE124⟩⟩
   subst c14
   have H1 : (if x16_1 = a2 then (impl_onCycle.l0 k1 l1 a2 x7_1 l0_1 (l0_1.length : Int) (wrap64 (x16_1 + 1)) a0_0 l0_1) else ((impl_union_join.f k1 x7_1 ((rd_T79 l0_1 x16_1).f0) ((rd_T79 l0_1 x16_1).f1)).bind fun t126 => (impl_onCycle.l0 k1 l1 a2 t126 l0_1 (l0_1.length : Int) (wrap64 (x16_1 + 1)) a0_0 l0_1))) = some r := by rw [if_pos rfl] at H; exact H
   clear H
   have H := H1
   clear H1
   by_cases c15 : x16_1 = a2
   ·
    rw [if_pos c15] at H
    have c15b0 : (x16_1 == a2) = true := beq_iff_eq.mpr c15
    have c15b1 : (x16_1 != a2) = false := bne_eq_false_iff_eq.mpr c15
    clear c15
    have H' := Aside0.mk H
    clear H
    have p123 : 0 ≤ (x16_1 : Int) := oD
    have q123 : x16_1 < (l0_1.length : Int) := oD
    obtain ⟨ad123, e123, hx123_0, hx123_1, hx123_2⟩ := at_T79 HR0_1.out x16_1 p123 q123
    cases e123
    replace hx123_0 := (HB.out.cell (World.block_lt_of_cell? w _ hx123_0)).trans hx123_0
    replace hx123_1 := (HB.out.cell (World.block_lt_of_cell? w _ hx123_1)).trans hx123_1
    replace hx123_2 := (HB.out.cell (World.block_lt_of_cell? w _ hx123_2)).trans hx123_2
    replace p123 := eq_true p123
    replace q123 := eq_true q123
    go_wp2_with (first | ((with_reducible refine gate_dst (N := 9) rfl ?_); refine box_event ?hg (N := 9) ?hd (cs := #[.int .i64 0, .int .i64 0, .int .i64 0]) (t := 79) ?hr ?_; (case hd => rfl); (case hg => rfl); (case hr => exact hR); intro gb124 hg w16 hbox hb; have n0_ := aM (Kd.R_below (gR (HO_7.out)) hb); have n1_ := aM (blk_below (g := gb119) (o := .cells #[.int .i64 a0_0, .slice (some ad123) l0_1.length c0_1] 25 (0, 0)) (gB (BK119.out)) hb); have n2_ := aM (below_step (bl1 HB GE119) hb); have n3_ := aM (hbox); have n4_ := aM ((by rw [hg]; exact (below_size (bl1 HB GE119)) : w.heap.size ≤ gb124)); have n5_ := aM ((by rw [hg]; exact (below_size (bl1 HB GE119)) : w.heap.size ≤ gb124)); have n6_ := aM ((by rw [hg]; exact Nat.ne_of_lt (blk_lt (g := gb119) (o := .cells #[.int .i64 a0_0, .slice (some ad123) l0_1.length c0_1] 25 (0, 0)) (gB (BK119.out))) : gb119 ≠ gb124)); have n7_ := aM ((by rw [hg]; exact Nat.ne_of_gt (blk_lt (g := gb119) (o := .cells #[.int .i64 a0_0, .slice (some ad123) l0_1.length c0_1] 25 (0, 0)) (gB (BK119.out))) : gb124 ≠ gb119)); clear HO_7; clear BK119; clear HB; have HO_7 := n0_; have BK119 := n1_; have HB := n2_; have BK124 := n3_; have GW124 := n4_; have GE124 := n5_; have NB119_124 := n6_; have NB124_119 := n7_; clear n0_ n1_ n2_ n3_ n4_ n5_ n6_ n7_; clear hb hbox hg; have hnb17 := NB124_119.out; have hnc17 := NB119_124.out; have hcz18_0 : w16.cell? ⟨gb124, 0, none⟩ = some (.int .i64 0) := (blk_cell BK124.out 0).trans rfl; have hcz18_1 : w16.cell? ⟨gb124, 1, none⟩ = some (.int .i64 0) := (blk_cell BK124.out 1).trans rfl; have hcz18_2 : w16.cell? ⟨gb124, 2, none⟩ = some (.int .i64 0) := (blk_cell BK124.out 2).trans rfl; have hfz18_0 := blk_frozen BK124.out 0; have hfz18_1 := blk_frozen BK124.out 1; have hfz18_2 := blk_frozen BK124.out 2; have p125 : 0 ≤ (x16_1 : Int) := oD; have q125 : x16_1 < (l1.length : Int) := oD; obtain ⟨ad125, e125, hx125_0⟩ := Kd.at_bool HR1.out x16_1 p125 q125; (try rw [← Nbq13.out] at hx125_0); cases e125; have hn125_0 : ad125.block ≠ gb124 := Nat.ne_of_lt (Nat.lt_of_lt_of_le (by have := World.block_lt_of_cell? _ _ hx125_0; first | rwa [add_block] at this | exact this) GW124.out); have hn125_1 : ad125.block ≠ gb124 := Nat.ne_of_lt (Nat.lt_of_lt_of_le (by have := World.block_lt_of_cell? _ _ hx125_0; first | rwa [add_block] at this | exact this) GW124.out); have hn125_2 : ad125.block ≠ gb124 := Nat.ne_of_lt (Nat.lt_of_lt_of_le (by have := World.block_lt_of_cell? _ _ hx125_0; first | rwa [add_block] at this | exact this) GW124.out); replace hx125_0 := (HB.out.cell (World.block_lt_of_cell? w _ hx125_0)).trans hx125_0; replace hx125_0 := (cell_far (p := ⟨gb124, 0, none⟩) (by first | (rw [add_block]; exact hn125_0) | (show (Addr.add _ _).block ≠ _; rw [add_block]; exact hn125_0) | exact hn125_0) (.int .i64 ((rd_T79 l0_1 x16_1).f0))).trans hx125_0; replace hx125_0 := (cell_far (p := ⟨gb124, 1, none⟩) (by first | (rw [add_block]; exact hn125_1) | (show (Addr.add _ _).block ≠ _; rw [add_block]; exact hn125_1) | exact hn125_1) (.int .i64 ((rd_T79 l0_1 x16_1).f1))).trans hx125_0; replace hx125_0 := (cell_far (p := ⟨gb124, 2, none⟩) (by first | (rw [add_block]; exact hn125_2) | (show (Addr.add _ _).block ≠ _; rw [add_block]; exact hn125_2) | exact hn125_2) (.int .i64 ((rd_T79 l0_1 x16_1).f2))).trans hx125_0; clear hn125_0; clear hn125_1; clear hn125_2; replace p125 := eq_true p125; replace q125 := eq_true q125))
    go_roundg k1
    case measure => have := HK1.out; omega
    case rel => exact ⟨(x7_1), (wrap64 (x16_1 + 1)), fS, H', ⟨by have := HK1.out; omega⟩, ⟨by (with_reducible repeat (first | apply Kd.R_alloc | apply Kd.R_drewN | apply Kd.R_drew)); exact Kd.R_mono (Kd.R_far (p := ⟨gb124, 2, none⟩) (Kd.R_far (p := ⟨gb124, 1, none⟩) (Kd.R_far (p := ⟨gb124, 0, none⟩) (Kd.R_types HO_7.out BK124.out (by decide)) (fun _ hk => hk.2) (.int .i64 ((rd_T79 l0_1 x16_1).f0))) (fun _ hk => hk.2) (.int .i64 ((rd_T79 l0_1 x16_1).f1))) (fun _ hk => hk.2) (.int .i64 ((rd_T79 l0_1 x16_1).f2))) (fun _ hk => trivial)⟩, ⟨by (with_reducible repeat (first | refine blk_drewN ?_ _ | refine blk_drew ?_ | refine blk_alloc ?_ _)); refine blk_far ?_ NB119_124.out _; (with_reducible repeat (first | refine blk_drewN ?_ _ | refine blk_drew ?_ | refine blk_alloc ?_ _)); refine blk_far ?_ NB119_124.out _; (with_reducible repeat (first | refine blk_drewN ?_ _ | refine blk_drew ?_ | refine blk_alloc ?_ _)); refine blk_far ?_ NB119_124.out _; (with_reducible repeat (first | refine blk_drewN ?_ _ | refine blk_drew ?_ | refine blk_alloc ?_ _)); exact BK119.out⟩, ⟨bl2 HB GE119 GE124⟩⟩
   rw [if_neg c15] at H
   have c15b0 : (x16_1 == a2) = false := beq_eq_false_iff_ne.mpr c15
   have c15b1 : (x16_1 != a2) = true := bne_iff_ne.mpr c15
   replace H := Option.bind_eq_some_iff.mp H
   obtain ⟨t126, A190, H⟩ := H
   replace H : (impl_onCycle.l0 k1 l1 a2 t126 l0_1 (l0_1.length : Int) (wrap64 (x16_1 + 1)) a0_0 l0_1) = some r := H
   have A19 := Aside0.mk A190
   clear A190
   have H' := Aside0.mk H
   clear H
   have p123 : 0 ≤ (x16_1 : Int) := oD
   have q123 : x16_1 < (l0_1.length : Int) := oD
   obtain ⟨ad123, e123, hx123_0, hx123_1, hx123_2⟩ := at_T79 HR0_1.out x16_1 p123 q123
   cases e123
   replace hx123_0 := (HB.out.cell (World.block_lt_of_cell? w _ hx123_0)).trans hx123_0
   replace hx123_1 := (HB.out.cell (World.block_lt_of_cell? w _ hx123_1)).trans hx123_1
   replace hx123_2 := (HB.out.cell (World.block_lt_of_cell? w _ hx123_2)).trans hx123_2
   replace p123 := eq_true p123
   replace q123 := eq_true q123
   go_wp2_with (first | ((with_reducible refine gate_dst (N := 9) rfl ?_); refine box_event ?hg (N := 9) ?hd (cs := #[.int .i64 0, .int .i64 0, .int .i64 0]) (t := 79) ?hr ?_; (case hd => rfl); (case hg => rfl); (case hr => exact hR); intro gb124 hg w20 hbox hb; have n0_ := aM (Kd.R_below (gR (HO_7.out)) hb); have n1_ := aM (blk_below (g := gb119) (o := .cells #[.int .i64 a0_0, .slice (some ad123) l0_1.length c0_1] 25 (0, 0)) (gB (BK119.out)) hb); have n2_ := aM (below_step (bl1 HB GE119) hb); have n3_ := aM (hbox); have n4_ := aM ((by rw [hg]; exact (below_size (bl1 HB GE119)) : w.heap.size ≤ gb124)); have n5_ := aM ((by rw [hg]; exact (below_size (bl1 HB GE119)) : w.heap.size ≤ gb124)); have n6_ := aM ((by rw [hg]; exact Nat.ne_of_lt (blk_lt (g := gb119) (o := .cells #[.int .i64 a0_0, .slice (some ad123) l0_1.length c0_1] 25 (0, 0)) (gB (BK119.out))) : gb119 ≠ gb124)); have n7_ := aM ((by rw [hg]; exact Nat.ne_of_gt (blk_lt (g := gb119) (o := .cells #[.int .i64 a0_0, .slice (some ad123) l0_1.length c0_1] 25 (0, 0)) (gB (BK119.out))) : gb124 ≠ gb119)); clear HO_7; clear BK119; clear HB; have HO_7 := n0_; have BK119 := n1_; have HB := n2_; have BK124 := n3_; have GW124 := n4_; have GE124 := n5_; have NB119_124 := n6_; have NB124_119 := n7_; clear n0_ n1_ n2_ n3_ n4_ n5_ n6_ n7_; clear hb hbox hg; have hnb21 := NB124_119.out; have hnc21 := NB119_124.out; have hcz22_0 : w20.cell? ⟨gb124, 0, none⟩ = some (.int .i64 0) := (blk_cell BK124.out 0).trans rfl; have hcz22_1 : w20.cell? ⟨gb124, 1, none⟩ = some (.int .i64 0) := (blk_cell BK124.out 1).trans rfl; have hcz22_2 : w20.cell? ⟨gb124, 2, none⟩ = some (.int .i64 0) := (blk_cell BK124.out 2).trans rfl; have hfz22_0 := blk_frozen BK124.out 0; have hfz22_1 := blk_frozen BK124.out 1; have hfz22_2 := blk_frozen BK124.out 2) | ((with_reducible refine gate_store (t := 79) (p := 9) rfl ?_); refine store_event (t := 79) (p := 9) (v := ?vo_w23) (w1 := (((w20.setCell ⟨gb124, 0, none⟩ (.int .i64 ((rd_T79 l0_1 x16_1).f0))).setCell ⟨gb124, 1, none⟩ (.int .i64 ((rd_T79 l0_1 x16_1).f1))).setCell ⟨gb124, 2, none⟩ (.int .i64 ((rd_T79 l0_1 x16_1).f2)))) ?hg ?ho ?hn ?hr ?_; (case ho => rfl); (case hg => rfl); (case hn => rfl); (case hr => exact hR); intro w23 hw; have n0_ : Aside0 (Kd.R (Kd.int .i64) 3 w23 w.heap.size (fun _ => True) v121 x7_1) := ⟨(by rw [hw]; exact (by (with_reducible repeat (first | apply Kd.R_alloc | apply Kd.R_drewN | apply Kd.R_drew)); exact Kd.R_mono (Kd.R_far (p := ⟨gb124, 2, none⟩) (Kd.R_far (p := ⟨gb124, 1, none⟩) (Kd.R_far (p := ⟨gb124, 0, none⟩) (Kd.R_types HO_7.out BK124.out (by decide)) (fun _ hk => hk.2) (.int .i64 ((rd_T79 l0_1 x16_1).f0))) (fun _ hk => hk.2) (.int .i64 ((rd_T79 l0_1 x16_1).f1))) (fun _ hk => hk.2) (.int .i64 ((rd_T79 l0_1 x16_1).f2))) (fun _ hk => trivial)))⟩; have n1_ : Aside0 (w23.heap[gb119]? = some (.cells #[.int .i64 a0_0, .slice (some ad123) l0_1.length c0_1] 25 (0, 0))) := ⟨(by rw [hw]; exact (by (with_reducible repeat (first | refine blk_drewN ?_ _ | refine blk_drew ?_ | refine blk_alloc ?_ _)); refine blk_far ?_ NB119_124.out _; (with_reducible repeat (first | refine blk_drewN ?_ _ | refine blk_drew ?_ | refine blk_alloc ?_ _)); refine blk_far ?_ NB119_124.out _; (with_reducible repeat (first | refine blk_drewN ?_ _ | refine blk_drew ?_ | refine blk_alloc ?_ _)); refine blk_far ?_ NB119_124.out _; (with_reducible repeat (first | refine blk_drewN ?_ _ | refine blk_drew ?_ | refine blk_alloc ?_ _)); exact BK119.out))⟩; have n2_ : Aside0 (w23.heap[gb124]? = some (.cells #[.int .i64 ((rd_T79 l0_1 x16_1).f0), .int .i64 ((rd_T79 l0_1 x16_1).f1), .int .i64 ((rd_T79 l0_1 x16_1).f2)] 79 (0, 0))) := ⟨(by rw [hw]; exact (by (with_reducible repeat (first | refine blk_drewN ?_ _ | refine blk_drew ?_ | refine blk_alloc ?_ _)); refine blk_put (cs := #[.int .i64 ((rd_T79 l0_1 x16_1).f0), .int .i64 ((rd_T79 l0_1 x16_1).f1), .int .i64 0]) ?_ 2 _ rfl; (with_reducible repeat (first | refine blk_drewN ?_ _ | refine blk_drew ?_ | refine blk_alloc ?_ _)); refine blk_put (cs := #[.int .i64 ((rd_T79 l0_1 x16_1).f0), .int .i64 0, .int .i64 0]) ?_ 1 _ rfl; (with_reducible repeat (first | refine blk_drewN ?_ _ | refine blk_drew ?_ | refine blk_alloc ?_ _)); refine blk_put (cs := #[.int .i64 0, .int .i64 0, .int .i64 0]) ?_ 0 _ rfl; (with_reducible repeat (first | refine blk_drewN ?_ _ | refine blk_drew ?_ | refine blk_alloc ?_ _)); exact BK124.out))⟩; have n3_ : Aside0 (Below w.heap.size w w23) := ⟨(by rw [hw]; exact (bl2 HB GE119 GE124))⟩; clear hw; clear HO_7; clear BK119; clear BK124; clear HB; have HO_7 := n0_; have BK119 := n1_; have BK124 := n2_; have HB := n3_; clear n0_ n1_ n2_ n3_; have p125 : 0 ≤ (x16_1 : Int) := oD; have q125 : x16_1 < (l1.length : Int) := oD; obtain ⟨ad125, e125, hx125_0⟩ := Kd.at_bool HR1.out x16_1 p125 q125; (try rw [← Nbq13.out] at hx125_0); cases e125; replace hx125_0 := (HB.out.cell (World.block_lt_of_cell? w _ hx125_0)).trans hx125_0; replace p125 := eq_true p125; replace q125 := eq_true q125; have hcz24_0 : w23.cell? ⟨gb124, 0, none⟩ = some (.int .i64 ((rd_T79 l0_1 x16_1).f0)) := (blk_cell BK124.out 0).trans rfl; have hcz24_1 : w23.cell? ⟨gb124, 1, none⟩ = some (.int .i64 ((rd_T79 l0_1 x16_1).f1)) := (blk_cell BK124.out 1).trans rfl; have hcz24_2 : w23.cell? ⟨gb124, 2, none⟩ = some (.int .i64 ((rd_T79 l0_1 x16_1).f2)) := (blk_cell BK124.out 2).trans rfl; have hfz24_0 := blk_frozen BK124.out 0; have hfz24_1 := blk_frozen BK124.out 1; have hfz24_2 := blk_frozen BK124.out 2; obtain ⟨Ao25, co25, eo25⟩ := Kd.R_slice HO_7.out; subst eo25) | ((with_reducible refine gate_callee (f := 89) rfl ?_); refine goesL_ (some 35) rfl rfl Tryd.func89 (by kernel_rfl) rfl #[.slice Ao25 x7_1.length co25, .int .i64 ((rd_T79 l0_1 x16_1).f0), .int .i64 ((rd_T79 l0_1 x16_1).f1)] rfl mP ?_; (with_reducible refine (impl_union_join.calls k1 (fun k_ => some k_ = (.slice Ao25 x7_1.length co25 : Value).ownBlock) (.slice Ao25 x7_1.length co25) x7_1 ((rd_T79 l0_1 x16_1).f0) ((rd_T79 l0_1 x16_1).f1) t126 w _ ?side1 ?side2 A19.out).mono ?_); (case side1 => repeat (first | (with_reducible first | exact HB.out | apply below_alloc | apply pw_below_drewN | apply below_drew1 | refine below_set ?_ GE119.out | refine below_set ?_ GE124.out) | exact HB.out)); (case side2 => exact Kd.R_tight rfl HO_7.out); rintro e w26 ⟨rfl, hy0, hb, hkp⟩; refine ⟨_, rfl, ?_⟩; have n0_ := aM (Kd.R_reok rfl hy0 (fun k_ e_ => HO_7.out.1 k_ e_)); have n1_ := aM (blk_kept (gB (BK119.out)) hkp (fun hs_ => (fun e_ => (Kd.R_ne HO_7.out BK119.out (by decide)) e_) hs_)); have n2_ := aM (blk_kept (gB (BK124.out)) hkp (fun hs_ => (fun e_ => (Kd.R_ne HO_7.out BK124.out (by decide)) e_) hs_)); have n3_ := aM (hb); clear HO_7; clear BK119; clear BK124; clear HB; have HO_7 := n0_; have BK119 := n1_; have BK124 := n2_; have HB := n3_; clear n0_ n1_ n2_ n3_; (try clear hb); (try clear hkp); (try clear hy0)))
   go_roundg k1
   case measure => have := HK1.out; omega
   case rel => exact ⟨(t126), (wrap64 (x16_1 + 1)), fS, H', ⟨by have := HK1.out; omega⟩, ⟨gR (HO_7.out)⟩, ⟨gB (BK119.out)⟩, ⟨bl2 HB GE119 GE124⟩⟩

end Go.Proofs.YtpgjgbjkfgbpaaaDoor.P

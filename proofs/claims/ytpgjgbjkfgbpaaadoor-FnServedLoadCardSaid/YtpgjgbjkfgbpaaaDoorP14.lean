/- Contracts of Go functions of this seat's translation, written by this repo's wip/mk.py: it calls the kit's print.py with contracts typed by hand in place of functions that it does not take. Not trusted: Lean checks it. -/
import Derived.Test.YtpgjgbjkfgbpaaaDoorP0
import Derived.Test.YtpgjgbjkfgbpaaaDoorP9
import Derived.Test.YtpgjgbjkfgbpaaaDoorP12
import Derived.Test.YtpgjgbjkfgbpaaaDoorP13
namespace Go.Proofs.YtpgjgbjkfgbpaaaDoor.P
open Go.RowKit Go.Proofs.YtpgjgbjkfgbpaaaDoorW.PrintWords Go.Proofs.YtpgjgbjkfgbpaaaDoorW.PrintLast Go.Proofs.YtpgjgbjkfgbpaaaDoorW.PrintMore
attribute [local go_sem] max2_int min2_int max_two min_two max_three min_three max_four min_four   -- for this text's walks alone
set_option linter.unusedVariables false
set_option linter.unusedSimpArgs false

/-! ### spec_l20Powered: function 67 -/
def spec_l20Powered.f (k : Nat) (s0_0 : List Int) (s0_1 : Int) (a1 : Int) : Option (Int × (List (S79)) × List Bool × (List (S33)) × Int) := (spec_l20Switched.f k s0_0 s0_1 (wrap64 (2 * a1))).bind fun bt248 => ((spec_l20Buses.f k s0_0 bt248.2.2.2 bt248.1 bt248.2.1 (wrap64 (2 * a1))).bind fun bt257 => (some (bt248.1, bt248.2.1, bt248.2.2.1, bt257.1, bt257.2)))
theorem spec_l20Powered.mono : ∀ a0 a1 a2 k, LeO (spec_l20Powered.f k a0 a1 a2) (spec_l20Powered.f (k + 1) a0 a1 a2) := by
 intro a0 a1 a2 k
 unfold spec_l20Powered.f
 repeat' first
   | (with_reducible exact spec_l20Buses.mono _ _ _ _ _ _)
   | (with_reducible exact spec_l20Switched.mono _ _ _ _)
   | (with_reducible exact LeO.refl _)
   | (with_reducible exact LeO.none _)
   | (with_reducible refine LeO.ite ?_ ?_)
   | (with_reducible refine LeO.bind ?_ (fun _ => ?_))
   | exact spec_l20Buses.mono _ _ _ _ _ _
   | exact spec_l20Switched.mono _ _ _ _
   | exact LeO.none _
   | refine LeO.ite ?_ ?_
   | refine LeO.bind ?_ (fun _ => ?_)
def spec_l20Powered.T2 : Bool × List (List Nat × List Nat) := (true, [([], []), ([], []), ([], []), ([], []), ([], []), ([4], [4]), ([2, 3, 5], [2, 3, 5]), ([0, 6, 0], [0]), ([1, 7, 0, 1, 7], [1]), ([6, 8, 0, 1, 2, 3, 4, 5, 6, 7, 8], [6])])
def spec_l20Powered.B2 : List Nat := [0, 0, 0, 0, 0, 16, 60, 125, 255, 511]
theorem spec_l20Powered.tab2 : rtab .any (opsOf Tryd.f67 2) = spec_l20Powered.T2 := by kernel_rfl
theorem spec_l20Powered.bits2 : waitsOk spec_l20Powered.T2.2 spec_l20Powered.B2 = true := by kernel_rfl
set_option maxHeartbeats 8000000 in
set_option maxRecDepth 100000 in
theorem spec_l20Powered.calls (k : Nat) (g : Nat) (s0_0 : List Int) (s0_1 : Int) (a1 : Int) (r1 : Int) (r2 : List (S79)) (r3 : List Bool) (r4 : List (S33)) (r5 : Int) (w0 w : World) (hI : IsS111 w0 w g s0_0 s0_1) (hB : Below w0.heap.size w0 w) (h : spec_l20Powered.f k s0_0 s0_1 a1 = some (r1, r2, r3, r4, r5)) :
  Calls Tryd.prog 67 #[.pointer (some ⟨g, 0, none⟩), .int .i64 a1] w fun e w' => ∃ v1_ v2_ v3_ : Value, e = .returned (.tuple #[.agg #[.int .i64 r1, v1_], v2_, v3_]) ∧ Kd.R k79 79 w' w.heap.size (fun _ => True) v1_ r2 ∧ Kd.R Kd.bool 4 w' w.heap.size (fun _ => True) v2_ r3 ∧ Kd.R k33 33 w' w.heap.size (fun _ => True) v3_ r4 ∧ IsS111 w0 w' g s0_0 r5 ∧ Below w0.heap.size w0 w' ∧ KeepBut w w' g none := by
 have hu25 := Tryd.underlying25
 have HI0 := Aside0.mk hI
 have HK := aM (KeepBut.refl w g none)
 have HL := Aside0.mk hB.size
 clear hI
 have HW0 := Aside0.mk hB.size
 have HB := Aside0.mk hB
 clear hB
 have H : ((spec_l20Switched.f k s0_0 s0_1 (wrap64 (2 * a1))).bind fun bt248 => ((spec_l20Buses.f k s0_0 bt248.2.2.2 bt248.1 bt248.2.1 (wrap64 (2 * a1))).bind fun bt257 => (some (bt248.1, bt248.2.1, bt248.2.2.1, bt257.1, bt257.2)))) = some (r1, r2, r3, r4, r5) := h
 clear h
 replace H := Option.bind_eq_some_iff.mp H
 obtain ⟨⟨t248, t249, t252, t255⟩, A30, H⟩ := H
 replace H : ((spec_l20Buses.f k s0_0 t255 t248 t249 (wrap64 (2 * a1))).bind fun bt257 => (some (t248, t249, t252, bt257.1, bt257.2))) = some (r1, r2, r3, r4, r5) := H
 have A3 := Aside0.mk A30
 clear A30
 replace H := Option.bind_eq_some_iff.mp H
 obtain ⟨⟨t257, t260⟩, A40, H⟩ := H
 replace H : (some (t248, t249, t252, t257, t260)) = some (r1, r2, r3, r4, r5) := H
 have A4 := Aside0.mk A40
 clear A40
 simp only [Option.some.injEq, Prod.mk.injEq] at H
 obtain ⟨rfl, rfl, rfl, rfl, rfl⟩ := H
 go_enter Tryd.func67, Tryd.ntmps67
 try go_wp2_with (first | ((with_reducible refine gate_dst (N := 4) rfl ?_); refine box_event ?hg (N := 4) ?hd (cs := #[.int .i64 0, .slice none 0 0]) (t := 25) ?hr ?_; (case hd => rfl); (case hg => rfl); (case hr => exact hR); intro gb247 hg w5 hbox hb; have n0_ := aM (IsS111.below (IsS111.k0 HI0) hb); have n1_ := aM (KeepBut.trans (kp0 HK) (KeepBut.of_below hb g none) (.inl rfl)); have n2_ := aM (below_step (bl1 HB (aM (IsS111.ge HI0.out))) hb); have n3_ := aM (hbox); have n4_ := aM ((by rw [hg]; exact (keep_size (w := w) (g := g) (row := none) (kp0 HK)) : w.heap.size ≤ gb247)); have n5_ := aM ((Nat.le_trans HW0.out (by rw [hg]; exact (keep_size (w := w) (g := g) (row := none) (kp0 HK)) : w.heap.size ≤ gb247) : w0.heap.size ≤ gb247)); have n6_ := aM ((by rw [hg]; exact Nat.ne_of_lt (IsS111.lt (show IsS111 w0 _ g s0_0 s0_1 from IsS111.k0 HI0)) : g ≠ gb247)); have n7_ := aM ((by rw [hg]; exact Nat.ne_of_gt (IsS111.lt (show IsS111 w0 _ g s0_0 s0_1 from IsS111.k0 HI0)) : gb247 ≠ g)); clear HI0; clear HK; clear HB; have HI0 := n0_; have HK := n1_; have HB := n2_; have BK247 := n3_; have GW247 := n4_; have GE247 := n5_; have NB0_247 := n6_; have NB247_0 := n7_; clear n0_ n1_ n2_ n3_ n4_ n5_ n6_ n7_; clear hb hbox hg) | ((with_reducible refine gate_callee (f := 80) rfl ?_); refine goesL_ (some 13) rfl rfl Tryd.func80 (by kernel_rfl) rfl #[.pointer (some ⟨g, 0, none⟩), .int .i64 (wrap64 (2 * a1))] rfl mP ?_; (with_reducible refine (spec_l20Switched.calls k g s0_0 s0_1 (wrap64 (2 * a1)) t248 t249 t252 t255 w0 _ ?side1 ?side2 A3.out).mono ?_); (case side1 => repeat (first | (with_reducible first | exact HI0.out | apply IsS111.alloc | apply IsS111.drewN | apply IsS111.drew | apply IsS111.set_1 | refine IsS111.far ?_ NB0_247.out _) | exact HI0.out)); (case side2 => repeat (first | (with_reducible first | exact HB.out | apply below_alloc | apply pw_below_drewN | apply below_drew1 | refine below_set ?_ (IsS111.ge HI0.out) | refine below_set ?_ GE247.out) | exact HB.out)); rintro e w6 ⟨v250, v253, rfl, ho0, ho1, hi, hb, hk⟩; refine ⟨_, rfl, ?_⟩; have n0_ := aM (KeepBut.blk hk (g' := gb247) (o := .cells #[.int .i64 0, .slice none 0 0] 25 (0, 0)) (gB (BK247.out)) NB247_0.out (by simp)); have n1_ := aM (Kd.R_lower ho0 (keep_size (w := w) (g := g) (row := none) (kp1 HK GW247))); have n2_ := aM (Kd.R_lower ho1 (keep_size (w := w) (g := g) (row := none) (kp1 HK GW247))); have n3_ := aM (KeepBut.trans (kp1 HK GW247) hk (.inl rfl)); have n4_ := aM (hb); have n5_ := aM (hi); clear BK247; clear HK; clear HB; clear HI0; have BK247 := n0_; have HO251 := n1_; have HO254 := n2_; have HK := n3_; have HB := n4_; have HI0 := n5_; clear n0_ n1_ n2_ n3_ n4_ n5_; (try clear hb); (try clear hb2); (try clear hk); (try clear hi); (try clear ho0); (try clear ho1)) | ((with_reducible refine gate_dst (N := 7) rfl ?_); refine box_event ?hg (N := 7) ?hd (cs := #[.int .i64 0, .slice none 0 0]) (t := 25) ?hr ?_; (case hd => rfl); (case hg => rfl); (case hr => exact hR); intro gb256 hg w7 hbox hb; have n0_ := aM (Kd.R_below (gR (HO251.out)) hb); have n1_ := aM (Kd.R_below (gR (HO254.out)) hb); have n2_ := aM (IsS111.below (IsS111.k1 HI0 NB0_247) hb); have n3_ := aM (blk_below (g := gb247) (o := .cells #[.int .i64 0, .slice none 0 0] 25 (0, 0)) (gB (BK247.out)) hb); have n4_ := aM (KeepBut.trans (kp1 HK GW247) (KeepBut.of_below hb g none) (.inl rfl)); have n5_ := aM (below_step (bl2 HB (aM (IsS111.ge HI0.out)) GE247) hb); have n6_ := aM (hbox); have n7_ := aM ((by rw [hg]; exact (keep_size (w := w) (g := g) (row := none) (kp1 HK GW247)) : w.heap.size ≤ gb256)); have n8_ := aM ((Nat.le_trans HW0.out (by rw [hg]; exact (keep_size (w := w) (g := g) (row := none) (kp1 HK GW247)) : w.heap.size ≤ gb256) : w0.heap.size ≤ gb256)); have n9_ := aM ((by rw [hg]; exact Nat.ne_of_lt (blk_lt (g := gb247) (o := .cells #[.int .i64 0, .slice none 0 0] 25 (0, 0)) (gB (BK247.out))) : gb247 ≠ gb256)); have n10_ := aM ((by rw [hg]; exact Nat.ne_of_gt (blk_lt (g := gb247) (o := .cells #[.int .i64 0, .slice none 0 0] 25 (0, 0)) (gB (BK247.out))) : gb256 ≠ gb247)); have n11_ := aM ((by rw [hg]; exact Nat.ne_of_lt (IsS111.lt (show IsS111 w0 _ g s0_0 t255 from IsS111.k1 HI0 NB0_247)) : g ≠ gb256)); have n12_ := aM ((by rw [hg]; exact Nat.ne_of_gt (IsS111.lt (show IsS111 w0 _ g s0_0 t255 from IsS111.k1 HI0 NB0_247)) : gb256 ≠ g)); clear HO251; clear HO254; clear HI0; clear BK247; clear HK; clear HB; have HO251 := n0_; have HO254 := n1_; have HI0 := n2_; have BK247 := n3_; have HK := n4_; have HB := n5_; have BK256 := n6_; have GW256 := n7_; have GE256 := n8_; have NB247_256 := n9_; have NB256_247 := n10_; have NB0_256 := n11_; have NB256_0 := n12_; clear n0_ n1_ n2_ n3_ n4_ n5_ n6_ n7_ n8_ n9_ n10_ n11_ n12_; clear hb hbox hg; have hnb8 := NB256_247.out; have hnc8 := NB247_256.out; have hnb9 := NB256_0.out; have hnc9 := NB0_256.out; have hcz10_0 : w7.cell? ⟨gb256, 0, none⟩ = some (.int .i64 0) := (blk_cell BK256.out 0).trans rfl; have hcz10_1 : w7.cell? ⟨gb256, 1, none⟩ = some (.slice none 0 0) := (blk_cell BK256.out 1).trans rfl; have hfz10_0 := blk_frozen BK256.out 0; have hfz10_1 := blk_frozen BK256.out 1; obtain ⟨Ao11, co11, eo11⟩ := Kd.R_slice HO251.out; subst eo11))
 have n0_ : Aside0 (Kd.R k79 79 ((w7.setCell ⟨gb256, 0, none⟩ (.int .i64 t248)).setCell ⟨gb256, 1, none⟩ (.slice Ao11 t249.length co11)) w.heap.size (fun _ => True) (.slice Ao11 t249.length co11) t249) := ⟨by (with_reducible repeat (first | apply Kd.R_alloc | apply Kd.R_drewN | apply Kd.R_drew)); exact Kd.R_mono (Kd.R_far (p := ⟨gb256, 1, none⟩) (Kd.R_far (p := ⟨gb256, 0, none⟩) (Kd.R_types HO251.out BK256.out (by decide)) (fun _ hk => hk.2) (.int .i64 t248)) (fun _ hk => hk.2) (.slice Ao11 t249.length co11)) (fun _ hk => trivial)⟩
 have n1_ : Aside0 (Kd.R Kd.bool 4 ((w7.setCell ⟨gb256, 0, none⟩ (.int .i64 t248)).setCell ⟨gb256, 1, none⟩ (.slice Ao11 t249.length co11)) w.heap.size (fun _ => True) v253 t252) := ⟨by (with_reducible repeat (first | apply Kd.R_alloc | apply Kd.R_drewN | apply Kd.R_drew)); exact Kd.R_mono (Kd.R_far (p := ⟨gb256, 1, none⟩) (Kd.R_far (p := ⟨gb256, 0, none⟩) (Kd.R_types HO254.out BK256.out (by decide)) (fun _ hk => hk.2) (.int .i64 t248)) (fun _ hk => hk.2) (.slice Ao11 t249.length co11)) (fun _ hk => trivial)⟩
 have n2_ : Aside0 (((w7.setCell ⟨gb256, 0, none⟩ (.int .i64 t248)).setCell ⟨gb256, 1, none⟩ (.slice Ao11 t249.length co11)).heap[gb247]? = some (.cells #[.int .i64 0, .slice none 0 0] 25 (0, 0))) := ⟨by (with_reducible repeat (first | refine blk_drewN ?_ _ | refine blk_drew ?_ | refine blk_alloc ?_ _)); refine blk_far ?_ NB247_256.out _; (with_reducible repeat (first | refine blk_drewN ?_ _ | refine blk_drew ?_ | refine blk_alloc ?_ _)); refine blk_far ?_ NB247_256.out _; (with_reducible repeat (first | refine blk_drewN ?_ _ | refine blk_drew ?_ | refine blk_alloc ?_ _)); exact BK247.out⟩
 have n3_ : Aside0 (((w7.setCell ⟨gb256, 0, none⟩ (.int .i64 t248)).setCell ⟨gb256, 1, none⟩ (.slice Ao11 t249.length co11)).heap[gb256]? = some (.cells #[.int .i64 t248, .slice Ao11 t249.length co11] 25 (0, 0))) := ⟨by (with_reducible repeat (first | refine blk_drewN ?_ _ | refine blk_drew ?_ | refine blk_alloc ?_ _)); refine blk_put (cs := #[.int .i64 t248, .slice none 0 0]) ?_ 1 _ rfl; (with_reducible repeat (first | refine blk_drewN ?_ _ | refine blk_drew ?_ | refine blk_alloc ?_ _)); refine blk_put (cs := #[.int .i64 0, .slice none 0 0]) ?_ 0 _ rfl; (with_reducible repeat (first | refine blk_drewN ?_ _ | refine blk_drew ?_ | refine blk_alloc ?_ _)); exact BK256.out⟩
 have n4_ : Aside0 (IsS111 w0 ((w7.setCell ⟨gb256, 0, none⟩ (.int .i64 t248)).setCell ⟨gb256, 1, none⟩ (.slice Ao11 t249.length co11)) g s0_0 t255) := ⟨IsS111.k2 HI0 NB0_247 NB0_256⟩
 have n5_ : Aside0 (KeepBut w ((w7.setCell ⟨gb256, 0, none⟩ (.int .i64 t248)).setCell ⟨gb256, 1, none⟩ (.slice Ao11 t249.length co11)) g none) := ⟨kp2 HK GW247 GW256⟩
 have n6_ : Aside0 (Below w0.heap.size w0 ((w7.setCell ⟨gb256, 0, none⟩ (.int .i64 t248)).setCell ⟨gb256, 1, none⟩ (.slice Ao11 t249.length co11))) := ⟨bl3 HB (aM (IsS111.ge HI0.out)) GE247 GE256⟩
 (try clear HO251)
 (try clear HO254)
 (try clear BK247)
 (try clear BK256)
 (try clear HI0)
 (try clear HK)
 (try clear HB)
 generalize ((w7.setCell ⟨gb256, 0, none⟩ (.int .i64 t248)).setCell ⟨gb256, 1, none⟩ (.slice Ao11 t249.length co11)) = w12 at n0_ n1_ n2_ n3_ n4_ n5_ n6_ ⊢
 have HO251 := n0_
 have HO254 := n1_
 have BK247 := n2_
 have BK256 := n3_
 have HI0 := n4_
 have HK := n5_
 have HB := n6_
 clear n0_ n1_ n2_ n3_ n4_ n5_ n6_
 have n0_ := aM (Kd.R_drew HO251.out)
 have n1_ := aM (Kd.R_drew HO254.out)
 have n2_ := aM (blk_drew BK247.out)
 have n3_ := aM (blk_drew BK256.out)
 have n4_ := aM (IsS111.drew HI0.out)
 have n5_ := aM (keep_drew HK.out)
 have n6_ := aM (below_drew1 HB.out)
 clear HO251
 clear HO254
 clear BK247
 clear BK256
 clear HI0
 clear HK
 clear HB
 have HO251 := n0_
 have HO254 := n1_
 have BK247 := n2_
 have BK256 := n3_
 have HI0 := n4_
 have HK := n5_
 have HB := n6_
 clear n0_ n1_ n2_ n3_ n4_ n5_ n6_
 refine start_ (n := 10) (S := fun w' => w'.cell? ⟨gb256, 0, none⟩ = some (.int .i64 t248) ∧ w'.cell? ⟨gb256, 1, none⟩ = some (.slice Ao11 t249.length co11)) (ds := []) #[false, false, false, false, false, false, false, false, false, false] (by kernel_rfl) rfl rfl ⟨(blk_cell BK256.out 0).trans rfl, (blk_cell BK256.out 1).trans rfl⟩ (fun hHeld => ?_); refine with_tabW spec_l20Powered.tab2 spec_l20Powered.bits2 (fun HT_ HW_ => ?_)
 generalize w12.drew = w13 at HO251 HO254 BK247 BK256 HI0 HK HB hHeld ⊢
 refine pure_ (i := 1) (N := some 17) (v := ?_) (a' := ?_) #[false, true, false, false, false, false, false, false, false, false] rfl rfl (any_of HT_.out (by kernel_rfl)) (fun _ _ _ h => h) (Or.inl ⟨by rfl, ?_⟩) ?_ ?_
 rotate_left
 ·
  intro w'
  go_simp
  with_reducible rfl
 rotate_left
 ·
  simp only [Act.put, List.setIfInBounds_toArray, List.set_cons_zero, List.set_cons_succ, i64_w, i32_w]
  rfl
 refine pure_ (i := 2) (N := some 18) (v := ?_) (a' := ?_) #[false, true, true, false, false, false, false, false, false, false] rfl rfl (any_of HT_.out (by kernel_rfl)) (fun _ _ _ h => h) (Or.inl ⟨by rfl, ?_⟩) ?_ ?_
 rotate_left
 ·
  intro w'
  go_simp
  with_reducible rfl
 rotate_left
 ·
  simp only [Act.put, List.setIfInBounds_toArray, List.set_cons_zero, List.set_cons_succ, i64_w, i32_w]
  rfl
 refine pure_ (i := 4) (N := some 20) (v := ?_) (a' := ?_) #[false, true, true, false, true, false, false, false, false, false] rfl rfl (any_of HT_.out (by kernel_rfl)) (fun _ _ _ h => h) (Or.inl ⟨by rfl, ?_⟩) ?_ ?_
 rotate_left
 ·
  intro w'
  go_simp
  with_reducible rfl
 rotate_left
 ·
  simp only [Act.put, List.setIfInBounds_toArray, List.set_cons_zero, List.set_cons_succ, i64_w, i32_w]
  rfl
 refine pure_ (i := 5) (N := some 21) (v := ?_) (a' := ?_) #[false, true, true, false, true, true, false, false, false, false] rfl rfl (any_of HT_.out (by kernel_rfl)) (fun _ _ _ h => h) (Or.inl ⟨by rfl, ?_⟩) ?_ ?_
 rotate_left
 ·
  intro w'
  go_simp
  with_reducible rfl
 rotate_left
 ·
  simp only [Act.put, List.setIfInBounds_toArray, List.set_cons_zero, List.set_cons_succ, i64_w, i32_w]
  rfl
 refine take_ (i := 0) (N := some 16) (v := ?_) (a' := ?_) #[true, true, true, false, true, true, false, false, false, false] rfl rfl (take_ofW HT_.out HW_.out (by kernel_rfl)) (fun _ _ _ h => h) (Or.inl ⟨by rfl, ?_⟩) hHeld ?_ ?_
 rotate_left
 ·
  rintro w' ⟨s0, s1⟩
  go_simp
  with_reducible rfl
 rotate_left
 ·
  simp only [Act.put, List.setIfInBounds_toArray, List.set_cons_zero, List.set_cons_succ, i64_w, i32_w]
  rfl
 refine take_ (i := 3) (N := some 19) (v := ?_) (a' := ?_) #[true, true, true, true, true, true, false, false, false, false] rfl rfl (take_ofW HT_.out HW_.out (by kernel_rfl)) (fun _ _ _ h => h) (Or.inl ⟨by rfl, ?_⟩) hHeld ?_ ?_
 rotate_left
 ·
  rintro w' ⟨s0, s1⟩
  go_simp
  with_reducible rfl
 rotate_left
 ·
  simp only [Act.put, List.setIfInBounds_toArray, List.set_cons_zero, List.set_cons_succ, i64_w, i32_w]
  rfl
 refine one_ (i := 6) (N := some 22) #[true, true, true, true, true, true, true, false, false, false] rfl rfl (one_of HT_.out (by kernel_rfl)) (by decide) (fun K hK => ?_)
 refine goes_ Tryd.func112 (by kernel_rfl) rfl #[.pointer (some ⟨g, 0, none⟩), .agg #[.int .i64 t248, .slice Ao11 t249.length co11], .int .i64 (wrap64 (2 * a1))] (by rfl) rfl rfl mP ?_
 with_reducible refine (spec_l20Buses.calls k g s0_0 t255 t248 _ _ t249 (wrap64 (2 * a1)) t257 t260 w0 _ ?side1 ?side2 ?side3 ?side4 A4.out).mono ?_
 (case side1 => repeat (first | (with_reducible first | exact HI0.out | apply IsS111.alloc | apply IsS111.drewN | apply IsS111.drew | apply IsS111.set_1 | refine IsS111.far ?_ NB0_247.out _ | refine IsS111.far ?_ NB0_256.out _) | exact HI0.out))
 (case side2 => repeat (first | (with_reducible first | exact HB.out | apply below_alloc | apply pw_below_drewN | apply below_drew1 | refine below_set ?_ (IsS111.ge HI0.out) | refine below_set ?_ GE247.out | refine below_set ?_ GE256.out) | exact HB.out))
 (case side3 => exact Kd.C_foot_own (IsS111.apart (show IsS111 w0 _ g s0_0 t255 from IsS111.k2 HI0 NB0_247 NB0_256) (gR (HO251.out)) (by decide)) (fun _ h_ => h_.2))
 (case side4 => exact (Kd.R_reads' HO251.out).2.1)
 rintro e w14 ⟨v258, rfl, ho0, hi, hb, hk⟩
 refine ⟨_, rfl, ?_⟩
 have n0_ := aM (KeepBut.blk hk (g' := gb247) (o := .cells #[.int .i64 0, .slice none 0 0] 25 (0, 0)) (gB (BK247.out)) NB247_0.out (by simp))
 have n1_ := aM (Kd.R_mono (Kd.R_keep (IsS111.apart (show IsS111 w0 _ g s0_0 t255 from IsS111.k2 HI0 NB0_247 NB0_256) (gR (HO251.out)) (by decide)) hk (fun _ h => h.2)) (fun _ h => h.1))
 have n2_ := aM (Kd.R_mono (Kd.R_keep (IsS111.apart (show IsS111 w0 _ g s0_0 t255 from IsS111.k2 HI0 NB0_247 NB0_256) (gR (HO254.out)) (by decide)) hk (fun _ h => h.2)) (fun _ h => h.1))
 have n3_ := aM (KeepBut.blk hk (g' := gb256) (o := .cells #[.int .i64 t248, .slice Ao11 t249.length co11] 25 (0, 0)) (gB (BK256.out)) NB256_0.out (by simp))
 have n4_ := aM (Kd.R_lower ho0 (keep_size (w := w) (g := g) (row := none) (kp2 HK GW247 GW256)))
 have n5_ := aM (KeepBut.trans (kp2 HK GW247 GW256) hk (.inl rfl))
 have n6_ := aM (hb)
 have n7_ := aM (hi)
 clear BK247
 clear HO251
 clear HO254
 clear BK256
 clear HK
 clear HB
 clear HI0
 have BK247 := n0_
 have HO251 := n1_
 have HO254 := n2_
 have BK256 := n3_
 have HO259 := n4_
 have HK := n5_
 have HB := n6_
 have HI0 := n7_
 clear n0_ n1_ n2_ n3_ n4_ n5_ n6_ n7_
 (try clear hb)
 (try clear hb2)
 (try clear hk)
 (try clear hi)
 (try clear ho0)
 refine hK.out _ _ ⟨(blk_cell BK256.out 0).trans rfl, (blk_cell BK256.out 1).trans rfl⟩ (fun hHeld => ?_)
 clear hK K
 refine norm_ (a' := ?_) ?_ ?_
 rotate_left
 ·
  show Act.put _ (some 22) _ = _
  simp only [Act.put, List.setIfInBounds_toArray, List.set_cons_zero, List.set_cons_succ, i64_w, i32_w]
  rfl
 refine one_ (i := 7) (N := none) #[true, true, true, true, true, true, true, true, false, false] rfl rfl (one_of HT_.out (by kernel_rfl)) (by decide) (fun K hK => ?_)
 have hs15 : w14.cell? ⟨gb247, 0, none⟩ = some (.int .i64 0) := (blk_cell BK247.out 0).trans rfl
 have hfs15 := blk_frozen BK247.out 0
 have hns15_1 := NB256_247.out
 have hms15_1 := NB247_256.out
 have hs16 : w14.cell? ⟨gb247, 1, none⟩ = some (.slice none 0 0) := (blk_cell BK247.out 1).trans rfl
 have hfs16 := blk_frozen BK247.out 1
 have hns16_1 := NB256_247.out
 have hms16_1 := NB247_256.out
 refine skip_ (w1 := ?_) (by rfl) rfl ?_ ?_
 rotate_left
 ·
  go_simp
  rfl
 refine hK.out _ _ ⟨((cell_far (p := ⟨gb247, _, none⟩) NB256_247.out _).trans (((cell_far (p := ⟨gb247, _, none⟩) NB256_247.out _).trans (hHeld.1)))), ((cell_far (p := ⟨gb247, _, none⟩) NB256_247.out _).trans (((cell_far (p := ⟨gb247, _, none⟩) NB256_247.out _).trans (hHeld.2))))⟩ (fun hHeld => ?_)
 clear hK K
 refine pure_ (i := 8) (N := some 5) (v := ?_) (a' := ?_) #[true, true, true, true, true, true, true, true, true, false] rfl rfl (any_of HT_.out (by kernel_rfl)) (fun _ _ _ h => h) (Or.inl ⟨by rfl, ?_⟩) ?_ ?_
 rotate_left
 ·
  intro w'
  go_simp
  with_reducible rfl
 rotate_left
 ·
  simp only [Act.put, List.setIfInBounds_toArray, List.set_cons_zero, List.set_cons_succ, i64_w, i32_w]
  rfl
 refine pure_ (i := 9) (N := some 6) (v := ?_) (a' := ?_) #[true, true, true, true, true, true, true, true, true, true] rfl rfl (any_of HT_.out (by kernel_rfl)) (fun _ _ _ h => h) (Or.inl ⟨by rfl, ?_⟩) ?_ ?_
 rotate_left
 ·
  intro w'
  go_simp
  with_reducible rfl
 rotate_left
 ·
  simp only [Act.put, List.setIfInBounds_toArray, List.set_cons_zero, List.set_cons_succ, i64_w, i32_w]
  rfl
 refine done_ (done_of HT_.out (by kernel_rfl)) ?_
 try go_wp2
 refine bodyPost_ret (results_ctt rfl _ _ gb247 25 #[.int .i64 t248, .slice Ao11 t249.length co11] (0, 0) _ rfl (by (with_reducible repeat (first | refine blk_drewN ?_ _ | refine blk_drew ?_ | refine blk_alloc ?_ _)); refine blk_put (cs := #[.int .i64 t248, .slice none 0 0]) ?_ 1 _ rfl; (with_reducible repeat (first | refine blk_drewN ?_ _ | refine blk_drew ?_ | refine blk_alloc ?_ _)); refine blk_put (cs := #[.int .i64 0, .slice none 0 0]) ?_ 0 _ rfl; (with_reducible repeat (first | refine blk_drewN ?_ _ | refine blk_drew ?_ | refine blk_alloc ?_ _)); exact BK247.out) Tryd.underlying25 rfl (by kernel_rfl)) rfl ?_
 exact ⟨_, _, _, fR, by (with_reducible repeat (first | apply Kd.R_alloc | apply Kd.R_drewN | apply Kd.R_drew)); exact Kd.R_mono (Kd.R_far (p := ⟨gb247, 1, none⟩) (Kd.R_far (p := ⟨gb247, 0, none⟩) (Kd.R_types HO251.out BK247.out (by decide)) (fun _ hk => hk.2) (.int .i64 t248)) (fun _ hk => hk.2) (.slice Ao11 t249.length co11)) (fun _ hk => trivial), by (with_reducible repeat (first | apply Kd.R_alloc | apply Kd.R_drewN | apply Kd.R_drew)); exact Kd.R_mono (Kd.R_far (p := ⟨gb247, 1, none⟩) (Kd.R_far (p := ⟨gb247, 0, none⟩) (Kd.R_types HO254.out BK247.out (by decide)) (fun _ hk => hk.2) (.int .i64 t248)) (fun _ hk => hk.2) (.slice Ao11 t249.length co11)) (fun _ hk => trivial), by (with_reducible repeat (first | apply Kd.R_alloc | apply Kd.R_drewN | apply Kd.R_drew)); exact Kd.R_mono (Kd.R_far (p := ⟨gb247, 1, none⟩) (Kd.R_far (p := ⟨gb247, 0, none⟩) (Kd.R_types HO259.out BK247.out (by decide)) (fun _ hk => hk.2) (.int .i64 t248)) (fun _ hk => hk.2) (.slice Ao11 t249.length co11)) (fun _ hk => trivial), IsS111.k2 HI0 NB0_247 NB0_256, bl3 HB (aM (IsS111.ge HI0.out)) GE247 GE256, kp2 HK GW247 GW256⟩

end Go.Proofs.YtpgjgbjkfgbpaaaDoor.P

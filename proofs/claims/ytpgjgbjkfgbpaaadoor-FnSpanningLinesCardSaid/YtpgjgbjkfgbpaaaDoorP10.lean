/- Contracts of Go functions of this seat's translation, written by this repo's wip/mk.py: it calls the kit's print.py with contracts typed by hand in place of functions that it does not take. Not trusted: Lean checks it. -/
import Derived.Test.YtpgjgbjkfgbpaaaDoorP0
import Derived.Test.YtpgjgbjkfgbpaaaDoorP9
namespace Go.Proofs.YtpgjgbjkfgbpaaaDoor.P
open Go.RowKit Go.Proofs.YtpgjgbjkfgbpaaaDoorW.PrintWords Go.Proofs.YtpgjgbjkfgbpaaaDoorW.PrintLast Go.Proofs.YtpgjgbjkfgbpaaaDoorW.PrintMore
attribute [local go_sem] max2_int min2_int max_two min_two max_three min_three max_four min_four   -- for this text's walks alone
set_option linter.unusedVariables false
set_option linter.unusedSimpArgs false

/-! ### spec_l20Net: function 101 -/
mutual
def spec_l20Net.j0 : Nat → Int → List Int → Int → Int → Option (Int × (List (S79)) × Int)
 | 0, _, _, _, _ => none
 | k + 1, x1, x1000, x1001, x143000 => (spec_l20Rd_pick.f k x1000 x1001 11).bind fun bt147 => (spec_l20Net.l0 k x1 bt147.1 x1000 bt147.2 x143000 ([] : List (S79)))
def spec_l20Net.l0 : Nat → Int → Int → List Int → Int → Int → List (S79) → Option (Int × (List (S79)) × Int)
 | 0, _, _, _, _, _, _ => none
 | k + 1, x1, x6, x1000, x1001, x143000, x143001 => if x6 > 0 then (spec_l20Net.j2 k x1 x6 (decide (x143000 > 1)) x1000 x1001 x143000 x143001) else (spec_l20Net.j2 k x1 x6 false x1000 x1001 x143000 x143001)
def spec_l20Net.j2 : Nat → Int → Int → Bool → List Int → Int → Int → List (S79) → Option (Int × (List (S79)) × Int)
 | 0, _, _, _, _, _, _, _ => none
 | k + 1, x1, x6, x28, x1000, x1001, x143000, x143001 => if x28 = true then ((spec_l20Rd_pick.f k x1000 x1001 x143000).bind fun bt149 => ((spec_l20Rd_pick.f k x1000 bt149.2 (wrap64 (x143000 - 1))).bind fun bt151 => (if x143000 = 0 then (none) else ((spec_l20Rd_pick.f k x1000 bt151.2 40).bind fun bt153 => (if x143001.length < 5864062014805 then (spec_l20Net.l0 k x1 (wrap64 (x6 - 1)) x1000 bt153.2 x143000 (x143001 ++ [(⟨bt149.1, Int.tmod (wrap64 ((wrap64 (bt149.1 + 1)) + bt151.1)) x143000, wrap64 (1 + bt153.1)⟩ : S79)])) else (none)))))) else ((spec_l20Rd_odd.f k x1000 x1001 x1).bind fun bt158 => (if bt158.1 = true then ((spec_l20Rd_pick.f k x1000 bt158.2 5).bind fun bt160 => (if bt160.1 = 0 then ((some (([0, (-1), 9] : List Int) : List Int)).bind fun y162 => ((spec_l20Rd_pick.f k x1000 bt160.2 3).bind fun bt165 => (if 0 ≤ bt165.1 then (if bt165.1 < (y162.length : Int) then (some (rd y162 bt165.1, x143001, bt165.2)) else (none)) else (none)))) else (if bt160.1 = 1 then (if x143001.length < 5864062014805 then (some (x143000, (x143001 ++ [(⟨0, x143000, 5⟩ : S79)]), bt160.2)) else (none)) else (if bt160.1 = 2 then (if x143001.length < 5864062014805 then (some (x143000, (x143001 ++ [(⟨0, 0, 5⟩ : S79)]), bt160.2)) else (none)) else (if bt160.1 = 3 then ((some (([0, 1000] : List Int) : List Int)).bind fun y174 => ((spec_l20Rd_pick.f k x1000 bt160.2 2).bind fun bt177 => (if 0 ≤ bt177.1 then (if bt177.1 < (y174.length : Int) then (if x143001.length < 5864062014805 then (some (x143000, (x143001 ++ [(⟨0, 1, rd y174 bt177.1⟩ : S79)]), bt177.2)) else (none)) else (none)) else (none)))) else (if 11 ≤ 11728124029610 then (some (x143000, (List.replicate 11 z79), bt160.2)) else (none))))))) else (some (x143000, x143001, bt158.2))))
end
def spec_l20Net.f (k : Nat) (s0_0 : List Int) (s0_1 : Int) (a1 : Int) : Option (Int × (List (S79)) × Int) := (spec_l20Rd_pick.f k s0_0 s0_1 8).bind fun bt140 => ((spec_l20Rd_pick.f k s0_0 bt140.2 3).bind fun bt143 => (if bt143.1 > 0 then ((spec_l20Rd_pick.f k s0_0 bt143.2 4).bind fun bt145 => (spec_l20Net.j0 k a1 s0_0 bt145.2 (wrap64 (4 + bt145.1)))) else (spec_l20Net.j0 k a1 s0_0 bt143.2 (wrap64 (1 + bt140.1)))))
theorem spec_l20Net.mono_l : ∀ k, (∀ y0 y1 y2 y3, LeO (spec_l20Net.j0 k y0 y1 y2 y3) (spec_l20Net.j0 (k + 1) y0 y1 y2 y3)) ∧ (∀ y0 y1 y2 y3 y4 y5, LeO (spec_l20Net.l0 k y0 y1 y2 y3 y4 y5) (spec_l20Net.l0 (k + 1) y0 y1 y2 y3 y4 y5)) ∧ (∀ y0 y1 y2 y3 y4 y5 y6, LeO (spec_l20Net.j2 k y0 y1 y2 y3 y4 y5 y6) (spec_l20Net.j2 (k + 1) y0 y1 y2 y3 y4 y5 y6))
 | 0 => ⟨fun _ _ _ _ r h => by simp [spec_l20Net.j0] at h, fun _ _ _ _ _ _ r h => by simp [spec_l20Net.l0] at h, fun _ _ _ _ _ _ _ r h => by simp [spec_l20Net.j2] at h⟩
 | k + 1 => by
  obtain ⟨ih0, ih1, ih2⟩ := spec_l20Net.mono_l k
  refine ⟨?_, ?_, ?_⟩
  ·
   intro y0 y1 y2 y3
   unfold spec_l20Net.j0
   repeat' first
   | (with_reducible exact ih0 _ _ _ _)
   | (with_reducible exact ih1 _ _ _ _ _ _)
   | (with_reducible exact ih2 _ _ _ _ _ _ _)
   | (with_reducible exact spec_l20Rd_odd.mono _ _ _ _)
   | (with_reducible exact spec_l20Rd_pick.mono _ _ _ _)
   | (with_reducible exact LeO.refl _)
   | (with_reducible exact LeO.none _)
   | (with_reducible refine LeO.ite ?_ ?_)
   | (with_reducible refine LeO.bind ?_ (fun _ => ?_))
   | exact ih0 _ _ _ _
   | exact ih1 _ _ _ _ _ _
   | exact ih2 _ _ _ _ _ _ _
   | exact spec_l20Rd_odd.mono _ _ _ _
   | exact spec_l20Rd_pick.mono _ _ _ _
   | exact LeO.none _
   | refine LeO.ite ?_ ?_
   | refine LeO.bind ?_ (fun _ => ?_)
  ·
   intro y0 y1 y2 y3 y4 y5
   unfold spec_l20Net.l0
   repeat' first
   | (with_reducible exact ih0 _ _ _ _)
   | (with_reducible exact ih1 _ _ _ _ _ _)
   | (with_reducible exact ih2 _ _ _ _ _ _ _)
   | (with_reducible exact spec_l20Rd_odd.mono _ _ _ _)
   | (with_reducible exact spec_l20Rd_pick.mono _ _ _ _)
   | (with_reducible exact LeO.refl _)
   | (with_reducible exact LeO.none _)
   | (with_reducible refine LeO.ite ?_ ?_)
   | (with_reducible refine LeO.bind ?_ (fun _ => ?_))
   | exact ih0 _ _ _ _
   | exact ih1 _ _ _ _ _ _
   | exact ih2 _ _ _ _ _ _ _
   | exact spec_l20Rd_odd.mono _ _ _ _
   | exact spec_l20Rd_pick.mono _ _ _ _
   | exact LeO.none _
   | refine LeO.ite ?_ ?_
   | refine LeO.bind ?_ (fun _ => ?_)
  ·
   intro y0 y1 y2 y3 y4 y5 y6
   unfold spec_l20Net.j2
   repeat' first
   | (with_reducible exact ih0 _ _ _ _)
   | (with_reducible exact ih1 _ _ _ _ _ _)
   | (with_reducible exact ih2 _ _ _ _ _ _ _)
   | (with_reducible exact spec_l20Rd_odd.mono _ _ _ _)
   | (with_reducible exact spec_l20Rd_pick.mono _ _ _ _)
   | (with_reducible exact LeO.refl _)
   | (with_reducible exact LeO.none _)
   | (with_reducible refine LeO.ite ?_ ?_)
   | (with_reducible refine LeO.bind ?_ (fun _ => ?_))
   | exact ih0 _ _ _ _
   | exact ih1 _ _ _ _ _ _
   | exact ih2 _ _ _ _ _ _ _
   | exact spec_l20Rd_odd.mono _ _ _ _
   | exact spec_l20Rd_pick.mono _ _ _ _
   | exact LeO.none _
   | refine LeO.ite ?_ ?_
   | refine LeO.bind ?_ (fun _ => ?_)
theorem spec_l20Net.mono : ∀ a0 a1 a2 k, LeO (spec_l20Net.f k a0 a1 a2) (spec_l20Net.f (k + 1) a0 a1 a2) := by
 intro a0 a1 a2 k
 obtain ⟨ih0, ih1, ih2⟩ := spec_l20Net.mono_l k
 unfold spec_l20Net.f
 repeat' first
   | (with_reducible exact ih0 _ _ _ _)
   | (with_reducible exact ih1 _ _ _ _ _ _)
   | (with_reducible exact ih2 _ _ _ _ _ _ _)
   | (with_reducible exact spec_l20Rd_odd.mono _ _ _ _)
   | (with_reducible exact spec_l20Rd_pick.mono _ _ _ _)
   | (with_reducible exact LeO.refl _)
   | (with_reducible exact LeO.none _)
   | (with_reducible refine LeO.ite ?_ ?_)
   | (with_reducible refine LeO.bind ?_ (fun _ => ?_))
   | exact ih0 _ _ _ _
   | exact ih1 _ _ _ _ _ _
   | exact ih2 _ _ _ _ _ _ _
   | exact spec_l20Rd_odd.mono _ _ _ _
   | exact spec_l20Rd_pick.mono _ _ _ _
   | exact LeO.none _
   | refine LeO.ite ?_ ?_
   | refine LeO.bind ?_ (fun _ => ?_)
def spec_l20Net.T8 : Bool × List (List Nat × List Nat) := (true, [([], []), ([0], [0]), ([], []), ([], []), ([3], [3]), ([4], [4]), ([2, 5], [2, 5]), ([1, 6], [1, 6]), ([], []), ([8], [8]), ([7, 9], [7, 9]), ([10, 6, 0, 1, 2, 3, 4, 5, 6, 7, 8, 9, 10], [10])])
def spec_l20Net.B8 : List Nat := [0, 1, 0, 0, 8, 24, 60, 127, 0, 256, 1023, 2047]
theorem spec_l20Net.tab8 : rtab .any (opsOf Tryd.f101 8) = spec_l20Net.T8 := by kernel_rfl
theorem spec_l20Net.bits8 : waitsOk spec_l20Net.T8.2 spec_l20Net.B8 = true := by kernel_rfl
def spec_l20Net.T9 : Bool × List (List Nat × List Nat) := (true, [([], []), ([0], [0]), ([], []), ([], []), ([], []), ([4], [4]), ([5], [5]), ([2, 3, 6], [2, 3, 6]), ([7], [7]), ([1, 8, 5], [1, 8]), ([0, 1, 2, 3, 4, 5, 6, 7, 8, 9], []), ([10, 9, 9, 0, 1, 2, 3, 4, 5, 6, 7, 8, 9], [9, 10])])
def spec_l20Net.B9 : List Nat := [0, 1, 0, 0, 0, 16, 48, 124, 252, 511, 1023, 2047]
theorem spec_l20Net.tab9 : rtab .any (opsOf Tryd.f101 9) = spec_l20Net.T9 := by kernel_rfl
theorem spec_l20Net.bits9 : waitsOk spec_l20Net.T9.2 spec_l20Net.B9 = true := by kernel_rfl
def spec_l20Net.T20 : Bool × List (List Nat × List Nat) := (true, [([], []), ([0], [0]), ([], []), ([], []), ([3], [3]), ([2, 4], [2, 4]), ([5], [5]), ([6], [6]), ([7], [7]), ([1, 8, 4], [1, 8]), ([0, 1, 2, 3, 4, 5, 6, 7, 8, 9], []), ([10, 9, 9, 0, 1, 2, 3, 4, 5, 6, 7, 8, 9], [9, 10])])
def spec_l20Net.B20 : List Nat := [0, 1, 0, 0, 8, 28, 60, 124, 252, 511, 1023, 2047]
theorem spec_l20Net.tab20 : rtab .any (opsOf Tryd.f101 20) = spec_l20Net.T20 := by kernel_rfl
theorem spec_l20Net.bits20 : waitsOk spec_l20Net.T20.2 spec_l20Net.B20 = true := by kernel_rfl
set_option maxHeartbeats 8000000 in
set_option maxRecDepth 100000 in
theorem spec_l20Net.calls (k : Nat) (g : Nat) (s0_0 : List Int) (s0_1 : Int) (a1 : Int) (r1 : Int) (r2 : List (S79)) (r3 : Int) (w0 w : World) (hI : IsS111 w0 w g s0_0 s0_1) (hB : Below w0.heap.size w0 w) (h : spec_l20Net.f k s0_0 s0_1 a1 = some (r1, r2, r3)) :
  Calls Tryd.prog 101 #[.pointer (some ⟨g, 0, none⟩), .int .i64 a1] w fun e w' => ∃ v1_ : Value, e = .returned (.agg #[.int .i64 r1, v1_]) ∧ Kd.R k79 79 w' w.heap.size (fun _ => True) v1_ r2 ∧ IsS111 w0 w' g s0_0 r3 ∧ Below w0.heap.size w0 w' ∧ KeepBut w w' g none := by
 have hu25 := Tryd.underlying25
 have hu79 := Tryd.underlying79
 have HI0 := Aside0.mk hI
 have HK := aM (KeepBut.refl w g none)
 have HL := Aside0.mk hB.size
 clear hI
 have HW0 := Aside0.mk hB.size
 have HB := Aside0.mk hB
 clear hB
 have H : ((spec_l20Rd_pick.f k s0_0 s0_1 8).bind fun bt140 => ((spec_l20Rd_pick.f k s0_0 bt140.2 3).bind fun bt143 => (if bt143.1 > 0 then ((spec_l20Rd_pick.f k s0_0 bt143.2 4).bind fun bt145 => (spec_l20Net.j0 k a1 s0_0 bt145.2 (wrap64 (4 + bt145.1)))) else (spec_l20Net.j0 k a1 s0_0 bt143.2 (wrap64 (1 + bt140.1)))))) = some (r1, r2, r3) := h
 clear h
 replace H := Option.bind_eq_some_iff.mp H
 obtain ⟨⟨t140, t141⟩, A30, H⟩ := H
 replace H : ((spec_l20Rd_pick.f k s0_0 t141 3).bind fun bt143 => (if bt143.1 > 0 then ((spec_l20Rd_pick.f k s0_0 bt143.2 4).bind fun bt145 => (spec_l20Net.j0 k a1 s0_0 bt145.2 (wrap64 (4 + bt145.1)))) else (spec_l20Net.j0 k a1 s0_0 bt143.2 (wrap64 (1 + t140))))) = some (r1, r2, r3) := H
 have A3 := Aside0.mk A30
 clear A30
 replace H := Option.bind_eq_some_iff.mp H
 obtain ⟨⟨t143, t144⟩, A40, H⟩ := H
 replace H : (if t143 > 0 then ((spec_l20Rd_pick.f k s0_0 t144 4).bind fun bt145 => (spec_l20Net.j0 k a1 s0_0 bt145.2 (wrap64 (4 + bt145.1)))) else (spec_l20Net.j0 k a1 s0_0 t144 (wrap64 (1 + t140)))) = some (r1, r2, r3) := H
 have A4 := Aside0.mk A40
 clear A40
 have HC5 := Aside0.mk H
 clear H
 go_enter Tryd.func101, Tryd.ntmps101
 go_upto_if 15 with (first | ((with_reducible refine gate_dst (N := 4) rfl ?_); refine box_event ?hg (N := 4) ?hd (cs := #[.int .i64 0, .slice none 0 0]) (t := 25) ?hr ?_; (case hd => rfl); (case hg => rfl); (case hr => exact hR); intro gb139 hg w6 hbox hb; have n0_ := aM (IsS111.below (IsS111.k0 HI0) hb); have n1_ := aM (KeepBut.trans (kp0 HK) (KeepBut.of_below hb g none) (.inl rfl)); have n2_ := aM (below_step (bl1 HB (aM (IsS111.ge HI0.out))) hb); have n3_ := aM (hbox); have n4_ := aM ((by rw [hg]; exact (keep_size (w := w) (g := g) (row := none) (kp0 HK)) : w.heap.size ≤ gb139)); have n5_ := aM ((Nat.le_trans HW0.out (by rw [hg]; exact (keep_size (w := w) (g := g) (row := none) (kp0 HK)) : w.heap.size ≤ gb139) : w0.heap.size ≤ gb139)); have n6_ := aM ((by rw [hg]; exact Nat.ne_of_lt (IsS111.lt (show IsS111 w0 _ g s0_0 s0_1 from IsS111.k0 HI0)) : g ≠ gb139)); have n7_ := aM ((by rw [hg]; exact Nat.ne_of_gt (IsS111.lt (show IsS111 w0 _ g s0_0 s0_1 from IsS111.k0 HI0)) : gb139 ≠ g)); clear HI0; clear HK; clear HB; have HI0 := n0_; have HK := n1_; have HB := n2_; have BK139 := n3_; have GW139 := n4_; have GE139 := n5_; have NB0_139 := n6_; have NB139_0 := n7_; clear n0_ n1_ n2_ n3_ n4_ n5_ n6_ n7_; clear hb hbox hg) | ((with_reducible refine gate_callee (f := 68) rfl ?_); refine goesL_ (some 10) rfl rfl Tryd.func68 (by kernel_rfl) rfl #[.pointer (some ⟨g, 0, none⟩), .int .i64 8] rfl mP ?_; (with_reducible refine (spec_l20Rd_pick.calls k g s0_0 s0_1 8 t140 t141 w0 _ ?side1 ?side2 A3.out).mono ?_); (case side1 => repeat (first | (with_reducible first | exact HI0.out | apply IsS111.alloc | apply IsS111.drewN | apply IsS111.drew | apply IsS111.set_1 | refine IsS111.far ?_ NB0_139.out _) | exact HI0.out)); (case side2 => repeat (first | (with_reducible first | exact HB.out | apply below_alloc | apply pw_below_drewN | apply below_drew1 | refine below_set ?_ (IsS111.ge HI0.out) | refine below_set ?_ GE139.out) | exact HB.out)); rintro e w7 ⟨rfl, hi, hb, hk⟩; refine ⟨_, rfl, ?_⟩; have n0_ := aM (KeepBut.blk hk (g' := gb139) (o := .cells #[.int .i64 0, .slice none 0 0] 25 (0, 0)) (gB (BK139.out)) NB139_0.out (by simp)); have n1_ := aM (KeepBut.trans (kp1 HK GW139) hk (.inl rfl)); have n2_ := aM (hb); have n3_ := aM (hi); clear BK139; clear HK; clear HB; clear HI0; have BK139 := n0_; have HK := n1_; have HB := n2_; have HI0 := n3_; clear n0_ n1_ n2_ n3_; (try clear hb); (try clear hb2); (try clear hk); (try clear hi)) | ((with_reducible refine gate_dst (N := 5) rfl ?_); refine box_event ?hg (N := 5) ?hd (cs := #[.int .i64 0, .slice none 0 0]) (t := 25) ?hr ?_; (case hd => rfl); (case hg => rfl); (case hr => exact hR); intro gb142 hg w8 hbox hb; have n0_ := aM (IsS111.below (IsS111.k1 HI0 NB0_139) hb); have n1_ := aM (blk_below (g := gb139) (o := .cells #[.int .i64 0, .slice none 0 0] 25 (0, 0)) (gB (BK139.out)) hb); have n2_ := aM (KeepBut.trans (kp1 HK GW139) (KeepBut.of_below hb g none) (.inl rfl)); have n3_ := aM (below_step (bl2 HB (aM (IsS111.ge HI0.out)) GE139) hb); have n4_ := aM (hbox); have n5_ := aM ((by rw [hg]; exact (keep_size (w := w) (g := g) (row := none) (kp1 HK GW139)) : w.heap.size ≤ gb142)); have n6_ := aM ((Nat.le_trans HW0.out (by rw [hg]; exact (keep_size (w := w) (g := g) (row := none) (kp1 HK GW139)) : w.heap.size ≤ gb142) : w0.heap.size ≤ gb142)); have n7_ := aM ((by rw [hg]; exact Nat.ne_of_lt (blk_lt (g := gb139) (o := .cells #[.int .i64 0, .slice none 0 0] 25 (0, 0)) (gB (BK139.out))) : gb139 ≠ gb142)); have n8_ := aM ((by rw [hg]; exact Nat.ne_of_gt (blk_lt (g := gb139) (o := .cells #[.int .i64 0, .slice none 0 0] 25 (0, 0)) (gB (BK139.out))) : gb142 ≠ gb139)); have n9_ := aM ((by rw [hg]; exact Nat.ne_of_lt (IsS111.lt (show IsS111 w0 _ g s0_0 t141 from IsS111.k1 HI0 NB0_139)) : g ≠ gb142)); have n10_ := aM ((by rw [hg]; exact Nat.ne_of_gt (IsS111.lt (show IsS111 w0 _ g s0_0 t141 from IsS111.k1 HI0 NB0_139)) : gb142 ≠ g)); clear HI0; clear BK139; clear HK; clear HB; have HI0 := n0_; have BK139 := n1_; have HK := n2_; have HB := n3_; have BK142 := n4_; have GW142 := n5_; have GE142 := n6_; have NB139_142 := n7_; have NB142_139 := n8_; have NB0_142 := n9_; have NB142_0 := n10_; clear n0_ n1_ n2_ n3_ n4_ n5_ n6_ n7_ n8_ n9_ n10_; clear hb hbox hg; have hnb9 := NB142_139.out; have hnc9 := NB139_142.out; have hnb10 := NB142_0.out; have hnc10 := NB0_142.out; have hcz11_0 : w8.cell? ⟨gb142, 0, none⟩ = some (.int .i64 0) := (blk_cell BK142.out 0).trans rfl; have hcz11_1 : w8.cell? ⟨gb142, 1, none⟩ = some (.slice none 0 0) := (blk_cell BK142.out 1).trans rfl; have hfz11_0 := blk_frozen BK142.out 0; have hfz11_1 := blk_frozen BK142.out 1) | ((with_reducible refine gate_callee (f := 68) rfl ?_); refine goesL_ (some 14) rfl rfl Tryd.func68 (by kernel_rfl) rfl #[.pointer (some ⟨g, 0, none⟩), .int .i64 3] rfl mP ?_; (with_reducible refine (spec_l20Rd_pick.calls k g s0_0 t141 3 t143 t144 w0 _ ?side1 ?side2 A4.out).mono ?_); (case side1 => repeat (first | (with_reducible first | exact HI0.out | apply IsS111.alloc | apply IsS111.drewN | apply IsS111.drew | apply IsS111.set_1 | refine IsS111.far ?_ NB0_139.out _ | refine IsS111.far ?_ NB0_142.out _) | exact HI0.out)); (case side2 => repeat (first | (with_reducible first | exact HB.out | apply below_alloc | apply pw_below_drewN | apply below_drew1 | refine below_set ?_ (IsS111.ge HI0.out) | refine below_set ?_ GE139.out | refine below_set ?_ GE142.out) | exact HB.out)); rintro e w12 ⟨rfl, hi, hb, hk⟩; refine ⟨_, rfl, ?_⟩; have n0_ := aM (KeepBut.blk hk (g' := gb139) (o := .cells #[.int .i64 0, .slice none 0 0] 25 (0, 0)) (by (with_reducible repeat (first | refine blk_drewN ?_ _ | refine blk_drew ?_ | refine blk_alloc ?_ _)); refine blk_far ?_ NB139_142.out _; (with_reducible repeat (first | refine blk_drewN ?_ _ | refine blk_drew ?_ | refine blk_alloc ?_ _)); refine blk_far ?_ NB139_142.out _; (with_reducible repeat (first | refine blk_drewN ?_ _ | refine blk_drew ?_ | refine blk_alloc ?_ _)); exact BK139.out) NB139_0.out (by simp)); have n1_ := aM (KeepBut.blk hk (g' := gb142) (o := .cells #[.int .i64 (wrap64 (1 + t140)), .slice none 0 0] 25 (0, 0)) (by (with_reducible repeat (first | refine blk_drewN ?_ _ | refine blk_drew ?_ | refine blk_alloc ?_ _)); refine blk_put (cs := #[.int .i64 (wrap64 (1 + t140)), .slice none 0 0]) ?_ 1 _ rfl; (with_reducible repeat (first | refine blk_drewN ?_ _ | refine blk_drew ?_ | refine blk_alloc ?_ _)); refine blk_put (cs := #[.int .i64 0, .slice none 0 0]) ?_ 0 _ rfl; (with_reducible repeat (first | refine blk_drewN ?_ _ | refine blk_drew ?_ | refine blk_alloc ?_ _)); exact BK142.out) NB142_0.out (by simp)); have n2_ := aM (KeepBut.trans (kp2 HK GW139 GW142) hk (.inl rfl)); have n3_ := aM (hb); have n4_ := aM (hi); clear BK139; clear BK142; clear HK; clear HB; clear HI0; have BK139 := n0_; have BK142 := n1_; have HK := n2_; have HB := n3_; have HI0 := n4_; clear n0_ n1_ n2_ n3_ n4_; (try clear hb); (try clear hb2); (try clear hk); (try clear hi)))
 (try simp only [Act.put, List.setIfInBounds_toArray, List.set_cons_zero, List.set_cons_succ])
 go_cut [] (fun wc => ∃ (kq : Nat) (x1001_4 : Int) (x143000_4 : Int), Aside0 (spec_l20Net.j0 kq a1 s0_0 x1001_4 x143000_4 = some (r1, r2, r3)) ∧ Aside0 (kq ≤ k) ∧ Aside0 (wc.heap[gb139]? = some (.cells #[.int .i64 0, (.slice none 0 0)] 25 (0, 0))) ∧ Aside0 (wc.heap[gb142]? = some (.cells #[.int .i64 x143000_4, (.slice none 0 0)] 25 (0, 0))) ∧ Aside0 (IsS111 w0 wc g s0_0 x1001_4) ∧ Aside0 (KeepBut w wc g none) ∧ Aside0 (Below w0.heap.size w0 wc))
 case first =>
  have H := HC5.out
  clear HC5
  by_cases c13 : t143 > 0
  rotate_left
  ·
   rw [if_neg c13] at H
   have c13b0 : decide (0 < t143) = false := decide_eq_false c13
   clear c13
   (first | rw [c13b0] | (simp only [i64_w, i32_w]; rw [c13b0]) | skip)
   have H' := Aside0.mk H
   clear H
   go_wp2
   go_meet
   case rel => exact ⟨_, (t144), (wrap64 (1 + t140)), H', ⟨by first | omega | exact Nat.le_refl _⟩, ⟨gB (BK139.out)⟩, ⟨gB (BK142.out)⟩, ⟨IsS111.k2 HI0 NB0_139 NB0_142⟩, ⟨kp2 HK GW139 GW142⟩, ⟨bl3 HB (aM (IsS111.ge HI0.out)) GE139 GE142⟩⟩
  rw [if_pos c13] at H
  have c13b0 : decide (0 < t143) = true := decide_eq_true c13
  clear c13
  (first | rw [c13b0] | (simp only [i64_w, i32_w]; rw [c13b0]) | skip)
  replace H := Option.bind_eq_some_iff.mp H
  obtain ⟨⟨t145, t146⟩, A140, H⟩ := H
  replace H : (spec_l20Net.j0 k a1 s0_0 t146 (wrap64 (4 + t145))) = some (r1, r2, r3) := H
  have A14 := Aside0.mk A140
  clear A140
  have H' := Aside0.mk H
  clear H
  go_wp2_with (first | ((with_reducible refine gate_callee (f := 68) rfl ?_); refine goesL_ (some 17) rfl rfl Tryd.func68 (by kernel_rfl) rfl #[.pointer (some ⟨g, 0, none⟩), .int .i64 4] rfl mP ?_; (with_reducible refine (spec_l20Rd_pick.calls k g s0_0 t144 4 t145 t146 w0 _ ?side1 ?side2 A14.out).mono ?_); (case side1 => repeat (first | (with_reducible first | exact HI0.out | apply IsS111.alloc | apply IsS111.drewN | apply IsS111.drew | apply IsS111.set_1 | refine IsS111.far ?_ NB0_139.out _ | refine IsS111.far ?_ NB0_142.out _) | exact HI0.out)); (case side2 => repeat (first | (with_reducible first | exact HB.out | apply below_alloc | apply pw_below_drewN | apply below_drew1 | refine below_set ?_ (IsS111.ge HI0.out) | refine below_set ?_ GE139.out | refine below_set ?_ GE142.out) | exact HB.out)); rintro e w15 ⟨rfl, hi, hb, hk⟩; refine ⟨_, rfl, ?_⟩; have n0_ := aM (KeepBut.blk hk (g' := gb139) (o := .cells #[.int .i64 0, .slice none 0 0] 25 (0, 0)) (gB (BK139.out)) NB139_0.out (by simp)); have n1_ := aM (KeepBut.blk hk (g' := gb142) (o := .cells #[.int .i64 (wrap64 (1 + t140)), .slice none 0 0] 25 (0, 0)) (gB (BK142.out)) NB142_0.out (by simp)); have n2_ := aM (KeepBut.trans (kp2 HK GW139 GW142) hk (.inl rfl)); have n3_ := aM (hb); have n4_ := aM (hi); clear BK139; clear BK142; clear HK; clear HB; clear HI0; have BK139 := n0_; have BK142 := n1_; have HK := n2_; have HB := n3_; have HI0 := n4_; clear n0_ n1_ n2_ n3_ n4_; (try clear hb); (try clear hb2); (try clear hk); (try clear hi); have hnb16 := NB142_139.out; have hnc16 := NB139_142.out; have hnb17 := NB142_0.out; have hnc17 := NB0_142.out; have hcz18_0 : w15.cell? ⟨gb142, 0, none⟩ = some (.int .i64 (wrap64 (1 + t140))) := (blk_cell BK142.out 0).trans rfl; have hcz18_1 : w15.cell? ⟨gb142, 1, none⟩ = some (.slice none 0 0) := (blk_cell BK142.out 1).trans rfl; have hfz18_0 := blk_frozen BK142.out 0; have hfz18_1 := blk_frozen BK142.out 1))
  go_meet
  case rel => exact ⟨_, (t146), (wrap64 (4 + t145)), H', ⟨by first | omega | exact Nat.le_refl _⟩, ⟨by (with_reducible repeat (first | refine blk_drewN ?_ _ | refine blk_drew ?_ | refine blk_alloc ?_ _)); refine blk_far ?_ NB139_142.out _; (with_reducible repeat (first | refine blk_drewN ?_ _ | refine blk_drew ?_ | refine blk_alloc ?_ _)); exact BK139.out⟩, ⟨by (with_reducible repeat (first | refine blk_drewN ?_ _ | refine blk_drew ?_ | refine blk_alloc ?_ _)); refine blk_put (cs := #[.int .i64 (wrap64 (1 + t140)), .slice none 0 0]) ?_ 0 _ rfl; (with_reducible repeat (first | refine blk_drewN ?_ _ | refine blk_drew ?_ | refine blk_alloc ?_ _)); exact BK142.out⟩, ⟨IsS111.k2 HI0 NB0_139 NB0_142⟩, ⟨kp2 HK GW139 GW142⟩, ⟨bl3 HB (aM (IsS111.ge HI0.out)) GE139 GE142⟩⟩
 case rest =>
  clear HC5
  try clear c1
  try clear p2
  try clear c6
  try clear p6
  try clear c9
  try clear c10
  try clear c13
  try clear c13b0
  try clear c16
  try clear c17
  try clear hcz11_0
  try clear hcz11_1
  try clear hcz18_0
  try clear hcz18_1
  try clear hfz11_0
  try clear hfz11_1
  try clear hfz18_0
  try clear hfz18_1
  obtain ⟨kq, x1001_4, x143000_4, HA, HJ4, BK139, BK142, HI0, HK, HB⟩ := hcut
  cases kq with
  | zero => exact absurd HA.out (by simp [spec_l20Net.j0])
  | succ kj4 =>
   have H := HA.out
   clear HA
   simp only [spec_l20Net.j0] at H
   replace H := Option.bind_eq_some_iff.mp H
   obtain ⟨⟨t147, t148⟩, A190, H⟩ := H
   replace H : (spec_l20Net.l0 kj4 a1 t147 s0_0 t148 x143000_4 ([] : List (S79))) = some (r1, r2, r3) := H
   have A19 := Aside0.mk A190
   clear A190
   have H' := Aside0.mk H
   clear H
   go_wp2_with (first | ((with_reducible refine gate_callee (f := 68) rfl ?_); refine goesL_ (some 21) rfl rfl Tryd.func68 (by kernel_rfl) rfl #[.pointer (some ⟨g, 0, none⟩), .int .i64 11] rfl mP ?_; (with_reducible refine (spec_l20Rd_pick.calls kj4 g s0_0 x1001_4 11 t147 t148 w0 _ ?side1 ?side2 A19.out).mono ?_); (case side1 => repeat (first | (with_reducible first | exact HI0.out | apply IsS111.alloc | apply IsS111.drewN | apply IsS111.drew | apply IsS111.set_1 | refine IsS111.far ?_ NB0_139.out _ | refine IsS111.far ?_ NB0_142.out _) | exact HI0.out)); (case side2 => repeat (first | (with_reducible first | exact HB.out | apply below_alloc | apply pw_below_drewN | apply below_drew1 | refine below_set ?_ (IsS111.ge HI0.out) | refine below_set ?_ GE139.out | refine below_set ?_ GE142.out) | exact HB.out)); rintro e w20 ⟨rfl, hi, hb, hk⟩; refine ⟨_, rfl, ?_⟩; have n0_ := aM (KeepBut.blk hk (g' := gb139) (o := .cells #[.int .i64 0, .slice none 0 0] 25 (0, 0)) (gB (BK139.out)) NB139_0.out (by simp)); have n1_ := aM (KeepBut.blk hk (g' := gb142) (o := .cells #[.int .i64 x143000_4, .slice none 0 0] 25 (0, 0)) (gB (BK142.out)) NB142_0.out (by simp)); have n2_ := aM (KeepBut.trans (kp2 HK GW139 GW142) hk (.inl rfl)); have n3_ := aM (hb); have n4_ := aM (hi); clear BK139; clear BK142; clear HK; clear HB; clear HI0; have BK139 := n0_; have BK142 := n1_; have HK := n2_; have HB := n3_; have HI0 := n4_; clear n0_ n1_ n2_ n3_ n4_; (try clear hb); (try clear hb2); (try clear hk); (try clear hi)))
   go_loopg [6] kj4 (fun kq v6 w' => ∃ (x6_2 : Int) (x1001_2 : Int) (x143001_2 : List (S79)) (u143001 : Value), v6 = .int .i64 x6_2 ∧ Aside0 (spec_l20Net.l0 kq a1 x6_2 s0_0 x1001_2 x143000_4 x143001_2 = some (r1, r2, r3)) ∧ Aside0 (kq ≤ kj4) ∧ Aside0 (Kd.R k79 79 w' w.heap.size (fun _ => True) u143001 x143001_2) ∧ Aside0 (w'.heap[gb139]? = some (.cells #[.int .i64 0, (.slice none 0 0)] 25 (0, 0))) ∧ Aside0 (w'.heap[gb142]? = some (.cells #[.int .i64 x143000_4, u143001] 25 (0, 0))) ∧ Aside0 (IsS111 w0 w' g s0_0 x1001_2) ∧ Aside0 (KeepBut w w' g none) ∧ Aside0 (Below w0.heap.size w0 w'))
   case atStart => exact ⟨(t147), (t148), (([] : List (S79))), (.slice none 0 0), fS, H', ⟨Nat.le_refl _⟩, ⟨by first | exact Kd.R_nil _ _ _ _ _ | exact Kd.N_nil _ _ _ _ _ | exact Kd.V_nil _ _ _ _ _ | exact Kd.Q_nil _ _ _ _ _ | exact Kd.S_nil _ _ _ _ _⟩, ⟨gB (BK139.out)⟩, ⟨gB (BK142.out)⟩, ⟨IsS111.k2 HI0 NB0_139 NB0_142⟩, ⟨kp2 HK GW139 GW142⟩, ⟨bl3 HB (aM (IsS111.ge HI0.out)) GE139 GE142⟩⟩
   case round =>
    clear H'
    try clear c1
    try clear p2
    try clear c6
    try clear p6
    try clear c9
    try clear c10
    try clear c13
    try clear c13b0
    try clear c16
    try clear c17
    try clear hcz11_0
    try clear hcz11_1
    try clear hcz18_0
    try clear hcz18_1
    try clear hfz11_0
    try clear hfz11_1
    try clear hfz18_0
    try clear hfz18_1
    try clear p2
    try clear p6
    obtain ⟨x6_2, x1001_2, x143001_2, u143001, rfl, HA, HK2, HO_143001, BK139, BK142, HI0, HK, HB⟩ := hrel
    cases gk with
    | zero => exact absurd HA.out (by simp [spec_l20Net.l0])
    | succ k2 =>
     have H := HA.out
     clear HA
     simp only [spec_l20Net.l0] at H
     have HC21 := Aside0.mk H
     clear H
     go_upto_region 5 with (fail)
     go_cut [28] (fun v28 wc => ∃ (kq : Nat) (x28_20 : Bool), v28 = .bool x28_20 ∧ Aside0 (spec_l20Net.j2 kq a1 x6_2 x28_20 s0_0 x1001_2 x143000_4 x143001_2 = some (r1, r2, r3)) ∧ Aside0 (kq ≤ k2) ∧ Aside0 (Kd.R k79 79 wc w.heap.size (fun _ => True) u143001 x143001_2) ∧ Aside0 (wc.heap[gb139]? = some (.cells #[.int .i64 0, (.slice none 0 0)] 25 (0, 0))) ∧ Aside0 (wc.heap[gb142]? = some (.cells #[.int .i64 x143000_4, u143001] 25 (0, 0))) ∧ Aside0 (IsS111 w0 wc g s0_0 x1001_2) ∧ Aside0 (KeepBut w wc g none) ∧ Aside0 (Below w0.heap.size w0 wc))
     case first =>
      have H := HC21.out
      clear HC21
      by_cases c22 : x6_2 > 0
      rotate_left
      ·
       rw [if_neg c22] at H
       have c22b0 : decide (0 < x6_2) = false := decide_eq_false c22
       clear c22
       (first | rw [c22b0] | (simp only [i64_w, i32_w]; rw [c22b0]) | skip)
       have H' := Aside0.mk H
       clear H
       go_wp2
       go_meet
       case rel => exact ⟨_, (false), fS, H', ⟨by have := HJ4.out; have := HK2.out; first | omega | exact Nat.le_refl _⟩, ⟨gR (HO_143001.out)⟩, ⟨gB (BK139.out)⟩, ⟨gB (BK142.out)⟩, ⟨IsS111.k2 HI0 NB0_139 NB0_142⟩, ⟨kp2 HK GW139 GW142⟩, ⟨bl3 HB (aM (IsS111.ge HI0.out)) GE139 GE142⟩⟩
      rw [if_pos c22] at H
      have c22b0 : decide (0 < x6_2) = true := decide_eq_true c22
      clear c22
      (first | rw [c22b0] | (simp only [i64_w, i32_w]; rw [c22b0]) | skip)
      have H' := Aside0.mk H
      clear H
      have hnb23 := NB142_139.out
      have hnc23 := NB139_142.out
      have hnb24 := NB142_0.out
      have hnc24 := NB0_142.out
      have hcz25_0 : wr.cell? ⟨gb142, 0, none⟩ = some (.int .i64 x143000_4) := (blk_cell BK142.out 0).trans rfl
      have hcz25_1 : wr.cell? ⟨gb142, 1, none⟩ = some (u143001) := (blk_cell BK142.out 1).trans rfl
      have hfz25_0 := blk_frozen BK142.out 0
      have hfz25_1 := blk_frozen BK142.out 1
      go_wp2
      go_meet
      case rel => exact ⟨_, (decide (x143000_4 > 1)), fS, H', ⟨by have := HJ4.out; have := HK2.out; first | omega | exact Nat.le_refl _⟩, ⟨gR (HO_143001.out)⟩, ⟨gB (BK139.out)⟩, ⟨gB (BK142.out)⟩, ⟨IsS111.k2 HI0 NB0_139 NB0_142⟩, ⟨kp2 HK GW139 GW142⟩, ⟨bl3 HB (aM (IsS111.ge HI0.out)) GE139 GE142⟩⟩
     case rest =>
      clear HC21
      try clear c1
      try clear c2
      try clear p2
      try clear c6
      try clear p6
      try clear c9
      try clear c10
      try clear c13
      try clear c13b0
      try clear c16
      try clear c17
      try clear c22
      try clear c22b0
      try clear c23
      try clear c24
      try clear hcz11_0
      try clear hcz11_1
      try clear hcz18_0
      try clear hcz18_1
      try clear hcz25_0
      try clear hcz25_1
      try clear hfz11_0
      try clear hfz11_1
      try clear hfz18_0
      try clear hfz18_1
      try clear hfz25_0
      try clear hfz25_1
      try clear p2
      try clear p6
      obtain ⟨kq, x28_20, rfl, HA, HJ20, HO_143001, BK139, BK142, HI0, HK, HB⟩ := hcut
      cases kq with
      | zero => exact absurd HA.out (by simp [spec_l20Net.j2])
      | succ kj20 =>
       have H := HA.out
       clear HA
       simp only [spec_l20Net.j2] at H
       by_cases c26 : x28_20 = true
       ·
        subst c26
        have H1 : ((spec_l20Rd_pick.f kj20 s0_0 x1001_2 x143000_4).bind fun bt149 => ((spec_l20Rd_pick.f kj20 s0_0 bt149.2 (wrap64 (x143000_4 - 1))).bind fun bt151 => (if x143000_4 = 0 then (none) else ((spec_l20Rd_pick.f kj20 s0_0 bt151.2 40).bind fun bt153 => (if x143001_2.length < 5864062014805 then (spec_l20Net.l0 kj20 a1 (wrap64 (x6_2 - 1)) s0_0 bt153.2 x143000_4 (x143001_2 ++ [(⟨bt149.1, Int.tmod (wrap64 ((wrap64 (bt149.1 + 1)) + bt151.1)) x143000_4, wrap64 (1 + bt153.1)⟩ : S79)])) else (none)))))) = some (r1, r2, r3) := by rw [if_pos rfl] at H; exact H
        clear H
        have H := H1
        clear H1
        replace H := Option.bind_eq_some_iff.mp H
        obtain ⟨⟨t149, t150⟩, A270, H⟩ := H
        replace H : ((spec_l20Rd_pick.f kj20 s0_0 t150 (wrap64 (x143000_4 - 1))).bind fun bt151 => (if x143000_4 = 0 then (none) else ((spec_l20Rd_pick.f kj20 s0_0 bt151.2 40).bind fun bt153 => (if x143001_2.length < 5864062014805 then (spec_l20Net.l0 kj20 a1 (wrap64 (x6_2 - 1)) s0_0 bt153.2 x143000_4 (x143001_2 ++ [(⟨t149, Int.tmod (wrap64 ((wrap64 (t149 + 1)) + bt151.1)) x143000_4, wrap64 (1 + bt153.1)⟩ : S79)])) else (none))))) = some (r1, r2, r3) := H
        have A27 := Aside0.mk A270
        clear A270
        replace H := Option.bind_eq_some_iff.mp H
        obtain ⟨⟨t151, t152⟩, A280, H⟩ := H
        replace H : (if x143000_4 = 0 then (none) else ((spec_l20Rd_pick.f kj20 s0_0 t152 40).bind fun bt153 => (if x143001_2.length < 5864062014805 then (spec_l20Net.l0 kj20 a1 (wrap64 (x6_2 - 1)) s0_0 bt153.2 x143000_4 (x143001_2 ++ [(⟨t149, Int.tmod (wrap64 ((wrap64 (t149 + 1)) + t151)) x143000_4, wrap64 (1 + bt153.1)⟩ : S79)])) else (none)))) = some (r1, r2, r3) := H
        have A28 := Aside0.mk A280
        clear A280
        by_cases c29 : x143000_4 = 0
        ·
         rw [if_pos c29] at H
         exact absurd H (by simp)
        rw [if_neg c29] at H
        have c29b0 : (x143000_4 == 0) = false := beq_eq_false_iff_ne.mpr c29
        have c29b1 : (x143000_4 != 0) = true := bne_iff_ne.mpr c29
        replace H := Option.bind_eq_some_iff.mp H
        obtain ⟨⟨t153, t154⟩, A300, H⟩ := H
        replace H : (if x143001_2.length < 5864062014805 then (spec_l20Net.l0 kj20 a1 (wrap64 (x6_2 - 1)) s0_0 t154 x143000_4 (x143001_2 ++ [(⟨t149, Int.tmod (wrap64 ((wrap64 (t149 + 1)) + t151)) x143000_4, wrap64 (1 + t153)⟩ : S79)])) else (none)) = some (r1, r2, r3) := H
        have A30 := Aside0.mk A300
        clear A300
        by_cases c31 : x143001_2.length < 5864062014805
        rotate_left
        ·
         rw [if_neg c31] at H
         exact absurd H (by simp)
        rw [if_pos c31] at H
        have LMc31 := Aside0.mk c31
        clear c31
        obtain ⟨y155, hy155⟩ : ∃ y_ : List (S79), y_ = (x143001_2 ++ [(⟨t149, Int.tmod (wrap64 ((wrap64 (t149 + 1)) + t151)) x143000_4, wrap64 (1 + t153)⟩ : S79)]) := ⟨_, rfl⟩
        replace H : (spec_l20Net.l0 kj20 a1 (wrap64 (x6_2 - 1)) s0_0 t154 x143000_4 y155) = some (r1, r2, r3) := by first | (rw [hy155]; with_reducible exact H) | (have H2_ := (Option.bind_some _ _).symm.trans H; rw [hy155]; with_reducible exact H2_) | (have H2_ := (Option.bind_some _ _).symm.trans H; with_reducible exact H2_) | with_reducible exact H | (rw [hy155]; exact H) | exact H
        have Ny155 := Aside0.mk hy155
        clear hy155
        have H' := Aside0.mk H
        clear H
        have hnb32 := NB142_139.out
        have hnc32 := NB139_142.out
        have hnb33 := NB142_0.out
        have hnc33 := NB0_142.out
        have hcz34_0 : wc.cell? ⟨gb142, 0, none⟩ = some (.int .i64 x143000_4) := (blk_cell BK142.out 0).trans rfl
        have hcz34_1 : wc.cell? ⟨gb142, 1, none⟩ = some (u143001) := (blk_cell BK142.out 1).trans rfl
        have hfz34_0 := blk_frozen BK142.out 0
        have hfz34_1 := blk_frozen BK142.out 1
        try go_wp2_with (first | ((with_reducible refine gate_callee (f := 68) rfl ?_); refine goesL_ (some 34) rfl rfl Tryd.func68 (by kernel_rfl) rfl #[.pointer (some ⟨g, 0, none⟩), .int .i64 x143000_4] rfl mP ?_; (with_reducible refine (spec_l20Rd_pick.calls kj20 g s0_0 x1001_2 x143000_4 t149 t150 w0 _ ?side1 ?side2 A27.out).mono ?_); (case side1 => repeat (first | (with_reducible first | exact HI0.out | apply IsS111.alloc | apply IsS111.drewN | apply IsS111.drew | apply IsS111.set_1 | refine IsS111.far ?_ NB0_139.out _ | refine IsS111.far ?_ NB0_142.out _) | exact HI0.out)); (case side2 => repeat (first | (with_reducible first | exact HB.out | apply below_alloc | apply pw_below_drewN | apply below_drew1 | refine below_set ?_ (IsS111.ge HI0.out) | refine below_set ?_ GE139.out | refine below_set ?_ GE142.out) | exact HB.out)); rintro e w35 ⟨rfl, hi, hb, hk⟩; refine ⟨_, rfl, ?_⟩; have n0_ := aM (Kd.R_mono (Kd.R_keep (IsS111.apart (show IsS111 w0 _ g s0_0 x1001_2 from IsS111.k2 HI0 NB0_139 NB0_142) (gR (HO_143001.out)) (by decide)) hk (fun _ h => h.2)) (fun _ h => h.1)); have n1_ := aM (KeepBut.blk hk (g' := gb139) (o := .cells #[.int .i64 0, .slice none 0 0] 25 (0, 0)) (gB (BK139.out)) NB139_0.out (by simp)); have n2_ := aM (KeepBut.blk hk (g' := gb142) (o := .cells #[.int .i64 x143000_4, u143001] 25 (0, 0)) (gB (BK142.out)) NB142_0.out (by simp)); have n3_ := aM (KeepBut.trans (kp2 HK GW139 GW142) hk (.inl rfl)); have n4_ := aM (hb); have n5_ := aM (hi); clear HO_143001; clear BK139; clear BK142; clear HK; clear HB; clear HI0; have HO_143001 := n0_; have BK139 := n1_; have BK142 := n2_; have HK := n3_; have HB := n4_; have HI0 := n5_; clear n0_ n1_ n2_ n3_ n4_ n5_; (try clear hb); (try clear hb2); (try clear hk); (try clear hi)))
        have n0_ := aM (Kd.R_drew HO_143001.out)
        have n1_ := aM (blk_drew BK139.out)
        have n2_ := aM (blk_drew BK142.out)
        have n3_ := aM (IsS111.drew HI0.out)
        have n4_ := aM (keep_drew HK.out)
        have n5_ := aM (below_drew1 HB.out)
        clear HO_143001
        clear BK139
        clear BK142
        clear HI0
        clear HK
        clear HB
        have HO_143001 := n0_
        have BK139 := n1_
        have BK142 := n2_
        have HI0 := n3_
        have HK := n4_
        have HB := n5_
        clear n0_ n1_ n2_ n3_ n4_ n5_
        refine start_ (n := 12) (S := fun w' => w'.cell? ⟨gb142, 0, none⟩ = some (.int .i64 x143000_4) ∧ w'.cell? ⟨gb142, 1, none⟩ = some (u143001)) (ds := []) #[zz,zz,zz,zz,zz,zz,zz,zz,zz,zz,zz,zz] (by kernel_rfl) rfl rfl ⟨(blk_cell BK142.out 0).trans rfl, (blk_cell BK142.out 1).trans rfl⟩ (fun hHeld => ?_); refine with_tabW spec_l20Net.tab8 spec_l20Net.bits8 (fun HT_ HW_ => ?_)
        generalize w35.drew = w36 at HO_143001 BK139 BK142 HI0 HK HB hHeld ⊢
        refine pure_ (i := 0) (N := some 35) (v := ?_) (a' := ?_) #[oo,zz,zz,zz,zz,zz,zz,zz,zz,zz,zz,zz] rfl rfl (any_of HT_.out (by kernel_rfl)) (fun _ _ _ h => h) (Or.inl ⟨by rfl, ?_⟩) ?_ ?_
        rotate_left
        ·
         intro w'
         go_simp
         with_reducible rfl
        rotate_left
        ·
         simp only [Act.put, List.setIfInBounds_toArray, List.set_cons_zero, List.set_cons_succ, i64_w, i32_w]
         rfl
        refine pure_ (i := 1) (N := some 36) (v := ?_) (a' := ?_) #[oo,oo,zz,zz,zz,zz,zz,zz,zz,zz,zz,zz] rfl rfl (any_of HT_.out (by kernel_rfl)) (fun _ _ _ h => h) (Or.inl ⟨by rfl, ?_⟩) ?_ ?_
        rotate_left
        ·
         intro w'
         go_simp
         with_reducible rfl
        rotate_left
        ·
         simp only [Act.put, List.setIfInBounds_toArray, List.set_cons_zero, List.set_cons_succ, i64_w, i32_w]
         rfl
        refine pure_ (i := 2) (N := some 37) (v := ?_) (a' := ?_) #[oo,oo,oo,zz,zz,zz,zz,zz,zz,zz,zz,zz] rfl rfl (any_of HT_.out (by kernel_rfl)) (fun _ _ _ h => h) (Or.inl ⟨by rfl, ?_⟩) ?_ ?_
        rotate_left
        ·
         intro w'
         go_simp
         with_reducible rfl
        rotate_left
        ·
         simp only [Act.put, List.setIfInBounds_toArray, List.set_cons_zero, List.set_cons_succ, i64_w, i32_w]
         rfl
        refine pure_ (i := 3) (N := some 38) (v := ?_) (a' := ?_) #[oo,oo,oo,oo,zz,zz,zz,zz,zz,zz,zz,zz] rfl rfl (any_of HT_.out (by kernel_rfl)) (fun _ _ _ h => h) (Or.inl ⟨by rfl, ?_⟩) ?_ ?_
        rotate_left
        ·
         intro w'
         go_simp
         with_reducible rfl
        rotate_left
        ·
         simp only [Act.put, List.setIfInBounds_toArray, List.set_cons_zero, List.set_cons_succ, i64_w, i32_w]
         rfl
        refine pure_ (i := 8) (N := some 43) (v := ?_) (a' := ?_) #[oo,oo,oo,oo,zz,zz,zz,zz,oo,zz,zz,zz] rfl rfl (any_of HT_.out (by kernel_rfl)) (fun _ _ _ h => h) (Or.inl ⟨by rfl, ?_⟩) ?_ ?_
        rotate_left
        ·
         intro w'
         go_simp
         with_reducible rfl
        rotate_left
        ·
         simp only [Act.put, List.setIfInBounds_toArray, List.set_cons_zero, List.set_cons_succ, i64_w, i32_w]
         rfl
        refine take_ (i := 4) (N := some 39) (v := ?_) (a' := ?_) #[oo,oo,oo,oo,oo,zz,zz,zz,oo,zz,zz,zz] rfl rfl (take_ofW HT_.out HW_.out (by kernel_rfl)) (fun _ _ _ h => h) (Or.inl ⟨by rfl, ?_⟩) hHeld ?_ ?_
        rotate_left
        ·
         rintro w' ⟨s0, s1⟩
         go_simp
         with_reducible rfl
        rotate_left
        ·
         simp only [Act.put, List.setIfInBounds_toArray, List.set_cons_zero, List.set_cons_succ, i64_w, i32_w]
         rfl
        refine pure_ (i := 5) (N := some 40) (v := ?_) (a' := ?_) #[oo,oo,oo,oo,oo,oo,zz,zz,oo,zz,zz,zz] rfl rfl (any_of HT_.out (by kernel_rfl)) (fun _ _ _ h => h) (Or.inl ⟨by rfl, ?_⟩) ?_ ?_
        rotate_left
        ·
         intro w'
         go_simp
         with_reducible rfl
        rotate_left
        ·
         simp only [Act.put, List.setIfInBounds_toArray, List.set_cons_zero, List.set_cons_succ, i64_w, i32_w]
         rfl
        refine take_ (i := 9) (N := some 44) (v := ?_) (a' := ?_) #[oo,oo,oo,oo,oo,oo,zz,zz,oo,oo,zz,zz] rfl rfl (take_ofW HT_.out HW_.out (by kernel_rfl)) (fun _ _ _ h => h) (Or.inl ⟨by rfl, ?_⟩) hHeld ?_ ?_
        rotate_left
        ·
         rintro w' ⟨s0, s1⟩
         go_simp
         with_reducible rfl
        rotate_left
        ·
         simp only [Act.put, List.setIfInBounds_toArray, List.set_cons_zero, List.set_cons_succ, i64_w, i32_w]
         rfl
        refine one_ (i := 6) (N := some 41) #[oo,oo,oo,oo,oo,oo,oo,zz,oo,oo,zz,zz] rfl rfl (one_of HT_.out (by kernel_rfl)) (by decide) (fun K hK => ?_)
        refine goes_ Tryd.func68 (by kernel_rfl) rfl #[.pointer (some ⟨g, 0, none⟩), .int .i64 (wrap64 (x143000_4 - 1))] (by rfl) rfl rfl mP ?_
        with_reducible refine (spec_l20Rd_pick.calls kj20 g s0_0 t150 (wrap64 (x143000_4 - 1)) t151 t152 w0 _ ?side1 ?side2 A28.out).mono ?_
        (case side1 => repeat (first | (with_reducible first | exact HI0.out | apply IsS111.alloc | apply IsS111.drewN | apply IsS111.drew | apply IsS111.set_1 | refine IsS111.far ?_ NB0_139.out _ | refine IsS111.far ?_ NB0_142.out _) | exact HI0.out))
        (case side2 => repeat (first | (with_reducible first | exact HB.out | apply below_alloc | apply pw_below_drewN | apply below_drew1 | refine below_set ?_ (IsS111.ge HI0.out) | refine below_set ?_ GE139.out | refine below_set ?_ GE142.out) | exact HB.out))
        rintro e w37 ⟨rfl, hi, hb, hk⟩
        refine ⟨_, rfl, ?_⟩
        have n0_ := aM (Kd.R_mono (Kd.R_keep (IsS111.apart (show IsS111 w0 _ g s0_0 t150 from IsS111.k2 HI0 NB0_139 NB0_142) (gR (HO_143001.out)) (by decide)) hk (fun _ h => h.2)) (fun _ h => h.1))
        have n1_ := aM (KeepBut.blk hk (g' := gb139) (o := .cells #[.int .i64 0, .slice none 0 0] 25 (0, 0)) (gB (BK139.out)) NB139_0.out (by simp))
        have n2_ := aM (KeepBut.blk hk (g' := gb142) (o := .cells #[.int .i64 x143000_4, u143001] 25 (0, 0)) (gB (BK142.out)) NB142_0.out (by simp))
        have n3_ := aM (KeepBut.trans (kp2 HK GW139 GW142) hk (.inl rfl))
        have n4_ := aM (hb)
        have n5_ := aM (hi)
        clear HO_143001
        clear BK139
        clear BK142
        clear HK
        clear HB
        clear HI0
        have HO_143001 := n0_
        have BK139 := n1_
        have BK142 := n2_
        have HK := n3_
        have HB := n4_
        have HI0 := n5_
        clear n0_ n1_ n2_ n3_ n4_ n5_
        (try clear hb)
        (try clear hb2)
        (try clear hk)
        (try clear hi)
        refine hK.out _ _ ⟨(blk_cell BK142.out 0).trans rfl, (blk_cell BK142.out 1).trans rfl⟩ (fun hHeld => ?_)
        clear hK K
        refine norm_ (a' := ?_) ?_ ?_
        rotate_left
        ·
         show Act.put _ (some 41) _ = _
         simp only [Act.put, List.setIfInBounds_toArray, List.set_cons_zero, List.set_cons_succ, i64_w, i32_w]
         rfl
        refine pure_ (i := 7) (N := some 42) (v := ?_) (a' := ?_) #[oo,oo,oo,oo,oo,oo,oo,oo,oo,oo,zz,zz] rfl rfl (any_of HT_.out (by kernel_rfl)) (fun _ _ _ h => h) (Or.inl ⟨by rfl, ?_⟩) ?_ ?_
        rotate_left
        ·
         intro w'
         go_simp
         with_reducible rfl
        rotate_left
        ·
         simp only [Act.put, List.setIfInBounds_toArray, List.set_cons_zero, List.set_cons_succ, i64_w, i32_w]
         rfl
        refine pure_ (i := 10) (N := some 45) (v := ?_) (a' := ?_) #[oo,oo,oo,oo,oo,oo,oo,oo,oo,oo,oo,zz] rfl rfl (any_of HT_.out (by kernel_rfl)) (fun _ _ _ h => h) (Or.inl ⟨by rfl, ?_⟩) ?_ ?_
        rotate_left
        ·
         intro w'
         go_simp
         with_reducible rfl
        rotate_left
        ·
         simp only [Act.put, List.setIfInBounds_toArray, List.set_cons_zero, List.set_cons_succ, i64_w, i32_w]
         rfl
        refine pure_ (i := 11) (N := some 8) (v := ?_) (a' := ?_) #[oo,oo,oo,oo,oo,oo,oo,oo,oo,oo,oo,oo] rfl rfl (any_of HT_.out (by kernel_rfl)) (fun _ _ _ h => h) (Or.inl ⟨by rfl, ?_⟩) ?_ ?_
        rotate_left
        ·
         intro w'
         go_simp
         with_reducible rfl
        rotate_left
        ·
         simp only [Act.put, List.setIfInBounds_toArray, List.set_cons_zero, List.set_cons_succ, i64_w, i32_w]
         rfl
        refine done_ (done_of HT_.out (by kernel_rfl)) ?_
        try go_wp2
        have n0_ := aM (Kd.R_drew HO_143001.out)
        have n1_ := aM (blk_drew BK139.out)
        have n2_ := aM (blk_drew BK142.out)
        have n3_ := aM (IsS111.drew HI0.out)
        have n4_ := aM (keep_drew HK.out)
        have n5_ := aM (below_drew1 HB.out)
        clear HO_143001
        clear BK139
        clear BK142
        clear HI0
        clear HK
        clear HB
        have HO_143001 := n0_
        have BK139 := n1_
        have BK142 := n2_
        have HI0 := n3_
        have HK := n4_
        have HB := n5_
        clear n0_ n1_ n2_ n3_ n4_ n5_
        refine start_ (n := 12) (S := fun w' => w'.cell? ⟨gb142, 0, none⟩ = some (.int .i64 x143000_4) ∧ w'.cell? ⟨gb142, 1, none⟩ = some (u143001)) (ds := [11]) #[zz,zz,zz,zz,zz,zz,zz,zz,zz,zz,zz,zz] (by kernel_rfl) rfl rfl ⟨(blk_cell BK142.out 0).trans rfl, (blk_cell BK142.out 1).trans rfl⟩ (fun hHeld => ?_); refine with_tabW spec_l20Net.tab9 spec_l20Net.bits9 (fun HT_ HW_ => ?_)
        generalize w37.drew = w38 at HO_143001 BK139 BK142 HI0 HK HB hHeld ⊢
        refine pure_ (i := 0) (N := some 46) (v := ?_) (a' := ?_) #[oo,zz,zz,zz,zz,zz,zz,zz,zz,zz,zz,zz] rfl rfl (any_of HT_.out (by kernel_rfl)) (fun _ _ _ h => h) (Or.inl ⟨by rfl, ?_⟩) ?_ ?_
        rotate_left
        ·
         intro w'
         go_simp
         with_reducible rfl
        rotate_left
        ·
         simp only [Act.put, List.setIfInBounds_toArray, List.set_cons_zero, List.set_cons_succ, i64_w, i32_w]
         rfl
        refine pure_ (i := 2) (N := some 48) (v := ?_) (a' := ?_) #[oo,zz,oo,zz,zz,zz,zz,zz,zz,zz,zz,zz] rfl rfl (any_of HT_.out (by kernel_rfl)) (fun _ _ _ h => h) (Or.inl ⟨by rfl, ?_⟩) ?_ ?_
        rotate_left
        ·
         intro w'
         go_simp
         with_reducible rfl
        rotate_left
        ·
         simp only [Act.put, List.setIfInBounds_toArray, List.set_cons_zero, List.set_cons_succ, i64_w, i32_w]
         rfl
        refine pure_ (i := 3) (N := some 49) (v := ?_) (a' := ?_) #[oo,zz,oo,oo,zz,zz,zz,zz,zz,zz,zz,zz] rfl rfl (any_of HT_.out (by kernel_rfl)) (fun _ _ _ h => h) (Or.inl ⟨by rfl, ?_⟩) ?_ ?_
        rotate_left
        ·
         intro w'
         go_simp
         with_reducible rfl
        rotate_left
        ·
         simp only [Act.put, List.setIfInBounds_toArray, List.set_cons_zero, List.set_cons_succ, i64_w, i32_w]
         rfl
        refine pure_ (i := 4) (N := some 50) (v := ?_) (a' := ?_) #[oo,zz,oo,oo,oo,zz,zz,zz,zz,zz,zz,zz] rfl rfl (any_of HT_.out (by kernel_rfl)) (fun _ _ _ h => h) (Or.inl ⟨by rfl, ?_⟩) ?_ ?_
        rotate_left
        ·
         intro w'
         go_simp
         with_reducible rfl
        rotate_left
        ·
         simp only [Act.put, List.setIfInBounds_toArray, List.set_cons_zero, List.set_cons_succ, i64_w, i32_w]
         rfl
        refine take_ (i := 1) (N := some 47) (v := ?_) (a' := ?_) #[oo,oo,oo,oo,oo,zz,zz,zz,zz,zz,zz,zz] rfl rfl (take_ofW HT_.out HW_.out (by kernel_rfl)) (fun _ _ _ h => h) (Or.inl ⟨by rfl, ?_⟩) hHeld ?_ ?_
        rotate_left
        ·
         rintro w' ⟨s0, s1⟩
         go_simp
         with_reducible rfl
        rotate_left
        ·
         simp only [Act.put, List.setIfInBounds_toArray, List.set_cons_zero, List.set_cons_succ, i64_w, i32_w]
         rfl
        refine one_ (i := 5) (N := some 51) #[oo,oo,oo,oo,oo,oo,zz,zz,zz,zz,zz,zz] rfl rfl (one_of HT_.out (by kernel_rfl)) (by decide) (fun K hK => ?_)
        refine goes_ Tryd.func68 (by kernel_rfl) rfl #[.pointer (some ⟨g, 0, none⟩), .int .i64 40] (by rfl) rfl rfl mP ?_
        with_reducible refine (spec_l20Rd_pick.calls kj20 g s0_0 t152 40 t153 t154 w0 _ ?side1 ?side2 A30.out).mono ?_
        (case side1 => repeat (first | (with_reducible first | exact HI0.out | apply IsS111.alloc | apply IsS111.drewN | apply IsS111.drew | apply IsS111.set_1 | refine IsS111.far ?_ NB0_139.out _ | refine IsS111.far ?_ NB0_142.out _) | exact HI0.out))
        (case side2 => repeat (first | (with_reducible first | exact HB.out | apply below_alloc | apply pw_below_drewN | apply below_drew1 | refine below_set ?_ (IsS111.ge HI0.out) | refine below_set ?_ GE139.out | refine below_set ?_ GE142.out) | exact HB.out))
        rintro e w39 ⟨rfl, hi, hb, hk⟩
        refine ⟨_, rfl, ?_⟩
        have n0_ := aM (Kd.R_mono (Kd.R_keep (IsS111.apart (show IsS111 w0 _ g s0_0 t152 from IsS111.k2 HI0 NB0_139 NB0_142) (gR (HO_143001.out)) (by decide)) hk (fun _ h => h.2)) (fun _ h => h.1))
        have n1_ := aM (KeepBut.blk hk (g' := gb139) (o := .cells #[.int .i64 0, .slice none 0 0] 25 (0, 0)) (gB (BK139.out)) NB139_0.out (by simp))
        have n2_ := aM (KeepBut.blk hk (g' := gb142) (o := .cells #[.int .i64 x143000_4, u143001] 25 (0, 0)) (gB (BK142.out)) NB142_0.out (by simp))
        have n3_ := aM (KeepBut.trans (kp2 HK GW139 GW142) hk (.inl rfl))
        have n4_ := aM (hb)
        have n5_ := aM (hi)
        clear HO_143001
        clear BK139
        clear BK142
        clear HK
        clear HB
        clear HI0
        have HO_143001 := n0_
        have BK139 := n1_
        have BK142 := n2_
        have HK := n3_
        have HB := n4_
        have HI0 := n5_
        clear n0_ n1_ n2_ n3_ n4_ n5_
        (try clear hb)
        (try clear hb2)
        (try clear hk)
        (try clear hi)
        refine hK.out _ _ ⟨(blk_cell BK142.out 0).trans rfl, (blk_cell BK142.out 1).trans rfl⟩ (fun hHeld => ?_)
        clear hK K
        refine norm_ (a' := ?_) ?_ ?_
        rotate_left
        ·
         show Act.put _ (some 51) _ = _
         simp only [Act.put, List.setIfInBounds_toArray, List.set_cons_zero, List.set_cons_succ, i64_w, i32_w]
         rfl
        refine pure_ (i := 6) (N := some 52) (v := ?_) (a' := ?_) #[oo,oo,oo,oo,oo,oo,oo,zz,zz,zz,zz,zz] rfl rfl (any_of HT_.out (by kernel_rfl)) (fun _ _ _ h => h) (Or.inl ⟨by rfl, ?_⟩) ?_ ?_
        rotate_left
        ·
         intro w'
         go_simp
         with_reducible rfl
        rotate_left
        ·
         simp only [Act.put, List.setIfInBounds_toArray, List.set_cons_zero, List.set_cons_succ, i64_w, i32_w]
         rfl
        refine pure_ (i := 7) (N := some 53) (v := ?_) (a' := ?_) #[oo,oo,oo,oo,oo,oo,oo,oo,zz,zz,zz,zz] rfl rfl (any_of HT_.out (by kernel_rfl)) (fun _ _ _ h => h) (Or.inl ⟨by rfl, ?_⟩) ?_ ?_
        rotate_left
        ·
         intro w'
         go_simp
         with_reducible rfl
        rotate_left
        ·
         simp only [Act.put, List.setIfInBounds_toArray, List.set_cons_zero, List.set_cons_succ, i64_w, i32_w]
         rfl
        refine one_ (i := 8) (N := some 54) #[oo,oo,oo,oo,oo,oo,oo,oo,oo,zz,zz,zz] rfl rfl (one_of HT_.out (by kernel_rfl)) (by decide) (fun K hK => ?_)
        refine value_ (w1 := ?_) (v := ?_) (by rfl) rfl ?_ ?_
        rotate_left 2
        ·
         go_simp
         constructor
         ·
          rfl
         rfl
        refine hK.out _ _ ⟨(blk_cell (blk_alloc BK142.out _) 0).trans rfl, (blk_cell (blk_alloc BK142.out _) 1).trans rfl⟩ (fun hHeld => ?_)
        clear hK K
        refine norm_ (a' := ?_) ?_ ?_
        rotate_left
        ·
         show Act.put _ (some 54) _ = _
         simp only [Act.put, List.setIfInBounds_toArray, List.set_cons_zero, List.set_cons_succ, i64_w, i32_w]
         rfl
        refine one_ (i := 9) (N := some 55) #[oo,oo,oo,oo,oo,oo,oo,oo,oo,oo,zz,zz] rfl rfl (one_of HT_.out (by kernel_rfl)) (by decide) (fun K hK => ?_)
        refine Kd.R_append_step k79 w.heap.size (by rfl) (.tmp 47) (.tmp 54) 23 79 (.agg #[(.int .i64 0), (.int .i64 0), (.int .i64 0)]) 24 rfl Tryd.underlying23 info79 rfl (by decide) (by omega) u143001 x143001_2 (⟨t149, Int.tmod (wrap64 ((wrap64 (t149 + 1)) + t151)) x143000_4, wrap64 (1 + t153)⟩ : S79) [.int .i64 t149, .int .i64 (Int.tmod (wrap64 ((wrap64 (t149 + 1)) + t151)) x143000_4), .int .i64 (wrap64 (1 + t153))] (fun _ => True) (fun _ => False) rfl rfl ?aP (fun _ hk => hk.elim) ?aF ?aO (Below.refl _ _) ?aS ?aL ?_
        (case aP => exact k79_mkM _ _ _ (⟨t149, Int.tmod (wrap64 ((wrap64 (t149 + 1)) + t151)) x143000_4, wrap64 (1 + t153)⟩ : S79))
        (case aF => exact (fun _ _ => trivial))
        (case aO => exact (gR (HO_143001.out)))
        (case aS => exact (keep_size (w := w) (g := g) (row := none) (kp2 HK GW139 GW142)))
        (case aL => have := LMc31.out; omega)
        intro v156 w40 ho hb hg hat
        rw [← Ny155.out] at ho
        have n0_ := aM (blk_grown (g := gb139) (o := .cells #[.int .i64 0, .slice none 0 0] 25 (0, 0)) (gB (BK139.out)) hg (Kd.R_ne HO_143001.out BK139.out (by decide)))
        have n1_ := aM (blk_grown (g := gb142) (o := .cells #[.int .i64 x143000_4, u143001] 25 (0, 0)) (gB (BK142.out)) hg (Kd.R_ne HO_143001.out BK142.out (by decide)))
        have n2_ := aM (IsS111.grown (by first | exact IsS111.like HI0.out (IsS111.k2 HI0 NB0_139 NB0_142) | (repeat (first | (with_reducible first | exact HI0.out | apply IsS111.alloc | apply IsS111.drewN | apply IsS111.drew | apply IsS111.set_1 | refine IsS111.far ?_ NB0_139.out _ | refine IsS111.far ?_ NB0_142.out _) | exact HI0.out))) hg (IsS111.own_ne HI0.out HO_143001.out (by decide)))
        have n3_ := aM (below_weaken (bl3 HB (aM (IsS111.ge HI0.out)) GE139 GE142) HL.out hb)
        have n4_ := aM (KeepBut.trans (kp2 HK GW139 GW142) (KeepBut.of_grown hg g) (Kd.R_base2 HO_143001.out))
        have n5_ := aM (ho)
        clear BK139
        clear BK142
        clear HI0
        clear HB
        clear HK
        clear HO_143001
        have BK139 := n0_
        have BK142 := n1_
        have HI0 := n2_
        have HB := n3_
        have HK := n4_
        have HO157 := n5_
        clear n0_ n1_ n2_ n3_ n4_ n5_
        clear ho hb hg hat
        obtain ⟨Ao41, co41, eo41⟩ := Kd.R_slice HO157.out
        (first | subst eo41 | (injection eo41 with f1_ f2_ f3_; have f4_ := f1_.symm; have f5_ := f3_.symm; clear f1_ f2_ f3_; subst f4_; subst f5_))
        refine hK.out _ _ ⟨(blk_cell BK142.out 0).trans rfl, (blk_cell BK142.out 1).trans rfl⟩ (fun hHeld => ?_)
        clear hK K
        refine norm_ (a' := ?_) ?_ ?_
        rotate_left
        ·
         show Act.put _ (some 55) _ = _
         simp only [Act.put, List.setIfInBounds_toArray, List.set_cons_zero, List.set_cons_succ, i64_w, i32_w]
         rfl
        refine pure_ (i := 10) (N := some 56) (v := ?_) (a' := ?_) #[oo,oo,oo,oo,oo,oo,oo,oo,oo,oo,oo,zz] rfl rfl (any_of HT_.out (by kernel_rfl)) (fun _ _ _ h => h) (Or.inl ⟨by rfl, ?_⟩) ?_ ?_
        rotate_left
        ·
         intro w'
         go_simp
         with_reducible rfl
        rotate_left
        ·
         simp only [Act.put, List.setIfInBounds_toArray, List.set_cons_zero, List.set_cons_succ, i64_w, i32_w]
         rfl
        refine last_ (i := 11) (N := none) #[oo,oo,oo,oo,oo,oo,oo,oo,oo,oo,oo,oo] rfl rfl (one_of HT_.out (by kernel_rfl)) (by decide) (fun K hK => ?_)
        have hs42 : w40.cell? ⟨gb142, 1, none⟩ = some (u143001) := (blk_cell BK142.out 1).trans rfl
        have hfs42 := blk_frozen BK142.out 1
        have hns42_0 := NB139_142.out
        have hms42_0 := NB142_139.out
        refine skip_ (w1 := ?_) (by rfl) rfl ?_ ?_
        rotate_left
        ·
         go_simp
         rfl
        refine hK.out _ _ ?_
        clear hK K
        refine done_ (done_of HT_.out (by kernel_rfl)) ?_
        try go_wp2
        go_roundg kj20
        case measure => have := HJ4.out; have := HK2.out; have := HJ20.out; omega
        case rel => exact ⟨(wrap64 (x6_2 - 1)), (t154), (y155), (.slice Ao41 y155.length co41), fS, H', ⟨by have := HJ4.out; have := HK2.out; have := HJ20.out; omega⟩, ⟨by (with_reducible repeat (first | apply Kd.R_alloc | apply Kd.R_drewN | apply Kd.R_drew)); exact Kd.R_mono (Kd.R_far (p := ⟨gb142, 1, none⟩) (Kd.R_types HO157.out BK142.out (by decide)) (fun _ hk => hk.2) (.slice Ao41 y155.length co41)) (fun _ hk => trivial)⟩, ⟨by (with_reducible repeat (first | refine blk_drewN ?_ _ | refine blk_drew ?_ | refine blk_alloc ?_ _)); refine blk_far ?_ NB139_142.out _; (with_reducible repeat (first | refine blk_drewN ?_ _ | refine blk_drew ?_ | refine blk_alloc ?_ _)); exact BK139.out⟩, ⟨by (with_reducible repeat (first | refine blk_drewN ?_ _ | refine blk_drew ?_ | refine blk_alloc ?_ _)); refine blk_put (cs := #[.int .i64 x143000_4, u143001]) ?_ 1 _ rfl; (with_reducible repeat (first | refine blk_drewN ?_ _ | refine blk_drew ?_ | refine blk_alloc ?_ _)); exact BK142.out⟩, ⟨IsS111.k2 HI0 NB0_139 NB0_142⟩, ⟨kp2 HK GW139 GW142⟩, ⟨bl3 HB (aM (IsS111.ge HI0.out)) GE139 GE142⟩⟩
       replace c26 := Bool.eq_false_iff.mpr c26
       subst c26
       have H1 : ((spec_l20Rd_odd.f kj20 s0_0 x1001_2 a1).bind fun bt158 => (if bt158.1 = true then ((spec_l20Rd_pick.f kj20 s0_0 bt158.2 5).bind fun bt160 => (if bt160.1 = 0 then ((some (([0, (-1), 9] : List Int) : List Int)).bind fun y162 => ((spec_l20Rd_pick.f kj20 s0_0 bt160.2 3).bind fun bt165 => (if 0 ≤ bt165.1 then (if bt165.1 < (y162.length : Int) then (some (rd y162 bt165.1, x143001_2, bt165.2)) else (none)) else (none)))) else (if bt160.1 = 1 then (if x143001_2.length < 5864062014805 then (some (x143000_4, (x143001_2 ++ [(⟨0, x143000_4, 5⟩ : S79)]), bt160.2)) else (none)) else (if bt160.1 = 2 then (if x143001_2.length < 5864062014805 then (some (x143000_4, (x143001_2 ++ [(⟨0, 0, 5⟩ : S79)]), bt160.2)) else (none)) else (if bt160.1 = 3 then ((some (([0, 1000] : List Int) : List Int)).bind fun y174 => ((spec_l20Rd_pick.f kj20 s0_0 bt160.2 2).bind fun bt177 => (if 0 ≤ bt177.1 then (if bt177.1 < (y174.length : Int) then (if x143001_2.length < 5864062014805 then (some (x143000_4, (x143001_2 ++ [(⟨0, 1, rd y174 bt177.1⟩ : S79)]), bt177.2)) else (none)) else (none)) else (none)))) else (if 11 ≤ 11728124029610 then (some (x143000_4, (List.replicate 11 z79), bt160.2)) else (none))))))) else (some (x143000_4, x143001_2, bt158.2)))) = some (r1, r2, r3) := by rw [if_neg (show ¬ (false = true) by decide)] at H; exact H
       clear H
       have H := H1
       clear H1
       replace H := Option.bind_eq_some_iff.mp H
       obtain ⟨⟨t158, t159⟩, A430, H⟩ := H
       replace H : (if t158 = true then ((spec_l20Rd_pick.f kj20 s0_0 t159 5).bind fun bt160 => (if bt160.1 = 0 then ((some (([0, (-1), 9] : List Int) : List Int)).bind fun y162 => ((spec_l20Rd_pick.f kj20 s0_0 bt160.2 3).bind fun bt165 => (if 0 ≤ bt165.1 then (if bt165.1 < (y162.length : Int) then (some (rd y162 bt165.1, x143001_2, bt165.2)) else (none)) else (none)))) else (if bt160.1 = 1 then (if x143001_2.length < 5864062014805 then (some (x143000_4, (x143001_2 ++ [(⟨0, x143000_4, 5⟩ : S79)]), bt160.2)) else (none)) else (if bt160.1 = 2 then (if x143001_2.length < 5864062014805 then (some (x143000_4, (x143001_2 ++ [(⟨0, 0, 5⟩ : S79)]), bt160.2)) else (none)) else (if bt160.1 = 3 then ((some (([0, 1000] : List Int) : List Int)).bind fun y174 => ((spec_l20Rd_pick.f kj20 s0_0 bt160.2 2).bind fun bt177 => (if 0 ≤ bt177.1 then (if bt177.1 < (y174.length : Int) then (if x143001_2.length < 5864062014805 then (some (x143000_4, (x143001_2 ++ [(⟨0, 1, rd y174 bt177.1⟩ : S79)]), bt177.2)) else (none)) else (none)) else (none)))) else (if 11 ≤ 11728124029610 then (some (x143000_4, (List.replicate 11 z79), bt160.2)) else (none))))))) else (some (x143000_4, x143001_2, t159))) = some (r1, r2, r3) := H
       have A43 := Aside0.mk A430
       clear A430
       by_cases c44 : t158 = true
       rotate_left
       ·
        replace c44 := Bool.eq_false_iff.mpr c44
        subst c44
        have H1 : (some (x143000_4, x143001_2, t159)) = some (r1, r2, r3) := by rw [if_neg (show ¬ (false = true) by decide)] at H; exact H
        clear H
        have H := H1
        clear H1
        simp only [Option.some.injEq, Prod.mk.injEq] at H
        obtain ⟨rfl, rfl, rfl⟩ := H
        go_wp2_with (first | ((with_reducible refine gate_callee (f := 122) rfl ?_); refine goesL_ (some 59) rfl rfl Tryd.func122 (by kernel_rfl) rfl #[.pointer (some ⟨g, 0, none⟩), .int .i64 a1] rfl mP ?_; (with_reducible refine (spec_l20Rd_odd.calls kj20 g s0_0 x1001_2 a1 false t159 w0 _ ?side1 ?side2 A43.out).mono ?_); (case side1 => repeat (first | (with_reducible first | exact HI0.out | apply IsS111.alloc | apply IsS111.drewN | apply IsS111.drew | apply IsS111.set_1 | refine IsS111.far ?_ NB0_139.out _ | refine IsS111.far ?_ NB0_142.out _) | exact HI0.out)); (case side2 => repeat (first | (with_reducible first | exact HB.out | apply below_alloc | apply pw_below_drewN | apply below_drew1 | refine below_set ?_ (IsS111.ge HI0.out) | refine below_set ?_ GE139.out | refine below_set ?_ GE142.out) | exact HB.out)); rintro e w120 ⟨rfl, hi, hb, hk⟩; refine ⟨_, rfl, ?_⟩; have n0_ := aM (Kd.R_mono (Kd.R_keep (IsS111.apart (show IsS111 w0 _ g s0_0 x1001_2 from IsS111.k2 HI0 NB0_139 NB0_142) (gR (HO_143001.out)) (by decide)) hk (fun _ h => h.2)) (fun _ h => h.1)); have n1_ := aM (KeepBut.blk hk (g' := gb139) (o := .cells #[.int .i64 0, .slice none 0 0] 25 (0, 0)) (gB (BK139.out)) NB139_0.out (by simp)); have n2_ := aM (KeepBut.blk hk (g' := gb142) (o := .cells #[.int .i64 x143000_4, u143001] 25 (0, 0)) (gB (BK142.out)) NB142_0.out (by simp)); have n3_ := aM (KeepBut.trans (kp2 HK GW139 GW142) hk (.inl rfl)); have n4_ := aM (hb); have n5_ := aM (hi); clear HO_143001; clear BK139; clear BK142; clear HK; clear HB; clear HI0; have HO_143001 := n0_; have BK139 := n1_; have BK142 := n2_; have HK := n3_; have HB := n4_; have HI0 := n5_; clear n0_ n1_ n2_ n3_ n4_ n5_; (try clear hb); (try clear hb2); (try clear hk); (try clear hi); have hnb121 := NB142_139.out; have hnc121 := NB139_142.out; have hnb122 := NB142_0.out; have hnc122 := NB0_142.out; have hcz123_0 : w120.cell? ⟨gb142, 0, none⟩ = some (.int .i64 x143000_4) := (blk_cell BK142.out 0).trans rfl; have hcz123_1 : w120.cell? ⟨gb142, 1, none⟩ = some (u143001) := (blk_cell BK142.out 1).trans rfl; have hfz123_0 := blk_frozen BK142.out 0; have hfz123_1 := blk_frozen BK142.out 1; have hnb124 := NB139_0.out; have hnc124 := NB0_139.out; have hcz125_0 : w120.cell? ⟨gb139, 0, none⟩ = some (.int .i64 0) := (blk_cell BK139.out 0).trans rfl; have hcz125_1 : w120.cell? ⟨gb139, 1, none⟩ = some (.slice none 0 0) := (blk_cell BK139.out 1).trans rfl; have hfz125_0 := blk_frozen BK139.out 0; have hfz125_1 := blk_frozen BK139.out 1; obtain ⟨Ao126, co126, eo126⟩ := Kd.R_slice HO_143001.out; subst eo126))
        refine bodyPost_ret (results_cell_row rfl _ _ gb139 25 #[.int .i64 x143000_4, .slice Ao126 x143001_2.length co126] (0, 0) _ rfl (by (with_reducible repeat (first | refine blk_drewN ?_ _ | refine blk_drew ?_ | refine blk_alloc ?_ _)); refine blk_put (cs := #[.int .i64 x143000_4, .slice none 0 0]) ?_ 1 _ rfl; (with_reducible repeat (first | refine blk_drewN ?_ _ | refine blk_drew ?_ | refine blk_alloc ?_ _)); refine blk_put (cs := #[.int .i64 0, .slice none 0 0]) ?_ 0 _ rfl; (with_reducible repeat (first | refine blk_drewN ?_ _ | refine blk_drew ?_ | refine blk_alloc ?_ _)); exact BK139.out) Tryd.underlying25 rfl (by kernel_rfl)) rfl ?_
        exact ⟨_, fR, by (with_reducible repeat (first | apply Kd.R_alloc | apply Kd.R_drewN | apply Kd.R_drew)); exact Kd.R_mono (Kd.R_far (p := ⟨gb139, 1, none⟩) (Kd.R_far (p := ⟨gb139, 0, none⟩) (Kd.R_types HO_143001.out BK139.out (by decide)) (fun _ hk => hk.2) (.int .i64 x143000_4)) (fun _ hk => hk.2) (.slice Ao126 x143001_2.length co126)) (fun _ hk => trivial), IsS111.k2 HI0 NB0_139 NB0_142, bl3 HB (aM (IsS111.ge HI0.out)) GE139 GE142, kp2 HK GW139 GW142⟩
       subst c44
       have H1 : ((spec_l20Rd_pick.f kj20 s0_0 t159 5).bind fun bt160 => (if bt160.1 = 0 then ((some (([0, (-1), 9] : List Int) : List Int)).bind fun y162 => ((spec_l20Rd_pick.f kj20 s0_0 bt160.2 3).bind fun bt165 => (if 0 ≤ bt165.1 then (if bt165.1 < (y162.length : Int) then (some (rd y162 bt165.1, x143001_2, bt165.2)) else (none)) else (none)))) else (if bt160.1 = 1 then (if x143001_2.length < 5864062014805 then (some (x143000_4, (x143001_2 ++ [(⟨0, x143000_4, 5⟩ : S79)]), bt160.2)) else (none)) else (if bt160.1 = 2 then (if x143001_2.length < 5864062014805 then (some (x143000_4, (x143001_2 ++ [(⟨0, 0, 5⟩ : S79)]), bt160.2)) else (none)) else (if bt160.1 = 3 then ((some (([0, 1000] : List Int) : List Int)).bind fun y174 => ((spec_l20Rd_pick.f kj20 s0_0 bt160.2 2).bind fun bt177 => (if 0 ≤ bt177.1 then (if bt177.1 < (y174.length : Int) then (if x143001_2.length < 5864062014805 then (some (x143000_4, (x143001_2 ++ [(⟨0, 1, rd y174 bt177.1⟩ : S79)]), bt177.2)) else (none)) else (none)) else (none)))) else (if 11 ≤ 11728124029610 then (some (x143000_4, (List.replicate 11 z79), bt160.2)) else (none))))))) = some (r1, r2, r3) := by rw [if_pos rfl] at H; exact H
       clear H
       have H := H1
       clear H1
       replace H := Option.bind_eq_some_iff.mp H
       obtain ⟨⟨t160, t161⟩, A450, H⟩ := H
       replace H : (if t160 = 0 then ((some (([0, (-1), 9] : List Int) : List Int)).bind fun y162 => ((spec_l20Rd_pick.f kj20 s0_0 t161 3).bind fun bt165 => (if 0 ≤ bt165.1 then (if bt165.1 < (y162.length : Int) then (some (rd y162 bt165.1, x143001_2, bt165.2)) else (none)) else (none)))) else (if t160 = 1 then (if x143001_2.length < 5864062014805 then (some (x143000_4, (x143001_2 ++ [(⟨0, x143000_4, 5⟩ : S79)]), t161)) else (none)) else (if t160 = 2 then (if x143001_2.length < 5864062014805 then (some (x143000_4, (x143001_2 ++ [(⟨0, 0, 5⟩ : S79)]), t161)) else (none)) else (if t160 = 3 then ((some (([0, 1000] : List Int) : List Int)).bind fun y174 => ((spec_l20Rd_pick.f kj20 s0_0 t161 2).bind fun bt177 => (if 0 ≤ bt177.1 then (if bt177.1 < (y174.length : Int) then (if x143001_2.length < 5864062014805 then (some (x143000_4, (x143001_2 ++ [(⟨0, 1, rd y174 bt177.1⟩ : S79)]), bt177.2)) else (none)) else (none)) else (none)))) else (if 11 ≤ 11728124029610 then (some (x143000_4, (List.replicate 11 z79), t161)) else (none)))))) = some (r1, r2, r3) := H
       have A45 := Aside0.mk A450
       clear A450
       by_cases c46 : t160 = 0
       ·
        rw [if_pos c46] at H
        have c46b0 : (t160 == 0) = true := beq_iff_eq.mpr c46
        have c46b1 : (t160 != 0) = false := bne_eq_false_iff_eq.mpr c46
        clear c46
        obtain ⟨y162, hy162⟩ : ∃ y_ : List Int, y_ = (([0, (-1), 9] : List Int)) := ⟨_, rfl⟩
        replace H : ((spec_l20Rd_pick.f kj20 s0_0 t161 3).bind fun bt165 => (if 0 ≤ bt165.1 then (if bt165.1 < (y162.length : Int) then (some (rd y162 bt165.1, x143001_2, bt165.2)) else (none)) else (none))) = some (r1, r2, r3) := by first | (rw [hy162]; with_reducible exact H) | (have H2_ := (Option.bind_some _ _).symm.trans H; rw [hy162]; with_reducible exact H2_) | (have H2_ := (Option.bind_some _ _).symm.trans H; with_reducible exact H2_) | with_reducible exact H | (rw [hy162]; exact H) | exact H
        have Ny162 := Aside0.mk hy162
        clear hy162
        replace H := Option.bind_eq_some_iff.mp H
        obtain ⟨⟨t165, t166⟩, A470, H⟩ := H
        replace H : (if 0 ≤ t165 then (if t165 < (y162.length : Int) then (some (rd y162 t165, x143001_2, t166)) else (none)) else (none)) = some (r1, r2, r3) := H
        have A47 := Aside0.mk A470
        clear A470
        by_cases c48 : 0 ≤ t165
        rotate_left
        ·
         rw [if_neg c48] at H
         exact absurd H (by simp)
        rw [if_pos c48] at H
        have c48b0 : decide (0 ≤ t165) = true := decide_eq_true c48
        clear c48
        by_cases c49 : t165 < (y162.length : Int)
        rotate_left
        ·
         rw [if_neg c49] at H
         exact absurd H (by simp)
        rw [if_pos c49] at H
        have c49b0 : decide (t165 < (y162.length : Int)) = true := decide_eq_true c49
        clear c49
        simp only [Option.some.injEq, Prod.mk.injEq] at H
        obtain ⟨rfl, rfl, rfl⟩ := H
        go_wp2_with (first | ((with_reducible refine gate_callee (f := 122) rfl ?_); refine goesL_ (some 59) rfl rfl Tryd.func122 (by kernel_rfl) rfl #[.pointer (some ⟨g, 0, none⟩), .int .i64 a1] rfl mP ?_; (with_reducible refine (spec_l20Rd_odd.calls kj20 g s0_0 x1001_2 a1 true t159 w0 _ ?side1 ?side2 A43.out).mono ?_); (case side1 => repeat (first | (with_reducible first | exact HI0.out | apply IsS111.alloc | apply IsS111.drewN | apply IsS111.drew | apply IsS111.set_1 | refine IsS111.far ?_ NB0_139.out _ | refine IsS111.far ?_ NB0_142.out _) | exact HI0.out)); (case side2 => repeat (first | (with_reducible first | exact HB.out | apply below_alloc | apply pw_below_drewN | apply below_drew1 | refine below_set ?_ (IsS111.ge HI0.out) | refine below_set ?_ GE139.out | refine below_set ?_ GE142.out) | exact HB.out)); rintro e w50 ⟨rfl, hi, hb, hk⟩; refine ⟨_, rfl, ?_⟩; have n0_ := aM (Kd.R_mono (Kd.R_keep (IsS111.apart (show IsS111 w0 _ g s0_0 x1001_2 from IsS111.k2 HI0 NB0_139 NB0_142) (gR (HO_143001.out)) (by decide)) hk (fun _ h => h.2)) (fun _ h => h.1)); have n1_ := aM (KeepBut.blk hk (g' := gb139) (o := .cells #[.int .i64 0, .slice none 0 0] 25 (0, 0)) (gB (BK139.out)) NB139_0.out (by simp)); have n2_ := aM (KeepBut.blk hk (g' := gb142) (o := .cells #[.int .i64 x143000_4, u143001] 25 (0, 0)) (gB (BK142.out)) NB142_0.out (by simp)); have n3_ := aM (KeepBut.trans (kp2 HK GW139 GW142) hk (.inl rfl)); have n4_ := aM (hb); have n5_ := aM (hi); clear HO_143001; clear BK139; clear BK142; clear HK; clear HB; clear HI0; have HO_143001 := n0_; have BK139 := n1_; have BK142 := n2_; have HK := n3_; have HB := n4_; have HI0 := n5_; clear n0_ n1_ n2_ n3_ n4_ n5_; (try clear hb); (try clear hb2); (try clear hk); (try clear hi)) | ((with_reducible refine gate_callee (f := 68) rfl ?_); refine goesL_ (some 61) rfl rfl Tryd.func68 (by kernel_rfl) rfl #[.pointer (some ⟨g, 0, none⟩), .int .i64 5] rfl mP ?_; (with_reducible refine (spec_l20Rd_pick.calls kj20 g s0_0 t159 5 t160 t161 w0 _ ?side1 ?side2 A45.out).mono ?_); (case side1 => repeat (first | (with_reducible first | exact HI0.out | apply IsS111.alloc | apply IsS111.drewN | apply IsS111.drew | apply IsS111.set_1 | refine IsS111.far ?_ NB0_139.out _ | refine IsS111.far ?_ NB0_142.out _) | exact HI0.out)); (case side2 => repeat (first | (with_reducible first | exact HB.out | apply below_alloc | apply pw_below_drewN | apply below_drew1 | refine below_set ?_ (IsS111.ge HI0.out) | refine below_set ?_ GE139.out | refine below_set ?_ GE142.out) | exact HB.out)); rintro e w51 ⟨rfl, hi, hb, hk⟩; refine ⟨_, rfl, ?_⟩; have n0_ := aM (Kd.R_mono (Kd.R_keep (IsS111.apart (show IsS111 w0 _ g s0_0 t159 from IsS111.k2 HI0 NB0_139 NB0_142) (gR (HO_143001.out)) (by decide)) hk (fun _ h => h.2)) (fun _ h => h.1)); have n1_ := aM (KeepBut.blk hk (g' := gb139) (o := .cells #[.int .i64 0, .slice none 0 0] 25 (0, 0)) (gB (BK139.out)) NB139_0.out (by simp)); have n2_ := aM (KeepBut.blk hk (g' := gb142) (o := .cells #[.int .i64 x143000_4, u143001] 25 (0, 0)) (gB (BK142.out)) NB142_0.out (by simp)); have n3_ := aM (KeepBut.trans (kp2 HK GW139 GW142) hk (.inl rfl)); have n4_ := aM (hb); have n5_ := aM (hi); clear HO_143001; clear BK139; clear BK142; clear HK; clear HB; clear HI0; have HO_143001 := n0_; have BK139 := n1_; have BK142 := n2_; have HK := n3_; have HB := n4_; have HI0 := n5_; clear n0_ n1_ n2_ n3_ n4_ n5_; (try clear hb); (try clear hb2); (try clear hk); (try clear hi)) | ((with_reducible refine gate_dst (N := 66) rfl ?_); refine Kd.R_lit (Kd.int .i64) _ 3 ?hg (N := 66) ?hd (xs := ([0, (-1), 9] : List Int)) (inner := [.int .i64 0, .int .i64 (-1), .int .i64 9]) (ok := fun _ => True) (okp := fun _ => True) ?hr ?hp (fun _ hk => hk) trivial (Below.refl _ _) (Nat.le_refl _) (by simp) ?_; (case hd => rfl); (case hg => rfl); (case hr => exact hR); (case hp => exact (Reps.one (show Kd.M (Kd.int .i64) _ _ _ 0 [.int .i64 0] from rfl) (Reps.one (show Kd.M (Kd.int .i64) _ _ _ (-1) [.int .i64 (-1)] from rfl) (Reps.one (show Kd.M (Kd.int .i64) _ _ _ 9 [.int .i64 9] from rfl) (Reps.none _ _))))); intro v163 w52 ho53 hb hg_ hnew_; clear hg_ hnew_; (first | rw [← Ny162.out] at ho53 | (simp only [Int.reduceToNat] at ho53; rw [← Ny162.out] at ho53)); have n0_ := aM (Kd.R_below (gR (HO_143001.out)) hb); have n1_ := aM (Kd.R_lower ho53 (keep_size (w := w) (g := g) (row := none) (kp2 HK GW139 GW142))); have n2_ := aM (blk_below (g := gb139) (o := .cells #[.int .i64 0, .slice none 0 0] 25 (0, 0)) (gB (BK139.out)) hb); have n3_ := aM (blk_below (g := gb142) (o := .cells #[.int .i64 x143000_4, u143001] 25 (0, 0)) (gB (BK142.out)) hb); have n4_ := aM (IsS111.below (IsS111.k2 HI0 NB0_139 NB0_142) hb); have n5_ := aM (KeepBut.trans (kp2 HK GW139 GW142) (KeepBut.of_below hb g none) (.inl rfl)); have n6_ := aM (below_step (bl3 HB (aM (IsS111.ge HI0.out)) GE139 GE142) hb); clear HO_143001; clear BK139; clear BK142; clear HI0; clear HK; clear HB; have HO_143001 := n0_; have HO164 := n1_; have BK139 := n2_; have BK142 := n3_; have HI0 := n4_; have HK := n5_; have HB := n6_; clear n0_ n1_ n2_ n3_ n4_ n5_ n6_; clear hb ho53) | ((with_reducible refine gate_callee (f := 68) rfl ?_); refine goesL_ (some 68) rfl rfl Tryd.func68 (by kernel_rfl) rfl #[.pointer (some ⟨g, 0, none⟩), .int .i64 3] rfl mP ?_; (with_reducible refine (spec_l20Rd_pick.calls kj20 g s0_0 t161 3 t165 t166 w0 _ ?side1 ?side2 A47.out).mono ?_); (case side1 => repeat (first | (with_reducible first | exact HI0.out | apply IsS111.alloc | apply IsS111.drewN | apply IsS111.drew | apply IsS111.set_1 | refine IsS111.far ?_ NB0_139.out _ | refine IsS111.far ?_ NB0_142.out _) | exact HI0.out)); (case side2 => repeat (first | (with_reducible first | exact HB.out | apply below_alloc | apply pw_below_drewN | apply below_drew1 | refine below_set ?_ (IsS111.ge HI0.out) | refine below_set ?_ GE139.out | refine below_set ?_ GE142.out) | exact HB.out)); rintro e w54 ⟨rfl, hi, hb, hk⟩; refine ⟨_, rfl, ?_⟩; have n0_ := aM (Kd.R_mono (Kd.R_keep (IsS111.apart (show IsS111 w0 _ g s0_0 t161 from IsS111.k2 HI0 NB0_139 NB0_142) (gR (HO_143001.out)) (by decide)) hk (fun _ h => h.2)) (fun _ h => h.1)); have n1_ := aM (KeepBut.blk hk (g' := gb139) (o := .cells #[.int .i64 0, .slice none 0 0] 25 (0, 0)) (gB (BK139.out)) NB139_0.out (by simp)); have n2_ := aM (KeepBut.blk hk (g' := gb142) (o := .cells #[.int .i64 x143000_4, u143001] 25 (0, 0)) (gB (BK142.out)) NB142_0.out (by simp)); have n3_ := aM (Kd.R_mono (Kd.R_keep (IsS111.apart (show IsS111 w0 _ g s0_0 t161 from IsS111.k2 HI0 NB0_139 NB0_142) (gR (HO164.out)) (by decide)) hk (fun _ h => h.2)) (fun _ h => h.1)); have n4_ := aM (KeepBut.trans (kp2 HK GW139 GW142) hk (.inl rfl)); have n5_ := aM (hb); have n6_ := aM (hi); clear HO_143001; clear BK139; clear BK142; clear HO164; clear HK; clear HB; clear HI0; have HO_143001 := n0_; have BK139 := n1_; have BK142 := n2_; have HO164 := n3_; have HK := n4_; have HB := n5_; have HI0 := n6_; clear n0_ n1_ n2_ n3_ n4_ n5_ n6_; (try clear hb); (try clear hb2); (try clear hk); (try clear hi); obtain ⟨Ao55, co55, eo55⟩ := Kd.R_slice HO164.out; subst eo55; have p167 : 0 ≤ (t165 : Int) := oD; have q167 : t165 < (y162.length : Int) := oD; obtain ⟨ad167, e167, hx167_0⟩ := Kd.at_int (Kd.R_reads' HO164.out).2.2 t165 p167 q167; cases e167; replace p167 := eq_true p167; replace q167 := eq_true q167; have hnb56 := NB142_139.out; have hnc56 := NB139_142.out; have hnb57 := NB142_0.out; have hnc57 := NB0_142.out; have hcz58_0 : w54.cell? ⟨gb142, 0, none⟩ = some (.int .i64 x143000_4) := (blk_cell BK142.out 0).trans rfl; have hcz58_1 : w54.cell? ⟨gb142, 1, none⟩ = some (u143001) := (blk_cell BK142.out 1).trans rfl; have hfz58_0 := blk_frozen BK142.out 0; have hfz58_1 := blk_frozen BK142.out 1; have hnb59 := NB139_0.out; have hnc59 := NB0_139.out; have hcz60_0 : w54.cell? ⟨gb139, 0, none⟩ = some (.int .i64 0) := (blk_cell BK139.out 0).trans rfl; have hcz60_1 : w54.cell? ⟨gb139, 1, none⟩ = some (.slice none 0 0) := (blk_cell BK139.out 1).trans rfl; have hfz60_0 := blk_frozen BK139.out 0; have hfz60_1 := blk_frozen BK139.out 1; obtain ⟨Ao61, co61, eo61⟩ := Kd.R_slice HO_143001.out; subst eo61))
        refine bodyPost_ret (results_cell_row rfl _ _ gb139 25 #[.int .i64 (rd y162 t165), .slice Ao61 x143001_2.length co61] (0, 0) _ rfl (by (with_reducible repeat (first | refine blk_drewN ?_ _ | refine blk_drew ?_ | refine blk_alloc ?_ _)); refine blk_put (cs := #[.int .i64 (rd y162 t165), .slice none 0 0]) ?_ 1 _ rfl; (with_reducible repeat (first | refine blk_drewN ?_ _ | refine blk_drew ?_ | refine blk_alloc ?_ _)); refine blk_put (cs := #[.int .i64 0, .slice none 0 0]) ?_ 0 _ rfl; (with_reducible repeat (first | refine blk_drewN ?_ _ | refine blk_drew ?_ | refine blk_alloc ?_ _)); refine blk_far ?_ NB139_142.out _; (with_reducible repeat (first | refine blk_drewN ?_ _ | refine blk_drew ?_ | refine blk_alloc ?_ _)); exact BK139.out) Tryd.underlying25 rfl (by kernel_rfl)) rfl ?_
        exact ⟨_, fR, by (with_reducible repeat (first | apply Kd.R_alloc | apply Kd.R_drewN | apply Kd.R_drew)); exact Kd.R_mono (Kd.R_far (p := ⟨gb139, 1, none⟩) (Kd.R_far (p := ⟨gb139, 0, none⟩) (Kd.R_far (p := ⟨gb142, 0, none⟩) (Kd.R_types (Kd.R_types HO_143001.out BK142.out (by decide)) BK139.out (by decide)) (fun _ hk => hk.1.2) (.int .i64 (rd y162 t165))) (fun _ hk => hk.2) (.int .i64 (rd y162 t165))) (fun _ hk => hk.2) (.slice Ao61 x143001_2.length co61)) (fun _ hk => trivial), IsS111.k2 HI0 NB0_139 NB0_142, bl3 HB (aM (IsS111.ge HI0.out)) GE139 GE142, kp2 HK GW139 GW142⟩
       rw [if_neg c46] at H
       have c46b0 : (t160 == 0) = false := beq_eq_false_iff_ne.mpr c46
       have c46b1 : (t160 != 0) = true := bne_iff_ne.mpr c46
       by_cases c62 : t160 = 1
       ·
        rw [if_pos c62] at H
        have c62b0 : (t160 == 1) = true := beq_iff_eq.mpr c62
        have c62b1 : (t160 != 1) = false := bne_eq_false_iff_eq.mpr c62
        clear c62
        by_cases c63 : x143001_2.length < 5864062014805
        rotate_left
        ·
         rw [if_neg c63] at H
         exact absurd H (by simp)
        rw [if_pos c63] at H
        have LMc63 := Aside0.mk c63
        clear c63
        obtain ⟨y168, hy168⟩ : ∃ y_ : List (S79), y_ = (x143001_2 ++ [(⟨0, x143000_4, 5⟩ : S79)]) := ⟨_, rfl⟩
        replace H : (some (x143000_4, y168, t161)) = some (r1, r2, r3) := by first | (rw [hy168]; with_reducible exact H) | (have H2_ := (Option.bind_some _ _).symm.trans H; rw [hy168]; with_reducible exact H2_) | (have H2_ := (Option.bind_some _ _).symm.trans H; with_reducible exact H2_) | with_reducible exact H | (rw [hy168]; exact H) | exact H
        have Ny168 := Aside0.mk hy168
        clear hy168
        simp only [Option.some.injEq, Prod.mk.injEq] at H
        obtain ⟨rfl, rfl, rfl⟩ := H
        go_wp2_with (first | ((with_reducible refine gate_callee (f := 122) rfl ?_); refine goesL_ (some 59) rfl rfl Tryd.func122 (by kernel_rfl) rfl #[.pointer (some ⟨g, 0, none⟩), .int .i64 a1] rfl mP ?_; (with_reducible refine (spec_l20Rd_odd.calls kj20 g s0_0 x1001_2 a1 true t159 w0 _ ?side1 ?side2 A43.out).mono ?_); (case side1 => repeat (first | (with_reducible first | exact HI0.out | apply IsS111.alloc | apply IsS111.drewN | apply IsS111.drew | apply IsS111.set_1 | refine IsS111.far ?_ NB0_139.out _ | refine IsS111.far ?_ NB0_142.out _) | exact HI0.out)); (case side2 => repeat (first | (with_reducible first | exact HB.out | apply below_alloc | apply pw_below_drewN | apply below_drew1 | refine below_set ?_ (IsS111.ge HI0.out) | refine below_set ?_ GE139.out | refine below_set ?_ GE142.out) | exact HB.out)); rintro e w64 ⟨rfl, hi, hb, hk⟩; refine ⟨_, rfl, ?_⟩; have n0_ := aM (Kd.R_mono (Kd.R_keep (IsS111.apart (show IsS111 w0 _ g s0_0 x1001_2 from IsS111.k2 HI0 NB0_139 NB0_142) (gR (HO_143001.out)) (by decide)) hk (fun _ h => h.2)) (fun _ h => h.1)); have n1_ := aM (KeepBut.blk hk (g' := gb139) (o := .cells #[.int .i64 0, .slice none 0 0] 25 (0, 0)) (gB (BK139.out)) NB139_0.out (by simp)); have n2_ := aM (KeepBut.blk hk (g' := gb142) (o := .cells #[.int .i64 x143000_4, u143001] 25 (0, 0)) (gB (BK142.out)) NB142_0.out (by simp)); have n3_ := aM (KeepBut.trans (kp2 HK GW139 GW142) hk (.inl rfl)); have n4_ := aM (hb); have n5_ := aM (hi); clear HO_143001; clear BK139; clear BK142; clear HK; clear HB; clear HI0; have HO_143001 := n0_; have BK139 := n1_; have BK142 := n2_; have HK := n3_; have HB := n4_; have HI0 := n5_; clear n0_ n1_ n2_ n3_ n4_ n5_; (try clear hb); (try clear hb2); (try clear hk); (try clear hi)) | ((with_reducible refine gate_callee (f := 68) rfl ?_); refine goesL_ (some 61) rfl rfl Tryd.func68 (by kernel_rfl) rfl #[.pointer (some ⟨g, 0, none⟩), .int .i64 5] rfl mP ?_; (with_reducible refine (spec_l20Rd_pick.calls kj20 g s0_0 t159 5 t160 t161 w0 _ ?side1 ?side2 A45.out).mono ?_); (case side1 => repeat (first | (with_reducible first | exact HI0.out | apply IsS111.alloc | apply IsS111.drewN | apply IsS111.drew | apply IsS111.set_1 | refine IsS111.far ?_ NB0_139.out _ | refine IsS111.far ?_ NB0_142.out _) | exact HI0.out)); (case side2 => repeat (first | (with_reducible first | exact HB.out | apply below_alloc | apply pw_below_drewN | apply below_drew1 | refine below_set ?_ (IsS111.ge HI0.out) | refine below_set ?_ GE139.out | refine below_set ?_ GE142.out) | exact HB.out)); rintro e w65 ⟨rfl, hi, hb, hk⟩; refine ⟨_, rfl, ?_⟩; have n0_ := aM (Kd.R_mono (Kd.R_keep (IsS111.apart (show IsS111 w0 _ g s0_0 t159 from IsS111.k2 HI0 NB0_139 NB0_142) (gR (HO_143001.out)) (by decide)) hk (fun _ h => h.2)) (fun _ h => h.1)); have n1_ := aM (KeepBut.blk hk (g' := gb139) (o := .cells #[.int .i64 0, .slice none 0 0] 25 (0, 0)) (gB (BK139.out)) NB139_0.out (by simp)); have n2_ := aM (KeepBut.blk hk (g' := gb142) (o := .cells #[.int .i64 x143000_4, u143001] 25 (0, 0)) (gB (BK142.out)) NB142_0.out (by simp)); have n3_ := aM (KeepBut.trans (kp2 HK GW139 GW142) hk (.inl rfl)); have n4_ := aM (hb); have n5_ := aM (hi); clear HO_143001; clear BK139; clear BK142; clear HK; clear HB; clear HI0; have HO_143001 := n0_; have BK139 := n1_; have BK142 := n2_; have HK := n3_; have HB := n4_; have HI0 := n5_; clear n0_ n1_ n2_ n3_ n4_ n5_; (try clear hb); (try clear hb2); (try clear hk); (try clear hi); have hnb66 := NB142_139.out; have hnc66 := NB139_142.out; have hnb67 := NB142_0.out; have hnc67 := NB0_142.out; have hcz68_0 : w65.cell? ⟨gb142, 0, none⟩ = some (.int .i64 x143000_4) := (blk_cell BK142.out 0).trans rfl; have hcz68_1 : w65.cell? ⟨gb142, 1, none⟩ = some (u143001) := (blk_cell BK142.out 1).trans rfl; have hfz68_0 := blk_frozen BK142.out 0; have hfz68_1 := blk_frozen BK142.out 1) | ((with_reducible refine gate_builtin (b := .append) (xs := #[.tmp 75, .tmp 79]) rfl ?_); at_builtin; refine Kd.R_append k79 w.heap.size rfl (.tmp 75) (.tmp 79) 23 79 (.agg #[(.int .i64 0), (.int .i64 0), (.int .i64 0)]) 24 rfl Tryd.underlying23 info79 rfl (by decide) (by omega) u143001 x143001_2 (⟨0, x143000_4, 5⟩ : S79) [.int .i64 0, .int .i64 x143000_4, .int .i64 5] (fun _ => True) (fun _ => False) rfl rfl ?aP (fun _ hk => hk.elim) ?aF ?aO (Below.refl _ _) ?aS ?aL ?_; (case aP => exact k79_mkM _ _ _ (⟨0, x143000_4, 5⟩ : S79)); (case aF => exact (fun _ _ => trivial)); (case aO => exact (gR (HO_143001.out))); (case aS => exact (keep_size (w := w) (g := g) (row := none) (kp2 HK GW139 GW142))); (case aL => have := LMc63.out; omega); intro v169 w69 ho hb hg hat; rw [← Ny168.out] at ho; have n0_ := aM (blk_grown (g := gb139) (o := .cells #[.int .i64 0, .slice none 0 0] 25 (0, 0)) (gB (BK139.out)) hg (Kd.R_ne HO_143001.out BK139.out (by decide))); have n1_ := aM (blk_grown (g := gb142) (o := .cells #[.int .i64 x143000_4, u143001] 25 (0, 0)) (gB (BK142.out)) hg (Kd.R_ne HO_143001.out BK142.out (by decide))); have n2_ := aM (IsS111.grown (by first | exact IsS111.like HI0.out (IsS111.k2 HI0 NB0_139 NB0_142) | (repeat (first | (with_reducible first | exact HI0.out | apply IsS111.alloc | apply IsS111.drewN | apply IsS111.drew | apply IsS111.set_1 | refine IsS111.far ?_ NB0_139.out _ | refine IsS111.far ?_ NB0_142.out _) | exact HI0.out))) hg (IsS111.own_ne HI0.out HO_143001.out (by decide))); have n3_ := aM (below_weaken (bl3 HB (aM (IsS111.ge HI0.out)) GE139 GE142) HL.out hb); have n4_ := aM (KeepBut.trans (kp2 HK GW139 GW142) (KeepBut.of_grown hg g) (Kd.R_base2 HO_143001.out)); have n5_ := aM (ho); clear BK139; clear BK142; clear HI0; clear HB; clear HK; clear HO_143001; have BK139 := n0_; have BK142 := n1_; have HI0 := n2_; have HB := n3_; have HK := n4_; have HO170 := n5_; clear n0_ n1_ n2_ n3_ n4_ n5_; clear ho hb hg hat; obtain ⟨Ao70, co70, eo70⟩ := Kd.R_slice HO170.out; subst eo70; have hcz71_0 : w69.cell? ⟨gb142, 0, none⟩ = some (.int .i64 x143000_4) := (blk_cell BK142.out 0).trans rfl; have hcz71_1 : w69.cell? ⟨gb142, 1, none⟩ = some (u143001) := (blk_cell BK142.out 1).trans rfl; have hfz71_0 := blk_frozen BK142.out 0; have hfz71_1 := blk_frozen BK142.out 1; have hnb72 := NB139_0.out; have hnc72 := NB0_139.out; have hcz73_0 : w69.cell? ⟨gb139, 0, none⟩ = some (.int .i64 0) := (blk_cell BK139.out 0).trans rfl; have hcz73_1 : w69.cell? ⟨gb139, 1, none⟩ = some (.slice none 0 0) := (blk_cell BK139.out 1).trans rfl; have hfz73_0 := blk_frozen BK139.out 0; have hfz73_1 := blk_frozen BK139.out 1))
        refine bodyPost_ret (results_cell_row rfl _ _ gb139 25 #[.int .i64 x143000_4, .slice Ao70 y168.length co70] (0, 0) _ rfl (by (with_reducible repeat (first | refine blk_drewN ?_ _ | refine blk_drew ?_ | refine blk_alloc ?_ _)); refine blk_put (cs := #[.int .i64 x143000_4, .slice none 0 0]) ?_ 1 _ rfl; (with_reducible repeat (first | refine blk_drewN ?_ _ | refine blk_drew ?_ | refine blk_alloc ?_ _)); refine blk_put (cs := #[.int .i64 0, .slice none 0 0]) ?_ 0 _ rfl; (with_reducible repeat (first | refine blk_drewN ?_ _ | refine blk_drew ?_ | refine blk_alloc ?_ _)); refine blk_far ?_ NB139_142.out _; (with_reducible repeat (first | refine blk_drewN ?_ _ | refine blk_drew ?_ | refine blk_alloc ?_ _)); exact BK139.out) Tryd.underlying25 rfl (by kernel_rfl)) rfl ?_
        exact ⟨_, fR, by (with_reducible repeat (first | apply Kd.R_alloc | apply Kd.R_drewN | apply Kd.R_drew)); exact Kd.R_mono (Kd.R_far (p := ⟨gb139, 1, none⟩) (Kd.R_far (p := ⟨gb139, 0, none⟩) (Kd.R_far (p := ⟨gb142, 1, none⟩) (Kd.R_types (Kd.R_types HO170.out BK142.out (by decide)) BK139.out (by decide)) (fun _ hk => hk.1.2) (.slice Ao70 y168.length co70)) (fun _ hk => hk.2) (.int .i64 x143000_4)) (fun _ hk => hk.2) (.slice Ao70 y168.length co70)) (fun _ hk => trivial), IsS111.k2 HI0 NB0_139 NB0_142, bl3 HB (aM (IsS111.ge HI0.out)) GE139 GE142, kp2 HK GW139 GW142⟩
       rw [if_neg c62] at H
       have c62b0 : (t160 == 1) = false := beq_eq_false_iff_ne.mpr c62
       have c62b1 : (t160 != 1) = true := bne_iff_ne.mpr c62
       by_cases c74 : t160 = 2
       ·
        rw [if_pos c74] at H
        have c74b0 : (t160 == 2) = true := beq_iff_eq.mpr c74
        have c74b1 : (t160 != 2) = false := bne_eq_false_iff_eq.mpr c74
        clear c74
        by_cases c75 : x143001_2.length < 5864062014805
        rotate_left
        ·
         rw [if_neg c75] at H
         exact absurd H (by simp)
        rw [if_pos c75] at H
        have LMc75 := Aside0.mk c75
        clear c75
        obtain ⟨y171, hy171⟩ : ∃ y_ : List (S79), y_ = (x143001_2 ++ [(⟨0, 0, 5⟩ : S79)]) := ⟨_, rfl⟩
        replace H : (some (x143000_4, y171, t161)) = some (r1, r2, r3) := by first | (rw [hy171]; with_reducible exact H) | (have H2_ := (Option.bind_some _ _).symm.trans H; rw [hy171]; with_reducible exact H2_) | (have H2_ := (Option.bind_some _ _).symm.trans H; with_reducible exact H2_) | with_reducible exact H | (rw [hy171]; exact H) | exact H
        have Ny171 := Aside0.mk hy171
        clear hy171
        simp only [Option.some.injEq, Prod.mk.injEq] at H
        obtain ⟨rfl, rfl, rfl⟩ := H
        go_wp2_with (first | ((with_reducible refine gate_callee (f := 122) rfl ?_); refine goesL_ (some 59) rfl rfl Tryd.func122 (by kernel_rfl) rfl #[.pointer (some ⟨g, 0, none⟩), .int .i64 a1] rfl mP ?_; (with_reducible refine (spec_l20Rd_odd.calls kj20 g s0_0 x1001_2 a1 true t159 w0 _ ?side1 ?side2 A43.out).mono ?_); (case side1 => repeat (first | (with_reducible first | exact HI0.out | apply IsS111.alloc | apply IsS111.drewN | apply IsS111.drew | apply IsS111.set_1 | refine IsS111.far ?_ NB0_139.out _ | refine IsS111.far ?_ NB0_142.out _) | exact HI0.out)); (case side2 => repeat (first | (with_reducible first | exact HB.out | apply below_alloc | apply pw_below_drewN | apply below_drew1 | refine below_set ?_ (IsS111.ge HI0.out) | refine below_set ?_ GE139.out | refine below_set ?_ GE142.out) | exact HB.out)); rintro e w76 ⟨rfl, hi, hb, hk⟩; refine ⟨_, rfl, ?_⟩; have n0_ := aM (Kd.R_mono (Kd.R_keep (IsS111.apart (show IsS111 w0 _ g s0_0 x1001_2 from IsS111.k2 HI0 NB0_139 NB0_142) (gR (HO_143001.out)) (by decide)) hk (fun _ h => h.2)) (fun _ h => h.1)); have n1_ := aM (KeepBut.blk hk (g' := gb139) (o := .cells #[.int .i64 0, .slice none 0 0] 25 (0, 0)) (gB (BK139.out)) NB139_0.out (by simp)); have n2_ := aM (KeepBut.blk hk (g' := gb142) (o := .cells #[.int .i64 x143000_4, u143001] 25 (0, 0)) (gB (BK142.out)) NB142_0.out (by simp)); have n3_ := aM (KeepBut.trans (kp2 HK GW139 GW142) hk (.inl rfl)); have n4_ := aM (hb); have n5_ := aM (hi); clear HO_143001; clear BK139; clear BK142; clear HK; clear HB; clear HI0; have HO_143001 := n0_; have BK139 := n1_; have BK142 := n2_; have HK := n3_; have HB := n4_; have HI0 := n5_; clear n0_ n1_ n2_ n3_ n4_ n5_; (try clear hb); (try clear hb2); (try clear hk); (try clear hi)) | ((with_reducible refine gate_callee (f := 68) rfl ?_); refine goesL_ (some 61) rfl rfl Tryd.func68 (by kernel_rfl) rfl #[.pointer (some ⟨g, 0, none⟩), .int .i64 5] rfl mP ?_; (with_reducible refine (spec_l20Rd_pick.calls kj20 g s0_0 t159 5 t160 t161 w0 _ ?side1 ?side2 A45.out).mono ?_); (case side1 => repeat (first | (with_reducible first | exact HI0.out | apply IsS111.alloc | apply IsS111.drewN | apply IsS111.drew | apply IsS111.set_1 | refine IsS111.far ?_ NB0_139.out _ | refine IsS111.far ?_ NB0_142.out _) | exact HI0.out)); (case side2 => repeat (first | (with_reducible first | exact HB.out | apply below_alloc | apply pw_below_drewN | apply below_drew1 | refine below_set ?_ (IsS111.ge HI0.out) | refine below_set ?_ GE139.out | refine below_set ?_ GE142.out) | exact HB.out)); rintro e w77 ⟨rfl, hi, hb, hk⟩; refine ⟨_, rfl, ?_⟩; have n0_ := aM (Kd.R_mono (Kd.R_keep (IsS111.apart (show IsS111 w0 _ g s0_0 t159 from IsS111.k2 HI0 NB0_139 NB0_142) (gR (HO_143001.out)) (by decide)) hk (fun _ h => h.2)) (fun _ h => h.1)); have n1_ := aM (KeepBut.blk hk (g' := gb139) (o := .cells #[.int .i64 0, .slice none 0 0] 25 (0, 0)) (gB (BK139.out)) NB139_0.out (by simp)); have n2_ := aM (KeepBut.blk hk (g' := gb142) (o := .cells #[.int .i64 x143000_4, u143001] 25 (0, 0)) (gB (BK142.out)) NB142_0.out (by simp)); have n3_ := aM (KeepBut.trans (kp2 HK GW139 GW142) hk (.inl rfl)); have n4_ := aM (hb); have n5_ := aM (hi); clear HO_143001; clear BK139; clear BK142; clear HK; clear HB; clear HI0; have HO_143001 := n0_; have BK139 := n1_; have BK142 := n2_; have HK := n3_; have HB := n4_; have HI0 := n5_; clear n0_ n1_ n2_ n3_ n4_ n5_; (try clear hb); (try clear hb2); (try clear hk); (try clear hi); have hnb78 := NB142_139.out; have hnc78 := NB139_142.out; have hnb79 := NB142_0.out; have hnc79 := NB0_142.out; have hcz80_0 : w77.cell? ⟨gb142, 0, none⟩ = some (.int .i64 x143000_4) := (blk_cell BK142.out 0).trans rfl; have hcz80_1 : w77.cell? ⟨gb142, 1, none⟩ = some (u143001) := (blk_cell BK142.out 1).trans rfl; have hfz80_0 := blk_frozen BK142.out 0; have hfz80_1 := blk_frozen BK142.out 1) | ((with_reducible refine gate_builtin (b := .append) (xs := #[.tmp 85, .tmp 87]) rfl ?_); at_builtin; refine Kd.R_append k79 w.heap.size rfl (.tmp 85) (.tmp 87) 23 79 (.agg #[(.int .i64 0), (.int .i64 0), (.int .i64 0)]) 24 rfl Tryd.underlying23 info79 rfl (by decide) (by omega) u143001 x143001_2 (⟨0, 0, 5⟩ : S79) [.int .i64 0, .int .i64 0, .int .i64 5] (fun _ => True) (fun _ => False) rfl rfl ?aP (fun _ hk => hk.elim) ?aF ?aO (Below.refl _ _) ?aS ?aL ?_; (case aP => exact k79_mkM _ _ _ (⟨0, 0, 5⟩ : S79)); (case aF => exact (fun _ _ => trivial)); (case aO => exact (gR (HO_143001.out))); (case aS => exact (keep_size (w := w) (g := g) (row := none) (kp2 HK GW139 GW142))); (case aL => have := LMc75.out; omega); intro v172 w81 ho hb hg hat; rw [← Ny171.out] at ho; have n0_ := aM (blk_grown (g := gb139) (o := .cells #[.int .i64 0, .slice none 0 0] 25 (0, 0)) (gB (BK139.out)) hg (Kd.R_ne HO_143001.out BK139.out (by decide))); have n1_ := aM (blk_grown (g := gb142) (o := .cells #[.int .i64 x143000_4, u143001] 25 (0, 0)) (gB (BK142.out)) hg (Kd.R_ne HO_143001.out BK142.out (by decide))); have n2_ := aM (IsS111.grown (by first | exact IsS111.like HI0.out (IsS111.k2 HI0 NB0_139 NB0_142) | (repeat (first | (with_reducible first | exact HI0.out | apply IsS111.alloc | apply IsS111.drewN | apply IsS111.drew | apply IsS111.set_1 | refine IsS111.far ?_ NB0_139.out _ | refine IsS111.far ?_ NB0_142.out _) | exact HI0.out))) hg (IsS111.own_ne HI0.out HO_143001.out (by decide))); have n3_ := aM (below_weaken (bl3 HB (aM (IsS111.ge HI0.out)) GE139 GE142) HL.out hb); have n4_ := aM (KeepBut.trans (kp2 HK GW139 GW142) (KeepBut.of_grown hg g) (Kd.R_base2 HO_143001.out)); have n5_ := aM (ho); clear BK139; clear BK142; clear HI0; clear HB; clear HK; clear HO_143001; have BK139 := n0_; have BK142 := n1_; have HI0 := n2_; have HB := n3_; have HK := n4_; have HO173 := n5_; clear n0_ n1_ n2_ n3_ n4_ n5_; clear ho hb hg hat; obtain ⟨Ao82, co82, eo82⟩ := Kd.R_slice HO173.out; subst eo82; have hcz83_0 : w81.cell? ⟨gb142, 0, none⟩ = some (.int .i64 x143000_4) := (blk_cell BK142.out 0).trans rfl; have hcz83_1 : w81.cell? ⟨gb142, 1, none⟩ = some (u143001) := (blk_cell BK142.out 1).trans rfl; have hfz83_0 := blk_frozen BK142.out 0; have hfz83_1 := blk_frozen BK142.out 1; have hnb84 := NB139_0.out; have hnc84 := NB0_139.out; have hcz85_0 : w81.cell? ⟨gb139, 0, none⟩ = some (.int .i64 0) := (blk_cell BK139.out 0).trans rfl; have hcz85_1 : w81.cell? ⟨gb139, 1, none⟩ = some (.slice none 0 0) := (blk_cell BK139.out 1).trans rfl; have hfz85_0 := blk_frozen BK139.out 0; have hfz85_1 := blk_frozen BK139.out 1))
        refine bodyPost_ret (results_cell_row rfl _ _ gb139 25 #[.int .i64 x143000_4, .slice Ao82 y171.length co82] (0, 0) _ rfl (by (with_reducible repeat (first | refine blk_drewN ?_ _ | refine blk_drew ?_ | refine blk_alloc ?_ _)); refine blk_put (cs := #[.int .i64 x143000_4, .slice none 0 0]) ?_ 1 _ rfl; (with_reducible repeat (first | refine blk_drewN ?_ _ | refine blk_drew ?_ | refine blk_alloc ?_ _)); refine blk_put (cs := #[.int .i64 0, .slice none 0 0]) ?_ 0 _ rfl; (with_reducible repeat (first | refine blk_drewN ?_ _ | refine blk_drew ?_ | refine blk_alloc ?_ _)); refine blk_far ?_ NB139_142.out _; (with_reducible repeat (first | refine blk_drewN ?_ _ | refine blk_drew ?_ | refine blk_alloc ?_ _)); exact BK139.out) Tryd.underlying25 rfl (by kernel_rfl)) rfl ?_
        exact ⟨_, fR, by (with_reducible repeat (first | apply Kd.R_alloc | apply Kd.R_drewN | apply Kd.R_drew)); exact Kd.R_mono (Kd.R_far (p := ⟨gb139, 1, none⟩) (Kd.R_far (p := ⟨gb139, 0, none⟩) (Kd.R_far (p := ⟨gb142, 1, none⟩) (Kd.R_types (Kd.R_types HO173.out BK142.out (by decide)) BK139.out (by decide)) (fun _ hk => hk.1.2) (.slice Ao82 y171.length co82)) (fun _ hk => hk.2) (.int .i64 x143000_4)) (fun _ hk => hk.2) (.slice Ao82 y171.length co82)) (fun _ hk => trivial), IsS111.k2 HI0 NB0_139 NB0_142, bl3 HB (aM (IsS111.ge HI0.out)) GE139 GE142, kp2 HK GW139 GW142⟩
       rw [if_neg c74] at H
       have c74b0 : (t160 == 2) = false := beq_eq_false_iff_ne.mpr c74
       have c74b1 : (t160 != 2) = true := bne_iff_ne.mpr c74
       by_cases c86 : t160 = 3
       rotate_left
       ·
        rw [if_neg c86] at H
        have c86b0 : (t160 == 3) = false := beq_eq_false_iff_ne.mpr c86
        have c86b1 : (t160 != 3) = true := bne_iff_ne.mpr c86
        by_cases c109 : 11 ≤ 11728124029610
        rotate_left
        ·
         rw [if_neg c109] at H
         exact absurd H (by simp)
        rw [if_pos c109] at H
        have c109b0 := eq_true c109
        have c109b1 : decide (11 ≤ 11728124029610) = true := decide_eq_true c109
        clear c109
        obtain ⟨y183, hy183⟩ : ∃ y_ : List (S79), y_ = (List.replicate 11 z79) := ⟨_, rfl⟩
        replace H : (some (x143000_4, y183, t161)) = some (r1, r2, r3) := by first | (rw [hy183]; with_reducible exact H) | (have H2_ := (Option.bind_some _ _).symm.trans H; rw [hy183]; with_reducible exact H2_) | (have H2_ := (Option.bind_some _ _).symm.trans H; with_reducible exact H2_) | with_reducible exact H | (rw [hy183]; exact H) | exact H
        have Ny183 := Aside0.mk hy183
        clear hy183
        simp only [Option.some.injEq, Prod.mk.injEq] at H
        obtain ⟨rfl, rfl, rfl⟩ := H
        go_wp2_with (first | ((with_reducible refine gate_callee (f := 122) rfl ?_); refine goesL_ (some 59) rfl rfl Tryd.func122 (by kernel_rfl) rfl #[.pointer (some ⟨g, 0, none⟩), .int .i64 a1] rfl mP ?_; (with_reducible refine (spec_l20Rd_odd.calls kj20 g s0_0 x1001_2 a1 true t159 w0 _ ?side1 ?side2 A43.out).mono ?_); (case side1 => repeat (first | (with_reducible first | exact HI0.out | apply IsS111.alloc | apply IsS111.drewN | apply IsS111.drew | apply IsS111.set_1 | refine IsS111.far ?_ NB0_139.out _ | refine IsS111.far ?_ NB0_142.out _) | exact HI0.out)); (case side2 => repeat (first | (with_reducible first | exact HB.out | apply below_alloc | apply pw_below_drewN | apply below_drew1 | refine below_set ?_ (IsS111.ge HI0.out) | refine below_set ?_ GE139.out | refine below_set ?_ GE142.out) | exact HB.out)); rintro e w110 ⟨rfl, hi, hb, hk⟩; refine ⟨_, rfl, ?_⟩; have n0_ := aM (Kd.R_mono (Kd.R_keep (IsS111.apart (show IsS111 w0 _ g s0_0 x1001_2 from IsS111.k2 HI0 NB0_139 NB0_142) (gR (HO_143001.out)) (by decide)) hk (fun _ h => h.2)) (fun _ h => h.1)); have n1_ := aM (KeepBut.blk hk (g' := gb139) (o := .cells #[.int .i64 0, .slice none 0 0] 25 (0, 0)) (gB (BK139.out)) NB139_0.out (by simp)); have n2_ := aM (KeepBut.blk hk (g' := gb142) (o := .cells #[.int .i64 x143000_4, u143001] 25 (0, 0)) (gB (BK142.out)) NB142_0.out (by simp)); have n3_ := aM (KeepBut.trans (kp2 HK GW139 GW142) hk (.inl rfl)); have n4_ := aM (hb); have n5_ := aM (hi); clear HO_143001; clear BK139; clear BK142; clear HK; clear HB; clear HI0; have HO_143001 := n0_; have BK139 := n1_; have BK142 := n2_; have HK := n3_; have HB := n4_; have HI0 := n5_; clear n0_ n1_ n2_ n3_ n4_ n5_; (try clear hb); (try clear hb2); (try clear hk); (try clear hi)) | ((with_reducible refine gate_callee (f := 68) rfl ?_); refine goesL_ (some 61) rfl rfl Tryd.func68 (by kernel_rfl) rfl #[.pointer (some ⟨g, 0, none⟩), .int .i64 5] rfl mP ?_; (with_reducible refine (spec_l20Rd_pick.calls kj20 g s0_0 t159 5 t160 t161 w0 _ ?side1 ?side2 A45.out).mono ?_); (case side1 => repeat (first | (with_reducible first | exact HI0.out | apply IsS111.alloc | apply IsS111.drewN | apply IsS111.drew | apply IsS111.set_1 | refine IsS111.far ?_ NB0_139.out _ | refine IsS111.far ?_ NB0_142.out _) | exact HI0.out)); (case side2 => repeat (first | (with_reducible first | exact HB.out | apply below_alloc | apply pw_below_drewN | apply below_drew1 | refine below_set ?_ (IsS111.ge HI0.out) | refine below_set ?_ GE139.out | refine below_set ?_ GE142.out) | exact HB.out)); rintro e w111 ⟨rfl, hi, hb, hk⟩; refine ⟨_, rfl, ?_⟩; have n0_ := aM (Kd.R_mono (Kd.R_keep (IsS111.apart (show IsS111 w0 _ g s0_0 t159 from IsS111.k2 HI0 NB0_139 NB0_142) (gR (HO_143001.out)) (by decide)) hk (fun _ h => h.2)) (fun _ h => h.1)); have n1_ := aM (KeepBut.blk hk (g' := gb139) (o := .cells #[.int .i64 0, .slice none 0 0] 25 (0, 0)) (gB (BK139.out)) NB139_0.out (by simp)); have n2_ := aM (KeepBut.blk hk (g' := gb142) (o := .cells #[.int .i64 x143000_4, u143001] 25 (0, 0)) (gB (BK142.out)) NB142_0.out (by simp)); have n3_ := aM (KeepBut.trans (kp2 HK GW139 GW142) hk (.inl rfl)); have n4_ := aM (hb); have n5_ := aM (hi); clear HO_143001; clear BK139; clear BK142; clear HK; clear HB; clear HI0; have HO_143001 := n0_; have BK139 := n1_; have BK142 := n2_; have HK := n3_; have HB := n4_; have HI0 := n5_; clear n0_ n1_ n2_ n3_ n4_ n5_; (try clear hb); (try clear hb2); (try clear hk); (try clear hi)) | ((with_reducible refine gate_dst (N := 62) rfl ?_); refine Kd.R_make k79 _ 79 rfl (N := 62) rfl 23 _ _ rfl 11 rfl rfl Tryd.underlying23 (.agg #[(.int .i64 0), (.int .i64 0), (.int .i64 0)]) 24 info79 rfl (by decide) (by omega) z79 (ok := fun _ => True) (okp := fun _ => True) (k79_mkM _ _ _ z79 ) (fun _ hk => hk) trivial (by omega) (by omega) (Below.refl _ _) (Nat.le_refl _) ?_; intro v184 w112 ho113 hb hg_ hnew_; clear hg_ hnew_; (first | rw [← Ny183.out] at ho113 | (simp only [Int.reduceToNat] at ho113; rw [← Ny183.out] at ho113)); have n0_ := aM (Kd.R_elder' (gR (HO_143001.out)) (Kd.R_base ho113) hb); have n1_ := aM (Kd.R_lower (Kd.R_new' ho113 (Kd.R_lt (gR (HO_143001.out)))) (keep_size (w := w) (g := g) (row := none) (kp2 HK GW139 GW142))); have n2_ := aM (blk_below (g := gb139) (o := .cells #[.int .i64 0, .slice none 0 0] 25 (0, 0)) (gB (BK139.out)) hb); have n3_ := aM (blk_below (g := gb142) (o := .cells #[.int .i64 x143000_4, u143001] 25 (0, 0)) (gB (BK142.out)) hb); have n4_ := aM (IsS111.below (IsS111.k2 HI0 NB0_139 NB0_142) hb); have n5_ := aM (KeepBut.trans (kp2 HK GW139 GW142) (KeepBut.of_below hb g none) (.inl rfl)); have n6_ := aM (below_step (bl3 HB (aM (IsS111.ge HI0.out)) GE139 GE142) hb); clear HO_143001; clear BK139; clear BK142; clear HI0; clear HK; clear HB; have HO_143001 := n0_; have HO185 := n1_; have BK139 := n2_; have BK142 := n3_; have HI0 := n4_; have HK := n5_; have HB := n6_; clear n0_ n1_ n2_ n3_ n4_ n5_ n6_; clear hb ho113; obtain ⟨Ao114, co114, eo114⟩ := Kd.R_slice HO185.out; subst eo114; have hnb115 := NB142_139.out; have hnc115 := NB139_142.out; have hnb116 := NB142_0.out; have hnc116 := NB0_142.out; have hcz117_0 : w112.cell? ⟨gb142, 0, none⟩ = some (.int .i64 x143000_4) := (blk_cell BK142.out 0).trans rfl; have hcz117_1 : w112.cell? ⟨gb142, 1, none⟩ = some (u143001) := (blk_cell BK142.out 1).trans rfl; have hfz117_0 := blk_frozen BK142.out 0; have hfz117_1 := blk_frozen BK142.out 1; have hnb118 := NB139_0.out; have hnc118 := NB0_139.out; have hcz119_0 : w112.cell? ⟨gb139, 0, none⟩ = some (.int .i64 0) := (blk_cell BK139.out 0).trans rfl; have hcz119_1 : w112.cell? ⟨gb139, 1, none⟩ = some (.slice none 0 0) := (blk_cell BK139.out 1).trans rfl; have hfz119_0 := blk_frozen BK139.out 0; have hfz119_1 := blk_frozen BK139.out 1))
        refine bodyPost_ret (results_cell_row rfl _ _ gb139 25 #[.int .i64 x143000_4, .slice Ao114 y183.length co114] (0, 0) _ rfl (by (with_reducible repeat (first | refine blk_drewN ?_ _ | refine blk_drew ?_ | refine blk_alloc ?_ _)); refine blk_put (cs := #[.int .i64 x143000_4, .slice none 0 0]) ?_ 1 _ rfl; (with_reducible repeat (first | refine blk_drewN ?_ _ | refine blk_drew ?_ | refine blk_alloc ?_ _)); refine blk_put (cs := #[.int .i64 0, .slice none 0 0]) ?_ 0 _ rfl; (with_reducible repeat (first | refine blk_drewN ?_ _ | refine blk_drew ?_ | refine blk_alloc ?_ _)); refine blk_far ?_ NB139_142.out _; (with_reducible repeat (first | refine blk_drewN ?_ _ | refine blk_drew ?_ | refine blk_alloc ?_ _)); exact BK139.out) Tryd.underlying25 rfl (by kernel_rfl)) rfl ?_
        exact ⟨_, fR, by (with_reducible repeat (first | apply Kd.R_alloc | apply Kd.R_drewN | apply Kd.R_drew)); exact Kd.R_mono (Kd.R_far (p := ⟨gb139, 1, none⟩) (Kd.R_far (p := ⟨gb139, 0, none⟩) (Kd.R_far (p := ⟨gb142, 1, none⟩) (Kd.R_types (Kd.R_types HO185.out BK142.out (by decide)) BK139.out (by decide)) (fun _ hk => hk.1.2) (.slice Ao114 y183.length co114)) (fun _ hk => hk.2) (.int .i64 x143000_4)) (fun _ hk => hk.2) (.slice Ao114 y183.length co114)) (fun _ hk => trivial), IsS111.k2 HI0 NB0_139 NB0_142, bl3 HB (aM (IsS111.ge HI0.out)) GE139 GE142, kp2 HK GW139 GW142⟩
       rw [if_pos c86] at H
       have c86b0 : (t160 == 3) = true := beq_iff_eq.mpr c86
       have c86b1 : (t160 != 3) = false := bne_eq_false_iff_eq.mpr c86
       clear c86
       obtain ⟨y174, hy174⟩ : ∃ y_ : List Int, y_ = (([0, 1000] : List Int)) := ⟨_, rfl⟩
       replace H : ((spec_l20Rd_pick.f kj20 s0_0 t161 2).bind fun bt177 => (if 0 ≤ bt177.1 then (if bt177.1 < (y174.length : Int) then (if x143001_2.length < 5864062014805 then (some (x143000_4, (x143001_2 ++ [(⟨0, 1, rd y174 bt177.1⟩ : S79)]), bt177.2)) else (none)) else (none)) else (none))) = some (r1, r2, r3) := by first | (rw [hy174]; with_reducible exact H) | (have H2_ := (Option.bind_some _ _).symm.trans H; rw [hy174]; with_reducible exact H2_) | (have H2_ := (Option.bind_some _ _).symm.trans H; with_reducible exact H2_) | with_reducible exact H | (rw [hy174]; exact H) | exact H
       have Ny174 := Aside0.mk hy174
       clear hy174
       replace H := Option.bind_eq_some_iff.mp H
       obtain ⟨⟨t177, t178⟩, A870, H⟩ := H
       replace H : (if 0 ≤ t177 then (if t177 < (y174.length : Int) then (if x143001_2.length < 5864062014805 then (some (x143000_4, (x143001_2 ++ [(⟨0, 1, rd y174 t177⟩ : S79)]), t178)) else (none)) else (none)) else (none)) = some (r1, r2, r3) := H
       have A87 := Aside0.mk A870
       clear A870
       by_cases c88 : 0 ≤ t177
       rotate_left
       ·
        rw [if_neg c88] at H
        exact absurd H (by simp)
       rw [if_pos c88] at H
       have c88b0 : decide (0 ≤ t177) = true := decide_eq_true c88
       clear c88
       by_cases c89 : t177 < (y174.length : Int)
       rotate_left
       ·
        rw [if_neg c89] at H
        exact absurd H (by simp)
       rw [if_pos c89] at H
       have c89b0 : decide (t177 < (y174.length : Int)) = true := decide_eq_true c89
       clear c89
       by_cases c90 : x143001_2.length < 5864062014805
       rotate_left
       ·
        rw [if_neg c90] at H
        exact absurd H (by simp)
       rw [if_pos c90] at H
       have LMc90 := Aside0.mk c90
       clear c90
       obtain ⟨y180, hy180⟩ : ∃ y_ : List (S79), y_ = (x143001_2 ++ [(⟨0, 1, rd y174 t177⟩ : S79)]) := ⟨_, rfl⟩
       replace H : (some (x143000_4, y180, t178)) = some (r1, r2, r3) := by first | (rw [hy180]; with_reducible exact H) | (have H2_ := (Option.bind_some _ _).symm.trans H; rw [hy180]; with_reducible exact H2_) | (have H2_ := (Option.bind_some _ _).symm.trans H; with_reducible exact H2_) | with_reducible exact H | (rw [hy180]; exact H) | exact H
       have Ny180 := Aside0.mk hy180
       clear hy180
       simp only [Option.some.injEq, Prod.mk.injEq] at H
       obtain ⟨rfl, rfl, rfl⟩ := H
       try go_wp2_with (first | ((with_reducible refine gate_callee (f := 122) rfl ?_); refine goesL_ (some 59) rfl rfl Tryd.func122 (by kernel_rfl) rfl #[.pointer (some ⟨g, 0, none⟩), .int .i64 a1] rfl mP ?_; (with_reducible refine (spec_l20Rd_odd.calls kj20 g s0_0 x1001_2 a1 true t159 w0 _ ?side1 ?side2 A43.out).mono ?_); (case side1 => repeat (first | (with_reducible first | exact HI0.out | apply IsS111.alloc | apply IsS111.drewN | apply IsS111.drew | apply IsS111.set_1 | refine IsS111.far ?_ NB0_139.out _ | refine IsS111.far ?_ NB0_142.out _) | exact HI0.out)); (case side2 => repeat (first | (with_reducible first | exact HB.out | apply below_alloc | apply pw_below_drewN | apply below_drew1 | refine below_set ?_ (IsS111.ge HI0.out) | refine below_set ?_ GE139.out | refine below_set ?_ GE142.out) | exact HB.out)); rintro e w91 ⟨rfl, hi, hb, hk⟩; refine ⟨_, rfl, ?_⟩; have n0_ := aM (Kd.R_mono (Kd.R_keep (IsS111.apart (show IsS111 w0 _ g s0_0 x1001_2 from IsS111.k2 HI0 NB0_139 NB0_142) (gR (HO_143001.out)) (by decide)) hk (fun _ h => h.2)) (fun _ h => h.1)); have n1_ := aM (KeepBut.blk hk (g' := gb139) (o := .cells #[.int .i64 0, .slice none 0 0] 25 (0, 0)) (gB (BK139.out)) NB139_0.out (by simp)); have n2_ := aM (KeepBut.blk hk (g' := gb142) (o := .cells #[.int .i64 x143000_4, u143001] 25 (0, 0)) (gB (BK142.out)) NB142_0.out (by simp)); have n3_ := aM (KeepBut.trans (kp2 HK GW139 GW142) hk (.inl rfl)); have n4_ := aM (hb); have n5_ := aM (hi); clear HO_143001; clear BK139; clear BK142; clear HK; clear HB; clear HI0; have HO_143001 := n0_; have BK139 := n1_; have BK142 := n2_; have HK := n3_; have HB := n4_; have HI0 := n5_; clear n0_ n1_ n2_ n3_ n4_ n5_; (try clear hb); (try clear hb2); (try clear hk); (try clear hi)) | ((with_reducible refine gate_callee (f := 68) rfl ?_); refine goesL_ (some 61) rfl rfl Tryd.func68 (by kernel_rfl) rfl #[.pointer (some ⟨g, 0, none⟩), .int .i64 5] rfl mP ?_; (with_reducible refine (spec_l20Rd_pick.calls kj20 g s0_0 t159 5 t160 t161 w0 _ ?side1 ?side2 A45.out).mono ?_); (case side1 => repeat (first | (with_reducible first | exact HI0.out | apply IsS111.alloc | apply IsS111.drewN | apply IsS111.drew | apply IsS111.set_1 | refine IsS111.far ?_ NB0_139.out _ | refine IsS111.far ?_ NB0_142.out _) | exact HI0.out)); (case side2 => repeat (first | (with_reducible first | exact HB.out | apply below_alloc | apply pw_below_drewN | apply below_drew1 | refine below_set ?_ (IsS111.ge HI0.out) | refine below_set ?_ GE139.out | refine below_set ?_ GE142.out) | exact HB.out)); rintro e w92 ⟨rfl, hi, hb, hk⟩; refine ⟨_, rfl, ?_⟩; have n0_ := aM (Kd.R_mono (Kd.R_keep (IsS111.apart (show IsS111 w0 _ g s0_0 t159 from IsS111.k2 HI0 NB0_139 NB0_142) (gR (HO_143001.out)) (by decide)) hk (fun _ h => h.2)) (fun _ h => h.1)); have n1_ := aM (KeepBut.blk hk (g' := gb139) (o := .cells #[.int .i64 0, .slice none 0 0] 25 (0, 0)) (gB (BK139.out)) NB139_0.out (by simp)); have n2_ := aM (KeepBut.blk hk (g' := gb142) (o := .cells #[.int .i64 x143000_4, u143001] 25 (0, 0)) (gB (BK142.out)) NB142_0.out (by simp)); have n3_ := aM (KeepBut.trans (kp2 HK GW139 GW142) hk (.inl rfl)); have n4_ := aM (hb); have n5_ := aM (hi); clear HO_143001; clear BK139; clear BK142; clear HK; clear HB; clear HI0; have HO_143001 := n0_; have BK139 := n1_; have BK142 := n2_; have HK := n3_; have HB := n4_; have HI0 := n5_; clear n0_ n1_ n2_ n3_ n4_ n5_; (try clear hb); (try clear hb2); (try clear hk); (try clear hi); obtain ⟨Ao93, co93, eo93⟩ := Kd.R_slice HO_143001.out; subst eo93))
       have pi179 : (0 ≤ (t177 : Int)) = True := eq_true (oD)
       have qi179 : (t177 < (y174.length : Int)) = True := eq_true (oD)
       have n0_ := aM (Kd.R_drew HO_143001.out)
       have n1_ := aM (blk_drew BK139.out)
       have n2_ := aM (blk_drew BK142.out)
       have n3_ := aM (IsS111.drew HI0.out)
       have n4_ := aM (keep_drew HK.out)
       have n5_ := aM (below_drew1 HB.out)
       clear HO_143001
       clear BK139
       clear BK142
       clear HI0
       clear HK
       clear HB
       have HO_143001 := n0_
       have BK139 := n1_
       have BK142 := n2_
       have HI0 := n3_
       have HK := n4_
       have HB := n5_
       clear n0_ n1_ n2_ n3_ n4_ n5_
       refine start_ (n := 12) (S := fun w' => w'.cell? ⟨gb142, 0, none⟩ = some (.int .i64 x143000_4) ∧ w'.cell? ⟨gb142, 1, none⟩ = some (.slice Ao93 x143001_2.length co93)) (ds := [11]) #[zz,zz,zz,zz,zz,zz,zz,zz,zz,zz,zz,zz] (by kernel_rfl) rfl rfl ⟨(blk_cell BK142.out 0).trans rfl, (blk_cell BK142.out 1).trans rfl⟩ (fun hHeld => ?_); refine with_tabW spec_l20Net.tab20 spec_l20Net.bits20 (fun HT_ HW_ => ?_)
       generalize w92.drew = w94 at HO_143001 BK139 BK142 HI0 HK HB hHeld ⊢
       refine pure_ (i := 0) (N := some 92) (v := ?_) (a' := ?_) #[oo,zz,zz,zz,zz,zz,zz,zz,zz,zz,zz,zz] rfl rfl (any_of HT_.out (by kernel_rfl)) (fun _ _ _ h => h) (Or.inl ⟨by rfl, ?_⟩) ?_ ?_
       rotate_left
       ·
        intro w'
        go_simp
        with_reducible rfl
       rotate_left
       ·
        simp only [Act.put, List.setIfInBounds_toArray, List.set_cons_zero, List.set_cons_succ, i64_w, i32_w]
        rfl
       refine pure_ (i := 3) (N := some 95) (v := ?_) (a' := ?_) #[oo,zz,zz,oo,zz,zz,zz,zz,zz,zz,zz,zz] rfl rfl (any_of HT_.out (by kernel_rfl)) (fun _ _ _ h => h) (Or.inl ⟨by rfl, ?_⟩) ?_ ?_
       rotate_left
       ·
        intro w'
        go_simp
        with_reducible rfl
       rotate_left
       ·
        simp only [Act.put, List.setIfInBounds_toArray, List.set_cons_zero, List.set_cons_succ, i64_w, i32_w]
        rfl
       refine take_ (i := 1) (N := some 93) (v := ?_) (a' := ?_) #[oo,oo,zz,oo,zz,zz,zz,zz,zz,zz,zz,zz] rfl rfl (take_ofW HT_.out HW_.out (by kernel_rfl)) (fun _ _ _ h => h) (Or.inl ⟨by rfl, ?_⟩) hHeld ?_ ?_
       rotate_left
       ·
        rintro w' ⟨s0, s1⟩
        go_simp
        with_reducible rfl
       rotate_left
       ·
        simp only [Act.put, List.setIfInBounds_toArray, List.set_cons_zero, List.set_cons_succ, i64_w, i32_w]
        rfl
       refine join_ (σ := Value × Addr) 7 #[oo,oo,oo,oo,oo,zz,zz,zz,zz,zz,zz,zz] (fun s_ => [(94, s_.1), (96, .int .i64 t177)]) (fun s_ w' => (w'.cell? ⟨gb142, 0, none⟩ = some (.int .i64 x143000_4) ∧ w'.cell? ⟨gb142, 1, none⟩ = some (.slice Ao93 x143001_2.length co93)) ∧ (Kd.R (Kd.int .i64) 3 w' w.heap.size (fun _ => True) s_.1 y174) ∧ (Kd.R k79 79 w' w.heap.size (fun _ => True) (.slice Ao93 x143001_2.length co93) x143001_2) ∧ (∃ c_, (s_.1 : Value) = .slice (some s_.2) y174.length c_) ∧ (w'.heap[gb139]? = some (.cells #[.int .i64 0, .slice none 0 0] 25 (0, 0))) ∧ (w'.heap[gb142]? = some (.cells #[.int .i64 x143000_4, .slice Ao93 x143001_2.length co93] 25 (0, 0))) ∧ (IsS111 w0 w' g s0_0 t178) ∧ (KeepBut w w' g none) ∧ (Below w0.heap.size w0 w')) ?_ ?_
       rotate_left
       ·
        intro hCont
        refine two_ (i := 2) (j := 4) (Ni := some 94) (Nj := some 96) #[oo,oo,oo,oo,zz,zz,zz,zz,zz,zz,zz,zz] #[oo,oo,zz,oo,oo,zz,zz,zz,zz,zz,zz,zz] rfl rfl rfl rfl (two_of HT_.out (by kernel_rfl)) (by decide) (by decide) (fun K hK => ?_) (fun K hK => ?_)
        rotate_left
        ·
         skip
         refine goes_ Tryd.func68 (by kernel_rfl) rfl #[.pointer (some ⟨g, 0, none⟩), .int .i64 2] (by rfl) rfl rfl mP ?_
         with_reducible refine (spec_l20Rd_pick.calls kj20 g s0_0 t161 2 t177 t178 w0 _ ?side1 ?side2 A87.out).mono ?_
         (case side1 => repeat (first | (with_reducible first | exact HI0.out | apply IsS111.alloc | apply IsS111.drewN | apply IsS111.drew | apply IsS111.set_1 | refine IsS111.far ?_ NB0_139.out _ | refine IsS111.far ?_ NB0_142.out _) | exact HI0.out))
         (case side2 => repeat (first | (with_reducible first | exact HB.out | apply below_alloc | apply pw_below_drewN | apply below_drew1 | refine below_set ?_ (IsS111.ge HI0.out) | refine below_set ?_ GE139.out | refine below_set ?_ GE142.out) | exact HB.out))
         rintro e w95 ⟨rfl, hi, hb, hk⟩
         refine ⟨_, rfl, ?_⟩
         have n0_ := aM (Kd.R_mono (Kd.R_keep (IsS111.apart (show IsS111 w0 _ g s0_0 t161 from IsS111.k2 HI0 NB0_139 NB0_142) (gR (HO_143001.out)) (by decide)) hk (fun _ h => h.2)) (fun _ h => h.1))
         have n1_ := aM (KeepBut.blk hk (g' := gb139) (o := .cells #[.int .i64 0, .slice none 0 0] 25 (0, 0)) (gB (BK139.out)) NB139_0.out (by simp))
         have n2_ := aM (KeepBut.blk hk (g' := gb142) (o := .cells #[.int .i64 x143000_4, .slice Ao93 x143001_2.length co93] 25 (0, 0)) (gB (BK142.out)) NB142_0.out (by simp))
         have n3_ := aM (KeepBut.trans (kp2 HK GW139 GW142) hk (.inl rfl))
         have n4_ := aM (hb)
         have n5_ := aM (hi)
         clear HO_143001
         clear BK139
         clear BK142
         clear HK
         clear HB
         clear HI0
         have HO_143001 := n0_
         have BK139 := n1_
         have BK142 := n2_
         have HK := n3_
         have HB := n4_
         have HI0 := n5_
         clear n0_ n1_ n2_ n3_ n4_ n5_
         (try clear hb)
         (try clear hb2)
         (try clear hk)
         (try clear hi)
         refine hK.out _ _ ⟨(blk_cell BK142.out 0).trans rfl, (blk_cell BK142.out 1).trans rfl⟩ (fun hHeld => ?_)
         clear hK K
         refine norm_ (a' := ?_) ?_ ?_
         rotate_left
         ·
          show Act.put _ (some 96) _ = _
          simp only [Act.put, List.setIfInBounds_toArray, List.set_cons_zero, List.set_cons_succ, i64_w, i32_w]
          rfl
         refine one_ (i := 2) (N := some 94) #[oo,oo,oo,oo,oo,zz,zz,zz,zz,zz,zz,zz] rfl rfl (one_of HT_.out (by kernel_rfl)) (by decide) (fun K hK => ?_)
         refine Kd.R_lit_step (Kd.int .i64) _ 3 ?hg (N := 94) ?hd (xs := ([0, 1000] : List Int)) (inner := [.int .i64 0, .int .i64 1000]) (ok := fun _ => True) (okp := fun _ => True) ?hr ?hp (fun _ hk => hk) trivial (Below.refl _ _) (Nat.le_refl _) (by simp) ?_; (case hd => rfl); (case hg => rfl); (case hr => exact hR); (case hp => exact (Reps.one (show Kd.M (Kd.int .i64) _ _ _ 0 [.int .i64 0] from rfl) (Reps.one (show Kd.M (Kd.int .i64) _ _ _ 1000 [.int .i64 1000] from rfl) (Reps.none _ _))))
         intro v175 w96 ho97 hb hg_ hnew_
         clear hg_ hnew_
         (first | rw [← Ny174.out] at ho97 | (simp only [Int.reduceToNat] at ho97; rw [← Ny174.out] at ho97))
         have n0_ := aM (Kd.R_below (gR (HO_143001.out)) hb)
         have n1_ := aM (Kd.R_lower ho97 (keep_size (w := w) (g := g) (row := none) (kp2 HK GW139 GW142)))
         have n2_ := aM (blk_below (g := gb139) (o := .cells #[.int .i64 0, .slice none 0 0] 25 (0, 0)) (gB (BK139.out)) hb)
         have n3_ := aM (blk_below (g := gb142) (o := .cells #[.int .i64 x143000_4, .slice Ao93 x143001_2.length co93] 25 (0, 0)) (gB (BK142.out)) hb)
         have n4_ := aM (IsS111.below (IsS111.k2 HI0 NB0_139 NB0_142) hb)
         have n5_ := aM (KeepBut.trans (kp2 HK GW139 GW142) (KeepBut.of_below hb g none) (.inl rfl))
         have n6_ := aM (below_step (bl3 HB (aM (IsS111.ge HI0.out)) GE139 GE142) hb)
         clear HO_143001
         clear BK139
         clear BK142
         clear HI0
         clear HK
         clear HB
         have HO_143001 := n0_
         have HO176 := n1_
         have BK139 := n2_
         have BK142 := n3_
         have HI0 := n4_
         have HK := n5_
         have HB := n6_
         clear n0_ n1_ n2_ n3_ n4_ n5_ n6_
         clear hb ho97
         obtain ⟨Ao98, co98, eo98⟩ := Kd.R_slice HO176.out
         subst eo98
         obtain ⟨ado98, fo98, _⟩ := Kd.at_int (Kd.R_reads' HO176.out).2.2 0 (by decide) (by rw [Ny174.out]; simp)
         cases fo98
         refine hK.out _ _ ⟨(blk_cell BK142.out 0).trans rfl, (blk_cell BK142.out 1).trans rfl⟩ (fun hHeld => ?_)
         clear hK K
         refine norm_ (a' := ?_) ?_ ?_
         rotate_left
         ·
          show Act.put _ (some 94) _ = _
          simp only [Act.put, List.setIfInBounds_toArray, List.set_cons_zero, List.set_cons_succ, i64_w, i32_w]
          rfl
         exact norm_ (by simp only [putAll, Act.put, List.setIfInBounds_toArray, List.set_cons_zero, List.set_cons_succ]) (hCont (.slice (some ado98) y174.length co98, ado98) _ ⟨hHeld, (gR (HO176.out)), (gR (HO_143001.out)), ⟨_, rfl⟩, (gB (BK139.out)), (gB (BK142.out)), (IsS111.k2 HI0 NB0_139 NB0_142), (kp2 HK GW139 GW142), (bl3 HB (aM (IsS111.ge HI0.out)) GE139 GE142)⟩)
        skip
        refine Kd.R_lit_step (Kd.int .i64) _ 3 ?hg (N := 94) ?hd (xs := ([0, 1000] : List Int)) (inner := [.int .i64 0, .int .i64 1000]) (ok := fun _ => True) (okp := fun _ => True) ?hr ?hp (fun _ hk => hk) trivial (Below.refl _ _) (Nat.le_refl _) (by simp) ?_; (case hd => rfl); (case hg => rfl); (case hr => exact hR); (case hp => exact (Reps.one (show Kd.M (Kd.int .i64) _ _ _ 0 [.int .i64 0] from rfl) (Reps.one (show Kd.M (Kd.int .i64) _ _ _ 1000 [.int .i64 1000] from rfl) (Reps.none _ _))))
        intro v175 w95 ho96 hb hg_ hnew_
        clear hg_ hnew_
        (first | rw [← Ny174.out] at ho96 | (simp only [Int.reduceToNat] at ho96; rw [← Ny174.out] at ho96))
        have n0_ := aM (Kd.R_below (gR (HO_143001.out)) hb)
        have n1_ := aM (Kd.R_lower ho96 (keep_size (w := w) (g := g) (row := none) (kp2 HK GW139 GW142)))
        have n2_ := aM (blk_below (g := gb139) (o := .cells #[.int .i64 0, .slice none 0 0] 25 (0, 0)) (gB (BK139.out)) hb)
        have n3_ := aM (blk_below (g := gb142) (o := .cells #[.int .i64 x143000_4, .slice Ao93 x143001_2.length co93] 25 (0, 0)) (gB (BK142.out)) hb)
        have n4_ := aM (IsS111.below (IsS111.k2 HI0 NB0_139 NB0_142) hb)
        have n5_ := aM (KeepBut.trans (kp2 HK GW139 GW142) (KeepBut.of_below hb g none) (.inl rfl))
        have n6_ := aM (below_step (bl3 HB (aM (IsS111.ge HI0.out)) GE139 GE142) hb)
        clear HO_143001
        clear BK139
        clear BK142
        clear HI0
        clear HK
        clear HB
        have HO_143001 := n0_
        have HO176 := n1_
        have BK139 := n2_
        have BK142 := n3_
        have HI0 := n4_
        have HK := n5_
        have HB := n6_
        clear n0_ n1_ n2_ n3_ n4_ n5_ n6_
        clear hb ho96
        obtain ⟨Ao97, co97, eo97⟩ := Kd.R_slice HO176.out
        subst eo97
        obtain ⟨ado97, fo97, _⟩ := Kd.at_int (Kd.R_reads' HO176.out).2.2 0 (by decide) (by rw [Ny174.out]; simp)
        cases fo97
        refine hK.out _ _ ⟨(blk_cell BK142.out 0).trans rfl, (blk_cell BK142.out 1).trans rfl⟩ (fun hHeld => ?_)
        clear hK K
        refine norm_ (a' := ?_) ?_ ?_
        rotate_left
        ·
         show Act.put _ (some 94) _ = _
         simp only [Act.put, List.setIfInBounds_toArray, List.set_cons_zero, List.set_cons_succ, i64_w, i32_w]
         rfl
        refine one_ (i := 4) (N := some 96) #[oo,oo,oo,oo,oo,zz,zz,zz,zz,zz,zz,zz] rfl rfl (one_of HT_.out (by kernel_rfl)) (by decide) (fun K hK => ?_)
        refine goes_ Tryd.func68 (by kernel_rfl) rfl #[.pointer (some ⟨g, 0, none⟩), .int .i64 2] (by rfl) rfl rfl mP ?_
        with_reducible refine (spec_l20Rd_pick.calls kj20 g s0_0 t161 2 t177 t178 w0 _ ?side1 ?side2 A87.out).mono ?_
        (case side1 => repeat (first | (with_reducible first | exact HI0.out | apply IsS111.alloc | apply IsS111.drewN | apply IsS111.drew | apply IsS111.set_1 | refine IsS111.far ?_ NB0_139.out _ | refine IsS111.far ?_ NB0_142.out _) | exact HI0.out))
        (case side2 => repeat (first | (with_reducible first | exact HB.out | apply below_alloc | apply pw_below_drewN | apply below_drew1 | refine below_set ?_ (IsS111.ge HI0.out) | refine below_set ?_ GE139.out | refine below_set ?_ GE142.out) | exact HB.out))
        rintro e w98 ⟨rfl, hi, hb, hk⟩
        refine ⟨_, rfl, ?_⟩
        have n0_ := aM (Kd.R_mono (Kd.R_keep (IsS111.apart (show IsS111 w0 _ g s0_0 t161 from IsS111.k2 HI0 NB0_139 NB0_142) (gR (HO_143001.out)) (by decide)) hk (fun _ h => h.2)) (fun _ h => h.1))
        have n1_ := aM (KeepBut.blk hk (g' := gb139) (o := .cells #[.int .i64 0, .slice none 0 0] 25 (0, 0)) (gB (BK139.out)) NB139_0.out (by simp))
        have n2_ := aM (KeepBut.blk hk (g' := gb142) (o := .cells #[.int .i64 x143000_4, .slice Ao93 x143001_2.length co93] 25 (0, 0)) (gB (BK142.out)) NB142_0.out (by simp))
        have n3_ := aM (Kd.R_mono (Kd.R_keep (IsS111.apart (show IsS111 w0 _ g s0_0 t161 from IsS111.k2 HI0 NB0_139 NB0_142) (gR (HO176.out)) (by decide)) hk (fun _ h => h.2)) (fun _ h => h.1))
        have n4_ := aM (KeepBut.trans (kp2 HK GW139 GW142) hk (.inl rfl))
        have n5_ := aM (hb)
        have n6_ := aM (hi)
        clear HO_143001
        clear BK139
        clear BK142
        clear HO176
        clear HK
        clear HB
        clear HI0
        have HO_143001 := n0_
        have BK139 := n1_
        have BK142 := n2_
        have HO176 := n3_
        have HK := n4_
        have HB := n5_
        have HI0 := n6_
        clear n0_ n1_ n2_ n3_ n4_ n5_ n6_
        (try clear hb)
        (try clear hb2)
        (try clear hk)
        (try clear hi)
        refine hK.out _ _ ⟨(blk_cell BK142.out 0).trans rfl, (blk_cell BK142.out 1).trans rfl⟩ (fun hHeld => ?_)
        clear hK K
        refine norm_ (a' := ?_) ?_ ?_
        rotate_left
        ·
         show Act.put _ (some 96) _ = _
         simp only [Act.put, List.setIfInBounds_toArray, List.set_cons_zero, List.set_cons_succ, i64_w, i32_w]
         rfl
        exact norm_ (by simp only [putAll, Act.put, List.setIfInBounds_toArray, List.set_cons_zero, List.set_cons_succ]) (hCont (.slice (some ado97) y174.length co97, ado97) _ ⟨hHeld, (gR (HO176.out)), (gR (HO_143001.out)), ⟨_, rfl⟩, (gB (BK139.out)), (gB (BK142.out)), (IsS111.k2 HI0 NB0_139 NB0_142), (kp2 HK GW139 GW142), (bl3 HB (aM (IsS111.ge HI0.out)) GE139 GE142)⟩)
       rintro ⟨v175, adz_v175⟩ w99 ⟨hS_, h0_, h1_, h2_, h3_, h4_, h5_, h6_, h7_⟩
       have n0_ : Aside0 (Kd.R (Kd.int .i64) 3 w99 w.heap.size (fun _ => True) v175 y174) := ⟨h0_⟩
       have n1_ : Aside0 (Kd.R k79 79 w99 w.heap.size (fun _ => True) (.slice Ao93 x143001_2.length co93) x143001_2) := ⟨h1_⟩
       have n2_ : Aside0 (∃ c_, (v175 : Value) = .slice (some adz_v175) y174.length c_) := ⟨h2_⟩
       have n3_ : Aside0 (w99.heap[gb139]? = some (.cells #[.int .i64 0, .slice none 0 0] 25 (0, 0))) := ⟨h3_⟩
       have n4_ : Aside0 (w99.heap[gb142]? = some (.cells #[.int .i64 x143000_4, .slice Ao93 x143001_2.length co93] 25 (0, 0))) := ⟨h4_⟩
       have n5_ : Aside0 (IsS111 w0 w99 g s0_0 t178) := ⟨h5_⟩
       have n6_ : Aside0 (KeepBut w w99 g none) := ⟨h6_⟩
       have n7_ : Aside0 (Below w0.heap.size w0 w99) := ⟨h7_⟩
       clear HO_143001
       clear BK139
       clear BK142
       clear HI0
       clear HK
       clear HB
       clear h0_ h1_ h2_ h3_ h4_ h5_ h6_ h7_
       have HO176 := n0_
       have HO_143001 := n1_
       have HA_HO176 := n2_
       have BK139 := n3_
       have BK142 := n4_
       have HI0 := n5_
       have HK := n6_
       have HB := n7_
       clear n0_ n1_ n2_ n3_ n4_ n5_ n6_ n7_
       have hHeld : w99.cell? ⟨gb142, 0, none⟩ = some (.int .i64 x143000_4) ∧ w99.cell? ⟨gb142, 1, none⟩ = some (.slice Ao93 x143001_2.length co93) := hS_
       obtain ⟨co100, eo100⟩ := HA_HO176.out
       clear HA_HO176
       subst eo100
       refine norm_ (a' := ?_) ?_ ?_
       rotate_left
       ·
        simp only [putAll, Act.put, List.setIfInBounds_toArray, List.set_cons_zero, List.set_cons_succ]
        rfl
       refine pure_ (i := 5) (N := some 97) (v := ?_) (a' := ?_) #[oo,oo,oo,oo,oo,oo,zz,zz,zz,zz,zz,zz] rfl rfl (any_of HT_.out (by kernel_rfl)) (fun _ _ _ h => h) (Or.inl ⟨by rfl, ?_⟩) ?_ ?_
       rotate_left
       ·
        intro w'
        go_simp
        with_reducible rfl
       rotate_left
       ·
        simp only [Act.put, List.setIfInBounds_toArray, List.set_cons_zero, List.set_cons_succ, i64_w, i32_w]
        rfl
       refine one_ (i := 6) (N := some 98) #[oo,oo,oo,oo,oo,oo,oo,zz,zz,zz,zz,zz] rfl rfl (one_of HT_.out (by kernel_rfl)) (by decide) (fun K hK => ?_)
       (have p179 : 0 ≤ (t177 : Int) := oD; have q179 : t177 < (y174.length : Int) := oD; obtain ⟨ad179, e179, hx179_0⟩ := Kd.at_int (Kd.R_reads' HO176.out).2.2 t177 p179 q179; obtain rfl : adz_v175 = ad179 := (by injection e179))
       refine value_ (w1 := ?_) (v := ?_) (by rfl) rfl ?_ ?_
       rotate_left 2
       ·
        go_simp
        constructor
        ·
         rfl
        rfl
       clear hx179_0
       refine hK.out _ _ ⟨(blk_cell BK142.out 0).trans rfl, (blk_cell BK142.out 1).trans rfl⟩ (fun hHeld => ?_)
       clear hK K
       refine norm_ (a' := ?_) ?_ ?_
       rotate_left
       ·
        show Act.put _ (some 98) _ = _
        simp only [Act.put, List.setIfInBounds_toArray, List.set_cons_zero, List.set_cons_succ, i64_w, i32_w]
        rfl
       refine pure_ (i := 7) (N := some 99) (v := ?_) (a' := ?_) #[oo,oo,oo,oo,oo,oo,oo,oo,zz,zz,zz,zz] rfl rfl (any_of HT_.out (by kernel_rfl)) (fun _ _ _ h => h) (Or.inl ⟨by rfl, ?_⟩) ?_ ?_
       rotate_left
       ·
        intro w'
        go_simp
        with_reducible rfl
       rotate_left
       ·
        simp only [Act.put, List.setIfInBounds_toArray, List.set_cons_zero, List.set_cons_succ, i64_w, i32_w]
        rfl
       refine one_ (i := 8) (N := some 100) #[oo,oo,oo,oo,oo,oo,oo,oo,oo,zz,zz,zz] rfl rfl (one_of HT_.out (by kernel_rfl)) (by decide) (fun K hK => ?_)
       refine value_ (w1 := ?_) (v := ?_) (by rfl) rfl ?_ ?_
       rotate_left 2
       ·
        go_simp
        constructor
        ·
         rfl
        rfl
       refine hK.out _ _ ⟨(blk_cell (blk_alloc BK142.out _) 0).trans rfl, (blk_cell (blk_alloc BK142.out _) 1).trans rfl⟩ (fun hHeld => ?_)
       clear hK K
       refine norm_ (a' := ?_) ?_ ?_
       rotate_left
       ·
        show Act.put _ (some 100) _ = _
        simp only [Act.put, List.setIfInBounds_toArray, List.set_cons_zero, List.set_cons_succ, i64_w, i32_w]
        rfl
       refine one_ (i := 9) (N := some 101) #[oo,oo,oo,oo,oo,oo,oo,oo,oo,oo,zz,zz] rfl rfl (one_of HT_.out (by kernel_rfl)) (by decide) (fun K hK => ?_)
       refine Kd.R_append_step k79 w.heap.size (by rfl) (.tmp 93) (.tmp 100) 23 79 (.agg #[(.int .i64 0), (.int .i64 0), (.int .i64 0)]) 24 rfl Tryd.underlying23 info79 rfl (by decide) (by omega) (.slice Ao93 x143001_2.length co93) x143001_2 (⟨0, 1, rd y174 t177⟩ : S79) [.int .i64 0, .int .i64 1, .int .i64 (rd y174 t177)] (fun _ => True) (fun _ => False) rfl rfl ?aP (fun _ hk => hk.elim) ?aF ?aO (Below.refl _ _) ?aS ?aL ?_
       (case aP => exact k79_mkM _ _ _ (⟨0, 1, rd y174 t177⟩ : S79))
       (case aF => exact (fun _ _ => trivial))
       (case aO => exact (gR (HO_143001.out)))
       (case aS => exact (keep_size (w := w) (g := g) (row := none) (kp2 HK GW139 GW142)))
       (case aL => have := LMc90.out; omega)
       intro v181 w101 ho hb hg hat
       rw [← Ny180.out] at ho
       have n0_ := aM (blk_grown (g := gb139) (o := .cells #[.int .i64 0, .slice none 0 0] 25 (0, 0)) (gB (BK139.out)) hg (Kd.R_ne HO_143001.out BK139.out (by decide)))
       have n1_ := aM (blk_grown (g := gb142) (o := .cells #[.int .i64 x143000_4, .slice Ao93 x143001_2.length co93] 25 (0, 0)) (gB (BK142.out)) hg (Kd.R_ne HO_143001.out BK142.out (by decide)))
       have n2_ := aM (IsS111.grown (by first | exact IsS111.like HI0.out (IsS111.k2 HI0 NB0_139 NB0_142) | (repeat (first | (with_reducible first | exact HI0.out | apply IsS111.alloc | apply IsS111.drewN | apply IsS111.drew | apply IsS111.set_1 | refine IsS111.far ?_ NB0_139.out _ | refine IsS111.far ?_ NB0_142.out _) | exact HI0.out))) hg (IsS111.own_ne HI0.out HO_143001.out (by decide)))
       have n3_ := aM (Kd.R_over' (gR (HO176.out)) (Kd.R_typed (gR (HO_143001.out))) (by decide) hg)
       have n4_ := aM (below_weaken (bl3 HB (aM (IsS111.ge HI0.out)) GE139 GE142) HL.out hb)
       have n5_ := aM (KeepBut.trans (kp2 HK GW139 GW142) (KeepBut.of_grown hg g) (Kd.R_base2 HO_143001.out))
       have n6_ := aM (ho)
       clear BK139
       clear BK142
       clear HI0
       clear HO176
       clear HB
       clear HK
       clear HO_143001
       have BK139 := n0_
       have BK142 := n1_
       have HI0 := n2_
       have HO176 := n3_
       have HB := n4_
       have HK := n5_
       have HO182 := n6_
       clear n0_ n1_ n2_ n3_ n4_ n5_ n6_
       clear ho hb hg hat
       obtain ⟨Ao102, co102, eo102⟩ := Kd.R_slice HO182.out
       (first | subst eo102 | (injection eo102 with f1_ f2_ f3_; have f4_ := f1_.symm; have f5_ := f3_.symm; clear f1_ f2_ f3_; subst f4_; subst f5_))
       refine hK.out _ _ ⟨(blk_cell BK142.out 0).trans rfl, (blk_cell BK142.out 1).trans rfl⟩ (fun hHeld => ?_)
       clear hK K
       refine norm_ (a' := ?_) ?_ ?_
       rotate_left
       ·
        show Act.put _ (some 101) _ = _
        simp only [Act.put, List.setIfInBounds_toArray, List.set_cons_zero, List.set_cons_succ, i64_w, i32_w]
        rfl
       refine pure_ (i := 10) (N := some 102) (v := ?_) (a' := ?_) #[oo,oo,oo,oo,oo,oo,oo,oo,oo,oo,oo,zz] rfl rfl (any_of HT_.out (by kernel_rfl)) (fun _ _ _ h => h) (Or.inl ⟨by rfl, ?_⟩) ?_ ?_
       rotate_left
       ·
        intro w'
        go_simp
        with_reducible rfl
       rotate_left
       ·
        simp only [Act.put, List.setIfInBounds_toArray, List.set_cons_zero, List.set_cons_succ, i64_w, i32_w]
        rfl
       refine last_ (i := 11) (N := none) #[oo,oo,oo,oo,oo,oo,oo,oo,oo,oo,oo,oo] rfl rfl (one_of HT_.out (by kernel_rfl)) (by decide) (fun K hK => ?_)
       have hs103 : w101.cell? ⟨gb142, 1, none⟩ = some (.slice Ao93 x143001_2.length co93) := (blk_cell BK142.out 1).trans rfl
       have hfs103 := blk_frozen BK142.out 1
       have hns103_0 := NB139_142.out
       have hms103_0 := NB142_139.out
       refine skip_ (w1 := ?_) (by rfl) rfl ?_ ?_
       rotate_left
       ·
        go_simp
        rfl
       refine hK.out _ _ ?_
       clear hK K
       refine done_ (done_of HT_.out (by kernel_rfl)) ?_
       have hnb104 := NB142_139.out
       have hnc104 := NB139_142.out
       have hnb105 := NB142_0.out
       have hnc105 := NB0_142.out
       have hcz106_0 : w101.cell? ⟨gb142, 0, none⟩ = some (.int .i64 x143000_4) := (blk_cell BK142.out 0).trans rfl
       have hcz106_1 : w101.cell? ⟨gb142, 1, none⟩ = some (.slice Ao93 x143001_2.length co93) := (blk_cell BK142.out 1).trans rfl
       have hfz106_0 := blk_frozen BK142.out 0
       have hfz106_1 := blk_frozen BK142.out 1
       have hnb107 := NB139_0.out
       have hnc107 := NB0_139.out
       have hcz108_0 : w101.cell? ⟨gb139, 0, none⟩ = some (.int .i64 0) := (blk_cell BK139.out 0).trans rfl
       have hcz108_1 : w101.cell? ⟨gb139, 1, none⟩ = some (.slice none 0 0) := (blk_cell BK139.out 1).trans rfl
       have hfz108_0 := blk_frozen BK139.out 0
       have hfz108_1 := blk_frozen BK139.out 1
       try go_wp2
       refine bodyPost_ret (results_cell_row rfl _ _ gb139 25 #[.int .i64 x143000_4, .slice Ao102 y180.length co102] (0, 0) _ rfl (by (with_reducible repeat (first | refine blk_drewN ?_ _ | refine blk_drew ?_ | refine blk_alloc ?_ _)); refine blk_put (cs := #[.int .i64 x143000_4, .slice none 0 0]) ?_ 1 _ rfl; (with_reducible repeat (first | refine blk_drewN ?_ _ | refine blk_drew ?_ | refine blk_alloc ?_ _)); refine blk_put (cs := #[.int .i64 0, .slice none 0 0]) ?_ 0 _ rfl; (with_reducible repeat (first | refine blk_drewN ?_ _ | refine blk_drew ?_ | refine blk_alloc ?_ _)); refine blk_far ?_ NB139_142.out _; (with_reducible repeat (first | refine blk_drewN ?_ _ | refine blk_drew ?_ | refine blk_alloc ?_ _)); exact BK139.out) Tryd.underlying25 rfl (by kernel_rfl)) rfl ?_
       exact ⟨_, fR, by (with_reducible repeat (first | apply Kd.R_alloc | apply Kd.R_drewN | apply Kd.R_drew)); exact Kd.R_mono (Kd.R_far (p := ⟨gb139, 1, none⟩) (Kd.R_far (p := ⟨gb139, 0, none⟩) (Kd.R_far (p := ⟨gb142, 1, none⟩) (Kd.R_types (Kd.R_types HO182.out BK142.out (by decide)) BK139.out (by decide)) (fun _ hk => hk.1.2) (.slice Ao102 y180.length co102)) (fun _ hk => hk.2) (.int .i64 x143000_4)) (fun _ hk => hk.2) (.slice Ao102 y180.length co102)) (fun _ hk => trivial), IsS111.k2 HI0 NB0_139 NB0_142, bl3 HB (aM (IsS111.ge HI0.out)) GE139 GE142, kp2 HK GW139 GW142⟩

end Go.Proofs.YtpgjgbjkfgbpaaaDoor.P

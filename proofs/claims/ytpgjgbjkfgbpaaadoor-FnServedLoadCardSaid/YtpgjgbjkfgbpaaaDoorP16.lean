/- Contracts of Go functions of this seat's translation, written by this repo's wip/mk.py: it calls the kit's print.py with contracts typed by hand in place of functions that it does not take. Not trusted: Lean checks it. -/
import Derived.Test.YtpgjgbjkfgbpaaaDoorP0
import Derived.Test.YtpgjgbjkfgbpaaaDoorP9
import Derived.Test.YtpgjgbjkfgbpaaaDoorP14
namespace Go.Proofs.YtpgjgbjkfgbpaaaDoor.P
open Go.RowKit Go.Proofs.YtpgjgbjkfgbpaaaDoorW.PrintWords Go.Proofs.YtpgjgbjkfgbpaaaDoorW.PrintLast Go.Proofs.YtpgjgbjkfgbpaaaDoorW.PrintMore
attribute [local go_sem] max2_int min2_int max_two min_two max_three min_three max_four min_four   -- for this text's walks alone
set_option linter.unusedVariables false
set_option linter.unusedSimpArgs false

/-! ### spec_DrawIslandFeed: function 14 -/
def spec_DrawIslandFeed.f (k : Nat) (l0 : List Int) : Option (Int × (List (S79)) × List Bool × (List (S33)) × Int) := (spec_l20Open.f l0).bind fun bt262 => ((spec_l20Powered.f k bt262.1 bt262.2 6).bind fun bt265 => ((spec_l20Rd_pick.f k bt262.1 bt265.2.2.2.2 (wrap64 (bt265.1 + 1))).bind fun bt277 => ((spec_l20Rd_pick.f k bt262.1 bt277.2 9).bind fun bt279 => (some (bt265.1, bt265.2.1, bt265.2.2.1, bt265.2.2.2.1, wrap64 (bt277.1 - (wrap64 (Int.tdiv bt279.1 8))))))))
theorem spec_DrawIslandFeed.mono : ∀ a0 k, LeO (spec_DrawIslandFeed.f k a0) (spec_DrawIslandFeed.f (k + 1) a0) := by
 intro a0 k
 unfold spec_DrawIslandFeed.f
 repeat' first
   | (with_reducible exact spec_l20Powered.mono _ _ _ _)
   | (with_reducible exact spec_l20Rd_pick.mono _ _ _ _)
   | (with_reducible exact LeO.refl _)
   | (with_reducible exact LeO.none _)
   | (with_reducible refine LeO.ite ?_ ?_)
   | (with_reducible refine LeO.bind ?_ (fun _ => ?_))
   | exact spec_l20Powered.mono _ _ _ _
   | exact spec_l20Rd_pick.mono _ _ _ _
   | exact LeO.none _
   | refine LeO.ite ?_ ?_
   | refine LeO.bind ?_ (fun _ => ?_)
def spec_DrawIslandFeed.T3 : Bool × List (List Nat × List Nat) := (true, [([], []), ([], []), ([], []), ([], []), ([], []), ([4], [4]), ([5], [5]), ([3, 6], [3, 6]), ([], []), ([8, 7], [8]), ([9], [9]), ([7, 10], [7, 10]), ([0, 9, 0], [0]), ([1, 12, 0, 1, 12], [1]), ([2, 13, 0, 1, 2, 12, 13], [2]), ([11, 14, 0, 1, 2, 3, 4, 5, 6, 7, 8, 9, 10, 11, 12, 13, 14], [11])])
def spec_DrawIslandFeed.B3 : List Nat := [0, 0, 0, 0, 0, 16, 48, 120, 0, 504, 1016, 2040, 1017, 5115, 13311, 32767]
theorem spec_DrawIslandFeed.tab3 : rtab .any (opsOf Tryd.f14 3) = spec_DrawIslandFeed.T3 := by kernel_rfl
theorem spec_DrawIslandFeed.bits3 : waitsOk spec_DrawIslandFeed.T3.2 spec_DrawIslandFeed.B3 = true := by kernel_rfl
set_option maxHeartbeats 8000000 in
set_option maxRecDepth 100000 in
theorem spec_DrawIslandFeed.calls (k : Nat) (A0 : Option Addr) (c0 : Nat) (l0 : List Int) (r1 : Int) (r2 : List (S79)) (r3 : List Bool) (r4 : List (S33)) (r5 : Int) (w : World) (hr0 : Kd.C (Kd.int .u8) w A0 l0.length l0) (hc0 : l0.length ≤ c0) (h : spec_DrawIslandFeed.f k l0 = some (r1, r2, r3, r4, r5)) :
  Calls Tryd.prog 14 #[.slice A0 l0.length c0] w fun e w' => ∃ v1_ v2_ v3_ : Value, e = .returned (.tuple #[.agg #[.int .i64 r1, v1_], v2_, v3_, .int .i64 r5]) ∧ Kd.R k79 79 w' w.heap.size (fun _ => True) v1_ r2 ∧ Kd.R Kd.bool 4 w' w.heap.size (fun _ => True) v2_ r3 ∧ Kd.R k33 33 w' w.heap.size (fun _ => True) v3_ r4 ∧ Below w.heap.size w w' := by
 have hu25 := Tryd.underlying25
 have HR0 := Aside0.mk hr0
 have HC0 := Aside0.mk hc0
 clear hr0 hc0
 have HB := aM (Below.refl w.heap.size w)
 have H : ((spec_l20Open.f l0).bind fun bt262 => ((spec_l20Powered.f k bt262.1 bt262.2 6).bind fun bt265 => ((spec_l20Rd_pick.f k bt262.1 bt265.2.2.2.2 (wrap64 (bt265.1 + 1))).bind fun bt277 => ((spec_l20Rd_pick.f k bt262.1 bt277.2 9).bind fun bt279 => (some (bt265.1, bt265.2.1, bt265.2.2.1, bt265.2.2.2.1, wrap64 (bt277.1 - (wrap64 (Int.tdiv bt279.1 8))))))))) = some (r1, r2, r3, r4, r5) := h
 clear h
 replace H := Option.bind_eq_some_iff.mp H
 obtain ⟨⟨t262, t263⟩, A20, H⟩ := H
 replace H : ((spec_l20Powered.f k t262 t263 6).bind fun bt265 => ((spec_l20Rd_pick.f k t262 bt265.2.2.2.2 (wrap64 (bt265.1 + 1))).bind fun bt277 => ((spec_l20Rd_pick.f k t262 bt277.2 9).bind fun bt279 => (some (bt265.1, bt265.2.1, bt265.2.2.1, bt265.2.2.2.1, wrap64 (bt277.1 - (wrap64 (Int.tdiv bt279.1 8)))))))) = some (r1, r2, r3, r4, r5) := H
 have A2 := Aside0.mk A20
 clear A20
 replace H := Option.bind_eq_some_iff.mp H
 obtain ⟨⟨t265, t266, t269, t272, t275⟩, A30, H⟩ := H
 replace H : ((spec_l20Rd_pick.f k t262 t275 (wrap64 (t265 + 1))).bind fun bt277 => ((spec_l20Rd_pick.f k t262 bt277.2 9).bind fun bt279 => (some (t265, t266, t269, t272, wrap64 (bt277.1 - (wrap64 (Int.tdiv bt279.1 8))))))) = some (r1, r2, r3, r4, r5) := H
 have A3 := Aside0.mk A30
 clear A30
 replace H := Option.bind_eq_some_iff.mp H
 obtain ⟨⟨t277, t278⟩, A40, H⟩ := H
 replace H : ((spec_l20Rd_pick.f k t262 t278 9).bind fun bt279 => (some (t265, t266, t269, t272, wrap64 (t277 - (wrap64 (Int.tdiv bt279.1 8)))))) = some (r1, r2, r3, r4, r5) := H
 have A4 := Aside0.mk A40
 clear A40
 replace H := Option.bind_eq_some_iff.mp H
 obtain ⟨⟨t279, t280⟩, A50, H⟩ := H
 replace H : (some (t265, t266, t269, t272, wrap64 (t277 - (wrap64 (Int.tdiv t279 8))))) = some (r1, r2, r3, r4, r5) := H
 have A5 := Aside0.mk A50
 clear A50
 simp only [Option.some.injEq, Prod.mk.injEq] at H
 obtain ⟨rfl, rfl, rfl, rfl, rfl⟩ := H
 go_enter Tryd.func14, Tryd.ntmps14
 try go_wp2_with (first | ((with_reducible refine gate_dst (N := 2) rfl ?_); refine box_event ?hg (N := 2) ?hd (cs := #[.int .i64 0, .slice none 0 0]) (t := 25) ?hr ?_; (case hd => rfl); (case hg => rfl); (case hr => exact hR); intro gb261 hg w6 hbox hb; have n0_ := aM (below_step (bl0 HB) hb); have n1_ := aM (hbox); have n2_ := aM ((by rw [hg]; exact (below_size (bl0 HB)) : w.heap.size ≤ gb261)); have n3_ := aM ((by rw [hg]; exact (below_size (bl0 HB)) : w.heap.size ≤ gb261)); clear HB; have HB := n0_; have BK261 := n1_; have GW261 := n2_; have GE261 := n3_; clear n0_ n1_ n2_ n3_; clear hb hbox hg) | ((with_reducible refine gate_callee (f := 66) rfl ?_); refine goesL_ (some 11) rfl rfl Tryd.func66 (by kernel_rfl) rfl #[.slice A0 l0.length c0] rfl mP ?_; (with_reducible refine (spec_l20Open.calls _ _ l0 t262 t263 w _ ?side1 ?side2 ?side3 A2.out).mono ?_); (case side1 => repeat (first | (with_reducible first | exact HB.out | apply below_alloc | apply pw_below_drewN | apply below_drew1 | refine below_set ?_ GE261.out) | exact HB.out)); (case side2 => exact HR0.out); (case side3 => exact HC0.out); rintro e w7 ⟨g264, rfl, hi, hb, hb2⟩; refine ⟨_, rfl, ?_⟩; have n0_ := aM (blk_below (g := gb261) (o := .cells #[.int .i64 0, .slice none 0 0] 25 (0, 0)) (gB (BK261.out)) hb2); have n1_ := aM (hb); have n2_ := aM (hi); have n3_ := aM (IsS111.ne_blk hi (blk_below (g := gb261) (o := .cells #[.int .i64 0, .slice none 0 0] 25 (0, 0)) (gB (BK261.out)) hb2) (by decide)); have n4_ := aM (Ne.symm (IsS111.ne_blk hi (blk_below (g := gb261) (o := .cells #[.int .i64 0, .slice none 0 0] 25 (0, 0)) (gB (BK261.out)) hb2) (by decide))); clear BK261; clear HB; have BK261 := n0_; have HB := n1_; have HI264 := n2_; have NB264_261 := n3_; have NB261_264 := n4_; clear n0_ n1_ n2_ n3_ n4_; (try clear hb); (try clear hb2); (try clear hk); (try clear hi)) | ((with_reducible refine gate_callee (f := 67) rfl ?_); refine goesL_ (some 14) rfl rfl Tryd.func67 (by kernel_rfl) rfl #[.pointer (some ⟨g264, 0, none⟩), .int .i64 6] rfl mP ?_; (with_reducible refine (spec_l20Powered.calls k g264 t262 t263 6 t265 t266 t269 t272 t275 w _ ?side1 ?side2 A3.out).mono ?_); (case side1 => repeat (first | (with_reducible first | exact HI264.out | apply IsS111.alloc | apply IsS111.drewN | apply IsS111.drew | apply IsS111.set_1 | refine IsS111.far ?_ NB264_261.out _) | exact HI264.out)); (case side2 => repeat (first | (with_reducible first | exact HB.out | apply below_alloc | apply pw_below_drewN | apply below_drew1 | refine below_set ?_ (IsS111.ge HI264.out) | refine below_set ?_ GE261.out) | exact HB.out)); rintro e w8 ⟨v267, v270, v273, rfl, ho0, ho1, ho2, hi, hb, hk⟩; refine ⟨_, rfl, ?_⟩; have n0_ := aM (KeepBut.blk hk (g' := gb261) (o := .cells #[.int .i64 0, .slice none 0 0] 25 (0, 0)) (gB (BK261.out)) NB261_264.out (by simp)); have n1_ := aM (Kd.R_lower ho0 (below_size (bl2 HB (aM (IsS111.ge HI264.out)) GE261))); have n2_ := aM (Kd.R_lower ho1 (below_size (bl2 HB (aM (IsS111.ge HI264.out)) GE261))); have n3_ := aM (Kd.R_lower ho2 (below_size (bl2 HB (aM (IsS111.ge HI264.out)) GE261))); have n4_ := aM (hb); have n5_ := aM (hi); clear BK261; clear HB; clear HI264; have BK261 := n0_; have HO268 := n1_; have HO271 := n2_; have HO274 := n3_; have HB := n4_; have HI264 := n5_; clear n0_ n1_ n2_ n3_ n4_ n5_; (try clear hb); (try clear hb2); (try clear hk); (try clear hi); (try clear ho0); (try clear ho1); (try clear ho2)) | ((with_reducible refine gate_dst (N := 7) rfl ?_); refine box_event ?hg (N := 7) ?hd (cs := #[.int .i64 0, .slice none 0 0]) (t := 25) ?hr ?_; (case hd => rfl); (case hg => rfl); (case hr => exact hR); intro gb276 hg w9 hbox hb; have n0_ := aM (Kd.R_below (gR (HO268.out)) hb); have n1_ := aM (Kd.R_below (gR (HO271.out)) hb); have n2_ := aM (Kd.R_below (gR (HO274.out)) hb); have n3_ := aM (blk_below (g := gb261) (o := .cells #[.int .i64 0, .slice none 0 0] 25 (0, 0)) (gB (BK261.out)) hb); have n4_ := aM (IsS111.below (IsS111.k1 HI264 NB264_261) hb); have n5_ := aM (below_step (bl2 HB (aM (IsS111.ge HI264.out)) GE261) hb); have n6_ := aM (hbox); have n7_ := aM ((by rw [hg]; exact (below_size (bl2 HB (aM (IsS111.ge HI264.out)) GE261)) : w.heap.size ≤ gb276)); have n8_ := aM ((by rw [hg]; exact (below_size (bl2 HB (aM (IsS111.ge HI264.out)) GE261)) : w.heap.size ≤ gb276)); have n9_ := aM ((by rw [hg]; exact Nat.ne_of_lt (blk_lt (g := gb261) (o := .cells #[.int .i64 0, .slice none 0 0] 25 (0, 0)) (gB (BK261.out))) : gb261 ≠ gb276)); have n10_ := aM ((by rw [hg]; exact Nat.ne_of_gt (blk_lt (g := gb261) (o := .cells #[.int .i64 0, .slice none 0 0] 25 (0, 0)) (gB (BK261.out))) : gb276 ≠ gb261)); have n11_ := aM ((by rw [hg]; exact Nat.ne_of_lt (IsS111.lt (show IsS111 w _ g264 t262 t275 from IsS111.k1 HI264 NB264_261)) : g264 ≠ gb276)); have n12_ := aM ((by rw [hg]; exact Nat.ne_of_gt (IsS111.lt (show IsS111 w _ g264 t262 t275 from IsS111.k1 HI264 NB264_261)) : gb276 ≠ g264)); clear HO268; clear HO271; clear HO274; clear BK261; clear HI264; clear HB; have HO268 := n0_; have HO271 := n1_; have HO274 := n2_; have BK261 := n3_; have HI264 := n4_; have HB := n5_; have BK276 := n6_; have GW276 := n7_; have GE276 := n8_; have NB261_276 := n9_; have NB276_261 := n10_; have NB264_276 := n11_; have NB276_264 := n12_; clear n0_ n1_ n2_ n3_ n4_ n5_ n6_ n7_ n8_ n9_ n10_ n11_ n12_; clear hb hbox hg; have hnb10 := NB276_261.out; have hnc10 := NB261_276.out; have hnb11 := NB276_264.out; have hnc11 := NB264_276.out; have hcz12_0 : w9.cell? ⟨gb276, 0, none⟩ = some (.int .i64 0) := (blk_cell BK276.out 0).trans rfl; have hcz12_1 : w9.cell? ⟨gb276, 1, none⟩ = some (.slice none 0 0) := (blk_cell BK276.out 1).trans rfl; have hfz12_0 := blk_frozen BK276.out 0; have hfz12_1 := blk_frozen BK276.out 1; obtain ⟨Ao13, co13, eo13⟩ := Kd.R_slice HO268.out; subst eo13))
 have n0_ : Aside0 (Kd.R k79 79 ((w9.setCell ⟨gb276, 0, none⟩ (.int .i64 t265)).setCell ⟨gb276, 1, none⟩ (.slice Ao13 t266.length co13)) w.heap.size (fun _ => True) (.slice Ao13 t266.length co13) t266) := ⟨by (with_reducible repeat (first | apply Kd.R_alloc | apply Kd.R_drewN | apply Kd.R_drew)); exact Kd.R_mono (Kd.R_far (p := ⟨gb276, 1, none⟩) (Kd.R_far (p := ⟨gb276, 0, none⟩) (Kd.R_types HO268.out BK276.out (by decide)) (fun _ hk => hk.2) (.int .i64 t265)) (fun _ hk => hk.2) (.slice Ao13 t266.length co13)) (fun _ hk => trivial)⟩
 have n1_ : Aside0 (Kd.R Kd.bool 4 ((w9.setCell ⟨gb276, 0, none⟩ (.int .i64 t265)).setCell ⟨gb276, 1, none⟩ (.slice Ao13 t266.length co13)) w.heap.size (fun _ => True) v270 t269) := ⟨by (with_reducible repeat (first | apply Kd.R_alloc | apply Kd.R_drewN | apply Kd.R_drew)); exact Kd.R_mono (Kd.R_far (p := ⟨gb276, 1, none⟩) (Kd.R_far (p := ⟨gb276, 0, none⟩) (Kd.R_types HO271.out BK276.out (by decide)) (fun _ hk => hk.2) (.int .i64 t265)) (fun _ hk => hk.2) (.slice Ao13 t266.length co13)) (fun _ hk => trivial)⟩
 have n2_ : Aside0 (Kd.R k33 33 ((w9.setCell ⟨gb276, 0, none⟩ (.int .i64 t265)).setCell ⟨gb276, 1, none⟩ (.slice Ao13 t266.length co13)) w.heap.size (fun _ => True) v273 t272) := ⟨by (with_reducible repeat (first | apply Kd.R_alloc | apply Kd.R_drewN | apply Kd.R_drew)); exact Kd.R_mono (Kd.R_far (p := ⟨gb276, 1, none⟩) (Kd.R_far (p := ⟨gb276, 0, none⟩) (Kd.R_types HO274.out BK276.out (by decide)) (fun _ hk => hk.2) (.int .i64 t265)) (fun _ hk => hk.2) (.slice Ao13 t266.length co13)) (fun _ hk => trivial)⟩
 have n3_ : Aside0 (((w9.setCell ⟨gb276, 0, none⟩ (.int .i64 t265)).setCell ⟨gb276, 1, none⟩ (.slice Ao13 t266.length co13)).heap[gb261]? = some (.cells #[.int .i64 0, .slice none 0 0] 25 (0, 0))) := ⟨by (with_reducible repeat (first | refine blk_drewN ?_ _ | refine blk_drew ?_ | refine blk_alloc ?_ _)); refine blk_far ?_ NB261_276.out _; (with_reducible repeat (first | refine blk_drewN ?_ _ | refine blk_drew ?_ | refine blk_alloc ?_ _)); refine blk_far ?_ NB261_276.out _; (with_reducible repeat (first | refine blk_drewN ?_ _ | refine blk_drew ?_ | refine blk_alloc ?_ _)); exact BK261.out⟩
 have n4_ : Aside0 (((w9.setCell ⟨gb276, 0, none⟩ (.int .i64 t265)).setCell ⟨gb276, 1, none⟩ (.slice Ao13 t266.length co13)).heap[gb276]? = some (.cells #[.int .i64 t265, .slice Ao13 t266.length co13] 25 (0, 0))) := ⟨by (with_reducible repeat (first | refine blk_drewN ?_ _ | refine blk_drew ?_ | refine blk_alloc ?_ _)); refine blk_put (cs := #[.int .i64 t265, .slice none 0 0]) ?_ 1 _ rfl; (with_reducible repeat (first | refine blk_drewN ?_ _ | refine blk_drew ?_ | refine blk_alloc ?_ _)); refine blk_put (cs := #[.int .i64 0, .slice none 0 0]) ?_ 0 _ rfl; (with_reducible repeat (first | refine blk_drewN ?_ _ | refine blk_drew ?_ | refine blk_alloc ?_ _)); exact BK276.out⟩
 have n5_ : Aside0 (IsS111 w ((w9.setCell ⟨gb276, 0, none⟩ (.int .i64 t265)).setCell ⟨gb276, 1, none⟩ (.slice Ao13 t266.length co13)) g264 t262 t275) := ⟨IsS111.k2 HI264 NB264_261 NB264_276⟩
 have n6_ : Aside0 (Below w.heap.size w ((w9.setCell ⟨gb276, 0, none⟩ (.int .i64 t265)).setCell ⟨gb276, 1, none⟩ (.slice Ao13 t266.length co13))) := ⟨bl3 HB (aM (IsS111.ge HI264.out)) GE261 GE276⟩
 (try clear HO268)
 (try clear HO271)
 (try clear HO274)
 (try clear BK261)
 (try clear BK276)
 (try clear HI264)
 (try clear HB)
 generalize ((w9.setCell ⟨gb276, 0, none⟩ (.int .i64 t265)).setCell ⟨gb276, 1, none⟩ (.slice Ao13 t266.length co13)) = w14 at n0_ n1_ n2_ n3_ n4_ n5_ n6_ ⊢
 have HO268 := n0_
 have HO271 := n1_
 have HO274 := n2_
 have BK261 := n3_
 have BK276 := n4_
 have HI264 := n5_
 have HB := n6_
 clear n0_ n1_ n2_ n3_ n4_ n5_ n6_
 have n0_ := aM (Kd.R_drew HO268.out)
 have n1_ := aM (Kd.R_drew HO271.out)
 have n2_ := aM (Kd.R_drew HO274.out)
 have n3_ := aM (blk_drew BK261.out)
 have n4_ := aM (blk_drew BK276.out)
 have n5_ := aM (IsS111.drew HI264.out)
 have n6_ := aM (below_drew1 HB.out)
 clear HO268
 clear HO271
 clear HO274
 clear BK261
 clear BK276
 clear HI264
 clear HB
 have HO268 := n0_
 have HO271 := n1_
 have HO274 := n2_
 have BK261 := n3_
 have BK276 := n4_
 have HI264 := n5_
 have HB := n6_
 clear n0_ n1_ n2_ n3_ n4_ n5_ n6_
 refine start_ (n := 16) (S := fun w' => w'.cell? ⟨gb276, 0, none⟩ = some (.int .i64 t265) ∧ w'.cell? ⟨gb276, 1, none⟩ = some (.slice Ao13 t266.length co13)) (ds := []) #[false, false, false, false, false, false, false, false, false, false, false, false, false, false, false, false] (by kernel_rfl) rfl rfl ⟨(blk_cell BK276.out 0).trans rfl, (blk_cell BK276.out 1).trans rfl⟩ (fun hHeld => ?_); refine with_tabW spec_DrawIslandFeed.tab3 spec_DrawIslandFeed.bits3 (fun HT_ HW_ => ?_)
 generalize w14.drew = w15 at HO268 HO271 HO274 BK261 BK276 HI264 HB hHeld ⊢
 refine pure_ (i := 1) (N := some 19) (v := ?_) (a' := ?_) #[false, true, false, false, false, false, false, false, false, false, false, false, false, false, false, false] rfl rfl (any_of HT_.out (by kernel_rfl)) (fun _ _ _ h => h) (Or.inl ⟨by rfl, ?_⟩) ?_ ?_
 rotate_left
 ·
  intro w'
  go_simp
  with_reducible rfl
 rotate_left
 ·
  simp only [Act.put, List.setIfInBounds_toArray, List.set_cons_zero, List.set_cons_succ, i64_w, i32_w]
  rfl
 refine pure_ (i := 2) (N := some 20) (v := ?_) (a' := ?_) #[false, true, true, false, false, false, false, false, false, false, false, false, false, false, false, false] rfl rfl (any_of HT_.out (by kernel_rfl)) (fun _ _ _ h => h) (Or.inl ⟨by rfl, ?_⟩) ?_ ?_
 rotate_left
 ·
  intro w'
  go_simp
  with_reducible rfl
 rotate_left
 ·
  simp only [Act.put, List.setIfInBounds_toArray, List.set_cons_zero, List.set_cons_succ, i64_w, i32_w]
  rfl
 refine pure_ (i := 3) (N := some 21) (v := ?_) (a' := ?_) #[false, true, true, true, false, false, false, false, false, false, false, false, false, false, false, false] rfl rfl (any_of HT_.out (by kernel_rfl)) (fun _ _ _ h => h) (Or.inl ⟨by rfl, ?_⟩) ?_ ?_
 rotate_left
 ·
  intro w'
  go_simp
  with_reducible rfl
 rotate_left
 ·
  simp only [Act.put, List.setIfInBounds_toArray, List.set_cons_zero, List.set_cons_succ, i64_w, i32_w]
  rfl
 refine pure_ (i := 4) (N := some 22) (v := ?_) (a' := ?_) #[false, true, true, true, true, false, false, false, false, false, false, false, false, false, false, false] rfl rfl (any_of HT_.out (by kernel_rfl)) (fun _ _ _ h => h) (Or.inl ⟨by rfl, ?_⟩) ?_ ?_
 rotate_left
 ·
  intro w'
  go_simp
  with_reducible rfl
 rotate_left
 ·
  simp only [Act.put, List.setIfInBounds_toArray, List.set_cons_zero, List.set_cons_succ, i64_w, i32_w]
  rfl
 refine pure_ (i := 8) (N := some 26) (v := ?_) (a' := ?_) #[false, true, true, true, true, false, false, false, true, false, false, false, false, false, false, false] rfl rfl (any_of HT_.out (by kernel_rfl)) (fun _ _ _ h => h) (Or.inl ⟨by rfl, ?_⟩) ?_ ?_
 rotate_left
 ·
  intro w'
  go_simp
  with_reducible rfl
 rotate_left
 ·
  simp only [Act.put, List.setIfInBounds_toArray, List.set_cons_zero, List.set_cons_succ, i64_w, i32_w]
  rfl
 refine take_ (i := 0) (N := some 18) (v := ?_) (a' := ?_) #[true, true, true, true, true, false, false, false, true, false, false, false, false, false, false, false] rfl rfl (take_ofW HT_.out HW_.out (by kernel_rfl)) (fun _ _ _ h => h) (Or.inl ⟨by rfl, ?_⟩) hHeld ?_ ?_
 rotate_left
 ·
  rintro w' ⟨s0, s1⟩
  go_simp
  with_reducible rfl
 rotate_left
 ·
  simp only [Act.put, List.setIfInBounds_toArray, List.set_cons_zero, List.set_cons_succ, i64_w, i32_w]
  rfl
 refine take_ (i := 5) (N := some 23) (v := ?_) (a' := ?_) #[true, true, true, true, true, true, false, false, true, false, false, false, false, false, false, false] rfl rfl (take_ofW HT_.out HW_.out (by kernel_rfl)) (fun _ _ _ h => h) (Or.inl ⟨by rfl, ?_⟩) hHeld ?_ ?_
 rotate_left
 ·
  rintro w' ⟨s0, s1⟩
  go_simp
  with_reducible rfl
 rotate_left
 ·
  simp only [Act.put, List.setIfInBounds_toArray, List.set_cons_zero, List.set_cons_succ, i64_w, i32_w]
  rfl
 refine pure_ (i := 6) (N := some 24) (v := ?_) (a' := ?_) #[true, true, true, true, true, true, true, false, true, false, false, false, false, false, false, false] rfl rfl (any_of HT_.out (by kernel_rfl)) (fun _ _ _ h => h) (Or.inl ⟨by rfl, ?_⟩) ?_ ?_
 rotate_left
 ·
  intro w'
  go_simp
  with_reducible rfl
 rotate_left
 ·
  simp only [Act.put, List.setIfInBounds_toArray, List.set_cons_zero, List.set_cons_succ, i64_w, i32_w]
  rfl
 refine one_ (i := 7) (N := some 25) #[true, true, true, true, true, true, true, true, true, false, false, false, false, false, false, false] rfl rfl (one_of HT_.out (by kernel_rfl)) (by decide) (fun K hK => ?_)
 refine goes_ Tryd.func68 (by kernel_rfl) rfl #[.pointer (some ⟨g264, 0, none⟩), .int .i64 (wrap64 (t265 + 1))] (by rfl) rfl rfl mP ?_
 with_reducible refine (spec_l20Rd_pick.calls k g264 t262 t275 (wrap64 (t265 + 1)) t277 t278 w _ ?side1 ?side2 A4.out).mono ?_
 (case side1 => repeat (first | (with_reducible first | exact HI264.out | apply IsS111.alloc | apply IsS111.drewN | apply IsS111.drew | apply IsS111.set_1 | refine IsS111.far ?_ NB264_261.out _ | refine IsS111.far ?_ NB264_276.out _) | exact HI264.out))
 (case side2 => repeat (first | (with_reducible first | exact HB.out | apply below_alloc | apply pw_below_drewN | apply below_drew1 | refine below_set ?_ (IsS111.ge HI264.out) | refine below_set ?_ GE261.out | refine below_set ?_ GE276.out) | exact HB.out))
 rintro e w16 ⟨rfl, hi, hb, hk⟩
 refine ⟨_, rfl, ?_⟩
 have n0_ := aM (KeepBut.blk hk (g' := gb261) (o := .cells #[.int .i64 0, .slice none 0 0] 25 (0, 0)) (gB (BK261.out)) NB261_264.out (by simp))
 have n1_ := aM (Kd.R_mono (Kd.R_keep (IsS111.apart (show IsS111 w _ g264 t262 t275 from IsS111.k2 HI264 NB264_261 NB264_276) (gR (HO268.out)) (by decide)) hk (fun _ h => h.2)) (fun _ h => h.1))
 have n2_ := aM (Kd.R_mono (Kd.R_keep (IsS111.apart (show IsS111 w _ g264 t262 t275 from IsS111.k2 HI264 NB264_261 NB264_276) (gR (HO271.out)) (by decide)) hk (fun _ h => h.2)) (fun _ h => h.1))
 have n3_ := aM (Kd.R_mono (Kd.R_keep (IsS111.apart (show IsS111 w _ g264 t262 t275 from IsS111.k2 HI264 NB264_261 NB264_276) (gR (HO274.out)) (by decide)) hk (fun _ h => h.2)) (fun _ h => h.1))
 have n4_ := aM (KeepBut.blk hk (g' := gb276) (o := .cells #[.int .i64 t265, .slice Ao13 t266.length co13] 25 (0, 0)) (gB (BK276.out)) NB276_264.out (by simp))
 have n5_ := aM (hb)
 have n6_ := aM (hi)
 clear BK261
 clear HO268
 clear HO271
 clear HO274
 clear BK276
 clear HB
 clear HI264
 have BK261 := n0_
 have HO268 := n1_
 have HO271 := n2_
 have HO274 := n3_
 have BK276 := n4_
 have HB := n5_
 have HI264 := n6_
 clear n0_ n1_ n2_ n3_ n4_ n5_ n6_
 (try clear hb)
 (try clear hb2)
 (try clear hk)
 (try clear hi)
 refine hK.out _ _ ⟨(blk_cell BK276.out 0).trans rfl, (blk_cell BK276.out 1).trans rfl⟩ (fun hHeld => ?_)
 clear hK K
 refine norm_ (a' := ?_) ?_ ?_
 rotate_left
 ·
  show Act.put _ (some 25) _ = _
  simp only [Act.put, List.setIfInBounds_toArray, List.set_cons_zero, List.set_cons_succ, i64_w, i32_w]
  rfl
 refine one_ (i := 9) (N := some 27) #[true, true, true, true, true, true, true, true, true, true, false, false, false, false, false, false] rfl rfl (one_of HT_.out (by kernel_rfl)) (by decide) (fun K hK => ?_)
 refine goes_ Tryd.func68 (by kernel_rfl) rfl #[.pointer (some ⟨g264, 0, none⟩), .int .i64 9] (by rfl) rfl rfl mP ?_
 with_reducible refine (spec_l20Rd_pick.calls k g264 t262 t278 9 t279 t280 w _ ?side1 ?side2 A5.out).mono ?_
 (case side1 => repeat (first | (with_reducible first | exact HI264.out | apply IsS111.alloc | apply IsS111.drewN | apply IsS111.drew | apply IsS111.set_1 | refine IsS111.far ?_ NB264_261.out _ | refine IsS111.far ?_ NB264_276.out _) | exact HI264.out))
 (case side2 => repeat (first | (with_reducible first | exact HB.out | apply below_alloc | apply pw_below_drewN | apply below_drew1 | refine below_set ?_ (IsS111.ge HI264.out) | refine below_set ?_ GE261.out | refine below_set ?_ GE276.out) | exact HB.out))
 rintro e w17 ⟨rfl, hi, hb, hk⟩
 refine ⟨_, rfl, ?_⟩
 have n0_ := aM (KeepBut.blk hk (g' := gb261) (o := .cells #[.int .i64 0, .slice none 0 0] 25 (0, 0)) (gB (BK261.out)) NB261_264.out (by simp))
 have n1_ := aM (Kd.R_mono (Kd.R_keep (IsS111.apart (show IsS111 w _ g264 t262 t278 from IsS111.k2 HI264 NB264_261 NB264_276) (gR (HO268.out)) (by decide)) hk (fun _ h => h.2)) (fun _ h => h.1))
 have n2_ := aM (Kd.R_mono (Kd.R_keep (IsS111.apart (show IsS111 w _ g264 t262 t278 from IsS111.k2 HI264 NB264_261 NB264_276) (gR (HO271.out)) (by decide)) hk (fun _ h => h.2)) (fun _ h => h.1))
 have n3_ := aM (Kd.R_mono (Kd.R_keep (IsS111.apart (show IsS111 w _ g264 t262 t278 from IsS111.k2 HI264 NB264_261 NB264_276) (gR (HO274.out)) (by decide)) hk (fun _ h => h.2)) (fun _ h => h.1))
 have n4_ := aM (KeepBut.blk hk (g' := gb276) (o := .cells #[.int .i64 t265, .slice Ao13 t266.length co13] 25 (0, 0)) (gB (BK276.out)) NB276_264.out (by simp))
 have n5_ := aM (hb)
 have n6_ := aM (hi)
 clear BK261
 clear HO268
 clear HO271
 clear HO274
 clear BK276
 clear HB
 clear HI264
 have BK261 := n0_
 have HO268 := n1_
 have HO271 := n2_
 have HO274 := n3_
 have BK276 := n4_
 have HB := n5_
 have HI264 := n6_
 clear n0_ n1_ n2_ n3_ n4_ n5_ n6_
 (try clear hb)
 (try clear hb2)
 (try clear hk)
 (try clear hi)
 refine hK.out _ _ ⟨(blk_cell BK276.out 0).trans rfl, (blk_cell BK276.out 1).trans rfl⟩ (fun hHeld => ?_)
 clear hK K
 refine norm_ (a' := ?_) ?_ ?_
 rotate_left
 ·
  show Act.put _ (some 27) _ = _
  simp only [Act.put, List.setIfInBounds_toArray, List.set_cons_zero, List.set_cons_succ, i64_w, i32_w]
  rfl
 refine pure_ (i := 10) (N := some 28) (v := ?_) (a' := ?_) #[true, true, true, true, true, true, true, true, true, true, true, false, false, false, false, false] rfl rfl (any_of HT_.out (by kernel_rfl)) (fun _ _ _ h => h) (Or.inl ⟨by rfl, ?_⟩) ?_ ?_
 rotate_left
 ·
  intro w'
  go_simp
  with_reducible rfl
 rotate_left
 ·
  simp only [Act.put, List.setIfInBounds_toArray, List.set_cons_zero, List.set_cons_succ, i64_w, i32_w]
  rfl
 refine pure_ (i := 11) (N := some 29) (v := ?_) (a' := ?_) #[true, true, true, true, true, true, true, true, true, true, true, true, false, false, false, false] rfl rfl (any_of HT_.out (by kernel_rfl)) (fun _ _ _ h => h) (Or.inl ⟨by rfl, ?_⟩) ?_ ?_
 rotate_left
 ·
  intro w'
  go_simp
  with_reducible rfl
 rotate_left
 ·
  simp only [Act.put, List.setIfInBounds_toArray, List.set_cons_zero, List.set_cons_succ, i64_w, i32_w]
  rfl
 refine one_ (i := 12) (N := none) #[true, true, true, true, true, true, true, true, true, true, true, true, true, false, false, false] rfl rfl (one_of HT_.out (by kernel_rfl)) (by decide) (fun K hK => ?_)
 have hs18 : w17.cell? ⟨gb261, 0, none⟩ = some (.int .i64 0) := (blk_cell BK261.out 0).trans rfl
 have hfs18 := blk_frozen BK261.out 0
 have hns18_1 := NB276_261.out
 have hms18_1 := NB261_276.out
 have hs19 : w17.cell? ⟨gb261, 1, none⟩ = some (.slice none 0 0) := (blk_cell BK261.out 1).trans rfl
 have hfs19 := blk_frozen BK261.out 1
 have hns19_1 := NB276_261.out
 have hms19_1 := NB261_276.out
 refine skip_ (w1 := ?_) (by rfl) rfl ?_ ?_
 rotate_left
 ·
  go_simp
  rfl
 refine hK.out _ _ ⟨((cell_far (p := ⟨gb261, _, none⟩) NB276_261.out _).trans (((cell_far (p := ⟨gb261, _, none⟩) NB276_261.out _).trans (hHeld.1)))), ((cell_far (p := ⟨gb261, _, none⟩) NB276_261.out _).trans (((cell_far (p := ⟨gb261, _, none⟩) NB276_261.out _).trans (hHeld.2))))⟩ (fun hHeld => ?_)
 clear hK K
 refine pure_ (i := 13) (N := some 3) (v := ?_) (a' := ?_) #[true, true, true, true, true, true, true, true, true, true, true, true, true, true, false, false] rfl rfl (any_of HT_.out (by kernel_rfl)) (fun _ _ _ h => h) (Or.inl ⟨by rfl, ?_⟩) ?_ ?_
 rotate_left
 ·
  intro w'
  go_simp
  with_reducible rfl
 rotate_left
 ·
  simp only [Act.put, List.setIfInBounds_toArray, List.set_cons_zero, List.set_cons_succ, i64_w, i32_w]
  rfl
 refine pure_ (i := 14) (N := some 4) (v := ?_) (a' := ?_) #[true, true, true, true, true, true, true, true, true, true, true, true, true, true, true, false] rfl rfl (any_of HT_.out (by kernel_rfl)) (fun _ _ _ h => h) (Or.inl ⟨by rfl, ?_⟩) ?_ ?_
 rotate_left
 ·
  intro w'
  go_simp
  with_reducible rfl
 rotate_left
 ·
  simp only [Act.put, List.setIfInBounds_toArray, List.set_cons_zero, List.set_cons_succ, i64_w, i32_w]
  rfl
 refine pure_ (i := 15) (N := some 5) (v := ?_) (a' := ?_) #[true, true, true, true, true, true, true, true, true, true, true, true, true, true, true, true] rfl rfl (any_of HT_.out (by kernel_rfl)) (fun _ _ _ h => h) (Or.inl ⟨by rfl, ?_⟩) ?_ ?_
 rotate_left
 ·
  intro w'
  go_simp
  with_reducible rfl
 rotate_left
 ·
  simp only [Act.put, List.setIfInBounds_toArray, List.set_cons_zero, List.set_cons_succ, i64_w, i32_w]
  rfl
 refine done_ (done_of HT_.out (by kernel_rfl)) ?_
 try go_wp2
 refine bodyPost_ret (results_list (rs := [.cell 2 25, .tmp 3, .tmp 4, .tmp 5]) rfl (by simp) (.cell gb261 25 #[.int .i64 t265, .slice Ao13 t266.length co13] (0, 0) _ rfl (by (with_reducible repeat (first | refine blk_drewN ?_ _ | refine blk_drew ?_ | refine blk_alloc ?_ _)); refine blk_put (cs := #[.int .i64 t265, .slice none 0 0]) ?_ 1 _ rfl; (with_reducible repeat (first | refine blk_drewN ?_ _ | refine blk_drew ?_ | refine blk_alloc ?_ _)); refine blk_put (cs := #[.int .i64 0, .slice none 0 0]) ?_ 0 _ rfl; (with_reducible repeat (first | refine blk_drewN ?_ _ | refine blk_drew ?_ | refine blk_alloc ?_ _)); exact BK261.out) Tryd.underlying25 rfl (by kernel_rfl) (.tmp (.tmp (.tmp .nil))))) rfl ?_
 exact ⟨_, _, _, fR, by (with_reducible repeat (first | apply Kd.R_alloc | apply Kd.R_drewN | apply Kd.R_drew)); exact Kd.R_mono (Kd.R_far (p := ⟨gb261, 1, none⟩) (Kd.R_far (p := ⟨gb261, 0, none⟩) (Kd.R_types HO268.out BK261.out (by decide)) (fun _ hk => hk.2) (.int .i64 t265)) (fun _ hk => hk.2) (.slice Ao13 t266.length co13)) (fun _ hk => trivial), by (with_reducible repeat (first | apply Kd.R_alloc | apply Kd.R_drewN | apply Kd.R_drew)); exact Kd.R_mono (Kd.R_far (p := ⟨gb261, 1, none⟩) (Kd.R_far (p := ⟨gb261, 0, none⟩) (Kd.R_types HO271.out BK261.out (by decide)) (fun _ hk => hk.2) (.int .i64 t265)) (fun _ hk => hk.2) (.slice Ao13 t266.length co13)) (fun _ hk => trivial), by (with_reducible repeat (first | apply Kd.R_alloc | apply Kd.R_drewN | apply Kd.R_drew)); exact Kd.R_mono (Kd.R_far (p := ⟨gb261, 1, none⟩) (Kd.R_far (p := ⟨gb261, 0, none⟩) (Kd.R_types HO274.out BK261.out (by decide)) (fun _ hk => hk.2) (.int .i64 t265)) (fun _ hk => hk.2) (.slice Ao13 t266.length co13)) (fun _ hk => trivial), bl3 HB (aM (IsS111.ge HI264.out)) GE261 GE276⟩

end Go.Proofs.YtpgjgbjkfgbpaaaDoor.P
namespace Go.Proofs.YtpgjgbjkfgbpaaaDoor.P
open Go.RowKit Go.Proofs.YtpgjgbjkfgbpaaaDoorW.PrintWords Go.Proofs.YtpgjgbjkfgbpaaaDoorW.PrintLast Go.Proofs.YtpgjgbjkfgbpaaaDoorW.PrintMore
attribute [local go_sem] max2_int min2_int max_two min_two max_three min_three max_four min_four   -- for this text's walks alone
set_option linter.unusedVariables false
set_option linter.unusedSimpArgs false

/-! ### impl_Net_hasBus: function 70 -/
def impl_Net_hasBus.f (a0_0 : Int) (l0_1 : List (S79)) (a1 : Int) : Option (Bool) := if a1 ≥ 0 then (some (decide (a1 < a0_0))) else (some false)
set_option maxHeartbeats 8000000 in
set_option maxRecDepth 100000 in
theorem impl_Net_hasBus.calls (a0_0 : Int) (A0_1 : Option Addr) (c0_1 : Nat) (l0_1 : List (S79)) (a1 : Int) (r : Bool) (w : World) (hr0_1 : Kd.C k79 w A0_1 l0_1.length l0_1) (hc0_1 : l0_1.length ≤ c0_1) (h : impl_Net_hasBus.f a0_0 l0_1 a1 = some r) :
  Calls Tryd.prog 70 #[.agg #[.int .i64 a0_0, .slice A0_1 l0_1.length c0_1], .int .i64 a1] w fun e w' => e = .returned (.bool r) ∧ Below w.heap.size w w' := by
 have hu25 := Tryd.underlying25
 have HR0_1 := Aside0.mk hr0_1
 have HC0_1 := Aside0.mk hc0_1
 clear hr0_1 hc0_1
 have HB := aM (Below.refl w.heap.size w)
 have H : (if a1 ≥ 0 then (some (decide (a1 < a0_0))) else (some false)) = some r := h
 clear h
 by_cases c3 : a1 ≥ 0
 rotate_left
 ·
  rw [if_neg c3] at H
  have c3b0 : decide (0 ≤ a1) = false := decide_eq_false c3
  clear c3
  obtain rfl := Option.some.inj H
  go_enter Tryd.func70, Tryd.ntmps70
  go_wp2_with (first | ((with_reducible refine gate_dst (N := 2) rfl ?_); refine box_event ?hg (N := 2) ?hd (cs := #[.int .i64 a0_0, .slice A0_1 l0_1.length c0_1]) (t := 25) ?hr ?_; (case hd => rfl); (case hg => rfl); (case hr => exact hR); intro gb281 hg w6 hbox hb; have n0_ := aM (below_step (bl0 HB) hb); have n1_ := aM (hbox); have n2_ := aM ((by rw [hg]; exact (below_size (bl0 HB)) : w.heap.size ≤ gb281)); have n3_ := aM ((by rw [hg]; exact (below_size (bl0 HB)) : w.heap.size ≤ gb281)); clear HB; have HB := n0_; have BK281 := n1_; have GW281 := n2_; have GE281 := n3_; clear n0_ n1_ n2_ n3_; clear hb hbox hg))
  go_ret
  exact ⟨fR, bl1 HB GE281⟩
 rw [if_pos c3] at H
 have c3b0 : decide (0 ≤ a1) = true := decide_eq_true c3
 clear c3
 obtain rfl := Option.some.inj H
 go_enter Tryd.func70, Tryd.ntmps70
 go_wp2_with (first | ((with_reducible refine gate_dst (N := 2) rfl ?_); refine box_event ?hg (N := 2) ?hd (cs := #[.int .i64 a0_0, .slice A0_1 l0_1.length c0_1]) (t := 25) ?hr ?_; (case hd => rfl); (case hg => rfl); (case hr => exact hR); intro gb281 hg w4 hbox hb; have n0_ := aM (below_step (bl0 HB) hb); have n1_ := aM (hbox); have n2_ := aM ((by rw [hg]; exact (below_size (bl0 HB)) : w.heap.size ≤ gb281)); have n3_ := aM ((by rw [hg]; exact (below_size (bl0 HB)) : w.heap.size ≤ gb281)); clear HB; have HB := n0_; have BK281 := n1_; have GW281 := n2_; have GE281 := n3_; clear n0_ n1_ n2_ n3_; clear hb hbox hg; have hcz5_0 : w4.cell? ⟨gb281, 0, none⟩ = some (.int .i64 a0_0) := (blk_cell BK281.out 0).trans rfl; have hcz5_1 : w4.cell? ⟨gb281, 1, none⟩ = some (.slice A0_1 l0_1.length c0_1) := (blk_cell BK281.out 1).trans rfl; have hfz5_0 := blk_frozen BK281.out 0; have hfz5_1 := blk_frozen BK281.out 1))
 go_ret
 exact ⟨fR, bl1 HB GE281⟩

end Go.Proofs.YtpgjgbjkfgbpaaaDoor.P

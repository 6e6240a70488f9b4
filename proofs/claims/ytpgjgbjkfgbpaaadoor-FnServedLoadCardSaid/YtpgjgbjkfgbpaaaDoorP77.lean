/- Contracts of Go functions of this seat's translation, written by this repo's wip/mk.py: it calls the kit's print.py with contracts typed by hand in place of functions that it does not take. Not trusted: Lean checks it. -/
import Derived.Test.YtpgjgbjkfgbpaaaDoorP0
import Derived.Test.YtpgjgbjkfgbpaaaDoorP9
import Derived.Test.YtpgjgbjkfgbpaaaDoorP14
import Derived.Test.YtpgjgbjkfgbpaaaDoorP23
import Derived.Test.YtpgjgbjkfgbpaaaDoorP21
namespace Go.Proofs.YtpgjgbjkfgbpaaaDoor.P
open Go.RowKit Go.Proofs.YtpgjgbjkfgbpaaaDoorW.PrintWords Go.Proofs.YtpgjgbjkfgbpaaaDoorW.PrintLast Go.Proofs.YtpgjgbjkfgbpaaaDoorW.PrintMore
attribute [local go_sem] max2_int min2_int max_two min_two max_three min_three max_four min_four   -- for this text's walks alone
set_option linter.unusedVariables false
set_option linter.unusedSimpArgs false

/-! ### spec_DrawServedLoad: function 42 -/
def spec_DrawServedLoad.f (k : Nat) (l0 : List Int) : Option (Int × (List (S79)) × List Bool × (List (S33))) := (spec_l20Open.f l0).bind fun bt725 => ((spec_l20Powered.f k bt725.1 bt725.2 6).bind fun bt728 => (some (bt728.1, bt728.2.1, bt728.2.2.1, bt728.2.2.2.1)))
theorem spec_DrawServedLoad.mono : ∀ a0 k, LeO (spec_DrawServedLoad.f k a0) (spec_DrawServedLoad.f (k + 1) a0) := by
 intro a0 k
 unfold spec_DrawServedLoad.f
 repeat' first
   | (with_reducible exact spec_l20Powered.mono _ _ _ _)
   | (with_reducible exact LeO.refl _)
   | (with_reducible exact LeO.none _)
   | (with_reducible refine LeO.ite ?_ ?_)
   | (with_reducible refine LeO.bind ?_ (fun _ => ?_))
   | exact spec_l20Powered.mono _ _ _ _
   | exact LeO.none _
   | refine LeO.ite ?_ ?_
   | refine LeO.bind ?_ (fun _ => ?_)
set_option maxHeartbeats 8000000 in
set_option maxRecDepth 100000 in
theorem spec_DrawServedLoad.calls (k : Nat) (A0 : Option Addr) (c0 : Nat) (l0 : List Int) (r1 : Int) (r2 : List (S79)) (r3 : List Bool) (r4 : List (S33)) (w : World) (hr0 : Kd.C (Kd.int .u8) w A0 l0.length l0) (hc0 : l0.length ≤ c0) (h : spec_DrawServedLoad.f k l0 = some (r1, r2, r3, r4)) :
  Calls Tryd.prog 42 #[.slice A0 l0.length c0] w fun e w' => ∃ v1_ v2_ v3_ : Value, e = .returned (.tuple #[.agg #[.int .i64 r1, v1_], v2_, v3_]) ∧ Kd.R k79 79 w' w.heap.size (fun _ => True) v1_ r2 ∧ Kd.R Kd.bool 4 w' w.heap.size (fun _ => True) v2_ r3 ∧ Kd.R k33 33 w' w.heap.size (fun _ => True) v3_ r4 ∧ Below w.heap.size w w' := by
 have hu25 := Tryd.underlying25
 have HR0 := Aside0.mk hr0
 have HC0 := Aside0.mk hc0
 clear hr0 hc0
 have HB := aM (Below.refl w.heap.size w)
 have H : ((spec_l20Open.f l0).bind fun bt725 => ((spec_l20Powered.f k bt725.1 bt725.2 6).bind fun bt728 => (some (bt728.1, bt728.2.1, bt728.2.2.1, bt728.2.2.2.1)))) = some (r1, r2, r3, r4) := h
 clear h
 replace H := Option.bind_eq_some_iff.mp H
 obtain ⟨⟨t725, t726⟩, A20, H⟩ := H
 replace H : ((spec_l20Powered.f k t725 t726 6).bind fun bt728 => (some (bt728.1, bt728.2.1, bt728.2.2.1, bt728.2.2.2.1))) = some (r1, r2, r3, r4) := H
 have A2 := Aside0.mk A20
 clear A20
 replace H := Option.bind_eq_some_iff.mp H
 obtain ⟨⟨t728, t729, t732, t735, t738⟩, A30, H⟩ := H
 replace H : (some (t728, t729, t732, t735)) = some (r1, r2, r3, r4) := H
 have A3 := Aside0.mk A30
 clear A30
 simp only [Option.some.injEq, Prod.mk.injEq] at H
 obtain ⟨rfl, rfl, rfl, rfl⟩ := H
 go_enter Tryd.func42, Tryd.ntmps42
 go_wp2_with (first | ((with_reducible refine gate_dst (N := 2) rfl ?_); refine box_event ?hg (N := 2) ?hd (cs := #[.int .i64 0, .slice none 0 0]) (t := 25) ?hr ?_; (case hd => rfl); (case hg => rfl); (case hr => exact hR); intro gb724 hg w4 hbox hb; have n0_ := aM (below_step (bl0 HB) hb); have n1_ := aM (hbox); have n2_ := aM ((by rw [hg]; exact (below_size (bl0 HB)) : w.heap.size ≤ gb724)); have n3_ := aM ((by rw [hg]; exact (below_size (bl0 HB)) : w.heap.size ≤ gb724)); clear HB; have HB := n0_; have BK724 := n1_; have GW724 := n2_; have GE724 := n3_; clear n0_ n1_ n2_ n3_; clear hb hbox hg) | ((with_reducible refine gate_callee (f := 66) rfl ?_); refine goesL_ (some 6) rfl rfl Tryd.func66 (by kernel_rfl) rfl #[.slice A0 l0.length c0] rfl mP ?_; (with_reducible refine (spec_l20Open.calls _ _ l0 t725 t726 w _ ?side1 ?side2 ?side3 A2.out).mono ?_); (case side1 => repeat (first | (with_reducible first | exact HB.out | apply below_alloc | apply pw_below_drewN | apply below_drew1 | refine below_set ?_ GE724.out) | exact HB.out)); (case side2 => exact HR0.out); (case side3 => exact HC0.out); rintro e w5 ⟨g727, rfl, hi, hb, hb2⟩; refine ⟨_, rfl, ?_⟩; have n0_ := aM (blk_below (g := gb724) (o := .cells #[.int .i64 0, .slice none 0 0] 25 (0, 0)) (gB (BK724.out)) hb2); have n1_ := aM (hb); have n2_ := aM (hi); have n3_ := aM (IsS111.ne_blk hi (blk_below (g := gb724) (o := .cells #[.int .i64 0, .slice none 0 0] 25 (0, 0)) (gB (BK724.out)) hb2) (by decide)); have n4_ := aM (Ne.symm (IsS111.ne_blk hi (blk_below (g := gb724) (o := .cells #[.int .i64 0, .slice none 0 0] 25 (0, 0)) (gB (BK724.out)) hb2) (by decide))); clear BK724; clear HB; have BK724 := n0_; have HB := n1_; have HI727 := n2_; have NB727_724 := n3_; have NB724_727 := n4_; clear n0_ n1_ n2_ n3_ n4_; (try clear hb); (try clear hb2); (try clear hk); (try clear hi)) | ((with_reducible refine gate_callee (f := 67) rfl ?_); refine goesL_ (some 7) rfl rfl Tryd.func67 (by kernel_rfl) rfl #[.pointer (some ⟨g727, 0, none⟩), .int .i64 6] rfl mP ?_; (with_reducible refine (spec_l20Powered.calls k g727 t725 t726 6 t728 t729 t732 t735 t738 w _ ?side1 ?side2 A3.out).mono ?_); (case side1 => repeat (first | (with_reducible first | exact HI727.out | apply IsS111.alloc | apply IsS111.drewN | apply IsS111.drew | apply IsS111.set_1 | refine IsS111.far ?_ NB727_724.out _) | exact HI727.out)); (case side2 => repeat (first | (with_reducible first | exact HB.out | apply below_alloc | apply pw_below_drewN | apply below_drew1 | refine below_set ?_ (IsS111.ge HI727.out) | refine below_set ?_ GE724.out) | exact HB.out)); rintro e w6 ⟨v730, v733, v736, rfl, ho0, ho1, ho2, hi, hb, hk⟩; refine ⟨_, rfl, ?_⟩; have n0_ := aM (KeepBut.blk hk (g' := gb724) (o := .cells #[.int .i64 0, .slice none 0 0] 25 (0, 0)) (gB (BK724.out)) NB724_727.out (by simp)); have n1_ := aM (Kd.R_lower ho0 (below_size (bl2 HB (aM (IsS111.ge HI727.out)) GE724))); have n2_ := aM (Kd.R_lower ho1 (below_size (bl2 HB (aM (IsS111.ge HI727.out)) GE724))); have n3_ := aM (Kd.R_lower ho2 (below_size (bl2 HB (aM (IsS111.ge HI727.out)) GE724))); have n4_ := aM (hb); have n5_ := aM (hi); clear BK724; clear HB; clear HI727; have BK724 := n0_; have HO731 := n1_; have HO734 := n2_; have HO737 := n3_; have HB := n4_; have HI727 := n5_; clear n0_ n1_ n2_ n3_ n4_ n5_; (try clear hb); (try clear hb2); (try clear hk); (try clear hi); (try clear ho0); (try clear ho1); (try clear ho2); have hnb7 := NB724_727.out; have hnc7 := NB727_724.out; have hcz8_0 : w6.cell? ⟨gb724, 0, none⟩ = some (.int .i64 0) := (blk_cell BK724.out 0).trans rfl; have hcz8_1 : w6.cell? ⟨gb724, 1, none⟩ = some (.slice none 0 0) := (blk_cell BK724.out 1).trans rfl; have hfz8_0 := blk_frozen BK724.out 0; have hfz8_1 := blk_frozen BK724.out 1; obtain ⟨Ao9, co9, eo9⟩ := Kd.R_slice HO731.out; subst eo9))
 refine bodyPost_ret (results_ctt rfl _ _ gb724 25 #[.int .i64 t728, .slice Ao9 t729.length co9] (0, 0) _ rfl (by (with_reducible repeat (first | refine blk_drewN ?_ _ | refine blk_drew ?_ | refine blk_alloc ?_ _)); refine blk_put (cs := #[.int .i64 t728, .slice none 0 0]) ?_ 1 _ rfl; (with_reducible repeat (first | refine blk_drewN ?_ _ | refine blk_drew ?_ | refine blk_alloc ?_ _)); refine blk_put (cs := #[.int .i64 0, .slice none 0 0]) ?_ 0 _ rfl; (with_reducible repeat (first | refine blk_drewN ?_ _ | refine blk_drew ?_ | refine blk_alloc ?_ _)); exact BK724.out) Tryd.underlying25 rfl (by kernel_rfl)) rfl ?_
 exact ⟨_, _, _, fR, by (with_reducible repeat (first | apply Kd.R_alloc | apply Kd.R_drewN | apply Kd.R_drew)); exact Kd.R_mono (Kd.R_far (p := ⟨gb724, 1, none⟩) (Kd.R_far (p := ⟨gb724, 0, none⟩) (Kd.R_types HO731.out BK724.out (by decide)) (fun _ hk => hk.2) (.int .i64 t728)) (fun _ hk => hk.2) (.slice Ao9 t729.length co9)) (fun _ hk => trivial), by (with_reducible repeat (first | apply Kd.R_alloc | apply Kd.R_drewN | apply Kd.R_drew)); exact Kd.R_mono (Kd.R_far (p := ⟨gb724, 1, none⟩) (Kd.R_far (p := ⟨gb724, 0, none⟩) (Kd.R_types HO734.out BK724.out (by decide)) (fun _ hk => hk.2) (.int .i64 t728)) (fun _ hk => hk.2) (.slice Ao9 t729.length co9)) (fun _ hk => trivial), by (with_reducible repeat (first | apply Kd.R_alloc | apply Kd.R_drewN | apply Kd.R_drew)); exact Kd.R_mono (Kd.R_far (p := ⟨gb724, 1, none⟩) (Kd.R_far (p := ⟨gb724, 0, none⟩) (Kd.R_types HO737.out BK724.out (by decide)) (fun _ hk => hk.2) (.int .i64 t728)) (fun _ hk => hk.2) (.slice Ao9 t729.length co9)) (fun _ hk => trivial), bl2 HB (aM (IsS111.ge HI727.out)) GE724⟩

end Go.Proofs.YtpgjgbjkfgbpaaaDoor.P
namespace Go.Proofs.YtpgjgbjkfgbpaaaDoor.P
open Go.RowKit Go.Proofs.YtpgjgbjkfgbpaaaDoorW.PrintWords Go.Proofs.YtpgjgbjkfgbpaaaDoorW.PrintLast Go.Proofs.YtpgjgbjkfgbpaaaDoorW.PrintMore
attribute [local go_sem] max2_int min2_int max_two min_two max_three min_three max_four min_four   -- for this text's walks alone
set_option linter.unusedVariables false
set_option linter.unusedSimpArgs false

/-! ### impl_servedLoad: function 94 -/

def servedT (s : List Int) : Nat → Int
 | 0 => 0
 | i + 1 => if sAt s (8 + i) ≤ sAt s i then wrap64 (servedT s i + sAt s (8 + i)) else servedT s i
def impl_servedLoad.f (k : Nat) (a0_0 : Int) (l0_1 : List S79) (l1 : List Bool) (l2 : List S33) : Option Int := (impl_sumsOf.f k a0_0 l0_1 l1 l2).map fun s => servedT s 8
theorem impl_servedLoad.mono : ∀ a0 a1 a2 a3 k, LeO (impl_servedLoad.f k a0 a1 a2 a3) (impl_servedLoad.f (k + 1) a0 a1 a2 a3) := fun a0 a1 a2 a3 k r hr => by
 obtain ⟨s, hs, rfl⟩ := Option.map_eq_some_iff.mp hr
 exact Option.map_eq_some_iff.mpr ⟨s, impl_sumsOf.mono _ _ _ _ _ _ hs, rfl⟩
set_option maxHeartbeats 8000000 in
set_option maxRecDepth 100000 in
theorem impl_servedLoad.calls (k : Nat) (a0_0 : Int) (A0_1 : Option Addr) (c0_1 : Nat) (l0_1 : List S79) (A1 : Option Addr) (c1 : Nat) (l1 : List Bool) (A2 : Option Addr) (c2 : Nat) (l2 : List S33) (r : Int) (w : World) (hr0_1 : Kd.C k79 w A0_1 l0_1.length l0_1) (hc0_1 : l0_1.length ≤ c0_1) (hr1 : Kd.C Kd.bool w A1 l1.length l1) (hc1 : l1.length ≤ c1) (hr2 : Kd.C k33 w A2 l2.length l2) (hc2 : l2.length ≤ c2) (h : impl_servedLoad.f k a0_0 l0_1 l1 l2 = some r) :
  Calls Tryd.prog 94 #[.agg #[.int .i64 a0_0, .slice A0_1 l0_1.length c0_1], .slice A1 l1.length c1, .slice A2 l2.length c2] w fun e w' => e = .returned (.int .i64 r) ∧ Below w.heap.size w w' := by
 have HR0 := Aside0.mk hr0_1
 have HC0 := Aside0.mk hc0_1
 have HR1 := Aside0.mk hr1
 have HC1 := Aside0.mk hc1
 have HR2 := Aside0.mk hr2
 have HC2 := Aside0.mk hc2
 clear hr0_1 hc0_1 hr1 hc1 hr2 hc2
 obtain ⟨s, A50, rfl⟩ := Option.map_eq_some_iff.mp h
 have A5 := Aside0.mk A50
 clear A50 h
 have HB := aM (Below.refl w.heap.size w)
 go_enter Tryd.func94, Tryd.ntmps94
 go_wp2_with (first | ((with_reducible refine gate_dst (N := 3) rfl ?_); refine box_event ?hg (N := 3) ?hd (cs := #[.int .i64 a0_0, .slice A0_1 l0_1.length c0_1]) (t := 25) ?hr ?_; (case hd => rfl); (case hg => rfl); (case hr => exact hR); intro gb hg w5 hbox hb; have n0_ := aM (below_step HB.out hb); clear HB; have HB := n0_; have BN := Aside0.mk hbox; clear n0_ hb hbox hg; have hcz0 : w5.cell? ⟨gb, 0, none⟩ = some (.int .i64 a0_0) := (blk_cell BN.out 0).trans rfl; have hcz1 : w5.cell? ⟨gb, 1, none⟩ = some (.slice A0_1 l0_1.length c0_1) := (blk_cell BN.out 1).trans rfl) | ((with_reducible refine gate_callee (f := 71) rfl ?_); refine goesL_ (some 14) rfl rfl Tryd.func71 (by kernel_rfl) rfl #[.agg #[.int .i64 a0_0, .slice A0_1 l0_1.length c0_1], .slice A1 l1.length c1, .slice A2 l2.length c2] rfl (by (try simp only [List.map_toArray, List.map_cons, List.map_nil]); first | done | rfl) ?_; (with_reducible refine (impl_sumsOf.calls k a0_0 _ _ l0_1 _ _ l1 _ _ l2 s _ ?side1 HC0.out ?side2 HC1.out ?side3 HC2.out A5.out).mono ?_); (case side1 => exact Kd.C_below HR0.out HB.out); (case side2 => exact Kd.C_below HR1.out HB.out); (case side3 => exact Kd.C_below HR2.out HB.out); rintro e w7 ⟨rfl, hb⟩; refine ⟨_, rfl, ?_⟩; unfold sumsV; have n0_ := aM (below_step HB.out hb); clear HB BN hcz0 hcz1; have HB := n0_; clear n0_ hb) | ((with_reducible refine gate_dst (N := 7) rfl ?_); refine box_event ?hg (N := 7) ?hd (cs := #[.int .i64 0, .int .i64 0, .int .i64 0, .int .i64 0, .int .i64 0, .int .i64 0, .int .i64 0, .int .i64 0, .int .i64 0, .int .i64 0, .int .i64 0, .int .i64 0, .int .i64 0, .int .i64 0, .int .i64 0, .int .i64 0]) (t := 72) ?hr ?_; (case hd => rfl); (case hg => rfl); (case hr => exact hR); intro gs hg w8 hbox hb; have n0_ := aM (below_step HB.out hb); have GS := aM (show w.heap.size ≤ gs from by rw [hg]; exact HB.out.size); clear HB; have HB := n0_; have BS := Aside0.mk hbox; clear n0_ hb hbox hg; have hv0 : w8.cell? ⟨gs, 0, none⟩ = some (.int .i64 0) := (blk_cell BS.out 0).trans rfl; have hf0 := blk_frozen BS.out 0; have hv1 : w8.cell? ⟨gs, 1, none⟩ = some (.int .i64 0) := (blk_cell BS.out 1).trans rfl; have hf1 := blk_frozen BS.out 1; have hv2 : w8.cell? ⟨gs, 2, none⟩ = some (.int .i64 0) := (blk_cell BS.out 2).trans rfl; have hf2 := blk_frozen BS.out 2; have hv3 : w8.cell? ⟨gs, 3, none⟩ = some (.int .i64 0) := (blk_cell BS.out 3).trans rfl; have hf3 := blk_frozen BS.out 3; have hv4 : w8.cell? ⟨gs, 4, none⟩ = some (.int .i64 0) := (blk_cell BS.out 4).trans rfl; have hf4 := blk_frozen BS.out 4; have hv5 : w8.cell? ⟨gs, 5, none⟩ = some (.int .i64 0) := (blk_cell BS.out 5).trans rfl; have hf5 := blk_frozen BS.out 5; have hv6 : w8.cell? ⟨gs, 6, none⟩ = some (.int .i64 0) := (blk_cell BS.out 6).trans rfl; have hf6 := blk_frozen BS.out 6; have hv7 : w8.cell? ⟨gs, 7, none⟩ = some (.int .i64 0) := (blk_cell BS.out 7).trans rfl; have hf7 := blk_frozen BS.out 7; have hv8 : w8.cell? ⟨gs, 8, none⟩ = some (.int .i64 0) := (blk_cell BS.out 8).trans rfl; have hf8 := blk_frozen BS.out 8; have hv9 : w8.cell? ⟨gs, 9, none⟩ = some (.int .i64 0) := (blk_cell BS.out 9).trans rfl; have hf9 := blk_frozen BS.out 9; have hv10 : w8.cell? ⟨gs, 10, none⟩ = some (.int .i64 0) := (blk_cell BS.out 10).trans rfl; have hf10 := blk_frozen BS.out 10; have hv11 : w8.cell? ⟨gs, 11, none⟩ = some (.int .i64 0) := (blk_cell BS.out 11).trans rfl; have hf11 := blk_frozen BS.out 11; have hv12 : w8.cell? ⟨gs, 12, none⟩ = some (.int .i64 0) := (blk_cell BS.out 12).trans rfl; have hf12 := blk_frozen BS.out 12; have hv13 : w8.cell? ⟨gs, 13, none⟩ = some (.int .i64 0) := (blk_cell BS.out 13).trans rfl; have hf13 := blk_frozen BS.out 13; have hv14 : w8.cell? ⟨gs, 14, none⟩ = some (.int .i64 0) := (blk_cell BS.out 14).trans rfl; have hf14 := blk_frozen BS.out 14; have hv15 : w8.cell? ⟨gs, 15, none⟩ = some (.int .i64 0) := (blk_cell BS.out 15).trans rfl; have hf15 := blk_frozen BS.out 15) | ((with_reducible refine gate_store (t := 72) (p := 7) rfl ?_); refine store_event (t := 72) (p := 7) (v := ?vo_s) (w1 := ((((((((((((((((w8.setCell ⟨gs, 0, none⟩ (.int .i64 (sAt s 0))).setCell ⟨gs, 1, none⟩ (.int .i64 (sAt s 1))).setCell ⟨gs, 2, none⟩ (.int .i64 (sAt s 2))).setCell ⟨gs, 3, none⟩ (.int .i64 (sAt s 3))).setCell ⟨gs, 4, none⟩ (.int .i64 (sAt s 4))).setCell ⟨gs, 5, none⟩ (.int .i64 (sAt s 5))).setCell ⟨gs, 6, none⟩ (.int .i64 (sAt s 6))).setCell ⟨gs, 7, none⟩ (.int .i64 (sAt s 7))).setCell ⟨gs, 8, none⟩ (.int .i64 (sAt s 8))).setCell ⟨gs, 9, none⟩ (.int .i64 (sAt s 9))).setCell ⟨gs, 10, none⟩ (.int .i64 (sAt s 10))).setCell ⟨gs, 11, none⟩ (.int .i64 (sAt s 11))).setCell ⟨gs, 12, none⟩ (.int .i64 (sAt s 12))).setCell ⟨gs, 13, none⟩ (.int .i64 (sAt s 13))).setCell ⟨gs, 14, none⟩ (.int .i64 (sAt s 14))).setCell ⟨gs, 15, none⟩ (.int .i64 (sAt s 15)))) ?hg ?ho ?hn ?hr ?_; (case ho => rfl); (case hg => rfl); (case hn => rfl); (case hr => exact hR); intro w9 hw; have n0_ := aM (by rw [hw]; exact (blk_put (blk_put (blk_put (blk_put (blk_put (blk_put (blk_put (blk_put (blk_put (blk_put (blk_put (blk_put (blk_put (blk_put (blk_put (blk_put (show w8.heap[gs]? = some (.cells (sumsC (List.replicate 16 0)) 72 (0, 0)) from BS.out) 0 _ (sumsC_set _ 0 _)) 1 _ (sumsC_set _ 1 _)) 2 _ (sumsC_set _ 2 _)) 3 _ (sumsC_set _ 3 _)) 4 _ (sumsC_set _ 4 _)) 5 _ (sumsC_set _ 5 _)) 6 _ (sumsC_set _ 6 _)) 7 _ (sumsC_set _ 7 _)) 8 _ (sumsC_set _ 8 _)) 9 _ (sumsC_set _ 9 _)) 10 _ (sumsC_set _ 10 _)) 11 _ (sumsC_set _ 11 _)) 12 _ (sumsC_set _ 12 _)) 13 _ (sumsC_set _ 13 _)) 14 _ (sumsC_set _ 14 _)) 15 _ (sumsC_set _ 15 _)) : w9.heap[gs]? = some (.cells (sumsC [sAt s 0, sAt s 1, sAt s 2, sAt s 3, sAt s 4, sAt s 5, sAt s 6, sAt s 7, sAt s 8, sAt s 9, sAt s 10, sAt s 11, sAt s 12, sAt s 13, sAt s 14, sAt s 15]) 72 (0, 0))); have n1_ := aM (by rw [hw]; exact (below_set (below_set (below_set (below_set (below_set (below_set (below_set (below_set (below_set (below_set (below_set (below_set (below_set (below_set (below_set (below_set HB.out GS.out) GS.out) GS.out) GS.out) GS.out) GS.out) GS.out) GS.out) GS.out) GS.out) GS.out) GS.out) GS.out) GS.out) GS.out) GS.out) : Below w.heap.size w w9); clear HB BS hw hv0 hf0 hv1 hf1 hv2 hf2 hv3 hf3 hv4 hf4 hv5 hf5 hv6 hf6 hv7 hf7 hv8 hf8 hv9 hf9 hv10 hf10 hv11 hf11 hv12 hf12 hv13 hf13 hv14 hf14 hv15 hf15; have BS := n0_; have HB := n1_; clear n0_ n1_; have hq8 : w9.cell? ⟨gs, 8, none⟩ = some (.int .i64 (sAt s 8)) := (blk_cell BS.out 8).trans rfl; have hq9 : w9.cell? ⟨gs, 9, none⟩ = some (.int .i64 (sAt s 9)) := (blk_cell BS.out 9).trans rfl; have hq10 : w9.cell? ⟨gs, 10, none⟩ = some (.int .i64 (sAt s 10)) := (blk_cell BS.out 10).trans rfl; have hq11 : w9.cell? ⟨gs, 11, none⟩ = some (.int .i64 (sAt s 11)) := (blk_cell BS.out 11).trans rfl; have hq12 : w9.cell? ⟨gs, 12, none⟩ = some (.int .i64 (sAt s 12)) := (blk_cell BS.out 12).trans rfl; have hq13 : w9.cell? ⟨gs, 13, none⟩ = some (.int .i64 (sAt s 13)) := (blk_cell BS.out 13).trans rfl; have hq14 : w9.cell? ⟨gs, 14, none⟩ = some (.int .i64 (sAt s 14)) := (blk_cell BS.out 14).trans rfl; have hq15 : w9.cell? ⟨gs, 15, none⟩ = some (.int .i64 (sAt s 15)) := (blk_cell BS.out 15).trans rfl))
 go_loop [8, 17] (fun t i => ∃ j : Nat, j ≤ 8 ∧ i = .int .i64 j ∧ t = .int .i64 (servedT s j)) (fun _ i => 8 - (intOf i).toNat)
 case atStart => exact ⟨0, by omega, rfl, rfl⟩
 case round =>
  obtain ⟨j, hj, rfl, rfl⟩ := hrel
  try clear hq8 hq9 hq10 hq11 hq12 hq13 hq14 hq15
  by_cases hlt : j < 8
  rotate_left
  ·
   obtain rfl : j = 8 := by omega
   go_wp2
   go_ret
   exact ⟨rfl, HB.out⟩
  have hsl : sAt [sAt s 0, sAt s 1, sAt s 2, sAt s 3, sAt s 4, sAt s 5, sAt s 6, sAt s 7, sAt s 8, sAt s 9, sAt s 10, sAt s 11, sAt s 12, sAt s 13, sAt s 14, sAt s 15] j = sAt s j := by
   have h : j = 0 ∨ j = 1 ∨ j = 2 ∨ j = 3 ∨ j = 4 ∨ j = 5 ∨ j = 6 ∨ j = 7 := by omega
   rcases h with h | h | h | h | h | h | h | h <;> (subst h; show _ = _; kernel_rfl)
  have hc : w9.cell? ⟨gs, j, none⟩ = some (.int .i64 (sAt s j)) := (blk_cell BS.out j).trans ((sumsC_at _ j (by simp; omega)).trans (by rw [hsl]))
  clear hsl
  have hx := sums_load s (j : Int) (by omega) (by omega)
  rw [Int.toNat_natCast] at hx
  by_cases hge : sAt s (8 + j) ≤ sAt s j
  rotate_left
  ·
   have hb : decide (sAt s (8 + j) ≤ sAt s j) = false := decide_eq_false hge
   have hs := aM (show servedT s (j + 1) = servedT s j by rw [servedT, if_neg hge])
   clear hge
   go_wp2
   go_round
   case rel => exact ⟨j + 1, by omega, by go_num, by rw [hs.out]⟩
   case measure => simp [intOf]; omega
  have hb : decide (sAt s (8 + j) ≤ sAt s j) = true := decide_eq_true hge
  have hs := aM (show servedT s (j + 1) = wrap64 (servedT s j + sAt s (8 + j)) by rw [servedT, if_pos hge])
  clear hge
  go_wp2
  go_round
  case rel => exact ⟨j + 1, by omega, by go_num, by rw [hs.out]⟩
  case measure => simp [intOf]; omega

end Go.Proofs.YtpgjgbjkfgbpaaaDoor.P
namespace Go.Proofs.YtpgjgbjkfgbpaaaDoor.P
open Go.RowKit Go.Proofs.YtpgjgbjkfgbpaaaDoorW.PrintWords Go.Proofs.YtpgjgbjkfgbpaaaDoorW.PrintLast Go.Proofs.YtpgjgbjkfgbpaaaDoorW.PrintMore
attribute [local go_sem] max2_int min2_int max_two min_two max_three min_three max_four min_four   -- for this text's walks alone
set_option linter.unusedVariables false
set_option linter.unusedSimpArgs false

/-! ### impl_ServedLoad: function 43 -/
def impl_ServedLoad.f (k : Nat) (a0_0 : Int) (l0_1 : List (S79)) (l1 : List Bool) (l2 : List (S33)) : Option (Int) := (impl_fedValid.f k a0_0 l0_1 l1 l2).bind fun t740 => (if t740 = true then ((impl_servedLoad.f k a0_0 l0_1 l1 l2).bind fun t741 => (some t741)) else (some (-1)))
theorem impl_ServedLoad.mono : ∀ a0 a1 a2 a3 k, LeO (impl_ServedLoad.f k a0 a1 a2 a3) (impl_ServedLoad.f (k + 1) a0 a1 a2 a3) := by
 intro a0 a1 a2 a3 k
 unfold impl_ServedLoad.f
 repeat' first
   | (with_reducible exact impl_fedValid.mono _ _ _ _ _)
   | (with_reducible exact impl_servedLoad.mono _ _ _ _ _)
   | (with_reducible exact LeO.refl _)
   | (with_reducible exact LeO.none _)
   | (with_reducible refine LeO.ite ?_ ?_)
   | (with_reducible refine LeO.bind ?_ (fun _ => ?_))
   | exact impl_fedValid.mono _ _ _ _ _
   | exact impl_servedLoad.mono _ _ _ _ _
   | exact LeO.none _
   | refine LeO.ite ?_ ?_
   | refine LeO.bind ?_ (fun _ => ?_)
set_option maxHeartbeats 8000000 in
set_option maxRecDepth 100000 in
theorem impl_ServedLoad.calls (k : Nat) (a0_0 : Int) (A0_1 : Option Addr) (c0_1 : Nat) (l0_1 : List (S79)) (A1 : Option Addr) (c1 : Nat) (l1 : List Bool) (A2 : Option Addr) (c2 : Nat) (l2 : List (S33)) (r : Int) (w : World) (hr0_1 : Kd.C k79 w A0_1 l0_1.length l0_1) (hc0_1 : l0_1.length ≤ c0_1) (hr1 : Kd.C Kd.bool w A1 l1.length l1) (hc1 : l1.length ≤ c1) (hr2 : Kd.C k33 w A2 l2.length l2) (hc2 : l2.length ≤ c2) (h : impl_ServedLoad.f k a0_0 l0_1 l1 l2 = some r) :
  Calls Tryd.prog 43 #[.agg #[.int .i64 a0_0, .slice A0_1 l0_1.length c0_1], .slice A1 l1.length c1, .slice A2 l2.length c2] w fun e w' => e = .returned (.int .i64 r) ∧ Below w.heap.size w w' := by
 have hu25 := Tryd.underlying25
 have HR0_1 := Aside0.mk hr0_1
 have HC0_1 := Aside0.mk hc0_1
 clear hr0_1 hc0_1
 have HR1 := Aside0.mk hr1
 have HC1 := Aside0.mk hc1
 clear hr1 hc1
 have HR2 := Aside0.mk hr2
 have HC2 := Aside0.mk hc2
 clear hr2 hc2
 have HB := aM (Below.refl w.heap.size w)
 have H : ((impl_fedValid.f k a0_0 l0_1 l1 l2).bind fun t740 => (if t740 = true then ((impl_servedLoad.f k a0_0 l0_1 l1 l2).bind fun t741 => (some t741)) else (some (-1)))) = some r := h
 clear h
 replace H := Option.bind_eq_some_iff.mp H
 obtain ⟨t740, A40, H⟩ := H
 replace H : (if t740 = true then ((impl_servedLoad.f k a0_0 l0_1 l1 l2).bind fun t741 => (some t741)) else (some (-1))) = some r := H
 have A4 := Aside0.mk A40
 clear A40
 by_cases c5 : t740 = true
 rotate_left
 ·
  replace c5 := Bool.eq_false_iff.mpr c5
  subst c5
  have H1 : (some (-1)) = some r := by rw [if_neg (show ¬ (false = true) by decide)] at H; exact H
  clear H
  have H := H1
  clear H1
  obtain rfl := Option.some.inj H
  go_enter Tryd.func43, Tryd.ntmps43
  go_wp2_with (first | ((with_reducible refine gate_dst (N := 3) rfl ?_); refine box_event ?hg (N := 3) ?hd (cs := #[.int .i64 a0_0, .slice A0_1 l0_1.length c0_1]) (t := 25) ?hr ?_; (case hd => rfl); (case hg => rfl); (case hr => exact hR); intro gb739 hg w12 hbox hb; have n0_ := aM (below_step (bl0 HB) hb); have n1_ := aM (hbox); have n2_ := aM ((by rw [hg]; exact (below_size (bl0 HB)) : w.heap.size ≤ gb739)); have n3_ := aM ((by rw [hg]; exact (below_size (bl0 HB)) : w.heap.size ≤ gb739)); clear HB; have HB := n0_; have BK739 := n1_; have GW739 := n2_; have GE739 := n3_; clear n0_ n1_ n2_ n3_; clear hb hbox hg; have hcz13_0 : w12.cell? ⟨gb739, 0, none⟩ = some (.int .i64 a0_0) := (blk_cell BK739.out 0).trans rfl; have hcz13_1 : w12.cell? ⟨gb739, 1, none⟩ = some (.slice A0_1 l0_1.length c0_1) := (blk_cell BK739.out 1).trans rfl; have hfz13_0 := blk_frozen BK739.out 0; have hfz13_1 := blk_frozen BK739.out 1) | ((with_reducible refine gate_callee (f := 69) rfl ?_); refine goesL_ (some 10) rfl rfl Tryd.func69 (by kernel_rfl) rfl #[.agg #[.int .i64 a0_0, .slice A0_1 l0_1.length c0_1], .slice A1 l1.length c1, .slice A2 l2.length c2] rfl mP ?_; (with_reducible refine (impl_fedValid.calls k a0_0 _ _ l0_1 _ _ l1 _ _ l2 false _ ?side1 ?side2 ?side3 ?side4 ?side5 ?side6 A4.out).mono ?_); (case side1 => exact gC ((Kd.C_below HR0_1.out HB.out))); (case side2 => exact HC0_1.out); (case side3 => exact gC ((Kd.C_below HR1.out HB.out))); (case side4 => exact HC1.out); (case side5 => exact gC ((Kd.C_below HR2.out HB.out))); (case side6 => exact HC2.out); rintro e w14 ⟨rfl, hb⟩; refine ⟨_, rfl, ?_⟩; have n0_ := aM (blk_below (g := gb739) (o := .cells #[.int .i64 a0_0, .slice A0_1 l0_1.length c0_1] 25 (0, 0)) (gB (BK739.out)) hb); have n1_ := aM (below_step (bl1 HB GE739) hb); clear BK739; clear HB; have BK739 := n0_; have HB := n1_; clear n0_ n1_; (try clear hb); (try clear hb2); (try clear hk); (try clear hi)))
  go_ret
  exact ⟨fR, bl1 HB GE739⟩
 subst c5
 have H1 : ((impl_servedLoad.f k a0_0 l0_1 l1 l2).bind fun t741 => (some t741)) = some r := by rw [if_pos rfl] at H; exact H
 clear H
 have H := H1
 clear H1
 replace H := Option.bind_eq_some_iff.mp H
 obtain ⟨t741, A60, H⟩ := H
 replace H : (some t741) = some r := H
 have A6 := Aside0.mk A60
 clear A60
 obtain rfl := Option.some.inj H
 go_enter Tryd.func43, Tryd.ntmps43
 go_wp2_with (first | ((with_reducible refine gate_dst (N := 3) rfl ?_); refine box_event ?hg (N := 3) ?hd (cs := #[.int .i64 a0_0, .slice A0_1 l0_1.length c0_1]) (t := 25) ?hr ?_; (case hd => rfl); (case hg => rfl); (case hr => exact hR); intro gb739 hg w7 hbox hb; have n0_ := aM (below_step (bl0 HB) hb); have n1_ := aM (hbox); have n2_ := aM ((by rw [hg]; exact (below_size (bl0 HB)) : w.heap.size ≤ gb739)); have n3_ := aM ((by rw [hg]; exact (below_size (bl0 HB)) : w.heap.size ≤ gb739)); clear HB; have HB := n0_; have BK739 := n1_; have GW739 := n2_; have GE739 := n3_; clear n0_ n1_ n2_ n3_; clear hb hbox hg; have hcz8_0 : w7.cell? ⟨gb739, 0, none⟩ = some (.int .i64 a0_0) := (blk_cell BK739.out 0).trans rfl; have hcz8_1 : w7.cell? ⟨gb739, 1, none⟩ = some (.slice A0_1 l0_1.length c0_1) := (blk_cell BK739.out 1).trans rfl; have hfz8_0 := blk_frozen BK739.out 0; have hfz8_1 := blk_frozen BK739.out 1) | ((with_reducible refine gate_callee (f := 69) rfl ?_); refine goesL_ (some 10) rfl rfl Tryd.func69 (by kernel_rfl) rfl #[.agg #[.int .i64 a0_0, .slice A0_1 l0_1.length c0_1], .slice A1 l1.length c1, .slice A2 l2.length c2] rfl mP ?_; (with_reducible refine (impl_fedValid.calls k a0_0 _ _ l0_1 _ _ l1 _ _ l2 true _ ?side1 ?side2 ?side3 ?side4 ?side5 ?side6 A4.out).mono ?_); (case side1 => exact gC ((Kd.C_below HR0_1.out HB.out))); (case side2 => exact HC0_1.out); (case side3 => exact gC ((Kd.C_below HR1.out HB.out))); (case side4 => exact HC1.out); (case side5 => exact gC ((Kd.C_below HR2.out HB.out))); (case side6 => exact HC2.out); rintro e w9 ⟨rfl, hb⟩; refine ⟨_, rfl, ?_⟩; have n0_ := aM (blk_below (g := gb739) (o := .cells #[.int .i64 a0_0, .slice A0_1 l0_1.length c0_1] 25 (0, 0)) (gB (BK739.out)) hb); have n1_ := aM (below_step (bl1 HB GE739) hb); clear BK739; clear HB; have BK739 := n0_; have HB := n1_; clear n0_ n1_; (try clear hb); (try clear hb2); (try clear hk); (try clear hi); have hcz10_0 : w9.cell? ⟨gb739, 0, none⟩ = some (.int .i64 a0_0) := (blk_cell BK739.out 0).trans rfl; have hcz10_1 : w9.cell? ⟨gb739, 1, none⟩ = some (.slice A0_1 l0_1.length c0_1) := (blk_cell BK739.out 1).trans rfl; have hfz10_0 := blk_frozen BK739.out 0; have hfz10_1 := blk_frozen BK739.out 1) | ((with_reducible refine gate_callee (f := 94) rfl ?_); refine goesL_ (some 15) rfl rfl Tryd.func94 (by kernel_rfl) rfl #[.agg #[.int .i64 a0_0, .slice A0_1 l0_1.length c0_1], .slice A1 l1.length c1, .slice A2 l2.length c2] rfl mP ?_; (with_reducible refine (impl_servedLoad.calls k a0_0 _ _ l0_1 _ _ l1 _ _ l2 t741 _ ?side1 ?side2 ?side3 ?side4 ?side5 ?side6 A6.out).mono ?_); (case side1 => exact gC ((Kd.C_below HR0_1.out HB.out))); (case side2 => exact HC0_1.out); (case side3 => exact gC ((Kd.C_below HR1.out HB.out))); (case side4 => exact HC1.out); (case side5 => exact gC ((Kd.C_below HR2.out HB.out))); (case side6 => exact HC2.out); rintro e w11 ⟨rfl, hb⟩; refine ⟨_, rfl, ?_⟩; have n0_ := aM (blk_below (g := gb739) (o := .cells #[.int .i64 a0_0, .slice A0_1 l0_1.length c0_1] 25 (0, 0)) (gB (BK739.out)) hb); have n1_ := aM (below_step (bl1 HB GE739) hb); clear BK739; clear HB; have BK739 := n0_; have HB := n1_; clear n0_ n1_; (try clear hb); (try clear hb2); (try clear hk); (try clear hi)))
 go_ret
 exact ⟨fR, bl1 HB GE739⟩

end Go.Proofs.YtpgjgbjkfgbpaaaDoor.P

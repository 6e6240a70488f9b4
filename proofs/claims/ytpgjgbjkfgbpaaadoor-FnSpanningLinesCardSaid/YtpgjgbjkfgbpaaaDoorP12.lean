/- Contracts of Go functions of this seat's translation, written by this repo's wip/mk.py: it calls the kit's print.py with contracts typed by hand in place of functions that it does not take. Not trusted: Lean checks it. -/
import Derived.Test.YtpgjgbjkfgbpaaaDoorP0
import Derived.Test.YtpgjgbjkfgbpaaaDoorP9
import Derived.Test.YtpgjgbjkfgbpaaaDoorP10
namespace Go.Proofs.YtpgjgbjkfgbpaaaDoor.P
open Go.RowKit Go.Proofs.YtpgjgbjkfgbpaaaDoorW.PrintWords Go.Proofs.YtpgjgbjkfgbpaaaDoorW.PrintLast Go.Proofs.YtpgjgbjkfgbpaaaDoorW.PrintMore
attribute [local go_sem] max2_int min2_int max_two min_two max_three min_three max_four min_four   -- for this text's walks alone
set_option linter.unusedVariables false
set_option linter.unusedSimpArgs false

/-! ### spec_l20State: function 116 -/
def spec_l20State.l0 : Nat → Int → List Bool → Int → Int → List Int → Int → Int → List (S79) → Option (List Bool × Int)
 | 0, _, _, _, _, _, _, _, _ => none
 | k + 1, x2, x7, x8, x9, x1000, x1001, x187000, x187001 => if x9 < (x187001.length : Int) then ((spec_l20Rd_pick.f k x1000 x1001 4).bind fun bt192 => (if x7.length < 140737488355328 then (spec_l20State.l0 k x2 (x7 ++ [decide (bt192.1 < x8)]) x8 (wrap64 (x9 + 1)) x1000 bt192.2 x187000 x187001) else (none))) else ((spec_l20Rd_odd.f k x1000 x1001 x2).bind fun bt197 => (if bt197.1 = true then (if x7.length < 140737488355328 then (some ((x7 ++ [true]), bt197.2)) else (none)) else (some (x7, bt197.2))))
def spec_l20State.f (k : Nat) (s0_0 : List Int) (s0_1 : Int) (a1_0 : Int) (l1_1 : List (S79)) (a2 : Int) : Option (List Bool × Int) := (spec_l20Rd_pick.f k s0_0 s0_1 4).bind fun bt190 => (spec_l20State.l0 k a2 (([] : List Bool)) (wrap64 (1 + bt190.1)) 0 s0_0 bt190.2 a1_0 l1_1)
theorem spec_l20State.mono_l : ∀ k, (∀ y0 y1 y2 y3 y4 y5 y6 y7, LeO (spec_l20State.l0 k y0 y1 y2 y3 y4 y5 y6 y7) (spec_l20State.l0 (k + 1) y0 y1 y2 y3 y4 y5 y6 y7))
 | 0 => fun _ _ _ _ _ _ _ _ r h => by simp [spec_l20State.l0] at h
 | k + 1 => by
  have ih0 := spec_l20State.mono_l k
  ·
   intro y0 y1 y2 y3 y4 y5 y6 y7
   unfold spec_l20State.l0
   repeat' first
   | (with_reducible exact ih0 _ _ _ _ _ _ _ _)
   | (with_reducible exact spec_l20Rd_odd.mono _ _ _ _)
   | (with_reducible exact spec_l20Rd_pick.mono _ _ _ _)
   | (with_reducible exact LeO.refl _)
   | (with_reducible exact LeO.none _)
   | (with_reducible refine LeO.ite ?_ ?_)
   | (with_reducible refine LeO.bind ?_ (fun _ => ?_))
   | exact ih0 _ _ _ _ _ _ _ _
   | exact spec_l20Rd_odd.mono _ _ _ _
   | exact spec_l20Rd_pick.mono _ _ _ _
   | exact LeO.none _
   | refine LeO.ite ?_ ?_
   | refine LeO.bind ?_ (fun _ => ?_)
theorem spec_l20State.mono : ∀ a0 a1 a2 a3 a4 k, LeO (spec_l20State.f k a0 a1 a2 a3 a4) (spec_l20State.f (k + 1) a0 a1 a2 a3 a4) := by
 intro a0 a1 a2 a3 a4 k
 have ih0 := spec_l20State.mono_l k
 unfold spec_l20State.f
 repeat' first
   | (with_reducible exact ih0 _ _ _ _ _ _ _ _)
   | (with_reducible exact spec_l20Rd_odd.mono _ _ _ _)
   | (with_reducible exact spec_l20Rd_pick.mono _ _ _ _)
   | (with_reducible exact LeO.refl _)
   | (with_reducible exact LeO.none _)
   | (with_reducible refine LeO.ite ?_ ?_)
   | (with_reducible refine LeO.bind ?_ (fun _ => ?_))
   | exact ih0 _ _ _ _ _ _ _ _
   | exact spec_l20Rd_odd.mono _ _ _ _
   | exact spec_l20Rd_pick.mono _ _ _ _
   | exact LeO.none _
   | refine LeO.ite ?_ ?_
   | refine LeO.bind ?_ (fun _ => ?_)
set_option maxHeartbeats 8000000 in
set_option maxRecDepth 100000 in
theorem spec_l20State.calls (k : Nat) (g : Nat) (s0_0 : List Int) (s0_1 : Int) (a1_0 : Int) (A1_1 : Option Addr) (c1_1 : Nat) (l1_1 : List (S79)) (a2 : Int) (r1 : List Bool) (r2 : Int) (w0 w : World) (hI : IsS111 w0 w g s0_0 s0_1) (hB : Below w0.heap.size w0 w) (hr1_1 : ∀ W_, KeepBut w W_ g none → Kd.C k79 W_ A1_1 l1_1.length l1_1) (hc1_1 : l1_1.length ≤ c1_1) (h : spec_l20State.f k s0_0 s0_1 a1_0 l1_1 a2 = some (r1, r2)) :
  Calls Tryd.prog 116 #[.pointer (some ⟨g, 0, none⟩), .agg #[.int .i64 a1_0, .slice A1_1 l1_1.length c1_1], .int .i64 a2] w fun e w' => ∃ v0_ : Value, e = .returned (v0_) ∧ Kd.R Kd.bool 4 w' w.heap.size (fun _ => True) v0_ r1 ∧ IsS111 w0 w' g s0_0 r2 ∧ Below w0.heap.size w0 w' ∧ KeepBut w w' g none := by
 have hu25 := Tryd.underlying25
 have HR1_1 := Aside0.mk hr1_1
 have HC1_1 := Aside0.mk hc1_1
 clear hr1_1 hc1_1
 have HI0 := Aside0.mk hI
 have HK := aM (KeepBut.refl w g none)
 have HL := Aside0.mk hB.size
 clear hI
 have HW0 := Aside0.mk hB.size
 have HB := Aside0.mk hB
 clear hB
 have H : ((spec_l20Rd_pick.f k s0_0 s0_1 4).bind fun bt190 => (spec_l20State.l0 k a2 (([] : List Bool)) (wrap64 (1 + bt190.1)) 0 s0_0 bt190.2 a1_0 l1_1)) = some (r1, r2) := h
 clear h
 obtain ⟨y187, hy187⟩ : ∃ y_ : List Bool, y_ = (([] : List Bool)) := ⟨_, rfl⟩
 replace H : ((spec_l20Rd_pick.f k s0_0 s0_1 4).bind fun bt190 => (spec_l20State.l0 k a2 y187 (wrap64 (1 + bt190.1)) 0 s0_0 bt190.2 a1_0 l1_1)) = some (r1, r2) := by first | (rw [hy187]; with_reducible exact H) | (have H2_ := (Option.bind_some _ _).symm.trans H; rw [hy187]; with_reducible exact H2_) | (have H2_ := (Option.bind_some _ _).symm.trans H; with_reducible exact H2_) | with_reducible exact H | (rw [hy187]; exact H) | exact H
 have Ny187 := Aside0.mk hy187
 clear hy187
 replace H := Option.bind_eq_some_iff.mp H
 obtain ⟨⟨t190, t191⟩, A40, H⟩ := H
 replace H : (spec_l20State.l0 k a2 y187 (wrap64 (1 + t190)) 0 s0_0 t191 a1_0 l1_1) = some (r1, r2) := H
 have A4 := Aside0.mk A40
 clear A40
 have H' := Aside0.mk H
 clear H
 go_enter Tryd.func116, Tryd.ntmps116
 go_wp2_with (first | ((with_reducible refine gate_dst (N := 4) rfl ?_); refine box_event ?hg (N := 4) ?hd (cs := #[.int .i64 a1_0, .slice A1_1 l1_1.length c1_1]) (t := 25) ?hr ?_; (case hd => rfl); (case hg => rfl); (case hr => exact hR); intro gb186 hg w5 hbox hb; have n0_ := aM (IsS111.below (IsS111.k0 HI0) hb); have n1_ := aM (KeepBut.trans (kp0 HK) (KeepBut.of_below hb g none) (.inl rfl)); have n2_ := aM (below_step (bl1 HB (aM (IsS111.ge HI0.out))) hb); have n3_ := aM (hbox); have n4_ := aM ((by rw [hg]; exact (keep_size (w := w) (g := g) (row := none) (kp0 HK)) : w.heap.size ≤ gb186)); have n5_ := aM ((Nat.le_trans HW0.out (by rw [hg]; exact (keep_size (w := w) (g := g) (row := none) (kp0 HK)) : w.heap.size ≤ gb186) : w0.heap.size ≤ gb186)); have n6_ := aM ((by rw [hg]; exact Nat.ne_of_lt (IsS111.lt (show IsS111 w0 _ g s0_0 s0_1 from IsS111.k0 HI0)) : g ≠ gb186)); have n7_ := aM ((by rw [hg]; exact Nat.ne_of_gt (IsS111.lt (show IsS111 w0 _ g s0_0 s0_1 from IsS111.k0 HI0)) : gb186 ≠ g)); clear HI0; clear HK; clear HB; have HI0 := n0_; have HK := n1_; have HB := n2_; have BK186 := n3_; have GW186 := n4_; have GE186 := n5_; have NB0_186 := n6_; have NB186_0 := n7_; clear n0_ n1_ n2_ n3_ n4_ n5_ n6_ n7_; clear hb hbox hg) | ((with_reducible refine gate_dst (N := 10) rfl ?_); refine Kd.R_lit Kd.bool _ 4 ?hg (N := 10) ?hd (xs := ([] : List Bool)) (inner := []) (ok := fun _ => True) (okp := fun _ => True) ?hr ?hp (fun _ hk => hk) trivial (Below.refl _ _) (Nat.le_refl _) (by simp) ?_; (case hd => rfl); (case hg => rfl); (case hr => exact hR); (case hp => exact (Reps.none _ _)); intro v188 w6 ho7 hb hg_ hnew_; clear hg_ hnew_; (first | rw [← Ny187.out] at ho7 | (simp only [Int.reduceToNat] at ho7; rw [← Ny187.out] at ho7)); have n0_ := aM (Kd.R_lower ho7 (keep_size (w := w) (g := g) (row := none) (kp1 HK GW186))); have n1_ := aM (IsS111.below (IsS111.k1 HI0 NB0_186) hb); have n2_ := aM (blk_below (g := gb186) (o := .cells #[.int .i64 a1_0, .slice A1_1 l1_1.length c1_1] 25 (0, 0)) (gB (BK186.out)) hb); have n3_ := aM (KeepBut.trans (kp1 HK GW186) (KeepBut.of_below hb g none) (.inl rfl)); have n4_ := aM (below_step (bl2 HB (aM (IsS111.ge HI0.out)) GE186) hb); clear HI0; clear BK186; clear HK; clear HB; have HO189 := n0_; have HI0 := n1_; have BK186 := n2_; have HK := n3_; have HB := n4_; clear n0_ n1_ n2_ n3_ n4_; clear hb ho7) | ((with_reducible refine gate_callee (f := 68) rfl ?_); refine goesL_ (some 12) rfl rfl Tryd.func68 (by kernel_rfl) rfl #[.pointer (some ⟨g, 0, none⟩), .int .i64 4] rfl mP ?_; (with_reducible refine (spec_l20Rd_pick.calls k g s0_0 s0_1 4 t190 t191 w0 _ ?side1 ?side2 A4.out).mono ?_); (case side1 => repeat (first | (with_reducible first | exact HI0.out | apply IsS111.alloc | apply IsS111.drewN | apply IsS111.drew | apply IsS111.set_1 | refine IsS111.far ?_ NB0_186.out _) | exact HI0.out)); (case side2 => repeat (first | (with_reducible first | exact HB.out | apply below_alloc | apply pw_below_drewN | apply below_drew1 | refine below_set ?_ (IsS111.ge HI0.out) | refine below_set ?_ GE186.out) | exact HB.out)); rintro e w8 ⟨rfl, hi, hb, hk⟩; refine ⟨_, rfl, ?_⟩; have n0_ := aM (KeepBut.blk hk (g' := gb186) (o := .cells #[.int .i64 a1_0, .slice A1_1 l1_1.length c1_1] 25 (0, 0)) (gB (BK186.out)) NB186_0.out (by simp)); have n1_ := aM (Kd.R_mono (Kd.R_keep (IsS111.apart (show IsS111 w0 _ g s0_0 s0_1 from IsS111.k1 HI0 NB0_186) (gR (HO189.out)) (by decide)) hk (fun _ h => h.2)) (fun _ h => h.1)); have n2_ := aM (KeepBut.trans (kp1 HK GW186) hk (.inl rfl)); have n3_ := aM (hb); have n4_ := aM (hi); clear BK186; clear HO189; clear HK; clear HB; clear HI0; have BK186 := n0_; have HO189 := n1_; have HK := n2_; have HB := n3_; have HI0 := n4_; clear n0_ n1_ n2_ n3_ n4_; (try clear hb); (try clear hb2); (try clear hk); (try clear hi)))
 go_loopg [7, 9] k (fun kq v7 v9 w' => ∃ (x7_1 : List Bool) (x9_1 : Int) (x1001_1 : Int), v9 = .int .i64 x9_1 ∧ Aside0 (spec_l20State.l0 kq a2 x7_1 (wrap64 (1 + t190)) x9_1 s0_0 x1001_1 a1_0 l1_1 = some (r1, r2)) ∧ Aside0 (kq ≤ k) ∧ Aside0 (Kd.R Kd.bool 4 w' w.heap.size (fun _ => True) v7 x7_1) ∧ Aside0 (w'.heap[gb186]? = some (.cells #[.int .i64 a1_0, (.slice A1_1 l1_1.length c1_1)] 25 (0, 0))) ∧ Aside0 (IsS111 w0 w' g s0_0 x1001_1) ∧ Aside0 (KeepBut w w' g none) ∧ Aside0 (Below w0.heap.size w0 w'))
 case atStart => exact ⟨(y187), (0), (t191), fS, H', ⟨Nat.le_refl _⟩, ⟨gR (HO189.out)⟩, ⟨gB (BK186.out)⟩, ⟨IsS111.k1 HI0 NB0_186⟩, ⟨kp1 HK GW186⟩, ⟨bl2 HB (aM (IsS111.ge HI0.out)) GE186⟩⟩
 case round =>
  clear H'
  try clear c1
  try clear p2
  try clear c6
  try clear p6
  obtain ⟨x7_1, x9_1, x1001_1, rfl, HA, HK1, HO_7, BK186, HI0, HK, HB⟩ := hrel
  cases gk with
  | zero => exact absurd HA.out (by simp [spec_l20State.l0])
  | succ k1 =>
   have H := HA.out
   clear HA
   simp only [spec_l20State.l0] at H
   by_cases c9 : x9_1 < (l1_1.length : Int)
   ·
    rw [if_pos c9] at H
    have c9b0 : decide (x9_1 < (l1_1.length : Int)) = true := decide_eq_true c9
    clear c9
    replace H := Option.bind_eq_some_iff.mp H
    obtain ⟨⟨t192, t193⟩, A100, H⟩ := H
    replace H : (if x7_1.length < 140737488355328 then (spec_l20State.l0 k1 a2 (x7_1 ++ [decide (t192 < (wrap64 (1 + t190)))]) (wrap64 (1 + t190)) (wrap64 (x9_1 + 1)) s0_0 t193 a1_0 l1_1) else (none)) = some (r1, r2) := H
    have A10 := Aside0.mk A100
    clear A100
    by_cases c11 : x7_1.length < 140737488355328
    rotate_left
    ·
     rw [if_neg c11] at H
     exact absurd H (by simp)
    rw [if_pos c11] at H
    have LMc11 := Aside0.mk c11
    clear c11
    obtain ⟨y194, hy194⟩ : ∃ y_ : List Bool, y_ = (x7_1 ++ [decide (t192 < (wrap64 (1 + t190)))]) := ⟨_, rfl⟩
    replace H : (spec_l20State.l0 k1 a2 y194 (wrap64 (1 + t190)) (wrap64 (x9_1 + 1)) s0_0 t193 a1_0 l1_1) = some (r1, r2) := by first | (rw [hy194]; with_reducible exact H) | (have H2_ := (Option.bind_some _ _).symm.trans H; rw [hy194]; with_reducible exact H2_) | (have H2_ := (Option.bind_some _ _).symm.trans H; with_reducible exact H2_) | with_reducible exact H | (rw [hy194]; exact H) | exact H
    have Ny194 := Aside0.mk hy194
    clear hy194
    have H' := Aside0.mk H
    clear H
    have hnb12 := NB186_0.out
    have hnc12 := NB0_186.out
    have hcz13_0 : wr.cell? ⟨gb186, 0, none⟩ = some (.int .i64 a1_0) := (blk_cell BK186.out 0).trans rfl
    have hcz13_1 : wr.cell? ⟨gb186, 1, none⟩ = some (.slice A1_1 l1_1.length c1_1) := (blk_cell BK186.out 1).trans rfl
    have hfz13_0 := blk_frozen BK186.out 0
    have hfz13_1 := blk_frozen BK186.out 1
    go_wp2_with (first | ((with_reducible refine gate_callee (f := 68) rfl ?_); refine goesL_ (some 23) rfl rfl Tryd.func68 (by kernel_rfl) rfl #[.pointer (some ⟨g, 0, none⟩), .int .i64 4] rfl mP ?_; (with_reducible refine (spec_l20Rd_pick.calls k1 g s0_0 x1001_1 4 t192 t193 w0 _ ?side1 ?side2 A10.out).mono ?_); (case side1 => repeat (first | (with_reducible first | exact HI0.out | apply IsS111.alloc | apply IsS111.drewN | apply IsS111.drew | apply IsS111.set_1 | refine IsS111.far ?_ NB0_186.out _) | exact HI0.out)); (case side2 => repeat (first | (with_reducible first | exact HB.out | apply below_alloc | apply pw_below_drewN | apply below_drew1 | refine below_set ?_ (IsS111.ge HI0.out) | refine below_set ?_ GE186.out) | exact HB.out)); rintro e w14 ⟨rfl, hi, hb, hk⟩; refine ⟨_, rfl, ?_⟩; have n0_ := aM (Kd.R_mono (Kd.R_keep (IsS111.apart (show IsS111 w0 _ g s0_0 x1001_1 from IsS111.k1 HI0 NB0_186) (gR (HO_7.out)) (by decide)) hk (fun _ h => h.2)) (fun _ h => h.1)); have n1_ := aM (KeepBut.blk hk (g' := gb186) (o := .cells #[.int .i64 a1_0, .slice A1_1 l1_1.length c1_1] 25 (0, 0)) (gB (BK186.out)) NB186_0.out (by simp)); have n2_ := aM (KeepBut.trans (kp1 HK GW186) hk (.inl rfl)); have n3_ := aM (hb); have n4_ := aM (hi); clear HO_7; clear BK186; clear HK; clear HB; clear HI0; have HO_7 := n0_; have BK186 := n1_; have HK := n2_; have HB := n3_; have HI0 := n4_; clear n0_ n1_ n2_ n3_ n4_; (try clear hb); (try clear hb2); (try clear hk); (try clear hi)) | ((with_reducible refine gate_builtin (b := .append) (xs := #[.tmp 21, .tmp 26]) rfl ?_); at_builtin; refine Kd.R_append Kd.bool w.heap.size rfl (.tmp 21) (.tmp 26) 26 4 (.bool false) 1 rfl Tryd.underlying26 info4 rfl (by decide) (by omega) u7 x7_1 (decide (t192 < (wrap64 (1 + t190)))) [.bool (decide (t192 < (wrap64 (1 + t190))))] (fun _ => True) (fun _ => False) rfl rfl ?aP (fun _ hk => hk.elim) ?aF ?aO (Below.refl _ _) ?aS ?aL ?_; (case aP => exact rfl); (case aF => exact (fun _ _ => trivial)); (case aO => exact (gR (HO_7.out))); (case aS => exact (keep_size (w := w) (g := g) (row := none) (kp1 HK GW186))); (case aL => have := LMc11.out; omega); intro v195 w15 ho hb hg hat; rw [← Ny194.out] at ho; have n0_ := aM (blk_grown (g := gb186) (o := .cells #[.int .i64 a1_0, .slice A1_1 l1_1.length c1_1] 25 (0, 0)) (gB (BK186.out)) hg (Kd.R_ne HO_7.out BK186.out (by decide))); have n1_ := aM (IsS111.grown (by first | exact IsS111.like HI0.out (IsS111.k1 HI0 NB0_186) | (repeat (first | (with_reducible first | exact HI0.out | apply IsS111.alloc | apply IsS111.drewN | apply IsS111.drew | apply IsS111.set_1 | refine IsS111.far ?_ NB0_186.out _) | exact HI0.out))) hg (IsS111.own_ne HI0.out HO_7.out (by decide))); have n2_ := aM (below_weaken (bl2 HB (aM (IsS111.ge HI0.out)) GE186) HL.out hb); have n3_ := aM (KeepBut.trans (kp1 HK GW186) (KeepBut.of_grown hg g) (Kd.R_base2 HO_7.out)); have n4_ := aM (ho); clear BK186; clear HI0; clear HB; clear HK; clear HO_7; have BK186 := n0_; have HI0 := n1_; have HB := n2_; have HK := n3_; have HO196 := n4_; clear n0_ n1_ n2_ n3_ n4_; clear ho hb hg hat))
    go_roundg k1
    case measure => have := HK1.out; omega
    case rel => exact ⟨(y194), (wrap64 (x9_1 + 1)), (t193), fS, H', ⟨by have := HK1.out; omega⟩, ⟨gR (HO196.out)⟩, ⟨gB (BK186.out)⟩, ⟨IsS111.k1 HI0 NB0_186⟩, ⟨kp1 HK GW186⟩, ⟨bl2 HB (aM (IsS111.ge HI0.out)) GE186⟩⟩
   rw [if_neg c9] at H
   have c9b0 : decide (x9_1 < (l1_1.length : Int)) = false := decide_eq_false c9
   clear c9
   replace H := Option.bind_eq_some_iff.mp H
   obtain ⟨⟨t197, t198⟩, A160, H⟩ := H
   replace H : (if t197 = true then (if x7_1.length < 140737488355328 then (some ((x7_1 ++ [true]), t198)) else (none)) else (some (x7_1, t198))) = some (r1, r2) := H
   have A16 := Aside0.mk A160
   clear A160
   by_cases c17 : t197 = true
   rotate_left
   ·
    replace c17 := Bool.eq_false_iff.mpr c17
    subst c17
    have H1 : (some (x7_1, t198)) = some (r1, r2) := by rw [if_neg (show ¬ (false = true) by decide)] at H; exact H
    clear H
    have H := H1
    clear H1
    simp only [Option.some.injEq, Prod.mk.injEq] at H
    obtain ⟨rfl, rfl⟩ := H
    have hnb23 := NB186_0.out
    have hnc23 := NB0_186.out
    have hcz24_0 : wr.cell? ⟨gb186, 0, none⟩ = some (.int .i64 a1_0) := (blk_cell BK186.out 0).trans rfl
    have hcz24_1 : wr.cell? ⟨gb186, 1, none⟩ = some (.slice A1_1 l1_1.length c1_1) := (blk_cell BK186.out 1).trans rfl
    have hfz24_0 := blk_frozen BK186.out 0
    have hfz24_1 := blk_frozen BK186.out 1
    go_wp2_with (first | ((with_reducible refine gate_callee (f := 122) rfl ?_); refine goesL_ (some 30) rfl rfl Tryd.func122 (by kernel_rfl) rfl #[.pointer (some ⟨g, 0, none⟩), .int .i64 a2] rfl mP ?_; (with_reducible refine (spec_l20Rd_odd.calls k1 g s0_0 x1001_1 a2 false t198 w0 _ ?side1 ?side2 A16.out).mono ?_); (case side1 => repeat (first | (with_reducible first | exact HI0.out | apply IsS111.alloc | apply IsS111.drewN | apply IsS111.drew | apply IsS111.set_1 | refine IsS111.far ?_ NB0_186.out _) | exact HI0.out)); (case side2 => repeat (first | (with_reducible first | exact HB.out | apply below_alloc | apply pw_below_drewN | apply below_drew1 | refine below_set ?_ (IsS111.ge HI0.out) | refine below_set ?_ GE186.out) | exact HB.out)); rintro e w25 ⟨rfl, hi, hb, hk⟩; refine ⟨_, rfl, ?_⟩; have n0_ := aM (Kd.R_mono (Kd.R_keep (IsS111.apart (show IsS111 w0 _ g s0_0 x1001_1 from IsS111.k1 HI0 NB0_186) (gR (HO_7.out)) (by decide)) hk (fun _ h => h.2)) (fun _ h => h.1)); have n1_ := aM (KeepBut.blk hk (g' := gb186) (o := .cells #[.int .i64 a1_0, .slice A1_1 l1_1.length c1_1] 25 (0, 0)) (gB (BK186.out)) NB186_0.out (by simp)); have n2_ := aM (KeepBut.trans (kp1 HK GW186) hk (.inl rfl)); have n3_ := aM (hb); have n4_ := aM (hi); clear HO_7; clear BK186; clear HK; clear HB; clear HI0; have HO_7 := n0_; have BK186 := n1_; have HK := n2_; have HB := n3_; have HI0 := n4_; clear n0_ n1_ n2_ n3_ n4_; (try clear hb); (try clear hb2); (try clear hk); (try clear hi)))
    go_ret
    exact ⟨_, fR, gR (HO_7.out), IsS111.k1 HI0 NB0_186, bl2 HB (aM (IsS111.ge HI0.out)) GE186, kp1 HK GW186⟩
   subst c17
   have H1 : (if x7_1.length < 140737488355328 then (some ((x7_1 ++ [true]), t198)) else (none)) = some (r1, r2) := by rw [if_pos rfl] at H; exact H
   clear H
   have H := H1
   clear H1
   by_cases c18 : x7_1.length < 140737488355328
   rotate_left
   ·
    rw [if_neg c18] at H
    exact absurd H (by simp)
   rw [if_pos c18] at H
   have LMc18 := Aside0.mk c18
   clear c18
   obtain ⟨y199, hy199⟩ : ∃ y_ : List Bool, y_ = (x7_1 ++ [true]) := ⟨_, rfl⟩
   replace H : (some (y199, t198)) = some (r1, r2) := by first | (rw [hy199]; with_reducible exact H) | (have H2_ := (Option.bind_some _ _).symm.trans H; rw [hy199]; with_reducible exact H2_) | (have H2_ := (Option.bind_some _ _).symm.trans H; with_reducible exact H2_) | with_reducible exact H | (rw [hy199]; exact H) | exact H
   have Ny199 := Aside0.mk hy199
   clear hy199
   simp only [Option.some.injEq, Prod.mk.injEq] at H
   obtain ⟨rfl, rfl⟩ := H
   have hnb19 := NB186_0.out
   have hnc19 := NB0_186.out
   have hcz20_0 : wr.cell? ⟨gb186, 0, none⟩ = some (.int .i64 a1_0) := (blk_cell BK186.out 0).trans rfl
   have hcz20_1 : wr.cell? ⟨gb186, 1, none⟩ = some (.slice A1_1 l1_1.length c1_1) := (blk_cell BK186.out 1).trans rfl
   have hfz20_0 := blk_frozen BK186.out 0
   have hfz20_1 := blk_frozen BK186.out 1
   go_wp2_with (first | ((with_reducible refine gate_callee (f := 122) rfl ?_); refine goesL_ (some 30) rfl rfl Tryd.func122 (by kernel_rfl) rfl #[.pointer (some ⟨g, 0, none⟩), .int .i64 a2] rfl mP ?_; (with_reducible refine (spec_l20Rd_odd.calls k1 g s0_0 x1001_1 a2 true t198 w0 _ ?side1 ?side2 A16.out).mono ?_); (case side1 => repeat (first | (with_reducible first | exact HI0.out | apply IsS111.alloc | apply IsS111.drewN | apply IsS111.drew | apply IsS111.set_1 | refine IsS111.far ?_ NB0_186.out _) | exact HI0.out)); (case side2 => repeat (first | (with_reducible first | exact HB.out | apply below_alloc | apply pw_below_drewN | apply below_drew1 | refine below_set ?_ (IsS111.ge HI0.out) | refine below_set ?_ GE186.out) | exact HB.out)); rintro e w21 ⟨rfl, hi, hb, hk⟩; refine ⟨_, rfl, ?_⟩; have n0_ := aM (Kd.R_mono (Kd.R_keep (IsS111.apart (show IsS111 w0 _ g s0_0 x1001_1 from IsS111.k1 HI0 NB0_186) (gR (HO_7.out)) (by decide)) hk (fun _ h => h.2)) (fun _ h => h.1)); have n1_ := aM (KeepBut.blk hk (g' := gb186) (o := .cells #[.int .i64 a1_0, .slice A1_1 l1_1.length c1_1] 25 (0, 0)) (gB (BK186.out)) NB186_0.out (by simp)); have n2_ := aM (KeepBut.trans (kp1 HK GW186) hk (.inl rfl)); have n3_ := aM (hb); have n4_ := aM (hi); clear HO_7; clear BK186; clear HK; clear HB; clear HI0; have HO_7 := n0_; have BK186 := n1_; have HK := n2_; have HB := n3_; have HI0 := n4_; clear n0_ n1_ n2_ n3_ n4_; (try clear hb); (try clear hb2); (try clear hk); (try clear hi)) | ((with_reducible refine gate_builtin (b := .append) (xs := #[.tmp 31, .tmp 32]) rfl ?_); at_builtin; refine Kd.R_append Kd.bool w.heap.size rfl (.tmp 31) (.tmp 32) 26 4 (.bool false) 1 rfl Tryd.underlying26 info4 rfl (by decide) (by omega) u7 x7_1 true [.bool true] (fun _ => True) (fun _ => False) rfl rfl ?aP (fun _ hk => hk.elim) ?aF ?aO (Below.refl _ _) ?aS ?aL ?_; (case aP => exact rfl); (case aF => exact (fun _ _ => trivial)); (case aO => exact (gR (HO_7.out))); (case aS => exact (keep_size (w := w) (g := g) (row := none) (kp1 HK GW186))); (case aL => have := LMc18.out; omega); intro v200 w22 ho hb hg hat; rw [← Ny199.out] at ho; have n0_ := aM (blk_grown (g := gb186) (o := .cells #[.int .i64 a1_0, .slice A1_1 l1_1.length c1_1] 25 (0, 0)) (gB (BK186.out)) hg (Kd.R_ne HO_7.out BK186.out (by decide))); have n1_ := aM (IsS111.grown (by first | exact IsS111.like HI0.out (IsS111.k1 HI0 NB0_186) | (repeat (first | (with_reducible first | exact HI0.out | apply IsS111.alloc | apply IsS111.drewN | apply IsS111.drew | apply IsS111.set_1 | refine IsS111.far ?_ NB0_186.out _) | exact HI0.out))) hg (IsS111.own_ne HI0.out HO_7.out (by decide))); have n2_ := aM (below_weaken (bl2 HB (aM (IsS111.ge HI0.out)) GE186) HL.out hb); have n3_ := aM (KeepBut.trans (kp1 HK GW186) (KeepBut.of_grown hg g) (Kd.R_base2 HO_7.out)); have n4_ := aM (ho); clear BK186; clear HI0; clear HB; clear HK; clear HO_7; have BK186 := n0_; have HI0 := n1_; have HB := n2_; have HK := n3_; have HO201 := n4_; clear n0_ n1_ n2_ n3_ n4_; clear ho hb hg hat))
   go_ret
   exact ⟨_, fR, gR (HO201.out), IsS111.k1 HI0 NB0_186, bl2 HB (aM (IsS111.ge HI0.out)) GE186, kp1 HK GW186⟩

end Go.Proofs.YtpgjgbjkfgbpaaaDoor.P
namespace Go.Proofs.YtpgjgbjkfgbpaaaDoor.P
open Go.RowKit Go.Proofs.YtpgjgbjkfgbpaaaDoorW.PrintWords Go.Proofs.YtpgjgbjkfgbpaaaDoorW.PrintLast Go.Proofs.YtpgjgbjkfgbpaaaDoorW.PrintMore
attribute [local go_sem] max2_int min2_int max_two min_two max_three min_three max_four min_four   -- for this text's walks alone
set_option linter.unusedVariables false
set_option linter.unusedSimpArgs false

/-! ### spec_l20Switched: function 80 -/
def spec_l20Switched.f (k : Nat) (s0_0 : List Int) (s0_1 : Int) (a1 : Int) : Option (Int × (List (S79)) × List Bool × Int) := (spec_l20Net.f k s0_0 s0_1 (wrap64 (2 * a1))).bind fun bt203 => ((spec_l20State.f k s0_0 bt203.2.2 bt203.1 bt203.2.1 (wrap64 (2 * a1))).bind fun bt209 => (some (bt203.1, bt203.2.1, bt209.1, bt209.2)))
theorem spec_l20Switched.mono : ∀ a0 a1 a2 k, LeO (spec_l20Switched.f k a0 a1 a2) (spec_l20Switched.f (k + 1) a0 a1 a2) := by
 intro a0 a1 a2 k
 unfold spec_l20Switched.f
 repeat' first
   | (with_reducible exact spec_l20Net.mono _ _ _ _)
   | (with_reducible exact spec_l20State.mono _ _ _ _ _ _)
   | (with_reducible exact LeO.refl _)
   | (with_reducible exact LeO.none _)
   | (with_reducible refine LeO.ite ?_ ?_)
   | (with_reducible refine LeO.bind ?_ (fun _ => ?_))
   | exact spec_l20Net.mono _ _ _ _
   | exact spec_l20State.mono _ _ _ _ _ _
   | exact LeO.none _
   | refine LeO.ite ?_ ?_
   | refine LeO.bind ?_ (fun _ => ?_)
def spec_l20Switched.T2 : Bool × List (List Nat × List Nat) := (true, [([], []), ([], []), ([], []), ([], []), ([3], [3]), ([1, 2, 4], [1, 2, 4]), ([0, 5, 0], [0]), ([5, 6, 0, 1, 2, 3, 4, 5, 6], [5])])
def spec_l20Switched.B2 : List Nat := [0, 0, 0, 0, 8, 30, 63, 127]
theorem spec_l20Switched.tab2 : rtab .any (opsOf Tryd.f80 2) = spec_l20Switched.T2 := by kernel_rfl
theorem spec_l20Switched.bits2 : waitsOk spec_l20Switched.T2.2 spec_l20Switched.B2 = true := by kernel_rfl
set_option maxHeartbeats 8000000 in
set_option maxRecDepth 100000 in
theorem spec_l20Switched.calls (k : Nat) (g : Nat) (s0_0 : List Int) (s0_1 : Int) (a1 : Int) (r1 : Int) (r2 : List (S79)) (r3 : List Bool) (r4 : Int) (w0 w : World) (hI : IsS111 w0 w g s0_0 s0_1) (hB : Below w0.heap.size w0 w) (h : spec_l20Switched.f k s0_0 s0_1 a1 = some (r1, r2, r3, r4)) :
  Calls Tryd.prog 80 #[.pointer (some ⟨g, 0, none⟩), .int .i64 a1] w fun e w' => ∃ v1_ v2_ : Value, e = .returned (.tuple #[.agg #[.int .i64 r1, v1_], v2_]) ∧ Kd.R k79 79 w' w.heap.size (fun _ => True) v1_ r2 ∧ Kd.R Kd.bool 4 w' w.heap.size (fun _ => True) v2_ r3 ∧ IsS111 w0 w' g s0_0 r4 ∧ Below w0.heap.size w0 w' ∧ KeepBut w w' g none := by
 have hu25 := Tryd.underlying25
 have HI0 := Aside0.mk hI
 have HK := aM (KeepBut.refl w g none)
 have HL := Aside0.mk hB.size
 clear hI
 have HW0 := Aside0.mk hB.size
 have HB := Aside0.mk hB
 clear hB
 have H : ((spec_l20Net.f k s0_0 s0_1 (wrap64 (2 * a1))).bind fun bt203 => ((spec_l20State.f k s0_0 bt203.2.2 bt203.1 bt203.2.1 (wrap64 (2 * a1))).bind fun bt209 => (some (bt203.1, bt203.2.1, bt209.1, bt209.2)))) = some (r1, r2, r3, r4) := h
 clear h
 replace H := Option.bind_eq_some_iff.mp H
 obtain ⟨⟨t203, t204, t207⟩, A30, H⟩ := H
 replace H : ((spec_l20State.f k s0_0 t207 t203 t204 (wrap64 (2 * a1))).bind fun bt209 => (some (t203, t204, bt209.1, bt209.2))) = some (r1, r2, r3, r4) := H
 have A3 := Aside0.mk A30
 clear A30
 replace H := Option.bind_eq_some_iff.mp H
 obtain ⟨⟨t209, t212⟩, A40, H⟩ := H
 replace H : (some (t203, t204, t209, t212)) = some (r1, r2, r3, r4) := H
 have A4 := Aside0.mk A40
 clear A40
 simp only [Option.some.injEq, Prod.mk.injEq] at H
 obtain ⟨rfl, rfl, rfl, rfl⟩ := H
 go_enter Tryd.func80, Tryd.ntmps80
 try go_wp2_with (first | ((with_reducible refine gate_dst (N := 4) rfl ?_); refine box_event ?hg (N := 4) ?hd (cs := #[.int .i64 0, .slice none 0 0]) (t := 25) ?hr ?_; (case hd => rfl); (case hg => rfl); (case hr => exact hR); intro gb202 hg w5 hbox hb; have n0_ := aM (IsS111.below (IsS111.k0 HI0) hb); have n1_ := aM (KeepBut.trans (kp0 HK) (KeepBut.of_below hb g none) (.inl rfl)); have n2_ := aM (below_step (bl1 HB (aM (IsS111.ge HI0.out))) hb); have n3_ := aM (hbox); have n4_ := aM ((by rw [hg]; exact (keep_size (w := w) (g := g) (row := none) (kp0 HK)) : w.heap.size ≤ gb202)); have n5_ := aM ((Nat.le_trans HW0.out (by rw [hg]; exact (keep_size (w := w) (g := g) (row := none) (kp0 HK)) : w.heap.size ≤ gb202) : w0.heap.size ≤ gb202)); have n6_ := aM ((by rw [hg]; exact Nat.ne_of_lt (IsS111.lt (show IsS111 w0 _ g s0_0 s0_1 from IsS111.k0 HI0)) : g ≠ gb202)); have n7_ := aM ((by rw [hg]; exact Nat.ne_of_gt (IsS111.lt (show IsS111 w0 _ g s0_0 s0_1 from IsS111.k0 HI0)) : gb202 ≠ g)); clear HI0; clear HK; clear HB; have HI0 := n0_; have HK := n1_; have HB := n2_; have BK202 := n3_; have GW202 := n4_; have GE202 := n5_; have NB0_202 := n6_; have NB202_0 := n7_; clear n0_ n1_ n2_ n3_ n4_ n5_ n6_ n7_; clear hb hbox hg) | ((with_reducible refine gate_callee (f := 101) rfl ?_); refine goesL_ (some 10) rfl rfl Tryd.func101 (by kernel_rfl) rfl #[.pointer (some ⟨g, 0, none⟩), .int .i64 (wrap64 (2 * a1))] rfl mP ?_; (with_reducible refine (spec_l20Net.calls k g s0_0 s0_1 (wrap64 (2 * a1)) t203 t204 t207 w0 _ ?side1 ?side2 A3.out).mono ?_); (case side1 => repeat (first | (with_reducible first | exact HI0.out | apply IsS111.alloc | apply IsS111.drewN | apply IsS111.drew | apply IsS111.set_1 | refine IsS111.far ?_ NB0_202.out _) | exact HI0.out)); (case side2 => repeat (first | (with_reducible first | exact HB.out | apply below_alloc | apply pw_below_drewN | apply below_drew1 | refine below_set ?_ (IsS111.ge HI0.out) | refine below_set ?_ GE202.out) | exact HB.out)); rintro e w6 ⟨v205, rfl, ho0, hi, hb, hk⟩; refine ⟨_, rfl, ?_⟩; have n0_ := aM (KeepBut.blk hk (g' := gb202) (o := .cells #[.int .i64 0, .slice none 0 0] 25 (0, 0)) (gB (BK202.out)) NB202_0.out (by simp)); have n1_ := aM (Kd.R_lower ho0 (keep_size (w := w) (g := g) (row := none) (kp1 HK GW202))); have n2_ := aM (KeepBut.trans (kp1 HK GW202) hk (.inl rfl)); have n3_ := aM (hb); have n4_ := aM (hi); clear BK202; clear HK; clear HB; clear HI0; have BK202 := n0_; have HO206 := n1_; have HK := n2_; have HB := n3_; have HI0 := n4_; clear n0_ n1_ n2_ n3_ n4_; (try clear hb); (try clear hb2); (try clear hk); (try clear hi); (try clear ho0)) | ((with_reducible refine gate_dst (N := 6) rfl ?_); refine box_event ?hg (N := 6) ?hd (cs := #[.int .i64 0, .slice none 0 0]) (t := 25) ?hr ?_; (case hd => rfl); (case hg => rfl); (case hr => exact hR); intro gb208 hg w7 hbox hb; have n0_ := aM (Kd.R_below (gR (HO206.out)) hb); have n1_ := aM (IsS111.below (IsS111.k1 HI0 NB0_202) hb); have n2_ := aM (blk_below (g := gb202) (o := .cells #[.int .i64 0, .slice none 0 0] 25 (0, 0)) (gB (BK202.out)) hb); have n3_ := aM (KeepBut.trans (kp1 HK GW202) (KeepBut.of_below hb g none) (.inl rfl)); have n4_ := aM (below_step (bl2 HB (aM (IsS111.ge HI0.out)) GE202) hb); have n5_ := aM (hbox); have n6_ := aM ((by rw [hg]; exact (keep_size (w := w) (g := g) (row := none) (kp1 HK GW202)) : w.heap.size ≤ gb208)); have n7_ := aM ((Nat.le_trans HW0.out (by rw [hg]; exact (keep_size (w := w) (g := g) (row := none) (kp1 HK GW202)) : w.heap.size ≤ gb208) : w0.heap.size ≤ gb208)); have n8_ := aM ((by rw [hg]; exact Nat.ne_of_lt (blk_lt (g := gb202) (o := .cells #[.int .i64 0, .slice none 0 0] 25 (0, 0)) (gB (BK202.out))) : gb202 ≠ gb208)); have n9_ := aM ((by rw [hg]; exact Nat.ne_of_gt (blk_lt (g := gb202) (o := .cells #[.int .i64 0, .slice none 0 0] 25 (0, 0)) (gB (BK202.out))) : gb208 ≠ gb202)); have n10_ := aM ((by rw [hg]; exact Nat.ne_of_lt (IsS111.lt (show IsS111 w0 _ g s0_0 t207 from IsS111.k1 HI0 NB0_202)) : g ≠ gb208)); have n11_ := aM ((by rw [hg]; exact Nat.ne_of_gt (IsS111.lt (show IsS111 w0 _ g s0_0 t207 from IsS111.k1 HI0 NB0_202)) : gb208 ≠ g)); clear HO206; clear HI0; clear BK202; clear HK; clear HB; have HO206 := n0_; have HI0 := n1_; have BK202 := n2_; have HK := n3_; have HB := n4_; have BK208 := n5_; have GW208 := n6_; have GE208 := n7_; have NB202_208 := n8_; have NB208_202 := n9_; have NB0_208 := n10_; have NB208_0 := n11_; clear n0_ n1_ n2_ n3_ n4_ n5_ n6_ n7_ n8_ n9_ n10_ n11_; clear hb hbox hg; have hnb8 := NB208_202.out; have hnc8 := NB202_208.out; have hnb9 := NB208_0.out; have hnc9 := NB0_208.out; have hcz10_0 : w7.cell? ⟨gb208, 0, none⟩ = some (.int .i64 0) := (blk_cell BK208.out 0).trans rfl; have hcz10_1 : w7.cell? ⟨gb208, 1, none⟩ = some (.slice none 0 0) := (blk_cell BK208.out 1).trans rfl; have hfz10_0 := blk_frozen BK208.out 0; have hfz10_1 := blk_frozen BK208.out 1; obtain ⟨Ao11, co11, eo11⟩ := Kd.R_slice HO206.out; subst eo11))
 have n0_ : Aside0 (Kd.R k79 79 ((w7.setCell ⟨gb208, 0, none⟩ (.int .i64 t203)).setCell ⟨gb208, 1, none⟩ (.slice Ao11 t204.length co11)) w.heap.size (fun _ => True) (.slice Ao11 t204.length co11) t204) := ⟨by (with_reducible repeat (first | apply Kd.R_alloc | apply Kd.R_drewN | apply Kd.R_drew)); exact Kd.R_mono (Kd.R_far (p := ⟨gb208, 1, none⟩) (Kd.R_far (p := ⟨gb208, 0, none⟩) (Kd.R_types HO206.out BK208.out (by decide)) (fun _ hk => hk.2) (.int .i64 t203)) (fun _ hk => hk.2) (.slice Ao11 t204.length co11)) (fun _ hk => trivial)⟩
 have n1_ : Aside0 (((w7.setCell ⟨gb208, 0, none⟩ (.int .i64 t203)).setCell ⟨gb208, 1, none⟩ (.slice Ao11 t204.length co11)).heap[gb202]? = some (.cells #[.int .i64 0, .slice none 0 0] 25 (0, 0))) := ⟨by (with_reducible repeat (first | refine blk_drewN ?_ _ | refine blk_drew ?_ | refine blk_alloc ?_ _)); refine blk_far ?_ NB202_208.out _; (with_reducible repeat (first | refine blk_drewN ?_ _ | refine blk_drew ?_ | refine blk_alloc ?_ _)); refine blk_far ?_ NB202_208.out _; (with_reducible repeat (first | refine blk_drewN ?_ _ | refine blk_drew ?_ | refine blk_alloc ?_ _)); exact BK202.out⟩
 have n2_ : Aside0 (((w7.setCell ⟨gb208, 0, none⟩ (.int .i64 t203)).setCell ⟨gb208, 1, none⟩ (.slice Ao11 t204.length co11)).heap[gb208]? = some (.cells #[.int .i64 t203, .slice Ao11 t204.length co11] 25 (0, 0))) := ⟨by (with_reducible repeat (first | refine blk_drewN ?_ _ | refine blk_drew ?_ | refine blk_alloc ?_ _)); refine blk_put (cs := #[.int .i64 t203, .slice none 0 0]) ?_ 1 _ rfl; (with_reducible repeat (first | refine blk_drewN ?_ _ | refine blk_drew ?_ | refine blk_alloc ?_ _)); refine blk_put (cs := #[.int .i64 0, .slice none 0 0]) ?_ 0 _ rfl; (with_reducible repeat (first | refine blk_drewN ?_ _ | refine blk_drew ?_ | refine blk_alloc ?_ _)); exact BK208.out⟩
 have n3_ : Aside0 (IsS111 w0 ((w7.setCell ⟨gb208, 0, none⟩ (.int .i64 t203)).setCell ⟨gb208, 1, none⟩ (.slice Ao11 t204.length co11)) g s0_0 t207) := ⟨IsS111.k2 HI0 NB0_202 NB0_208⟩
 have n4_ : Aside0 (KeepBut w ((w7.setCell ⟨gb208, 0, none⟩ (.int .i64 t203)).setCell ⟨gb208, 1, none⟩ (.slice Ao11 t204.length co11)) g none) := ⟨kp2 HK GW202 GW208⟩
 have n5_ : Aside0 (Below w0.heap.size w0 ((w7.setCell ⟨gb208, 0, none⟩ (.int .i64 t203)).setCell ⟨gb208, 1, none⟩ (.slice Ao11 t204.length co11))) := ⟨bl3 HB (aM (IsS111.ge HI0.out)) GE202 GE208⟩
 (try clear HO206)
 (try clear BK202)
 (try clear BK208)
 (try clear HI0)
 (try clear HK)
 (try clear HB)
 generalize ((w7.setCell ⟨gb208, 0, none⟩ (.int .i64 t203)).setCell ⟨gb208, 1, none⟩ (.slice Ao11 t204.length co11)) = w12 at n0_ n1_ n2_ n3_ n4_ n5_ ⊢
 have HO206 := n0_
 have BK202 := n1_
 have BK208 := n2_
 have HI0 := n3_
 have HK := n4_
 have HB := n5_
 clear n0_ n1_ n2_ n3_ n4_ n5_
 have n0_ := aM (Kd.R_drew HO206.out)
 have n1_ := aM (blk_drew BK202.out)
 have n2_ := aM (blk_drew BK208.out)
 have n3_ := aM (IsS111.drew HI0.out)
 have n4_ := aM (keep_drew HK.out)
 have n5_ := aM (below_drew1 HB.out)
 clear HO206
 clear BK202
 clear BK208
 clear HI0
 clear HK
 clear HB
 have HO206 := n0_
 have BK202 := n1_
 have BK208 := n2_
 have HI0 := n3_
 have HK := n4_
 have HB := n5_
 clear n0_ n1_ n2_ n3_ n4_ n5_
 refine start_ (n := 8) (S := fun w' => w'.cell? ⟨gb208, 0, none⟩ = some (.int .i64 t203) ∧ w'.cell? ⟨gb208, 1, none⟩ = some (.slice Ao11 t204.length co11)) (ds := []) #[zz,zz,zz,zz,zz,zz,zz,zz] (by kernel_rfl) rfl rfl ⟨(blk_cell BK208.out 0).trans rfl, (blk_cell BK208.out 1).trans rfl⟩ (fun hHeld => ?_); refine with_tabW spec_l20Switched.tab2 spec_l20Switched.bits2 (fun HT_ HW_ => ?_)
 generalize w12.drew = w13 at HO206 BK202 BK208 HI0 HK HB hHeld ⊢
 refine pure_ (i := 1) (N := some 12) (v := ?_) (a' := ?_) #[zz,oo,zz,zz,zz,zz,zz,zz] rfl rfl (any_of HT_.out (by kernel_rfl)) (fun _ _ _ h => h) (Or.inl ⟨by rfl, ?_⟩) ?_ ?_
 rotate_left
 ·
  intro w'
  go_simp
  with_reducible rfl
 rotate_left
 ·
  simp only [Act.put, List.setIfInBounds_toArray, List.set_cons_zero, List.set_cons_succ, i64_w, i32_w]
  rfl
 refine pure_ (i := 3) (N := some 14) (v := ?_) (a' := ?_) #[zz,oo,zz,oo,zz,zz,zz,zz] rfl rfl (any_of HT_.out (by kernel_rfl)) (fun _ _ _ h => h) (Or.inl ⟨by rfl, ?_⟩) ?_ ?_
 rotate_left
 ·
  intro w'
  go_simp
  with_reducible rfl
 rotate_left
 ·
  simp only [Act.put, List.setIfInBounds_toArray, List.set_cons_zero, List.set_cons_succ, i64_w, i32_w]
  rfl
 refine pure_ (i := 4) (N := some 15) (v := ?_) (a' := ?_) #[zz,oo,zz,oo,oo,zz,zz,zz] rfl rfl (any_of HT_.out (by kernel_rfl)) (fun _ _ _ h => h) (Or.inl ⟨by rfl, ?_⟩) ?_ ?_
 rotate_left
 ·
  intro w'
  go_simp
  with_reducible rfl
 rotate_left
 ·
  simp only [Act.put, List.setIfInBounds_toArray, List.set_cons_zero, List.set_cons_succ, i64_w, i32_w]
  rfl
 refine take_ (i := 0) (N := some 11) (v := ?_) (a' := ?_) #[oo,oo,zz,oo,oo,zz,zz,zz] rfl rfl (take_ofW HT_.out HW_.out (by kernel_rfl)) (fun _ _ _ h => h) (Or.inl ⟨by rfl, ?_⟩) hHeld ?_ ?_
 rotate_left
 ·
  rintro w' ⟨s0, s1⟩
  go_simp
  with_reducible rfl
 rotate_left
 ·
  simp only [Act.put, List.setIfInBounds_toArray, List.set_cons_zero, List.set_cons_succ, i64_w, i32_w]
  rfl
 refine take_ (i := 2) (N := some 13) (v := ?_) (a' := ?_) #[oo,oo,oo,oo,oo,zz,zz,zz] rfl rfl (take_ofW HT_.out HW_.out (by kernel_rfl)) (fun _ _ _ h => h) (Or.inl ⟨by rfl, ?_⟩) hHeld ?_ ?_
 rotate_left
 ·
  rintro w' ⟨s0, s1⟩
  go_simp
  with_reducible rfl
 rotate_left
 ·
  simp only [Act.put, List.setIfInBounds_toArray, List.set_cons_zero, List.set_cons_succ, i64_w, i32_w]
  rfl
 refine one_ (i := 5) (N := some 16) #[oo,oo,oo,oo,oo,oo,zz,zz] rfl rfl (one_of HT_.out (by kernel_rfl)) (by decide) (fun K hK => ?_)
 refine goes_ Tryd.func116 (by kernel_rfl) rfl #[.pointer (some ⟨g, 0, none⟩), .agg #[.int .i64 t203, .slice Ao11 t204.length co11], .int .i64 (wrap64 (2 * a1))] (by rfl) rfl rfl mP ?_
 with_reducible refine (spec_l20State.calls k g s0_0 t207 t203 _ _ t204 (wrap64 (2 * a1)) t209 t212 w0 _ ?side1 ?side2 ?side3 ?side4 A4.out).mono ?_
 (case side1 => repeat (first | (with_reducible first | exact HI0.out | apply IsS111.alloc | apply IsS111.drewN | apply IsS111.drew | apply IsS111.set_1 | refine IsS111.far ?_ NB0_202.out _ | refine IsS111.far ?_ NB0_208.out _) | exact HI0.out))
 (case side2 => repeat (first | (with_reducible first | exact HB.out | apply below_alloc | apply pw_below_drewN | apply below_drew1 | refine below_set ?_ (IsS111.ge HI0.out) | refine below_set ?_ GE202.out | refine below_set ?_ GE208.out) | exact HB.out))
 (case side3 => exact Kd.C_foot_own (IsS111.apart (show IsS111 w0 _ g s0_0 t207 from IsS111.k2 HI0 NB0_202 NB0_208) (gR (HO206.out)) (by decide)) (fun _ h_ => h_.2))
 (case side4 => exact (Kd.R_reads' HO206.out).2.1)
 rintro e w14 ⟨v210, rfl, ho0, hi, hb, hk⟩
 refine ⟨_, rfl, ?_⟩
 have n0_ := aM (KeepBut.blk hk (g' := gb202) (o := .cells #[.int .i64 0, .slice none 0 0] 25 (0, 0)) (gB (BK202.out)) NB202_0.out (by simp))
 have n1_ := aM (Kd.R_mono (Kd.R_keep (IsS111.apart (show IsS111 w0 _ g s0_0 t207 from IsS111.k2 HI0 NB0_202 NB0_208) (gR (HO206.out)) (by decide)) hk (fun _ h => h.2)) (fun _ h => h.1))
 have n2_ := aM (KeepBut.blk hk (g' := gb208) (o := .cells #[.int .i64 t203, .slice Ao11 t204.length co11] 25 (0, 0)) (gB (BK208.out)) NB208_0.out (by simp))
 have n3_ := aM (Kd.R_lower ho0 (keep_size (w := w) (g := g) (row := none) (kp2 HK GW202 GW208)))
 have n4_ := aM (KeepBut.trans (kp2 HK GW202 GW208) hk (.inl rfl))
 have n5_ := aM (hb)
 have n6_ := aM (hi)
 clear BK202
 clear HO206
 clear BK208
 clear HK
 clear HB
 clear HI0
 have BK202 := n0_
 have HO206 := n1_
 have BK208 := n2_
 have HO211 := n3_
 have HK := n4_
 have HB := n5_
 have HI0 := n6_
 clear n0_ n1_ n2_ n3_ n4_ n5_ n6_
 (try clear hb)
 (try clear hb2)
 (try clear hk)
 (try clear hi)
 (try clear ho0)
 refine hK.out _ _ ⟨(blk_cell BK208.out 0).trans rfl, (blk_cell BK208.out 1).trans rfl⟩ (fun hHeld => ?_)
 clear hK K
 refine norm_ (a' := ?_) ?_ ?_
 rotate_left
 ·
  show Act.put _ (some 16) _ = _
  simp only [Act.put, List.setIfInBounds_toArray, List.set_cons_zero, List.set_cons_succ, i64_w, i32_w]
  rfl
 refine one_ (i := 6) (N := none) #[oo,oo,oo,oo,oo,oo,oo,zz] rfl rfl (one_of HT_.out (by kernel_rfl)) (by decide) (fun K hK => ?_)
 have hs15 : w14.cell? ⟨gb202, 0, none⟩ = some (.int .i64 0) := (blk_cell BK202.out 0).trans rfl
 have hfs15 := blk_frozen BK202.out 0
 have hns15_1 := NB208_202.out
 have hms15_1 := NB202_208.out
 have hs16 : w14.cell? ⟨gb202, 1, none⟩ = some (.slice none 0 0) := (blk_cell BK202.out 1).trans rfl
 have hfs16 := blk_frozen BK202.out 1
 have hns16_1 := NB208_202.out
 have hms16_1 := NB202_208.out
 refine skip_ (w1 := ?_) (by rfl) rfl ?_ ?_
 rotate_left
 ·
  go_simp
  rfl
 refine hK.out _ _ ⟨((cell_far (p := ⟨gb202, _, none⟩) NB208_202.out _).trans (((cell_far (p := ⟨gb202, _, none⟩) NB208_202.out _).trans (hHeld.1)))), ((cell_far (p := ⟨gb202, _, none⟩) NB208_202.out _).trans (((cell_far (p := ⟨gb202, _, none⟩) NB208_202.out _).trans (hHeld.2))))⟩ (fun hHeld => ?_)
 clear hK K
 refine pure_ (i := 7) (N := some 5) (v := ?_) (a' := ?_) #[oo,oo,oo,oo,oo,oo,oo,oo] rfl rfl (any_of HT_.out (by kernel_rfl)) (fun _ _ _ h => h) (Or.inl ⟨by rfl, ?_⟩) ?_ ?_
 rotate_left
 ·
  intro w'
  go_simp
  with_reducible rfl
 rotate_left
 ·
  simp only [Act.put, List.setIfInBounds_toArray, List.set_cons_zero, List.set_cons_succ, i64_w, i32_w]
  rfl
 refine done_ (done_of HT_.out (by kernel_rfl)) ?_
 try go_wp2
 refine bodyPost_ret (results_ct rfl _ _ gb202 25 #[.int .i64 t203, .slice Ao11 t204.length co11] (0, 0) _ rfl (by (with_reducible repeat (first | refine blk_drewN ?_ _ | refine blk_drew ?_ | refine blk_alloc ?_ _)); refine blk_put (cs := #[.int .i64 t203, .slice none 0 0]) ?_ 1 _ rfl; (with_reducible repeat (first | refine blk_drewN ?_ _ | refine blk_drew ?_ | refine blk_alloc ?_ _)); refine blk_put (cs := #[.int .i64 0, .slice none 0 0]) ?_ 0 _ rfl; (with_reducible repeat (first | refine blk_drewN ?_ _ | refine blk_drew ?_ | refine blk_alloc ?_ _)); exact BK202.out) Tryd.underlying25 rfl (by kernel_rfl)) rfl ?_
 exact ⟨_, _, fR, by (with_reducible repeat (first | apply Kd.R_alloc | apply Kd.R_drewN | apply Kd.R_drew)); exact Kd.R_mono (Kd.R_far (p := ⟨gb202, 1, none⟩) (Kd.R_far (p := ⟨gb202, 0, none⟩) (Kd.R_types HO206.out BK202.out (by decide)) (fun _ hk => hk.2) (.int .i64 t203)) (fun _ hk => hk.2) (.slice Ao11 t204.length co11)) (fun _ hk => trivial), by (with_reducible repeat (first | apply Kd.R_alloc | apply Kd.R_drewN | apply Kd.R_drew)); exact Kd.R_mono (Kd.R_far (p := ⟨gb202, 1, none⟩) (Kd.R_far (p := ⟨gb202, 0, none⟩) (Kd.R_types HO211.out BK202.out (by decide)) (fun _ hk => hk.2) (.int .i64 t203)) (fun _ hk => hk.2) (.slice Ao11 t204.length co11)) (fun _ hk => trivial), IsS111.k2 HI0 NB0_202 NB0_208, bl3 HB (aM (IsS111.ge HI0.out)) GE202 GE208, kp2 HK GW202 GW208⟩

end Go.Proofs.YtpgjgbjkfgbpaaaDoor.P

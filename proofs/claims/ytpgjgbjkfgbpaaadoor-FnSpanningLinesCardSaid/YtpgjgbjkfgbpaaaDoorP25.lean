/- Contracts of Go functions of this seat's translation, written by this repo's wip/mk.py: it calls the kit's print.py with contracts typed by hand in place of functions that it does not take. Not trusted: Lean checks it. -/
import Derived.Test.YtpgjgbjkfgbpaaaDoorP0
import Derived.Test.YtpgjgbjkfgbpaaaDoorP17
import Derived.Test.YtpgjgbjkfgbpaaaDoorP5
namespace Go.Proofs.YtpgjgbjkfgbpaaaDoor.P
open Go.RowKit Go.Proofs.YtpgjgbjkfgbpaaaDoorW.PrintWords Go.Proofs.YtpgjgbjkfgbpaaaDoorW.PrintLast Go.Proofs.YtpgjgbjkfgbpaaaDoorW.PrintMore
attribute [local go_sem] max2_int min2_int max_two min_two max_three min_three max_four min_four   -- for this text's walks alone
set_option linter.unusedVariables false
set_option linter.unusedSimpArgs false

/-! ### impl_StateValid: function 77 -/
def impl_StateValid.f (k : Nat) (a0_0 : Int) (l0_1 : List (S79)) (l1 : List Bool) : Option (Bool) := (impl_NetValid.f k a0_0 l0_1).bind fun t288 => (if t288 = true then (some ((l1.length : Int) == (l0_1.length : Int))) else (some false))
theorem impl_StateValid.mono : ∀ a0 a1 a2 k, LeO (impl_StateValid.f k a0 a1 a2) (impl_StateValid.f (k + 1) a0 a1 a2) := by
 intro a0 a1 a2 k
 unfold impl_StateValid.f
 repeat' first
   | (with_reducible exact impl_NetValid.mono _ _ _)
   | (with_reducible exact LeO.refl _)
   | (with_reducible exact LeO.none _)
   | (with_reducible refine LeO.ite ?_ ?_)
   | (with_reducible refine LeO.bind ?_ (fun _ => ?_))
   | exact impl_NetValid.mono _ _ _
   | exact LeO.none _
   | refine LeO.ite ?_ ?_
   | refine LeO.bind ?_ (fun _ => ?_)
set_option maxHeartbeats 8000000 in
set_option maxRecDepth 100000 in
theorem impl_StateValid.calls (k : Nat) (a0_0 : Int) (A0_1 : Option Addr) (c0_1 : Nat) (l0_1 : List (S79)) (A1 : Option Addr) (c1 : Nat) (l1 : List Bool) (r : Bool) (w : World) (hr0_1 : Kd.C k79 w A0_1 l0_1.length l0_1) (hc0_1 : l0_1.length ≤ c0_1) (hr1 : Kd.C Kd.bool w A1 l1.length l1) (hc1 : l1.length ≤ c1) (h : impl_StateValid.f k a0_0 l0_1 l1 = some r) :
  Calls Tryd.prog 77 #[.agg #[.int .i64 a0_0, .slice A0_1 l0_1.length c0_1], .slice A1 l1.length c1] w fun e w' => e = .returned (.bool r) ∧ Below w.heap.size w w' := by
 have hu25 := Tryd.underlying25
 have HR0_1 := Aside0.mk hr0_1
 have HC0_1 := Aside0.mk hc0_1
 clear hr0_1 hc0_1
 have HR1 := Aside0.mk hr1
 have HC1 := Aside0.mk hc1
 clear hr1 hc1
 have HB := aM (Below.refl w.heap.size w)
 have H : ((impl_NetValid.f k a0_0 l0_1).bind fun t288 => (if t288 = true then (some ((l1.length : Int) == (l0_1.length : Int))) else (some false))) = some r := h
 clear h
 replace H := Option.bind_eq_some_iff.mp H
 obtain ⟨t288, A30, H⟩ := H
 replace H : (if t288 = true then (some ((l1.length : Int) == (l0_1.length : Int))) else (some false)) = some r := H
 have A3 := Aside0.mk A30
 clear A30
 by_cases c4 : t288 = true
 rotate_left
 ·
  replace c4 := Bool.eq_false_iff.mpr c4
  subst c4
  have H1 : (some false) = some r := by rw [if_neg (show ¬ (false = true) by decide)] at H; exact H
  clear H
  have H := H1
  clear H1
  obtain rfl := Option.some.inj H
  go_enter Tryd.func77, Tryd.ntmps77
  go_wp2_with (first | ((with_reducible refine gate_dst (N := 2) rfl ?_); refine box_event ?hg (N := 2) ?hd (cs := #[.int .i64 a0_0, .slice A0_1 l0_1.length c0_1]) (t := 25) ?hr ?_; (case hd => rfl); (case hg => rfl); (case hr => exact hR); intro gb287 hg w9 hbox hb; have n0_ := aM (below_step (bl0 HB) hb); have n1_ := aM (hbox); have n2_ := aM ((by rw [hg]; exact (below_size (bl0 HB)) : w.heap.size ≤ gb287)); have n3_ := aM ((by rw [hg]; exact (below_size (bl0 HB)) : w.heap.size ≤ gb287)); clear HB; have HB := n0_; have BK287 := n1_; have GW287 := n2_; have GE287 := n3_; clear n0_ n1_ n2_ n3_; clear hb hbox hg; have hcz10_0 : w9.cell? ⟨gb287, 0, none⟩ = some (.int .i64 a0_0) := (blk_cell BK287.out 0).trans rfl; have hcz10_1 : w9.cell? ⟨gb287, 1, none⟩ = some (.slice A0_1 l0_1.length c0_1) := (blk_cell BK287.out 1).trans rfl; have hfz10_0 := blk_frozen BK287.out 0; have hfz10_1 := blk_frozen BK287.out 1) | ((with_reducible refine gate_callee (f := 59) rfl ?_); refine goesL_ (some 6) rfl rfl Tryd.func59 (by kernel_rfl) rfl #[.agg #[.int .i64 a0_0, .slice A0_1 l0_1.length c0_1]] rfl mP ?_; (with_reducible refine (impl_NetValid.calls k a0_0 _ _ l0_1 false _ ?side1 ?side2 A3.out).mono ?_); (case side1 => exact gC ((Kd.C_below HR0_1.out HB.out))); (case side2 => exact HC0_1.out); rintro e w11 ⟨rfl, hb⟩; refine ⟨_, rfl, ?_⟩; have n0_ := aM (blk_below (g := gb287) (o := .cells #[.int .i64 a0_0, .slice A0_1 l0_1.length c0_1] 25 (0, 0)) (gB (BK287.out)) hb); have n1_ := aM (below_step (bl1 HB GE287) hb); clear BK287; clear HB; have BK287 := n0_; have HB := n1_; clear n0_ n1_; (try clear hb); (try clear hb2); (try clear hk); (try clear hi)))
  go_ret
  exact ⟨fR, bl1 HB GE287⟩
 subst c4
 have H1 : (some ((l1.length : Int) == (l0_1.length : Int))) = some r := by rw [if_pos rfl] at H; exact H
 clear H
 have H := H1
 clear H1
 obtain rfl := Option.some.inj H
 go_enter Tryd.func77, Tryd.ntmps77
 go_wp2_with (first | ((with_reducible refine gate_dst (N := 2) rfl ?_); refine box_event ?hg (N := 2) ?hd (cs := #[.int .i64 a0_0, .slice A0_1 l0_1.length c0_1]) (t := 25) ?hr ?_; (case hd => rfl); (case hg => rfl); (case hr => exact hR); intro gb287 hg w5 hbox hb; have n0_ := aM (below_step (bl0 HB) hb); have n1_ := aM (hbox); have n2_ := aM ((by rw [hg]; exact (below_size (bl0 HB)) : w.heap.size ≤ gb287)); have n3_ := aM ((by rw [hg]; exact (below_size (bl0 HB)) : w.heap.size ≤ gb287)); clear HB; have HB := n0_; have BK287 := n1_; have GW287 := n2_; have GE287 := n3_; clear n0_ n1_ n2_ n3_; clear hb hbox hg; have hcz6_0 : w5.cell? ⟨gb287, 0, none⟩ = some (.int .i64 a0_0) := (blk_cell BK287.out 0).trans rfl; have hcz6_1 : w5.cell? ⟨gb287, 1, none⟩ = some (.slice A0_1 l0_1.length c0_1) := (blk_cell BK287.out 1).trans rfl; have hfz6_0 := blk_frozen BK287.out 0; have hfz6_1 := blk_frozen BK287.out 1) | ((with_reducible refine gate_callee (f := 59) rfl ?_); refine goesL_ (some 6) rfl rfl Tryd.func59 (by kernel_rfl) rfl #[.agg #[.int .i64 a0_0, .slice A0_1 l0_1.length c0_1]] rfl mP ?_; (with_reducible refine (impl_NetValid.calls k a0_0 _ _ l0_1 true _ ?side1 ?side2 A3.out).mono ?_); (case side1 => exact gC ((Kd.C_below HR0_1.out HB.out))); (case side2 => exact HC0_1.out); rintro e w7 ⟨rfl, hb⟩; refine ⟨_, rfl, ?_⟩; have n0_ := aM (blk_below (g := gb287) (o := .cells #[.int .i64 a0_0, .slice A0_1 l0_1.length c0_1] 25 (0, 0)) (gB (BK287.out)) hb); have n1_ := aM (below_step (bl1 HB GE287) hb); clear BK287; clear HB; have BK287 := n0_; have HB := n1_; clear n0_ n1_; (try clear hb); (try clear hb2); (try clear hk); (try clear hi); have hcz8_0 : w7.cell? ⟨gb287, 0, none⟩ = some (.int .i64 a0_0) := (blk_cell BK287.out 0).trans rfl; have hcz8_1 : w7.cell? ⟨gb287, 1, none⟩ = some (.slice A0_1 l0_1.length c0_1) := (blk_cell BK287.out 1).trans rfl; have hfz8_0 := blk_frozen BK287.out 0; have hfz8_1 := blk_frozen BK287.out 1))
 go_ret
 exact ⟨fR, bl1 HB GE287⟩

end Go.Proofs.YtpgjgbjkfgbpaaaDoor.P
namespace Go.Proofs.YtpgjgbjkfgbpaaaDoor.P
open Go.RowKit Go.Proofs.YtpgjgbjkfgbpaaaDoorW.PrintWords Go.Proofs.YtpgjgbjkfgbpaaaDoorW.PrintLast Go.Proofs.YtpgjgbjkfgbpaaaDoorW.PrintMore
attribute [local go_sem] max2_int min2_int max_two min_two max_three min_three max_four min_four   -- for this text's walks alone
set_option linter.unusedVariables false
set_option linter.unusedSimpArgs false

/-! ### impl_unionOf: function 72 -/
def impl_unionOf.l0 : Nat → List Bool → List Int → List (S79) → Int → Int → Option (List Int)
 | 0, _, _, _, _, _ => none
 | k + 1, x1, x5, x12, x13, x14 => if x14 < x13 then (if 0 ≤ x14 then (if x14 < (x12.length : Int) then (if x14 < (x1.length : Int) then (if rdOf false x1 x14 = true then ((impl_union_join.f k x5 ((rd_T79 x12 x14).f0) ((rd_T79 x12 x14).f1)).bind fun t305 => (impl_unionOf.l0 k x1 t305 x12 x13 (wrap64 (x14 + 1)))) else (impl_unionOf.l0 k x1 x5 x12 x13 (wrap64 (x14 + 1)))) else (none)) else (none)) else (none)) else (some x5)
def impl_unionOf.f (k : Nat) (a0_0 : Int) (l0_1 : List (S79)) (l1 : List Bool) : Option (List Int) := (impl_newUnion.f k a0_0).bind fun t299 => (impl_unionOf.l0 k l1 t299 l0_1 (l0_1.length : Int) 0)
theorem impl_unionOf.mono_l : ∀ k, (∀ y0 y1 y2 y3 y4, LeO (impl_unionOf.l0 k y0 y1 y2 y3 y4) (impl_unionOf.l0 (k + 1) y0 y1 y2 y3 y4))
 | 0 => fun _ _ _ _ _ r h => by simp [impl_unionOf.l0] at h
 | k + 1 => by
  have ih0 := impl_unionOf.mono_l k
  ·
   intro y0 y1 y2 y3 y4
   unfold impl_unionOf.l0
   repeat' first
   | (with_reducible exact ih0 _ _ _ _ _)
   | (with_reducible exact impl_newUnion.mono _ _)
   | (with_reducible exact impl_union_join.mono _ _ _ _)
   | (with_reducible exact LeO.refl _)
   | (with_reducible exact LeO.none _)
   | (with_reducible refine LeO.ite ?_ ?_)
   | (with_reducible refine LeO.bind ?_ (fun _ => ?_))
   | exact ih0 _ _ _ _ _
   | exact impl_newUnion.mono _ _
   | exact impl_union_join.mono _ _ _ _
   | exact LeO.none _
   | refine LeO.ite ?_ ?_
   | refine LeO.bind ?_ (fun _ => ?_)
theorem impl_unionOf.mono : ∀ a0 a1 a2 k, LeO (impl_unionOf.f k a0 a1 a2) (impl_unionOf.f (k + 1) a0 a1 a2) := by
 intro a0 a1 a2 k
 have ih0 := impl_unionOf.mono_l k
 unfold impl_unionOf.f
 repeat' first
   | (with_reducible exact ih0 _ _ _ _ _)
   | (with_reducible exact impl_newUnion.mono _ _)
   | (with_reducible exact impl_union_join.mono _ _ _ _)
   | (with_reducible exact LeO.refl _)
   | (with_reducible exact LeO.none _)
   | (with_reducible refine LeO.ite ?_ ?_)
   | (with_reducible refine LeO.bind ?_ (fun _ => ?_))
   | exact ih0 _ _ _ _ _
   | exact impl_newUnion.mono _ _
   | exact impl_union_join.mono _ _ _ _
   | exact LeO.none _
   | refine LeO.ite ?_ ?_
   | refine LeO.bind ?_ (fun _ => ?_)
set_option maxHeartbeats 8000000 in
set_option maxRecDepth 100000 in
theorem impl_unionOf.calls (k : Nat) (a0_0 : Int) (A0_1 : Option Addr) (c0_1 : Nat) (l0_1 : List (S79)) (A1 : Option Addr) (c1 : Nat) (l1 : List Bool) (r : List Int) (w : World) (hr0_1 : Kd.C k79 w A0_1 l0_1.length l0_1) (hc0_1 : l0_1.length ≤ c0_1) (hr1 : Kd.C Kd.bool w A1 l1.length l1) (hc1 : l1.length ≤ c1) (h : impl_unionOf.f k a0_0 l0_1 l1 = some r) :
  Calls Tryd.prog 72 #[.agg #[.int .i64 a0_0, .slice A0_1 l0_1.length c0_1], .slice A1 l1.length c1] w fun e w' => ∃ v0_ : Value, e = .returned (v0_) ∧ Kd.R (Kd.int .i64) 3 w' w.heap.size (fun _ => True) v0_ r ∧ Below w.heap.size w w' := by
 have hu25 := Tryd.underlying25
 have hu79 := Tryd.underlying79
 have HR0_1 := Aside0.mk hr0_1
 have HC0_1 := Aside0.mk hc0_1
 clear hr0_1 hc0_1
 have HR1 := Aside0.mk hr1
 have HC1 := Aside0.mk hc1
 clear hr1 hc1
 have HB := aM (Below.refl w.heap.size w)
 have H : ((impl_newUnion.f k a0_0).bind fun t299 => (impl_unionOf.l0 k l1 t299 l0_1 (l0_1.length : Int) 0)) = some r := h
 clear h
 replace H := Option.bind_eq_some_iff.mp H
 obtain ⟨t299, A30, H⟩ := H
 replace H : (impl_unionOf.l0 k l1 t299 l0_1 (l0_1.length : Int) 0) = some r := H
 have A3 := Aside0.mk A30
 clear A30
 have H' := Aside0.mk H
 clear H
 go_enter Tryd.func72, Tryd.ntmps72
 go_wp2_with (first | ((with_reducible refine gate_dst (N := 2) rfl ?_); refine box_event ?hg (N := 2) ?hd (cs := #[.int .i64 a0_0, .slice A0_1 l0_1.length c0_1]) (t := 25) ?hr ?_; (case hd => rfl); (case hg => rfl); (case hr => exact hR); intro gb298 hg w4 hbox hb; have n0_ := aM (below_step (bl0 HB) hb); have n1_ := aM (hbox); have n2_ := aM ((by rw [hg]; exact (below_size (bl0 HB)) : w.heap.size ≤ gb298)); have n3_ := aM ((by rw [hg]; exact (below_size (bl0 HB)) : w.heap.size ≤ gb298)); clear HB; have HB := n0_; have BK298 := n1_; have GW298 := n2_; have GE298 := n3_; clear n0_ n1_ n2_ n3_; clear hb hbox hg; have hcz5_0 : w4.cell? ⟨gb298, 0, none⟩ = some (.int .i64 a0_0) := (blk_cell BK298.out 0).trans rfl; have hcz5_1 : w4.cell? ⟨gb298, 1, none⟩ = some (.slice A0_1 l0_1.length c0_1) := (blk_cell BK298.out 1).trans rfl; have hfz5_0 := blk_frozen BK298.out 0; have hfz5_1 := blk_frozen BK298.out 1) | ((with_reducible refine gate_callee (f := 87) rfl ?_); refine goesL_ (some 10) rfl rfl Tryd.func87 (by kernel_rfl) rfl #[.int .i64 a0_0] rfl mP ?_; (with_reducible refine (impl_newUnion.calls k a0_0 t299 _ A3.out).mono ?_); rintro e w6 ⟨v300, rfl, ho0, hb⟩; refine ⟨_, rfl, ?_⟩; have n0_ := aM (Kd.R_lower ho0 (below_size (bl1 HB GE298))); have n1_ := aM (blk_below (g := gb298) (o := .cells #[.int .i64 a0_0, .slice A0_1 l0_1.length c0_1] 25 (0, 0)) (gB (BK298.out)) hb); have n2_ := aM (below_step (bl1 HB GE298) hb); clear BK298; clear HB; have HO301 := n0_; have BK298 := n1_; have HB := n2_; clear n0_ n1_ n2_; (try clear hb); (try clear hb2); (try clear hk); (try clear hi); (try clear ho0); have hcz7_0 : w6.cell? ⟨gb298, 0, none⟩ = some (.int .i64 a0_0) := (blk_cell BK298.out 0).trans rfl; have hcz7_1 : w6.cell? ⟨gb298, 1, none⟩ = some (.slice A0_1 l0_1.length c0_1) := (blk_cell BK298.out 1).trans rfl; have hfz7_0 := blk_frozen BK298.out 0; have hfz7_1 := blk_frozen BK298.out 1))
 go_loopg [14] k (fun kq v14 w' => ∃ (x5_1 : List Int) (x14_1 : Int), v14 = .int .i64 x14_1 ∧ Aside0 (impl_unionOf.l0 kq l1 x5_1 l0_1 (l0_1.length : Int) x14_1 = some r) ∧ Aside0 (kq ≤ k) ∧ Aside0 (Kd.R (Kd.int .i64) 3 w' w.heap.size (fun _ => True) v300 x5_1) ∧ Aside0 (w'.heap[gb298]? = some (.cells #[.int .i64 a0_0, (.slice A0_1 l0_1.length c0_1)] 25 (0, 0))) ∧ Aside0 (Below w.heap.size w w'))
 case atStart => exact ⟨(t299), (0), fS, H', ⟨Nat.le_refl _⟩, ⟨gR (HO301.out)⟩, ⟨gB (BK298.out)⟩, ⟨bl1 HB GE298⟩⟩
 case round =>
  clear H'
  try clear c1
  try clear p2
  try clear c7
  try clear hcz5_0
  try clear hcz5_1
  try clear hcz7_0
  try clear hcz7_1
  try clear hfz5_0
  try clear hfz5_1
  try clear hfz7_0
  try clear hfz7_1
  obtain ⟨x5_1, x14_1, rfl, HA, HK1, HO_5, BK298, HB⟩ := hrel
  cases gk with
  | zero => exact absurd HA.out (by simp [impl_unionOf.l0])
  | succ k1 =>
   have H := HA.out
   clear HA
   simp only [impl_unionOf.l0] at H
   by_cases c8 : x14_1 < (l0_1.length : Int)
   rotate_left
   ·
    rw [if_neg c8] at H
    have c8b0 : decide (x14_1 < (l0_1.length : Int)) = false := decide_eq_false c8
    clear c8
    obtain rfl := Option.some.inj H
    go_wp2
    go_ret
    exact ⟨_, fR, gR (HO_5.out), bl1 HB GE298⟩
   rw [if_pos c8] at H
   have c8b0 : decide (x14_1 < (l0_1.length : Int)) = true := decide_eq_true c8
   clear c8
   by_cases c9 : 0 ≤ x14_1
   rotate_left
   ·
    rw [if_neg c9] at H
    exact absurd H (by simp)
   rw [if_pos c9] at H
   have c9b0 : decide (0 ≤ x14_1) = true := decide_eq_true c9
   clear c9
   by_cases c10 : x14_1 < (l0_1.length : Int)
   rotate_left
   ·
    rw [if_neg c10] at H
    exact absurd H (by simp)
   rw [if_pos c10] at H
   have c10b0 : decide (x14_1 < (l0_1.length : Int)) = true := decide_eq_true c10
   clear c10
   by_cases c11 : x14_1 < (l1.length : Int)
   rotate_left
   ·
    rw [if_neg c11] at H
    exact absurd H (by simp)
   rw [if_pos c11] at H
   have c11b0 : decide (x14_1 < (l1.length : Int)) = true := decide_eq_true c11
   clear c11
   obtain ⟨bq12, hbq12⟩ : ∃ b_ : Bool, b_ = (rdOf false l1 x14_1) := ⟨_, rfl⟩
   replace H : (if bq12 = true then ((impl_union_join.f k1 x5_1 ((rd_T79 l0_1 x14_1).f0) ((rd_T79 l0_1 x14_1).f1)).bind fun t305 => (impl_unionOf.l0 k1 l1 t305 l0_1 (l0_1.length : Int) (wrap64 (x14_1 + 1)))) else (impl_unionOf.l0 k1 l1 x5_1 l0_1 (l0_1.length : Int) (wrap64 (x14_1 + 1)))) = some r := by rw [← hbq12] at H; exact H
   have Nbq12 := Aside0.mk hbq12
   clear hbq12
   by_cases c13 : bq12 = true
   rotate_left
   ·
    replace c13 := Bool.eq_false_iff.mpr c13
    subst c13
    have H1 : (impl_unionOf.l0 k1 l1 x5_1 l0_1 (l0_1.length : Int) (wrap64 (x14_1 + 1))) = some r := by rw [if_neg (show ¬ (false = true) by decide)] at H; exact H
    clear H
    have H := H1
    clear H1
    have H' := Aside0.mk H
    clear H
    have p302 : 0 ≤ (x14_1 : Int) := oD
    have q302 : x14_1 < (l0_1.length : Int) := oD
    obtain ⟨ad302, e302, hx302_0, hx302_1, hx302_2⟩ := at_T79 HR0_1.out x14_1 p302 q302
    cases e302
    replace hx302_0 := (HB.out.cell (World.block_lt_of_cell? w _ hx302_0)).trans hx302_0
    replace hx302_1 := (HB.out.cell (World.block_lt_of_cell? w _ hx302_1)).trans hx302_1
    replace hx302_2 := (HB.out.cell (World.block_lt_of_cell? w _ hx302_2)).trans hx302_2
    replace p302 := eq_true p302
    replace q302 := eq_true q302
    go_wp2_with (first | ((with_reducible refine gate_dst (N := 7) rfl ?_); refine box_event ?hg (N := 7) ?hd (cs := #[.int .i64 0, .int .i64 0, .int .i64 0]) (t := 79) ?hr ?_; (case hd => rfl); (case hg => rfl); (case hr => exact hR); intro gb303 hg w22 hbox hb; have n0_ := aM (Kd.R_below (gR (HO_5.out)) hb); have n1_ := aM (blk_below (g := gb298) (o := .cells #[.int .i64 a0_0, .slice (some ad302) l0_1.length c0_1] 25 (0, 0)) (gB (BK298.out)) hb); have n2_ := aM (below_step (bl1 HB GE298) hb); have n3_ := aM (hbox); have n4_ := aM ((by rw [hg]; exact (below_size (bl1 HB GE298)) : w.heap.size ≤ gb303)); have n5_ := aM ((by rw [hg]; exact (below_size (bl1 HB GE298)) : w.heap.size ≤ gb303)); have n6_ := aM ((by rw [hg]; exact Nat.ne_of_lt (blk_lt (g := gb298) (o := .cells #[.int .i64 a0_0, .slice (some ad302) l0_1.length c0_1] 25 (0, 0)) (gB (BK298.out))) : gb298 ≠ gb303)); have n7_ := aM ((by rw [hg]; exact Nat.ne_of_gt (blk_lt (g := gb298) (o := .cells #[.int .i64 a0_0, .slice (some ad302) l0_1.length c0_1] 25 (0, 0)) (gB (BK298.out))) : gb303 ≠ gb298)); clear HO_5; clear BK298; clear HB; have HO_5 := n0_; have BK298 := n1_; have HB := n2_; have BK303 := n3_; have GW303 := n4_; have GE303 := n5_; have NB298_303 := n6_; have NB303_298 := n7_; clear n0_ n1_ n2_ n3_ n4_ n5_ n6_ n7_; clear hb hbox hg; have hnb23 := NB303_298.out; have hnc23 := NB298_303.out; have hcz24_0 : w22.cell? ⟨gb303, 0, none⟩ = some (.int .i64 0) := (blk_cell BK303.out 0).trans rfl; have hcz24_1 : w22.cell? ⟨gb303, 1, none⟩ = some (.int .i64 0) := (blk_cell BK303.out 1).trans rfl; have hcz24_2 : w22.cell? ⟨gb303, 2, none⟩ = some (.int .i64 0) := (blk_cell BK303.out 2).trans rfl; have hfz24_0 := blk_frozen BK303.out 0; have hfz24_1 := blk_frozen BK303.out 1; have hfz24_2 := blk_frozen BK303.out 2; have p304 : 0 ≤ (x14_1 : Int) := oD; have q304 : x14_1 < (l1.length : Int) := oD; obtain ⟨ad304, e304, hx304_0⟩ := Kd.at_bool HR1.out x14_1 p304 q304; (try rw [← Nbq12.out] at hx304_0); cases e304; have hn304_0 : ad304.block ≠ gb303 := Nat.ne_of_lt (Nat.lt_of_lt_of_le (by have := World.block_lt_of_cell? _ _ hx304_0; first | rwa [add_block] at this | exact this) GW303.out); have hn304_1 : ad304.block ≠ gb303 := Nat.ne_of_lt (Nat.lt_of_lt_of_le (by have := World.block_lt_of_cell? _ _ hx304_0; first | rwa [add_block] at this | exact this) GW303.out); have hn304_2 : ad304.block ≠ gb303 := Nat.ne_of_lt (Nat.lt_of_lt_of_le (by have := World.block_lt_of_cell? _ _ hx304_0; first | rwa [add_block] at this | exact this) GW303.out); replace hx304_0 := (HB.out.cell (World.block_lt_of_cell? w _ hx304_0)).trans hx304_0; replace hx304_0 := (cell_far (p := ⟨gb303, 0, none⟩) (by first | (rw [add_block]; exact hn304_0) | (show (Addr.add _ _).block ≠ _; rw [add_block]; exact hn304_0) | exact hn304_0) (.int .i64 ((rd_T79 l0_1 x14_1).f0))).trans hx304_0; replace hx304_0 := (cell_far (p := ⟨gb303, 1, none⟩) (by first | (rw [add_block]; exact hn304_1) | (show (Addr.add _ _).block ≠ _; rw [add_block]; exact hn304_1) | exact hn304_1) (.int .i64 ((rd_T79 l0_1 x14_1).f1))).trans hx304_0; replace hx304_0 := (cell_far (p := ⟨gb303, 2, none⟩) (by first | (rw [add_block]; exact hn304_2) | (show (Addr.add _ _).block ≠ _; rw [add_block]; exact hn304_2) | exact hn304_2) (.int .i64 ((rd_T79 l0_1 x14_1).f2))).trans hx304_0; clear hn304_0; clear hn304_1; clear hn304_2; replace p304 := eq_true p304; replace q304 := eq_true q304))
    go_roundg k1
    case measure => have := HK1.out; omega
    case rel => exact ⟨(x5_1), (wrap64 (x14_1 + 1)), fS, H', ⟨by have := HK1.out; omega⟩, ⟨by (with_reducible repeat (first | apply Kd.R_alloc | apply Kd.R_drewN | apply Kd.R_drew)); exact Kd.R_mono (Kd.R_far (p := ⟨gb303, 2, none⟩) (Kd.R_far (p := ⟨gb303, 1, none⟩) (Kd.R_far (p := ⟨gb303, 0, none⟩) (Kd.R_types HO_5.out BK303.out (by decide)) (fun _ hk => hk.2) (.int .i64 ((rd_T79 l0_1 x14_1).f0))) (fun _ hk => hk.2) (.int .i64 ((rd_T79 l0_1 x14_1).f1))) (fun _ hk => hk.2) (.int .i64 ((rd_T79 l0_1 x14_1).f2))) (fun _ hk => trivial)⟩, ⟨by (with_reducible repeat (first | refine blk_drewN ?_ _ | refine blk_drew ?_ | refine blk_alloc ?_ _)); refine blk_far ?_ NB298_303.out _; (with_reducible repeat (first | refine blk_drewN ?_ _ | refine blk_drew ?_ | refine blk_alloc ?_ _)); refine blk_far ?_ NB298_303.out _; (with_reducible repeat (first | refine blk_drewN ?_ _ | refine blk_drew ?_ | refine blk_alloc ?_ _)); refine blk_far ?_ NB298_303.out _; (with_reducible repeat (first | refine blk_drewN ?_ _ | refine blk_drew ?_ | refine blk_alloc ?_ _)); exact BK298.out⟩, ⟨bl2 HB GE298 GE303⟩⟩
   subst c13
   have H1 : ((impl_union_join.f k1 x5_1 ((rd_T79 l0_1 x14_1).f0) ((rd_T79 l0_1 x14_1).f1)).bind fun t305 => (impl_unionOf.l0 k1 l1 t305 l0_1 (l0_1.length : Int) (wrap64 (x14_1 + 1)))) = some r := by rw [if_pos rfl] at H; exact H
   clear H
   have H := H1
   clear H1
   replace H := Option.bind_eq_some_iff.mp H
   obtain ⟨t305, A140, H⟩ := H
   replace H : (impl_unionOf.l0 k1 l1 t305 l0_1 (l0_1.length : Int) (wrap64 (x14_1 + 1))) = some r := H
   have A14 := Aside0.mk A140
   clear A140
   have H' := Aside0.mk H
   clear H
   have p302 : 0 ≤ (x14_1 : Int) := oD
   have q302 : x14_1 < (l0_1.length : Int) := oD
   obtain ⟨ad302, e302, hx302_0, hx302_1, hx302_2⟩ := at_T79 HR0_1.out x14_1 p302 q302
   cases e302
   replace hx302_0 := (HB.out.cell (World.block_lt_of_cell? w _ hx302_0)).trans hx302_0
   replace hx302_1 := (HB.out.cell (World.block_lt_of_cell? w _ hx302_1)).trans hx302_1
   replace hx302_2 := (HB.out.cell (World.block_lt_of_cell? w _ hx302_2)).trans hx302_2
   replace p302 := eq_true p302
   replace q302 := eq_true q302
   go_wp2_with (first | ((with_reducible refine gate_dst (N := 7) rfl ?_); refine box_event ?hg (N := 7) ?hd (cs := #[.int .i64 0, .int .i64 0, .int .i64 0]) (t := 79) ?hr ?_; (case hd => rfl); (case hg => rfl); (case hr => exact hR); intro gb303 hg w15 hbox hb; have n0_ := aM (Kd.R_below (gR (HO_5.out)) hb); have n1_ := aM (blk_below (g := gb298) (o := .cells #[.int .i64 a0_0, .slice (some ad302) l0_1.length c0_1] 25 (0, 0)) (gB (BK298.out)) hb); have n2_ := aM (below_step (bl1 HB GE298) hb); have n3_ := aM (hbox); have n4_ := aM ((by rw [hg]; exact (below_size (bl1 HB GE298)) : w.heap.size ≤ gb303)); have n5_ := aM ((by rw [hg]; exact (below_size (bl1 HB GE298)) : w.heap.size ≤ gb303)); have n6_ := aM ((by rw [hg]; exact Nat.ne_of_lt (blk_lt (g := gb298) (o := .cells #[.int .i64 a0_0, .slice (some ad302) l0_1.length c0_1] 25 (0, 0)) (gB (BK298.out))) : gb298 ≠ gb303)); have n7_ := aM ((by rw [hg]; exact Nat.ne_of_gt (blk_lt (g := gb298) (o := .cells #[.int .i64 a0_0, .slice (some ad302) l0_1.length c0_1] 25 (0, 0)) (gB (BK298.out))) : gb303 ≠ gb298)); clear HO_5; clear BK298; clear HB; have HO_5 := n0_; have BK298 := n1_; have HB := n2_; have BK303 := n3_; have GW303 := n4_; have GE303 := n5_; have NB298_303 := n6_; have NB303_298 := n7_; clear n0_ n1_ n2_ n3_ n4_ n5_ n6_ n7_; clear hb hbox hg; have hnb16 := NB303_298.out; have hnc16 := NB298_303.out; have hcz17_0 : w15.cell? ⟨gb303, 0, none⟩ = some (.int .i64 0) := (blk_cell BK303.out 0).trans rfl; have hcz17_1 : w15.cell? ⟨gb303, 1, none⟩ = some (.int .i64 0) := (blk_cell BK303.out 1).trans rfl; have hcz17_2 : w15.cell? ⟨gb303, 2, none⟩ = some (.int .i64 0) := (blk_cell BK303.out 2).trans rfl; have hfz17_0 := blk_frozen BK303.out 0; have hfz17_1 := blk_frozen BK303.out 1; have hfz17_2 := blk_frozen BK303.out 2) | ((with_reducible refine gate_store (t := 79) (p := 7) rfl ?_); refine store_event (t := 79) (p := 7) (v := ?vo_w18) (w1 := (((w15.setCell ⟨gb303, 0, none⟩ (.int .i64 ((rd_T79 l0_1 x14_1).f0))).setCell ⟨gb303, 1, none⟩ (.int .i64 ((rd_T79 l0_1 x14_1).f1))).setCell ⟨gb303, 2, none⟩ (.int .i64 ((rd_T79 l0_1 x14_1).f2)))) ?hg ?ho ?hn ?hr ?_; (case ho => rfl); (case hg => rfl); (case hn => rfl); (case hr => exact hR); intro w18 hw; have n0_ : Aside0 (Kd.R (Kd.int .i64) 3 w18 w.heap.size (fun _ => True) v300 x5_1) := ⟨(by rw [hw]; exact (by (with_reducible repeat (first | apply Kd.R_alloc | apply Kd.R_drewN | apply Kd.R_drew)); exact Kd.R_mono (Kd.R_far (p := ⟨gb303, 2, none⟩) (Kd.R_far (p := ⟨gb303, 1, none⟩) (Kd.R_far (p := ⟨gb303, 0, none⟩) (Kd.R_types HO_5.out BK303.out (by decide)) (fun _ hk => hk.2) (.int .i64 ((rd_T79 l0_1 x14_1).f0))) (fun _ hk => hk.2) (.int .i64 ((rd_T79 l0_1 x14_1).f1))) (fun _ hk => hk.2) (.int .i64 ((rd_T79 l0_1 x14_1).f2))) (fun _ hk => trivial)))⟩; have n1_ : Aside0 (w18.heap[gb298]? = some (.cells #[.int .i64 a0_0, .slice (some ad302) l0_1.length c0_1] 25 (0, 0))) := ⟨(by rw [hw]; exact (by (with_reducible repeat (first | refine blk_drewN ?_ _ | refine blk_drew ?_ | refine blk_alloc ?_ _)); refine blk_far ?_ NB298_303.out _; (with_reducible repeat (first | refine blk_drewN ?_ _ | refine blk_drew ?_ | refine blk_alloc ?_ _)); refine blk_far ?_ NB298_303.out _; (with_reducible repeat (first | refine blk_drewN ?_ _ | refine blk_drew ?_ | refine blk_alloc ?_ _)); refine blk_far ?_ NB298_303.out _; (with_reducible repeat (first | refine blk_drewN ?_ _ | refine blk_drew ?_ | refine blk_alloc ?_ _)); exact BK298.out))⟩; have n2_ : Aside0 (w18.heap[gb303]? = some (.cells #[.int .i64 ((rd_T79 l0_1 x14_1).f0), .int .i64 ((rd_T79 l0_1 x14_1).f1), .int .i64 ((rd_T79 l0_1 x14_1).f2)] 79 (0, 0))) := ⟨(by rw [hw]; exact (by (with_reducible repeat (first | refine blk_drewN ?_ _ | refine blk_drew ?_ | refine blk_alloc ?_ _)); refine blk_put (cs := #[.int .i64 ((rd_T79 l0_1 x14_1).f0), .int .i64 ((rd_T79 l0_1 x14_1).f1), .int .i64 0]) ?_ 2 _ rfl; (with_reducible repeat (first | refine blk_drewN ?_ _ | refine blk_drew ?_ | refine blk_alloc ?_ _)); refine blk_put (cs := #[.int .i64 ((rd_T79 l0_1 x14_1).f0), .int .i64 0, .int .i64 0]) ?_ 1 _ rfl; (with_reducible repeat (first | refine blk_drewN ?_ _ | refine blk_drew ?_ | refine blk_alloc ?_ _)); refine blk_put (cs := #[.int .i64 0, .int .i64 0, .int .i64 0]) ?_ 0 _ rfl; (with_reducible repeat (first | refine blk_drewN ?_ _ | refine blk_drew ?_ | refine blk_alloc ?_ _)); exact BK303.out))⟩; have n3_ : Aside0 (Below w.heap.size w w18) := ⟨(by rw [hw]; exact (bl2 HB GE298 GE303))⟩; clear hw; clear HO_5; clear BK298; clear BK303; clear HB; have HO_5 := n0_; have BK298 := n1_; have BK303 := n2_; have HB := n3_; clear n0_ n1_ n2_ n3_; have p304 : 0 ≤ (x14_1 : Int) := oD; have q304 : x14_1 < (l1.length : Int) := oD; obtain ⟨ad304, e304, hx304_0⟩ := Kd.at_bool HR1.out x14_1 p304 q304; (try rw [← Nbq12.out] at hx304_0); cases e304; replace hx304_0 := (HB.out.cell (World.block_lt_of_cell? w _ hx304_0)).trans hx304_0; replace p304 := eq_true p304; replace q304 := eq_true q304; have hcz19_0 : w18.cell? ⟨gb303, 0, none⟩ = some (.int .i64 ((rd_T79 l0_1 x14_1).f0)) := (blk_cell BK303.out 0).trans rfl; have hcz19_1 : w18.cell? ⟨gb303, 1, none⟩ = some (.int .i64 ((rd_T79 l0_1 x14_1).f1)) := (blk_cell BK303.out 1).trans rfl; have hcz19_2 : w18.cell? ⟨gb303, 2, none⟩ = some (.int .i64 ((rd_T79 l0_1 x14_1).f2)) := (blk_cell BK303.out 2).trans rfl; have hfz19_0 := blk_frozen BK303.out 0; have hfz19_1 := blk_frozen BK303.out 1; have hfz19_2 := blk_frozen BK303.out 2; obtain ⟨Ao20, co20, eo20⟩ := Kd.R_slice HO_5.out; subst eo20) | ((with_reducible refine gate_callee (f := 89) rfl ?_); refine goesL_ (some 28) rfl rfl Tryd.func89 (by kernel_rfl) rfl #[.slice Ao20 x5_1.length co20, .int .i64 ((rd_T79 l0_1 x14_1).f0), .int .i64 ((rd_T79 l0_1 x14_1).f1)] rfl mP ?_; (with_reducible refine (impl_union_join.calls k1 (fun k_ => some k_ = (.slice Ao20 x5_1.length co20 : Value).ownBlock) (.slice Ao20 x5_1.length co20) x5_1 ((rd_T79 l0_1 x14_1).f0) ((rd_T79 l0_1 x14_1).f1) t305 w _ ?side1 ?side2 A14.out).mono ?_); (case side1 => repeat (first | (with_reducible first | exact HB.out | apply below_alloc | apply pw_below_drewN | apply below_drew1 | refine below_set ?_ GE298.out | refine below_set ?_ GE303.out) | exact HB.out)); (case side2 => exact Kd.R_tight rfl HO_5.out); rintro e w21 ⟨rfl, hy0, hb, hkp⟩; refine ⟨_, rfl, ?_⟩; have n0_ := aM (Kd.R_reok rfl hy0 (fun k_ e_ => HO_5.out.1 k_ e_)); have n1_ := aM (blk_kept (gB (BK298.out)) hkp (fun hs_ => (fun e_ => (Kd.R_ne HO_5.out BK298.out (by decide)) e_) hs_)); have n2_ := aM (blk_kept (gB (BK303.out)) hkp (fun hs_ => (fun e_ => (Kd.R_ne HO_5.out BK303.out (by decide)) e_) hs_)); have n3_ := aM (hb); clear HO_5; clear BK298; clear BK303; clear HB; have HO_5 := n0_; have BK298 := n1_; have BK303 := n2_; have HB := n3_; clear n0_ n1_ n2_ n3_; (try clear hb); (try clear hkp); (try clear hy0)))
   go_roundg k1
   case measure => have := HK1.out; omega
   case rel => exact ⟨(t305), (wrap64 (x14_1 + 1)), fS, H', ⟨by have := HK1.out; omega⟩, ⟨gR (HO_5.out)⟩, ⟨gB (BK298.out)⟩, ⟨bl2 HB GE298 GE303⟩⟩

end Go.Proofs.YtpgjgbjkfgbpaaaDoor.P
namespace Go.Proofs.YtpgjgbjkfgbpaaaDoor.P
open Go.RowKit Go.Proofs.YtpgjgbjkfgbpaaaDoorW.PrintWords Go.Proofs.YtpgjgbjkfgbpaaaDoorW.PrintLast Go.Proofs.YtpgjgbjkfgbpaaaDoorW.PrintMore
attribute [local go_sem] max2_int min2_int max_two min_two max_three min_three max_four min_four   -- for this text's walks alone
set_option linter.unusedVariables false
set_option linter.unusedSimpArgs false

/-! ### spec_l1In: function 75 -/
def spec_l1In.f (a0 : Int) (a1 : Int) (a2 : Int) : Option (Bool) := if a0 ≥ a1 then (some (decide (a0 ≤ a2))) else (some false)
set_option maxHeartbeats 8000000 in
set_option maxRecDepth 100000 in
theorem spec_l1In.calls (a0 : Int) (a1 : Int) (a2 : Int) (r : Bool) (w : World) (h : spec_l1In.f a0 a1 a2 = some r) :
  Calls Tryd.prog 75 #[.int .i64 a0, .int .i64 a1, .int .i64 a2] w fun e w' => e = .returned (.bool r) ∧ Drawn0 w w' := by
 have H : (if a0 ≥ a1 then (some (decide (a0 ≤ a2))) else (some false)) = some r := h
 clear h
 by_cases c4 : a0 ≥ a1
 ·
  rw [if_pos c4] at H
  have c4b0 : decide (a1 ≤ a0) = true := decide_eq_true c4
  clear c4
  obtain rfl := Option.some.inj H
  go_enter Tryd.func75, Tryd.ntmps75
  go_wp2
  go_ret
  exact ⟨by first | rfl | (simp; done) | (simp [*]; done), by repeat (first | exact Drawn0.refl _ | apply Drawn0.step)⟩
 rw [if_neg c4] at H
 have c4b0 : decide (a1 ≤ a0) = false := decide_eq_false c4
 clear c4
 obtain rfl := Option.some.inj H
 go_enter Tryd.func75, Tryd.ntmps75
 go_wp2
 go_ret
 exact ⟨by first | rfl | (simp; done) | (simp [*]; done), by repeat (first | exact Drawn0.refl _ | apply Drawn0.step)⟩

end Go.Proofs.YtpgjgbjkfgbpaaaDoor.P

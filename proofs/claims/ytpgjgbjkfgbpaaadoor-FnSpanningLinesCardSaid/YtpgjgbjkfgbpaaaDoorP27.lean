/- Contracts of Go functions of this seat's translation, written by this repo's wip/mk.py: it calls the kit's print.py with contracts typed by hand in place of functions that it does not take. Not trusted: Lean checks it. -/
import Derived.Test.YtpgjgbjkfgbpaaaDoorP0
import Derived.Test.YtpgjgbjkfgbpaaaDoorP25
namespace Go.Proofs.YtpgjgbjkfgbpaaaDoor.P
open Go.RowKit Go.Proofs.YtpgjgbjkfgbpaaaDoorW.PrintWords Go.Proofs.YtpgjgbjkfgbpaaaDoorW.PrintLast Go.Proofs.YtpgjgbjkfgbpaaaDoorW.PrintMore
attribute [local go_sem] max2_int min2_int max_two min_two max_three min_three max_four min_four   -- for this text's walks alone
set_option linter.unusedVariables false
set_option linter.unusedSimpArgs false

/-! ### spec_NetValid: function 90 -/
mutual
def spec_NetValid.j0 : Nat → Bool → Int → List (S79) → Option (Bool)
 | 0, _, _, _ => none
 | k + 1, x14, x307000, x307001 => if x14 = true then (some false) else (spec_NetValid.l0 k 0 x307000 x307001)
def spec_NetValid.l0 : Nat → Int → Int → List (S79) → Option (Bool)
 | 0, _, _, _ => none
 | k + 1, x3, x307000, x307001 => if x3 < (x307001.length : Int) then (if 0 ≤ x3 then ((spec_l1In.f ((rd_T79 x307001 x3).f0) 0 (wrap64 (x307000 - 1))).bind fun t310 => (if t310 = true then ((spec_l1In.f ((rd_T79 x307001 x3).f1) 0 (wrap64 (x307000 - 1))).bind fun t311 => (if t311 = true then (if ((rd_T79 x307001 x3).f0) = ((rd_T79 x307001 x3).f1) then (some false) else ((spec_l1In.f ((rd_T79 x307001 x3).f2) 1 999).bind fun t312 => (if t312 = true then (spec_NetValid.l0 k (wrap64 (x3 + 1)) x307000 x307001) else (some false)))) else (some false))) else (some false))) else (none)) else (some true)
end
def spec_NetValid.f (k : Nat) (a0_0 : Int) (l0_1 : List (S79)) : Option (Bool) := (spec_l1In.f a0_0 1 8).bind fun t307 => (if t307 = true then (spec_NetValid.j0 k (decide ((l0_1.length : Int) > 10)) a0_0 l0_1) else (spec_NetValid.j0 k true a0_0 l0_1))
theorem spec_NetValid.mono_l : ∀ k, (∀ y0 y1 y2, LeO (spec_NetValid.j0 k y0 y1 y2) (spec_NetValid.j0 (k + 1) y0 y1 y2)) ∧ (∀ y0 y1 y2, LeO (spec_NetValid.l0 k y0 y1 y2) (spec_NetValid.l0 (k + 1) y0 y1 y2))
 | 0 => ⟨fun _ _ _ r h => by simp [spec_NetValid.j0] at h, fun _ _ _ r h => by simp [spec_NetValid.l0] at h⟩
 | k + 1 => by
  obtain ⟨ih0, ih1⟩ := spec_NetValid.mono_l k
  refine ⟨?_, ?_⟩
  ·
   intro y0 y1 y2
   unfold spec_NetValid.j0
   repeat' first
   | (with_reducible exact ih0 _ _ _)
   | (with_reducible exact ih1 _ _ _)
   | (with_reducible exact LeO.refl _)
   | (with_reducible exact LeO.none _)
   | (with_reducible refine LeO.ite ?_ ?_)
   | (with_reducible refine LeO.bind ?_ (fun _ => ?_))
   | exact ih0 _ _ _
   | exact ih1 _ _ _
   | exact LeO.none _
   | refine LeO.ite ?_ ?_
   | refine LeO.bind ?_ (fun _ => ?_)
  ·
   intro y0 y1 y2
   unfold spec_NetValid.l0
   repeat' first
   | (with_reducible exact ih0 _ _ _)
   | (with_reducible exact ih1 _ _ _)
   | (with_reducible exact LeO.refl _)
   | (with_reducible exact LeO.none _)
   | (with_reducible refine LeO.ite ?_ ?_)
   | (with_reducible refine LeO.bind ?_ (fun _ => ?_))
   | exact ih0 _ _ _
   | exact ih1 _ _ _
   | exact LeO.none _
   | refine LeO.ite ?_ ?_
   | refine LeO.bind ?_ (fun _ => ?_)
theorem spec_NetValid.mono : ∀ a0 a1 k, LeO (spec_NetValid.f k a0 a1) (spec_NetValid.f (k + 1) a0 a1) := by
 intro a0 a1 k
 obtain ⟨ih0, ih1⟩ := spec_NetValid.mono_l k
 unfold spec_NetValid.f
 repeat' first
   | (with_reducible exact ih0 _ _ _)
   | (with_reducible exact ih1 _ _ _)
   | (with_reducible exact LeO.refl _)
   | (with_reducible exact LeO.none _)
   | (with_reducible refine LeO.ite ?_ ?_)
   | (with_reducible refine LeO.bind ?_ (fun _ => ?_))
   | exact ih0 _ _ _
   | exact ih1 _ _ _
   | exact LeO.none _
   | refine LeO.ite ?_ ?_
   | refine LeO.bind ?_ (fun _ => ?_)
set_option maxHeartbeats 8000000 in
set_option maxRecDepth 100000 in
theorem spec_NetValid.calls (k : Nat) (a0_0 : Int) (A0_1 : Option Addr) (c0_1 : Nat) (l0_1 : List (S79)) (r : Bool) (w : World) (hr0_1 : Kd.C k79 w A0_1 l0_1.length l0_1) (hc0_1 : l0_1.length ≤ c0_1) (h : spec_NetValid.f k a0_0 l0_1 = some r) :
  Calls Tryd.prog 90 #[.agg #[.int .i64 a0_0, .slice A0_1 l0_1.length c0_1]] w fun e w' => e = .returned (.bool r) ∧ Below w.heap.size w w' := by
 have hu25 := Tryd.underlying25
 have hu79 := Tryd.underlying79
 have HR0_1 := Aside0.mk hr0_1
 have HC0_1 := Aside0.mk hc0_1
 clear hr0_1 hc0_1
 have HB := aM (Below.refl w.heap.size w)
 have H : ((spec_l1In.f a0_0 1 8).bind fun t307 => (if t307 = true then (spec_NetValid.j0 k (decide ((l0_1.length : Int) > 10)) a0_0 l0_1) else (spec_NetValid.j0 k true a0_0 l0_1))) = some r := h
 clear h
 have HC2 := Aside0.mk H
 clear H
 go_enter Tryd.func90, Tryd.ntmps90
 go_upto_region 1 with (first | ((with_reducible refine gate_dst (N := 1) rfl ?_); refine box_event ?hg (N := 1) ?hd (cs := #[.int .i64 a0_0, .slice A0_1 l0_1.length c0_1]) (t := 25) ?hr ?_; (case hd => rfl); (case hg => rfl); (case hr => exact hR); intro gb306 hg w3 hbox hb; have n0_ := aM (below_step (bl0 HB) hb); have n1_ := aM (hbox); have n2_ := aM ((by rw [hg]; exact (below_size (bl0 HB)) : w.heap.size ≤ gb306)); have n3_ := aM ((by rw [hg]; exact (below_size (bl0 HB)) : w.heap.size ≤ gb306)); clear HB; have HB := n0_; have BK306 := n1_; have GW306 := n2_; have GE306 := n3_; clear n0_ n1_ n2_ n3_; clear hb hbox hg))
 (try simp only [Act.put, List.setIfInBounds_toArray, List.set_cons_zero, List.set_cons_succ])
 go_cut [14] (fun v14 wc => ∃ (kq : Nat) (x14_1 : Bool), v14 = .bool x14_1 ∧ Aside0 (spec_NetValid.j0 kq x14_1 a0_0 l0_1 = some r) ∧ Aside0 (kq ≤ k) ∧ Aside0 (wc.heap[gb306]? = some (.cells #[.int .i64 a0_0, (.slice A0_1 l0_1.length c0_1)] 25 (0, 0))) ∧ Aside0 (Below w.heap.size w wc))
 case first =>
  have H := HC2.out
  clear HC2
  replace H := Option.bind_eq_some_iff.mp H
  obtain ⟨t307, A40, H⟩ := H
  replace H : (if t307 = true then (spec_NetValid.j0 k (decide ((l0_1.length : Int) > 10)) a0_0 l0_1) else (spec_NetValid.j0 k true a0_0 l0_1)) = some r := H
  have A4 := Aside0.mk A40
  clear A40
  by_cases c5 : t307 = true
  ·
   subst c5
   have H1 : (spec_NetValid.j0 k (decide ((l0_1.length : Int) > 10)) a0_0 l0_1) = some r := by rw [if_pos rfl] at H; exact H
   clear H
   have H := H1
   clear H1
   have H' := Aside0.mk H
   clear H
   have hcz6_0 : w3.cell? ⟨gb306, 0, none⟩ = some (.int .i64 a0_0) := (blk_cell BK306.out 0).trans rfl
   have hcz6_1 : w3.cell? ⟨gb306, 1, none⟩ = some (.slice A0_1 l0_1.length c0_1) := (blk_cell BK306.out 1).trans rfl
   have hfz6_0 := blk_frozen BK306.out 0
   have hfz6_1 := blk_frozen BK306.out 1
   go_wp2_with (first | ((with_reducible refine gate_callee (f := 75) rfl ?_); refine goesL_ (some 7) rfl rfl Tryd.func75 (by kernel_rfl) rfl #[.int .i64 a0_0, .int .i64 1, .int .i64 8] rfl mP ?_; (with_reducible refine (spec_l1In.calls a0_0 1 8 true _ A4.out).mono ?_); rintro e w' ⟨rfl, ⟨nd, rfl⟩⟩; refine ⟨_, rfl, ?_⟩))
   go_meet
   case rel => exact ⟨_, (decide ((l0_1.length : Int) > 10)), fS, H', ⟨by first | omega | exact Nat.le_refl _⟩, ⟨gB (BK306.out)⟩, ⟨bl1 HB GE306⟩⟩
  replace c5 := Bool.eq_false_iff.mpr c5
  subst c5
  have H1 : (spec_NetValid.j0 k true a0_0 l0_1) = some r := by rw [if_neg (show ¬ (false = true) by decide)] at H; exact H
  clear H
  have H := H1
  clear H1
  have H' := Aside0.mk H
  clear H
  have hcz7_0 : w3.cell? ⟨gb306, 0, none⟩ = some (.int .i64 a0_0) := (blk_cell BK306.out 0).trans rfl
  have hcz7_1 : w3.cell? ⟨gb306, 1, none⟩ = some (.slice A0_1 l0_1.length c0_1) := (blk_cell BK306.out 1).trans rfl
  have hfz7_0 := blk_frozen BK306.out 0
  have hfz7_1 := blk_frozen BK306.out 1
  go_wp2_with (first | ((with_reducible refine gate_callee (f := 75) rfl ?_); refine goesL_ (some 7) rfl rfl Tryd.func75 (by kernel_rfl) rfl #[.int .i64 a0_0, .int .i64 1, .int .i64 8] rfl mP ?_; (with_reducible refine (spec_l1In.calls a0_0 1 8 false _ A4.out).mono ?_); rintro e w' ⟨rfl, ⟨nd, rfl⟩⟩; refine ⟨_, rfl, ?_⟩))
  go_meet
  case rel => exact ⟨_, (true), fS, H', ⟨by first | omega | exact Nat.le_refl _⟩, ⟨gB (BK306.out)⟩, ⟨bl1 HB GE306⟩⟩
 case rest =>
  clear HC2
  try clear p2
  try clear c5
  try clear c7
  try clear hcz6_0
  try clear hcz6_1
  try clear hcz7_0
  try clear hcz7_1
  try clear hfz6_0
  try clear hfz6_1
  try clear hfz7_0
  try clear hfz7_1
  obtain ⟨kq, x14_1, rfl, HA, HJ1, BK306, HB⟩ := hcut
  cases kq with
  | zero => exact absurd HA.out (by simp [spec_NetValid.j0])
  | succ kj1 =>
   have H := HA.out
   clear HA
   simp only [spec_NetValid.j0] at H
   by_cases c8 : x14_1 = true
   ·
    subst c8
    have H1 : (some false) = some r := by rw [if_pos rfl] at H; exact H
    clear H
    have H := H1
    clear H1
    obtain rfl := Option.some.inj H
    go_wp2
    go_ret
    exact ⟨fR, bl1 HB GE306⟩
   replace c8 := Bool.eq_false_iff.mpr c8
   subst c8
   have H1 : (spec_NetValid.l0 kj1 0 a0_0 l0_1) = some r := by rw [if_neg (show ¬ (false = true) by decide)] at H; exact H
   clear H
   have H := H1
   clear H1
   have H' := Aside0.mk H
   clear H
   go_wp2
   go_loopg [3] kj1 (fun kq v3 w' => ∃ (x3_2 : Int), v3 = .int .i64 x3_2 ∧ Aside0 (spec_NetValid.l0 kq x3_2 a0_0 l0_1 = some r) ∧ Aside0 (kq ≤ kj1) ∧ Aside0 (w'.heap[gb306]? = some (.cells #[.int .i64 a0_0, (.slice A0_1 l0_1.length c0_1)] 25 (0, 0))) ∧ Aside0 (Below w.heap.size w w'))
   case atStart => exact ⟨(0), fS, H', ⟨Nat.le_refl _⟩, ⟨gB (BK306.out)⟩, ⟨bl1 HB GE306⟩⟩
   case round =>
    clear H'
    try clear p2
    try clear c5
    try clear c7
    try clear c8
    try clear hcz6_0
    try clear hcz6_1
    try clear hcz7_0
    try clear hcz7_1
    try clear hfz6_0
    try clear hfz6_1
    try clear hfz7_0
    try clear hfz7_1
    try clear p2
    obtain ⟨x3_2, rfl, HA, HK2, BK306, HB⟩ := hrel
    cases gk with
    | zero => exact absurd HA.out (by simp [spec_NetValid.l0])
    | succ k2 =>
     have H := HA.out
     clear HA
     simp only [spec_NetValid.l0] at H
     by_cases c9 : x3_2 < (l0_1.length : Int)
     rotate_left
     ·
      rw [if_neg c9] at H
      have c9b0 : decide (x3_2 < (l0_1.length : Int)) = false := decide_eq_false c9
      clear c9
      obtain rfl := Option.some.inj H
      have hcz43_0 : wr.cell? ⟨gb306, 0, none⟩ = some (.int .i64 a0_0) := (blk_cell BK306.out 0).trans rfl
      have hcz43_1 : wr.cell? ⟨gb306, 1, none⟩ = some (.slice A0_1 l0_1.length c0_1) := (blk_cell BK306.out 1).trans rfl
      have hfz43_0 := blk_frozen BK306.out 0
      have hfz43_1 := blk_frozen BK306.out 1
      go_wp2
      go_ret
      exact ⟨fR, bl1 HB GE306⟩
     rw [if_pos c9] at H
     have c9b0 : decide (x3_2 < (l0_1.length : Int)) = true := decide_eq_true c9
     clear c9
     by_cases c10 : 0 ≤ x3_2
     rotate_left
     ·
      rw [if_neg c10] at H
      exact absurd H (by simp)
     rw [if_pos c10] at H
     have c10b0 : decide (0 ≤ x3_2) = true := decide_eq_true c10
     clear c10
     replace H := Option.bind_eq_some_iff.mp H
     obtain ⟨t310, A110, H⟩ := H
     replace H : (if t310 = true then ((spec_l1In.f ((rd_T79 l0_1 x3_2).f1) 0 (wrap64 (a0_0 - 1))).bind fun t311 => (if t311 = true then (if ((rd_T79 l0_1 x3_2).f0) = ((rd_T79 l0_1 x3_2).f1) then (some false) else ((spec_l1In.f ((rd_T79 l0_1 x3_2).f2) 1 999).bind fun t312 => (if t312 = true then (spec_NetValid.l0 k2 (wrap64 (x3_2 + 1)) a0_0 l0_1) else (some false)))) else (some false))) else (some false)) = some r := H
     have A11 := Aside0.mk A110
     clear A110
     by_cases c12 : t310 = true
     rotate_left
     ·
      replace c12 := Bool.eq_false_iff.mpr c12
      subst c12
      have H1 : (some false) = some r := by rw [if_neg (show ¬ (false = true) by decide)] at H; exact H
      clear H
      have H := H1
      clear H1
      obtain rfl := Option.some.inj H
      have hcz38_0 : wr.cell? ⟨gb306, 0, none⟩ = some (.int .i64 a0_0) := (blk_cell BK306.out 0).trans rfl
      have hcz38_1 : wr.cell? ⟨gb306, 1, none⟩ = some (.slice A0_1 l0_1.length c0_1) := (blk_cell BK306.out 1).trans rfl
      have hfz38_0 := blk_frozen BK306.out 0
      have hfz38_1 := blk_frozen BK306.out 1
      have p308 : 0 ≤ (x3_2 : Int) := oD
      have q308 : x3_2 < (l0_1.length : Int) := oD
      obtain ⟨ad308, e308, hx308_0, hx308_1, hx308_2⟩ := at_T79 HR0_1.out x3_2 p308 q308
      cases e308
      replace hx308_0 := (HB.out.cell (World.block_lt_of_cell? w _ hx308_0)).trans hx308_0
      replace hx308_1 := (HB.out.cell (World.block_lt_of_cell? w _ hx308_1)).trans hx308_1
      replace hx308_2 := (HB.out.cell (World.block_lt_of_cell? w _ hx308_2)).trans hx308_2
      replace p308 := eq_true p308
      replace q308 := eq_true q308
      go_wp2_with (first | ((with_reducible refine gate_dst (N := 4) rfl ?_); refine box_event ?hg (N := 4) ?hd (cs := #[.int .i64 0, .int .i64 0, .int .i64 0]) (t := 79) ?hr ?_; (case hd => rfl); (case hg => rfl); (case hr => exact hR); intro gb309 hg w39 hbox hb; have n0_ := aM (blk_below (g := gb306) (o := .cells #[.int .i64 a0_0, .slice (some ad308) l0_1.length c0_1] 25 (0, 0)) (gB (BK306.out)) hb); have n1_ := aM (below_step (bl1 HB GE306) hb); have n2_ := aM (hbox); have n3_ := aM ((by rw [hg]; exact (below_size (bl1 HB GE306)) : w.heap.size ≤ gb309)); have n4_ := aM ((by rw [hg]; exact (below_size (bl1 HB GE306)) : w.heap.size ≤ gb309)); have n5_ := aM ((by rw [hg]; exact Nat.ne_of_lt (blk_lt (g := gb306) (o := .cells #[.int .i64 a0_0, .slice (some ad308) l0_1.length c0_1] 25 (0, 0)) (gB (BK306.out))) : gb306 ≠ gb309)); have n6_ := aM ((by rw [hg]; exact Nat.ne_of_gt (blk_lt (g := gb306) (o := .cells #[.int .i64 a0_0, .slice (some ad308) l0_1.length c0_1] 25 (0, 0)) (gB (BK306.out))) : gb309 ≠ gb306)); clear BK306; clear HB; have BK306 := n0_; have HB := n1_; have BK309 := n2_; have GW309 := n3_; have GE309 := n4_; have NB306_309 := n5_; have NB309_306 := n6_; clear n0_ n1_ n2_ n3_ n4_ n5_ n6_; clear hb hbox hg; have hnb40 := NB309_306.out; have hnc40 := NB306_309.out; have hcz41_0 : w39.cell? ⟨gb309, 0, none⟩ = some (.int .i64 0) := (blk_cell BK309.out 0).trans rfl; have hcz41_1 : w39.cell? ⟨gb309, 1, none⟩ = some (.int .i64 0) := (blk_cell BK309.out 1).trans rfl; have hcz41_2 : w39.cell? ⟨gb309, 2, none⟩ = some (.int .i64 0) := (blk_cell BK309.out 2).trans rfl; have hfz41_0 := blk_frozen BK309.out 0; have hfz41_1 := blk_frozen BK309.out 1; have hfz41_2 := blk_frozen BK309.out 2; have hcz42_0 : w39.cell? ⟨gb306, 0, none⟩ = some (.int .i64 a0_0) := (blk_cell BK306.out 0).trans rfl; have hcz42_1 : w39.cell? ⟨gb306, 1, none⟩ = some (.slice (some ad308) l0_1.length c0_1) := (blk_cell BK306.out 1).trans rfl; have hfz42_0 := blk_frozen BK306.out 0; have hfz42_1 := blk_frozen BK306.out 1) | ((with_reducible refine gate_callee (f := 75) rfl ?_); refine goesL_ (some 32) rfl rfl Tryd.func75 (by kernel_rfl) rfl #[.int .i64 ((rd_T79 l0_1 x3_2).f0), .int .i64 0, .int .i64 (wrap64 (a0_0 - 1))] rfl mP ?_; (with_reducible refine (spec_l1In.calls ((rd_T79 l0_1 x3_2).f0) 0 (wrap64 (a0_0 - 1)) false _ A11.out).mono ?_); rintro e w' ⟨rfl, ⟨nd, rfl⟩⟩; refine ⟨_, rfl, ?_⟩))
      go_ret
      exact ⟨fR, bl2 HB GE306 GE309⟩
     subst c12
     have H1 : ((spec_l1In.f ((rd_T79 l0_1 x3_2).f1) 0 (wrap64 (a0_0 - 1))).bind fun t311 => (if t311 = true then (if ((rd_T79 l0_1 x3_2).f0) = ((rd_T79 l0_1 x3_2).f1) then (some false) else ((spec_l1In.f ((rd_T79 l0_1 x3_2).f2) 1 999).bind fun t312 => (if t312 = true then (spec_NetValid.l0 k2 (wrap64 (x3_2 + 1)) a0_0 l0_1) else (some false)))) else (some false))) = some r := by rw [if_pos rfl] at H; exact H
     clear H
     have H := H1
     clear H1
     replace H := Option.bind_eq_some_iff.mp H
     obtain ⟨t311, A130, H⟩ := H
     replace H : (if t311 = true then (if ((rd_T79 l0_1 x3_2).f0) = ((rd_T79 l0_1 x3_2).f1) then (some false) else ((spec_l1In.f ((rd_T79 l0_1 x3_2).f2) 1 999).bind fun t312 => (if t312 = true then (spec_NetValid.l0 k2 (wrap64 (x3_2 + 1)) a0_0 l0_1) else (some false)))) else (some false)) = some r := H
     have A13 := Aside0.mk A130
     clear A130
     by_cases c14 : t311 = true
     rotate_left
     ·
      replace c14 := Bool.eq_false_iff.mpr c14
      subst c14
      have H1 : (some false) = some r := by rw [if_neg (show ¬ (false = true) by decide)] at H; exact H
      clear H
      have H := H1
      clear H1
      obtain rfl := Option.some.inj H
      have hcz33_0 : wr.cell? ⟨gb306, 0, none⟩ = some (.int .i64 a0_0) := (blk_cell BK306.out 0).trans rfl
      have hcz33_1 : wr.cell? ⟨gb306, 1, none⟩ = some (.slice A0_1 l0_1.length c0_1) := (blk_cell BK306.out 1).trans rfl
      have hfz33_0 := blk_frozen BK306.out 0
      have hfz33_1 := blk_frozen BK306.out 1
      have p308 : 0 ≤ (x3_2 : Int) := oD
      have q308 : x3_2 < (l0_1.length : Int) := oD
      obtain ⟨ad308, e308, hx308_0, hx308_1, hx308_2⟩ := at_T79 HR0_1.out x3_2 p308 q308
      cases e308
      replace hx308_0 := (HB.out.cell (World.block_lt_of_cell? w _ hx308_0)).trans hx308_0
      replace hx308_1 := (HB.out.cell (World.block_lt_of_cell? w _ hx308_1)).trans hx308_1
      replace hx308_2 := (HB.out.cell (World.block_lt_of_cell? w _ hx308_2)).trans hx308_2
      replace p308 := eq_true p308
      replace q308 := eq_true q308
      go_wp2_with (first | ((with_reducible refine gate_dst (N := 4) rfl ?_); refine box_event ?hg (N := 4) ?hd (cs := #[.int .i64 0, .int .i64 0, .int .i64 0]) (t := 79) ?hr ?_; (case hd => rfl); (case hg => rfl); (case hr => exact hR); intro gb309 hg w34 hbox hb; have n0_ := aM (blk_below (g := gb306) (o := .cells #[.int .i64 a0_0, .slice (some ad308) l0_1.length c0_1] 25 (0, 0)) (gB (BK306.out)) hb); have n1_ := aM (below_step (bl1 HB GE306) hb); have n2_ := aM (hbox); have n3_ := aM ((by rw [hg]; exact (below_size (bl1 HB GE306)) : w.heap.size ≤ gb309)); have n4_ := aM ((by rw [hg]; exact (below_size (bl1 HB GE306)) : w.heap.size ≤ gb309)); have n5_ := aM ((by rw [hg]; exact Nat.ne_of_lt (blk_lt (g := gb306) (o := .cells #[.int .i64 a0_0, .slice (some ad308) l0_1.length c0_1] 25 (0, 0)) (gB (BK306.out))) : gb306 ≠ gb309)); have n6_ := aM ((by rw [hg]; exact Nat.ne_of_gt (blk_lt (g := gb306) (o := .cells #[.int .i64 a0_0, .slice (some ad308) l0_1.length c0_1] 25 (0, 0)) (gB (BK306.out))) : gb309 ≠ gb306)); clear BK306; clear HB; have BK306 := n0_; have HB := n1_; have BK309 := n2_; have GW309 := n3_; have GE309 := n4_; have NB306_309 := n5_; have NB309_306 := n6_; clear n0_ n1_ n2_ n3_ n4_ n5_ n6_; clear hb hbox hg; have hnb35 := NB309_306.out; have hnc35 := NB306_309.out; have hcz36_0 : w34.cell? ⟨gb309, 0, none⟩ = some (.int .i64 0) := (blk_cell BK309.out 0).trans rfl; have hcz36_1 : w34.cell? ⟨gb309, 1, none⟩ = some (.int .i64 0) := (blk_cell BK309.out 1).trans rfl; have hcz36_2 : w34.cell? ⟨gb309, 2, none⟩ = some (.int .i64 0) := (blk_cell BK309.out 2).trans rfl; have hfz36_0 := blk_frozen BK309.out 0; have hfz36_1 := blk_frozen BK309.out 1; have hfz36_2 := blk_frozen BK309.out 2; have hcz37_0 : w34.cell? ⟨gb306, 0, none⟩ = some (.int .i64 a0_0) := (blk_cell BK306.out 0).trans rfl; have hcz37_1 : w34.cell? ⟨gb306, 1, none⟩ = some (.slice (some ad308) l0_1.length c0_1) := (blk_cell BK306.out 1).trans rfl; have hfz37_0 := blk_frozen BK306.out 0; have hfz37_1 := blk_frozen BK306.out 1) | ((with_reducible refine gate_callee (f := 75) rfl ?_); refine goesL_ (some 32) rfl rfl Tryd.func75 (by kernel_rfl) rfl #[.int .i64 ((rd_T79 l0_1 x3_2).f0), .int .i64 0, .int .i64 (wrap64 (a0_0 - 1))] rfl mP ?_; (with_reducible refine (spec_l1In.calls ((rd_T79 l0_1 x3_2).f0) 0 (wrap64 (a0_0 - 1)) true _ A11.out).mono ?_); rintro e w' ⟨rfl, ⟨nd, rfl⟩⟩; refine ⟨_, rfl, ?_⟩) | (go_at_call 75; (with_reducible refine (spec_l1In.calls ((rd_T79 l0_1 x3_2).f1) 0 (wrap64 (a0_0 - 1)) false _ A13.out).mono ?_); rintro e w' ⟨rfl, ⟨nd, rfl⟩⟩))
      go_ret
      exact ⟨fR, bl2 HB GE306 GE309⟩
     subst c14
     have H1 : (if ((rd_T79 l0_1 x3_2).f0) = ((rd_T79 l0_1 x3_2).f1) then (some false) else ((spec_l1In.f ((rd_T79 l0_1 x3_2).f2) 1 999).bind fun t312 => (if t312 = true then (spec_NetValid.l0 k2 (wrap64 (x3_2 + 1)) a0_0 l0_1) else (some false)))) = some r := by rw [if_pos rfl] at H; exact H
     clear H
     have H := H1
     clear H1
     by_cases c15 : ((rd_T79 l0_1 x3_2).f0) = ((rd_T79 l0_1 x3_2).f1)
     ·
      rw [if_pos c15] at H
      have c15b0 : (((rd_T79 l0_1 x3_2).f0) == ((rd_T79 l0_1 x3_2).f1)) = true := beq_iff_eq.mpr c15
      have c15b1 : (((rd_T79 l0_1 x3_2).f0) != ((rd_T79 l0_1 x3_2).f1)) = false := bne_eq_false_iff_eq.mpr c15
      clear c15
      obtain rfl := Option.some.inj H
      have hcz16_0 : wr.cell? ⟨gb306, 0, none⟩ = some (.int .i64 a0_0) := (blk_cell BK306.out 0).trans rfl
      have hcz16_1 : wr.cell? ⟨gb306, 1, none⟩ = some (.slice A0_1 l0_1.length c0_1) := (blk_cell BK306.out 1).trans rfl
      have hfz16_0 := blk_frozen BK306.out 0
      have hfz16_1 := blk_frozen BK306.out 1
      have p308 : 0 ≤ (x3_2 : Int) := oD
      have q308 : x3_2 < (l0_1.length : Int) := oD
      obtain ⟨ad308, e308, hx308_0, hx308_1, hx308_2⟩ := at_T79 HR0_1.out x3_2 p308 q308
      cases e308
      replace hx308_0 := (HB.out.cell (World.block_lt_of_cell? w _ hx308_0)).trans hx308_0
      replace hx308_1 := (HB.out.cell (World.block_lt_of_cell? w _ hx308_1)).trans hx308_1
      replace hx308_2 := (HB.out.cell (World.block_lt_of_cell? w _ hx308_2)).trans hx308_2
      replace p308 := eq_true p308
      replace q308 := eq_true q308
      go_wp2_with (first | ((with_reducible refine gate_dst (N := 4) rfl ?_); refine box_event ?hg (N := 4) ?hd (cs := #[.int .i64 0, .int .i64 0, .int .i64 0]) (t := 79) ?hr ?_; (case hd => rfl); (case hg => rfl); (case hr => exact hR); intro gb309 hg w17 hbox hb; have n0_ := aM (blk_below (g := gb306) (o := .cells #[.int .i64 a0_0, .slice (some ad308) l0_1.length c0_1] 25 (0, 0)) (gB (BK306.out)) hb); have n1_ := aM (below_step (bl1 HB GE306) hb); have n2_ := aM (hbox); have n3_ := aM ((by rw [hg]; exact (below_size (bl1 HB GE306)) : w.heap.size ≤ gb309)); have n4_ := aM ((by rw [hg]; exact (below_size (bl1 HB GE306)) : w.heap.size ≤ gb309)); have n5_ := aM ((by rw [hg]; exact Nat.ne_of_lt (blk_lt (g := gb306) (o := .cells #[.int .i64 a0_0, .slice (some ad308) l0_1.length c0_1] 25 (0, 0)) (gB (BK306.out))) : gb306 ≠ gb309)); have n6_ := aM ((by rw [hg]; exact Nat.ne_of_gt (blk_lt (g := gb306) (o := .cells #[.int .i64 a0_0, .slice (some ad308) l0_1.length c0_1] 25 (0, 0)) (gB (BK306.out))) : gb309 ≠ gb306)); clear BK306; clear HB; have BK306 := n0_; have HB := n1_; have BK309 := n2_; have GW309 := n3_; have GE309 := n4_; have NB306_309 := n5_; have NB309_306 := n6_; clear n0_ n1_ n2_ n3_ n4_ n5_ n6_; clear hb hbox hg; have hnb18 := NB309_306.out; have hnc18 := NB306_309.out; have hcz19_0 : w17.cell? ⟨gb309, 0, none⟩ = some (.int .i64 0) := (blk_cell BK309.out 0).trans rfl; have hcz19_1 : w17.cell? ⟨gb309, 1, none⟩ = some (.int .i64 0) := (blk_cell BK309.out 1).trans rfl; have hcz19_2 : w17.cell? ⟨gb309, 2, none⟩ = some (.int .i64 0) := (blk_cell BK309.out 2).trans rfl; have hfz19_0 := blk_frozen BK309.out 0; have hfz19_1 := blk_frozen BK309.out 1; have hfz19_2 := blk_frozen BK309.out 2; have hcz20_0 : w17.cell? ⟨gb306, 0, none⟩ = some (.int .i64 a0_0) := (blk_cell BK306.out 0).trans rfl; have hcz20_1 : w17.cell? ⟨gb306, 1, none⟩ = some (.slice (some ad308) l0_1.length c0_1) := (blk_cell BK306.out 1).trans rfl; have hfz20_0 := blk_frozen BK306.out 0; have hfz20_1 := blk_frozen BK306.out 1) | ((with_reducible refine gate_callee (f := 75) rfl ?_); refine goesL_ (some 32) rfl rfl Tryd.func75 (by kernel_rfl) rfl #[.int .i64 ((rd_T79 l0_1 x3_2).f0), .int .i64 0, .int .i64 (wrap64 (a0_0 - 1))] rfl mP ?_; (with_reducible refine (spec_l1In.calls ((rd_T79 l0_1 x3_2).f0) 0 (wrap64 (a0_0 - 1)) true _ A11.out).mono ?_); rintro e w' ⟨rfl, ⟨nd, rfl⟩⟩; refine ⟨_, rfl, ?_⟩) | (go_at_call 75; (with_reducible refine (spec_l1In.calls ((rd_T79 l0_1 x3_2).f1) 0 (wrap64 (a0_0 - 1)) true _ A13.out).mono ?_); rintro e w' ⟨rfl, ⟨nd, rfl⟩⟩))
      go_ret
      exact ⟨fR, bl2 HB GE306 GE309⟩
     rw [if_neg c15] at H
     have c15b0 : (((rd_T79 l0_1 x3_2).f0) == ((rd_T79 l0_1 x3_2).f1)) = false := beq_eq_false_iff_ne.mpr c15
     have c15b1 : (((rd_T79 l0_1 x3_2).f0) != ((rd_T79 l0_1 x3_2).f1)) = true := bne_iff_ne.mpr c15
     replace H := Option.bind_eq_some_iff.mp H
     obtain ⟨t312, A210, H⟩ := H
     replace H : (if t312 = true then (spec_NetValid.l0 k2 (wrap64 (x3_2 + 1)) a0_0 l0_1) else (some false)) = some r := H
     have A21 := Aside0.mk A210
     clear A210
     by_cases c22 : t312 = true
     rotate_left
     ·
      replace c22 := Bool.eq_false_iff.mpr c22
      subst c22
      have H1 : (some false) = some r := by rw [if_neg (show ¬ (false = true) by decide)] at H; exact H
      clear H
      have H := H1
      clear H1
      obtain rfl := Option.some.inj H
      have hcz28_0 : wr.cell? ⟨gb306, 0, none⟩ = some (.int .i64 a0_0) := (blk_cell BK306.out 0).trans rfl
      have hcz28_1 : wr.cell? ⟨gb306, 1, none⟩ = some (.slice A0_1 l0_1.length c0_1) := (blk_cell BK306.out 1).trans rfl
      have hfz28_0 := blk_frozen BK306.out 0
      have hfz28_1 := blk_frozen BK306.out 1
      have p308 : 0 ≤ (x3_2 : Int) := oD
      have q308 : x3_2 < (l0_1.length : Int) := oD
      obtain ⟨ad308, e308, hx308_0, hx308_1, hx308_2⟩ := at_T79 HR0_1.out x3_2 p308 q308
      cases e308
      replace hx308_0 := (HB.out.cell (World.block_lt_of_cell? w _ hx308_0)).trans hx308_0
      replace hx308_1 := (HB.out.cell (World.block_lt_of_cell? w _ hx308_1)).trans hx308_1
      replace hx308_2 := (HB.out.cell (World.block_lt_of_cell? w _ hx308_2)).trans hx308_2
      replace p308 := eq_true p308
      replace q308 := eq_true q308
      go_wp2_with (first | ((with_reducible refine gate_dst (N := 4) rfl ?_); refine box_event ?hg (N := 4) ?hd (cs := #[.int .i64 0, .int .i64 0, .int .i64 0]) (t := 79) ?hr ?_; (case hd => rfl); (case hg => rfl); (case hr => exact hR); intro gb309 hg w29 hbox hb; have n0_ := aM (blk_below (g := gb306) (o := .cells #[.int .i64 a0_0, .slice (some ad308) l0_1.length c0_1] 25 (0, 0)) (gB (BK306.out)) hb); have n1_ := aM (below_step (bl1 HB GE306) hb); have n2_ := aM (hbox); have n3_ := aM ((by rw [hg]; exact (below_size (bl1 HB GE306)) : w.heap.size ≤ gb309)); have n4_ := aM ((by rw [hg]; exact (below_size (bl1 HB GE306)) : w.heap.size ≤ gb309)); have n5_ := aM ((by rw [hg]; exact Nat.ne_of_lt (blk_lt (g := gb306) (o := .cells #[.int .i64 a0_0, .slice (some ad308) l0_1.length c0_1] 25 (0, 0)) (gB (BK306.out))) : gb306 ≠ gb309)); have n6_ := aM ((by rw [hg]; exact Nat.ne_of_gt (blk_lt (g := gb306) (o := .cells #[.int .i64 a0_0, .slice (some ad308) l0_1.length c0_1] 25 (0, 0)) (gB (BK306.out))) : gb309 ≠ gb306)); clear BK306; clear HB; have BK306 := n0_; have HB := n1_; have BK309 := n2_; have GW309 := n3_; have GE309 := n4_; have NB306_309 := n5_; have NB309_306 := n6_; clear n0_ n1_ n2_ n3_ n4_ n5_ n6_; clear hb hbox hg; have hnb30 := NB309_306.out; have hnc30 := NB306_309.out; have hcz31_0 : w29.cell? ⟨gb309, 0, none⟩ = some (.int .i64 0) := (blk_cell BK309.out 0).trans rfl; have hcz31_1 : w29.cell? ⟨gb309, 1, none⟩ = some (.int .i64 0) := (blk_cell BK309.out 1).trans rfl; have hcz31_2 : w29.cell? ⟨gb309, 2, none⟩ = some (.int .i64 0) := (blk_cell BK309.out 2).trans rfl; have hfz31_0 := blk_frozen BK309.out 0; have hfz31_1 := blk_frozen BK309.out 1; have hfz31_2 := blk_frozen BK309.out 2; have hcz32_0 : w29.cell? ⟨gb306, 0, none⟩ = some (.int .i64 a0_0) := (blk_cell BK306.out 0).trans rfl; have hcz32_1 : w29.cell? ⟨gb306, 1, none⟩ = some (.slice (some ad308) l0_1.length c0_1) := (blk_cell BK306.out 1).trans rfl; have hfz32_0 := blk_frozen BK306.out 0; have hfz32_1 := blk_frozen BK306.out 1) | ((with_reducible refine gate_callee (f := 75) rfl ?_); refine goesL_ (some 32) rfl rfl Tryd.func75 (by kernel_rfl) rfl #[.int .i64 ((rd_T79 l0_1 x3_2).f0), .int .i64 0, .int .i64 (wrap64 (a0_0 - 1))] rfl mP ?_; (with_reducible refine (spec_l1In.calls ((rd_T79 l0_1 x3_2).f0) 0 (wrap64 (a0_0 - 1)) true _ A11.out).mono ?_); rintro e w' ⟨rfl, ⟨nd, rfl⟩⟩; refine ⟨_, rfl, ?_⟩) | (go_at_call 75; (with_reducible refine (spec_l1In.calls ((rd_T79 l0_1 x3_2).f1) 0 (wrap64 (a0_0 - 1)) true _ A13.out).mono ?_); rintro e w' ⟨rfl, ⟨nd, rfl⟩⟩) | (go_at_call 75; (with_reducible refine (spec_l1In.calls ((rd_T79 l0_1 x3_2).f2) 1 999 false _ A21.out).mono ?_); rintro e w' ⟨rfl, ⟨nd, rfl⟩⟩))
      go_ret
      exact ⟨fR, bl2 HB GE306 GE309⟩
     subst c22
     have H1 : (spec_NetValid.l0 k2 (wrap64 (x3_2 + 1)) a0_0 l0_1) = some r := by rw [if_pos rfl] at H; exact H
     clear H
     have H := H1
     clear H1
     have H' := Aside0.mk H
     clear H
     have hcz23_0 : wr.cell? ⟨gb306, 0, none⟩ = some (.int .i64 a0_0) := (blk_cell BK306.out 0).trans rfl
     have hcz23_1 : wr.cell? ⟨gb306, 1, none⟩ = some (.slice A0_1 l0_1.length c0_1) := (blk_cell BK306.out 1).trans rfl
     have hfz23_0 := blk_frozen BK306.out 0
     have hfz23_1 := blk_frozen BK306.out 1
     have p308 : 0 ≤ (x3_2 : Int) := oD
     have q308 : x3_2 < (l0_1.length : Int) := oD
     obtain ⟨ad308, e308, hx308_0, hx308_1, hx308_2⟩ := at_T79 HR0_1.out x3_2 p308 q308
     cases e308
     replace hx308_0 := (HB.out.cell (World.block_lt_of_cell? w _ hx308_0)).trans hx308_0
     replace hx308_1 := (HB.out.cell (World.block_lt_of_cell? w _ hx308_1)).trans hx308_1
     replace hx308_2 := (HB.out.cell (World.block_lt_of_cell? w _ hx308_2)).trans hx308_2
     replace p308 := eq_true p308
     replace q308 := eq_true q308
     go_wp2_with (first | ((with_reducible refine gate_dst (N := 4) rfl ?_); refine box_event ?hg (N := 4) ?hd (cs := #[.int .i64 0, .int .i64 0, .int .i64 0]) (t := 79) ?hr ?_; (case hd => rfl); (case hg => rfl); (case hr => exact hR); intro gb309 hg w24 hbox hb; have n0_ := aM (blk_below (g := gb306) (o := .cells #[.int .i64 a0_0, .slice (some ad308) l0_1.length c0_1] 25 (0, 0)) (gB (BK306.out)) hb); have n1_ := aM (below_step (bl1 HB GE306) hb); have n2_ := aM (hbox); have n3_ := aM ((by rw [hg]; exact (below_size (bl1 HB GE306)) : w.heap.size ≤ gb309)); have n4_ := aM ((by rw [hg]; exact (below_size (bl1 HB GE306)) : w.heap.size ≤ gb309)); have n5_ := aM ((by rw [hg]; exact Nat.ne_of_lt (blk_lt (g := gb306) (o := .cells #[.int .i64 a0_0, .slice (some ad308) l0_1.length c0_1] 25 (0, 0)) (gB (BK306.out))) : gb306 ≠ gb309)); have n6_ := aM ((by rw [hg]; exact Nat.ne_of_gt (blk_lt (g := gb306) (o := .cells #[.int .i64 a0_0, .slice (some ad308) l0_1.length c0_1] 25 (0, 0)) (gB (BK306.out))) : gb309 ≠ gb306)); clear BK306; clear HB; have BK306 := n0_; have HB := n1_; have BK309 := n2_; have GW309 := n3_; have GE309 := n4_; have NB306_309 := n5_; have NB309_306 := n6_; clear n0_ n1_ n2_ n3_ n4_ n5_ n6_; clear hb hbox hg; have hnb25 := NB309_306.out; have hnc25 := NB306_309.out; have hcz26_0 : w24.cell? ⟨gb309, 0, none⟩ = some (.int .i64 0) := (blk_cell BK309.out 0).trans rfl; have hcz26_1 : w24.cell? ⟨gb309, 1, none⟩ = some (.int .i64 0) := (blk_cell BK309.out 1).trans rfl; have hcz26_2 : w24.cell? ⟨gb309, 2, none⟩ = some (.int .i64 0) := (blk_cell BK309.out 2).trans rfl; have hfz26_0 := blk_frozen BK309.out 0; have hfz26_1 := blk_frozen BK309.out 1; have hfz26_2 := blk_frozen BK309.out 2; have hcz27_0 : w24.cell? ⟨gb306, 0, none⟩ = some (.int .i64 a0_0) := (blk_cell BK306.out 0).trans rfl; have hcz27_1 : w24.cell? ⟨gb306, 1, none⟩ = some (.slice (some ad308) l0_1.length c0_1) := (blk_cell BK306.out 1).trans rfl; have hfz27_0 := blk_frozen BK306.out 0; have hfz27_1 := blk_frozen BK306.out 1) | ((with_reducible refine gate_callee (f := 75) rfl ?_); refine goesL_ (some 32) rfl rfl Tryd.func75 (by kernel_rfl) rfl #[.int .i64 ((rd_T79 l0_1 x3_2).f0), .int .i64 0, .int .i64 (wrap64 (a0_0 - 1))] rfl mP ?_; (with_reducible refine (spec_l1In.calls ((rd_T79 l0_1 x3_2).f0) 0 (wrap64 (a0_0 - 1)) true _ A11.out).mono ?_); rintro e w' ⟨rfl, ⟨nd, rfl⟩⟩; refine ⟨_, rfl, ?_⟩) | (go_at_call 75; (with_reducible refine (spec_l1In.calls ((rd_T79 l0_1 x3_2).f1) 0 (wrap64 (a0_0 - 1)) true _ A13.out).mono ?_); rintro e w' ⟨rfl, ⟨nd, rfl⟩⟩) | (go_at_call 75; (with_reducible refine (spec_l1In.calls ((rd_T79 l0_1 x3_2).f2) 1 999 true _ A21.out).mono ?_); rintro e w' ⟨rfl, ⟨nd, rfl⟩⟩))
     go_roundg k2
     case measure => have := HJ1.out; have := HK2.out; omega
     case rel => exact ⟨(wrap64 (x3_2 + 1)), fS, H', ⟨by have := HJ1.out; have := HK2.out; omega⟩, ⟨by (with_reducible repeat (first | refine blk_drewN ?_ _ | refine blk_drew ?_ | refine blk_alloc ?_ _)); refine blk_far ?_ NB306_309.out _; (with_reducible repeat (first | refine blk_drewN ?_ _ | refine blk_drew ?_ | refine blk_alloc ?_ _)); refine blk_far ?_ NB306_309.out _; (with_reducible repeat (first | refine blk_drewN ?_ _ | refine blk_drew ?_ | refine blk_alloc ?_ _)); refine blk_far ?_ NB306_309.out _; (with_reducible repeat (first | refine blk_drewN ?_ _ | refine blk_drew ?_ | refine blk_alloc ?_ _)); exact BK306.out⟩, ⟨bl2 HB GE306 GE309⟩⟩

end Go.Proofs.YtpgjgbjkfgbpaaaDoor.P
namespace Go.Proofs.YtpgjgbjkfgbpaaaDoor.P
open Go.RowKit Go.Proofs.YtpgjgbjkfgbpaaaDoorW.PrintWords Go.Proofs.YtpgjgbjkfgbpaaaDoorW.PrintLast Go.Proofs.YtpgjgbjkfgbpaaaDoorW.PrintMore
attribute [local go_sem] max2_int min2_int max_two min_two max_three min_three max_four min_four   -- for this text's walks alone
set_option linter.unusedVariables false
set_option linter.unusedSimpArgs false

/-! ### spec_StateValid: function 34 -/
def spec_StateValid.f (k : Nat) (a0_0 : Int) (l0_1 : List (S79)) (l1 : List Bool) : Option (Bool) := (spec_NetValid.f k a0_0 l0_1).bind fun t314 => (if t314 = true then (some ((l1.length : Int) == (l0_1.length : Int))) else (some false))
theorem spec_StateValid.mono : ∀ a0 a1 a2 k, LeO (spec_StateValid.f k a0 a1 a2) (spec_StateValid.f (k + 1) a0 a1 a2) := by
 intro a0 a1 a2 k
 unfold spec_StateValid.f
 repeat' first
   | (with_reducible exact spec_NetValid.mono _ _ _)
   | (with_reducible exact LeO.refl _)
   | (with_reducible exact LeO.none _)
   | (with_reducible refine LeO.ite ?_ ?_)
   | (with_reducible refine LeO.bind ?_ (fun _ => ?_))
   | exact spec_NetValid.mono _ _ _
   | exact LeO.none _
   | refine LeO.ite ?_ ?_
   | refine LeO.bind ?_ (fun _ => ?_)
set_option maxHeartbeats 8000000 in
set_option maxRecDepth 100000 in
theorem spec_StateValid.calls (k : Nat) (a0_0 : Int) (A0_1 : Option Addr) (c0_1 : Nat) (l0_1 : List (S79)) (A1 : Option Addr) (c1 : Nat) (l1 : List Bool) (r : Bool) (w : World) (hr0_1 : Kd.C k79 w A0_1 l0_1.length l0_1) (hc0_1 : l0_1.length ≤ c0_1) (hr1 : Kd.C Kd.bool w A1 l1.length l1) (hc1 : l1.length ≤ c1) (h : spec_StateValid.f k a0_0 l0_1 l1 = some r) :
  Calls Tryd.prog 34 #[.agg #[.int .i64 a0_0, .slice A0_1 l0_1.length c0_1], .slice A1 l1.length c1] w fun e w' => e = .returned (.bool r) ∧ Below w.heap.size w w' := by
 have hu25 := Tryd.underlying25
 have HR0_1 := Aside0.mk hr0_1
 have HC0_1 := Aside0.mk hc0_1
 clear hr0_1 hc0_1
 have HR1 := Aside0.mk hr1
 have HC1 := Aside0.mk hc1
 clear hr1 hc1
 have HB := aM (Below.refl w.heap.size w)
 have H : ((spec_NetValid.f k a0_0 l0_1).bind fun t314 => (if t314 = true then (some ((l1.length : Int) == (l0_1.length : Int))) else (some false))) = some r := h
 clear h
 replace H := Option.bind_eq_some_iff.mp H
 obtain ⟨t314, A30, H⟩ := H
 replace H : (if t314 = true then (some ((l1.length : Int) == (l0_1.length : Int))) else (some false)) = some r := H
 have A3 := Aside0.mk A30
 clear A30
 by_cases c4 : t314 = true
 rotate_left
 ·
  replace c4 := Bool.eq_false_iff.mpr c4
  subst c4
  have H1 : (some false) = some r := by rw [if_neg (show ¬ (false = true) by decide)] at H; exact H
  clear H
  have H := H1
  clear H1
  obtain rfl := Option.some.inj H
  go_enter Tryd.func34, Tryd.ntmps34
  go_wp2_with (first | ((with_reducible refine gate_dst (N := 2) rfl ?_); refine box_event ?hg (N := 2) ?hd (cs := #[.int .i64 a0_0, .slice A0_1 l0_1.length c0_1]) (t := 25) ?hr ?_; (case hd => rfl); (case hg => rfl); (case hr => exact hR); intro gb313 hg w9 hbox hb; have n0_ := aM (below_step (bl0 HB) hb); have n1_ := aM (hbox); have n2_ := aM ((by rw [hg]; exact (below_size (bl0 HB)) : w.heap.size ≤ gb313)); have n3_ := aM ((by rw [hg]; exact (below_size (bl0 HB)) : w.heap.size ≤ gb313)); clear HB; have HB := n0_; have BK313 := n1_; have GW313 := n2_; have GE313 := n3_; clear n0_ n1_ n2_ n3_; clear hb hbox hg; have hcz10_0 : w9.cell? ⟨gb313, 0, none⟩ = some (.int .i64 a0_0) := (blk_cell BK313.out 0).trans rfl; have hcz10_1 : w9.cell? ⟨gb313, 1, none⟩ = some (.slice A0_1 l0_1.length c0_1) := (blk_cell BK313.out 1).trans rfl; have hfz10_0 := blk_frozen BK313.out 0; have hfz10_1 := blk_frozen BK313.out 1) | ((with_reducible refine gate_callee (f := 90) rfl ?_); refine goesL_ (some 6) rfl rfl Tryd.func90 (by kernel_rfl) rfl #[.agg #[.int .i64 a0_0, .slice A0_1 l0_1.length c0_1]] rfl mP ?_; (with_reducible refine (spec_NetValid.calls k a0_0 _ _ l0_1 false _ ?side1 ?side2 A3.out).mono ?_); (case side1 => exact gC ((Kd.C_below HR0_1.out HB.out))); (case side2 => exact HC0_1.out); rintro e w11 ⟨rfl, hb⟩; refine ⟨_, rfl, ?_⟩; have n0_ := aM (blk_below (g := gb313) (o := .cells #[.int .i64 a0_0, .slice A0_1 l0_1.length c0_1] 25 (0, 0)) (gB (BK313.out)) hb); have n1_ := aM (below_step (bl1 HB GE313) hb); clear BK313; clear HB; have BK313 := n0_; have HB := n1_; clear n0_ n1_; (try clear hb); (try clear hb2); (try clear hk); (try clear hi)))
  go_ret
  exact ⟨fR, bl1 HB GE313⟩
 subst c4
 have H1 : (some ((l1.length : Int) == (l0_1.length : Int))) = some r := by rw [if_pos rfl] at H; exact H
 clear H
 have H := H1
 clear H1
 obtain rfl := Option.some.inj H
 go_enter Tryd.func34, Tryd.ntmps34
 go_wp2_with (first | ((with_reducible refine gate_dst (N := 2) rfl ?_); refine box_event ?hg (N := 2) ?hd (cs := #[.int .i64 a0_0, .slice A0_1 l0_1.length c0_1]) (t := 25) ?hr ?_; (case hd => rfl); (case hg => rfl); (case hr => exact hR); intro gb313 hg w5 hbox hb; have n0_ := aM (below_step (bl0 HB) hb); have n1_ := aM (hbox); have n2_ := aM ((by rw [hg]; exact (below_size (bl0 HB)) : w.heap.size ≤ gb313)); have n3_ := aM ((by rw [hg]; exact (below_size (bl0 HB)) : w.heap.size ≤ gb313)); clear HB; have HB := n0_; have BK313 := n1_; have GW313 := n2_; have GE313 := n3_; clear n0_ n1_ n2_ n3_; clear hb hbox hg; have hcz6_0 : w5.cell? ⟨gb313, 0, none⟩ = some (.int .i64 a0_0) := (blk_cell BK313.out 0).trans rfl; have hcz6_1 : w5.cell? ⟨gb313, 1, none⟩ = some (.slice A0_1 l0_1.length c0_1) := (blk_cell BK313.out 1).trans rfl; have hfz6_0 := blk_frozen BK313.out 0; have hfz6_1 := blk_frozen BK313.out 1) | ((with_reducible refine gate_callee (f := 90) rfl ?_); refine goesL_ (some 6) rfl rfl Tryd.func90 (by kernel_rfl) rfl #[.agg #[.int .i64 a0_0, .slice A0_1 l0_1.length c0_1]] rfl mP ?_; (with_reducible refine (spec_NetValid.calls k a0_0 _ _ l0_1 true _ ?side1 ?side2 A3.out).mono ?_); (case side1 => exact gC ((Kd.C_below HR0_1.out HB.out))); (case side2 => exact HC0_1.out); rintro e w7 ⟨rfl, hb⟩; refine ⟨_, rfl, ?_⟩; have n0_ := aM (blk_below (g := gb313) (o := .cells #[.int .i64 a0_0, .slice A0_1 l0_1.length c0_1] 25 (0, 0)) (gB (BK313.out)) hb); have n1_ := aM (below_step (bl1 HB GE313) hb); clear BK313; clear HB; have BK313 := n0_; have HB := n1_; clear n0_ n1_; (try clear hb); (try clear hb2); (try clear hk); (try clear hi); have hcz8_0 : w7.cell? ⟨gb313, 0, none⟩ = some (.int .i64 a0_0) := (blk_cell BK313.out 0).trans rfl; have hcz8_1 : w7.cell? ⟨gb313, 1, none⟩ = some (.slice A0_1 l0_1.length c0_1) := (blk_cell BK313.out 1).trans rfl; have hfz8_0 := blk_frozen BK313.out 0; have hfz8_1 := blk_frozen BK313.out 1))
 go_ret
 exact ⟨fR, bl1 HB GE313⟩

end Go.Proofs.YtpgjgbjkfgbpaaaDoor.P

/- Contracts of Go functions of this seat's translation, written by this repo's wip/mk.py: it calls the kit's print.py with contracts typed by hand in place of functions that it does not take. Not trusted: Lean checks it. -/
import Derived.Test.YthkdkjmnnpcdhaaDoorP0
import Derived.Test.YthkdkjmnnpcdhaaDoorP31
import Derived.Test.YthkdkjmnnpcdhaaDoorP45
namespace Go.Proofs.YthkdkjmnnpcdhaaDoor.P
open Go.RowKit Go.Proofs.YthkdkjmnnpcdhaaDoorW.PrintWords Go.Proofs.YthkdkjmnnpcdhaaDoorW.PrintLast Go.Proofs.YthkdkjmnnpcdhaaDoorW.PrintMore
attribute [local go_sem] max2_int min2_int max_two min_two max_three min_three max_four min_four   -- for this text's walks alone
set_option linter.unusedVariables false
set_option linter.unusedSimpArgs false

/-! ### spec_IslandNumbers: function 37 -/
def spec_IslandNumbers.l0 : Nat → List Bool → List Int → Int → Int → List (S52) → Option (List Int)
 | 0, _, _, _, _, _ => none
 | k + 1, x1, x5, x6, x629000, x629001 => if x6 < x629000 then ((spec_StateValid.f k x629000 x629001 x1).bind fun t632 => (if t632 = true then ((spec_Reached.f k x629000 x629001 x1 x6).bind fun t633 => (if 0 < (t633.length : Int) then (if x5.length < 17592186044416 then (spec_IslandNumbers.l0 k x1 (x5 ++ [rd t633 0]) (wrap64 (x6 + 1)) x629000 x629001) else (none)) else (none))) else (some x5))) else (some x5)
def spec_IslandNumbers.f (k : Nat) (a0_0 : Int) (l0_1 : List (S52)) (l1 : List Bool) : Option (List Int) := spec_IslandNumbers.l0 k l1 (([] : List Int)) 0 a0_0 l0_1
theorem spec_IslandNumbers.mono_l : ∀ k, (∀ y0 y1 y2 y3 y4, LeO (spec_IslandNumbers.l0 k y0 y1 y2 y3 y4) (spec_IslandNumbers.l0 (k + 1) y0 y1 y2 y3 y4))
 | 0 => fun _ _ _ _ _ r h => by simp [spec_IslandNumbers.l0] at h
 | k + 1 => by
  have ih0 := spec_IslandNumbers.mono_l k
  ·
   intro y0 y1 y2 y3 y4
   unfold spec_IslandNumbers.l0
   repeat' first
   | (with_reducible exact ih0 _ _ _ _ _)
   | (with_reducible exact spec_Reached.mono _ _ _ _ _)
   | (with_reducible exact spec_StateValid.mono _ _ _ _)
   | (with_reducible exact LeO.refl _)
   | (with_reducible exact LeO.none _)
   | (with_reducible refine LeO.ite ?_ ?_)
   | (with_reducible refine LeO.bind ?_ (fun _ => ?_))
   | exact ih0 _ _ _ _ _
   | exact spec_Reached.mono _ _ _ _ _
   | exact spec_StateValid.mono _ _ _ _
   | exact LeO.none _
   | refine LeO.ite ?_ ?_
   | refine LeO.bind ?_ (fun _ => ?_)
theorem spec_IslandNumbers.mono : ∀ a0 a1 a2 k, LeO (spec_IslandNumbers.f k a0 a1 a2) (spec_IslandNumbers.f (k + 1) a0 a1 a2) := by
 intro a0 a1 a2 k
 have ih0 := spec_IslandNumbers.mono_l k
 unfold spec_IslandNumbers.f
 repeat' first
   | (with_reducible exact ih0 _ _ _ _ _)
   | (with_reducible exact spec_Reached.mono _ _ _ _ _)
   | (with_reducible exact spec_StateValid.mono _ _ _ _)
   | (with_reducible exact LeO.refl _)
   | (with_reducible exact LeO.none _)
   | (with_reducible refine LeO.ite ?_ ?_)
   | (with_reducible refine LeO.bind ?_ (fun _ => ?_))
   | exact ih0 _ _ _ _ _
   | exact spec_Reached.mono _ _ _ _ _
   | exact spec_StateValid.mono _ _ _ _
   | exact LeO.none _
   | refine LeO.ite ?_ ?_
   | refine LeO.bind ?_ (fun _ => ?_)
set_option maxHeartbeats 8000000 in
set_option maxRecDepth 100000 in
theorem spec_IslandNumbers.calls (k : Nat) (a0_0 : Int) (A0_1 : Option Addr) (c0_1 : Nat) (l0_1 : List (S52)) (A1 : Option Addr) (c1 : Nat) (l1 : List Bool) (r : List Int) (w : World) (hr0_1 : Kd.C k52 w A0_1 l0_1.length l0_1) (hc0_1 : l0_1.length ≤ c0_1) (hr1 : Kd.C Kd.bool w A1 l1.length l1) (hc1 : l1.length ≤ c1) (h : spec_IslandNumbers.f k a0_0 l0_1 l1 = some r) :
  Calls Tryd.prog 37 #[.agg #[.int .i64 a0_0, .slice A0_1 l0_1.length c0_1], .slice A1 l1.length c1] w fun e w' => ∃ v0_ : Value, e = .returned (v0_) ∧ Kd.R (Kd.int .i64) 3 w' w.heap.size (fun _ => True) v0_ r ∧ Below w.heap.size w w' := by
 have hu39 := Tryd.underlying39
 have HR0_1 := Aside0.mk hr0_1
 have HC0_1 := Aside0.mk hc0_1
 clear hr0_1 hc0_1
 have HR1 := Aside0.mk hr1
 have HC1 := Aside0.mk hc1
 clear hr1 hc1
 have HB := Aside0.mk (Below.refl w.heap.size w)
 have H : (spec_IslandNumbers.l0 k l1 (([] : List Int)) 0 a0_0 l0_1) = some r := h
 clear h
 obtain ⟨y629, hy629⟩ : ∃ y_ : List Int, y_ = (([] : List Int)) := ⟨_, rfl⟩
 replace H : (spec_IslandNumbers.l0 k l1 y629 0 a0_0 l0_1) = some r := by first | (rw [hy629]; with_reducible exact H) | (have H2_ := (Option.bind_some _ _).symm.trans H; rw [hy629]; with_reducible exact H2_) | (have H2_ := (Option.bind_some _ _).symm.trans H; with_reducible exact H2_) | with_reducible exact H | (rw [hy629]; exact H) | exact H
 have Ny629 := Aside0.mk hy629
 clear hy629
 have H' := Aside0.mk H
 clear H
 go_enter Tryd.func37, Tryd.ntmps37
 go_wp2_with (first | ((with_reducible refine gate_dst (N := 2) rfl ?_); refine box_event ?hg (N := 2) ?hd (cs := #[.int .i64 a0_0, .slice A0_1 l0_1.length c0_1]) (t := 39) ?hr ?_; (case hd => rfl); (case hg => rfl); (case hr => exact hR); intro gb628 hg w3 hbox hb; have n0_ := Aside0.mk (below_step (bl0 HB) hb); have n1_ := Aside0.mk (hbox); have n2_ := Aside0.mk ((by rw [hg]; exact (below_size (bl0 HB)) : w.heap.size ≤ gb628)); have n3_ := Aside0.mk ((by rw [hg]; exact (below_size (bl0 HB)) : w.heap.size ≤ gb628)); clear HB; have HB := n0_; have BK628 := n1_; have GW628 := n2_; have GE628 := n3_; clear n0_ n1_ n2_ n3_; clear hb hbox hg) | ((with_reducible refine gate_dst (N := 7) rfl ?_); refine Kd.R_lit (Kd.int .i64) _ 3 ?hg (N := 7) ?hd (xs := ([] : List Int)) (inner := []) (ok := fun _ => True) (okp := fun _ => True) ?hr ?hp (fun _ hk => hk) trivial (Below.refl _ _) (Nat.le_refl _) (by simp) ?_; (case hd => rfl); (case hg => rfl); (case hr => exact hR); (case hp => exact (Reps.none _ _)); intro v630 w4 ho5 hb hg_ hnew_; clear hg_ hnew_; (first | rw [← Ny629.out] at ho5 | (simp only [Int.reduceToNat] at ho5; rw [← Ny629.out] at ho5)); have n0_ := Aside0.mk (Kd.R_lower ho5 (below_size (bl1 HB GE628))); have n1_ := Aside0.mk (blk_below (g := gb628) (o := .cells #[.int .i64 a0_0, .slice A0_1 l0_1.length c0_1] 39 (0, 0)) (gB (BK628.out)) hb); have n2_ := Aside0.mk (below_step (bl1 HB GE628) hb); clear BK628; clear HB; have HO631 := n0_; have BK628 := n1_; have HB := n2_; clear n0_ n1_ n2_; clear hb ho5))
 go_loopg [5, 6] k (fun kq v5 v6 w' => ∃ (x5_1 : List Int) (x6_1 : Int), v6 = .int .i64 x6_1 ∧ Aside0 (spec_IslandNumbers.l0 kq l1 x5_1 x6_1 a0_0 l0_1 = some r) ∧ Aside0 (kq ≤ k) ∧ Aside0 (Kd.R (Kd.int .i64) 3 w' w.heap.size (fun _ => True) v5 x5_1) ∧ Aside0 (w'.heap[gb628]? = some (.cells #[.int .i64 a0_0, (.slice A0_1 l0_1.length c0_1)] 39 (0, 0))) ∧ Aside0 (Below w.heap.size w w'))
 case atStart => exact ⟨(y629), (0), fS, H', ⟨Nat.le_refl _⟩, ⟨gR (HO631.out)⟩, ⟨gB (BK628.out)⟩, ⟨bl1 HB GE628⟩⟩
 case round =>
  clear H'
  try clear c1
  try clear p2
  try clear c3
  obtain ⟨x5_1, x6_1, rfl, HA, HK1, HO_5, BK628, HB⟩ := hrel
  cases gk with
  | zero => exact absurd HA.out (by simp [spec_IslandNumbers.l0])
  | succ k1 =>
   have H := HA.out
   clear HA
   simp only [spec_IslandNumbers.l0] at H
   by_cases c6 : x6_1 < a0_0
   rotate_left
   ·
    rw [if_neg c6] at H
    have c6b0 : decide (x6_1 < a0_0) = false := decide_eq_false c6
    clear c6
    obtain rfl := Option.some.inj H
    have hcz20_0 : wr.cell? ⟨gb628, 0, none⟩ = some (.int .i64 a0_0) := (blk_cell BK628.out 0).trans rfl
    have hcz20_1 : wr.cell? ⟨gb628, 1, none⟩ = some (.slice A0_1 l0_1.length c0_1) := (blk_cell BK628.out 1).trans rfl
    have hfz20_0 := blk_frozen BK628.out 0
    have hfz20_1 := blk_frozen BK628.out 1
    go_wp2
    go_ret
    exact ⟨_, fR, gR (HO_5.out), bl1 HB GE628⟩
   rw [if_pos c6] at H
   have c6b0 : decide (x6_1 < a0_0) = true := decide_eq_true c6
   clear c6
   replace H := Option.bind_eq_some_iff.mp H
   obtain ⟨t632, A70, H⟩ := H
   replace H : (if t632 = true then ((spec_Reached.f k1 a0_0 l0_1 l1 x6_1).bind fun t633 => (if 0 < (t633.length : Int) then (if x5_1.length < 17592186044416 then (spec_IslandNumbers.l0 k1 l1 (x5_1 ++ [rd t633 0]) (wrap64 (x6_1 + 1)) a0_0 l0_1) else (none)) else (none))) else (some x5_1)) = some r := H
   have A7 := Aside0.mk A70
   clear A70
   by_cases c8 : t632 = true
   rotate_left
   ·
    replace c8 := Bool.eq_false_iff.mpr c8
    subst c8
    have H1 : (some x5_1) = some r := by rw [if_neg (show ¬ (false = true) by decide)] at H; exact H
    clear H
    have H := H1
    clear H1
    obtain rfl := Option.some.inj H
    have hcz18_0 : wr.cell? ⟨gb628, 0, none⟩ = some (.int .i64 a0_0) := (blk_cell BK628.out 0).trans rfl
    have hcz18_1 : wr.cell? ⟨gb628, 1, none⟩ = some (.slice A0_1 l0_1.length c0_1) := (blk_cell BK628.out 1).trans rfl
    have hfz18_0 := blk_frozen BK628.out 0
    have hfz18_1 := blk_frozen BK628.out 1
    go_wp2_with (first | (go_at_call 43; (with_reducible refine (spec_StateValid.calls k1 a0_0 _ _ l0_1 _ _ l1 false _ ?side1 ?side2 ?side3 ?side4 A7.out).mono ?_); (case side1 => exact gC ((Kd.C_below HR0_1.out HB.out))); (case side2 => exact HC0_1.out); (case side3 => exact gC ((Kd.C_below HR1.out HB.out))); (case side4 => exact HC1.out); rintro e w19 ⟨rfl, hb⟩; have n0_ := Aside0.mk (Kd.R_below (gR (HO_5.out)) hb); have n1_ := Aside0.mk (blk_below (g := gb628) (o := .cells #[.int .i64 a0_0, .slice A0_1 l0_1.length c0_1] 39 (0, 0)) (gB (BK628.out)) hb); have n2_ := Aside0.mk (below_step (bl1 HB GE628) hb); clear HO_5; clear BK628; clear HB; have HO_5 := n0_; have BK628 := n1_; have HB := n2_; clear n0_ n1_ n2_; (try clear hb); (try clear hb2); (try clear hk); (try clear hi)))
    go_ret
    exact ⟨_, fR, gR (HO_5.out), bl1 HB GE628⟩
   subst c8
   have H1 : ((spec_Reached.f k1 a0_0 l0_1 l1 x6_1).bind fun t633 => (if 0 < (t633.length : Int) then (if x5_1.length < 17592186044416 then (spec_IslandNumbers.l0 k1 l1 (x5_1 ++ [rd t633 0]) (wrap64 (x6_1 + 1)) a0_0 l0_1) else (none)) else (none))) = some r := by rw [if_pos rfl] at H; exact H
   clear H
   have H := H1
   clear H1
   replace H := Option.bind_eq_some_iff.mp H
   obtain ⟨t633, A90, H⟩ := H
   replace H : (if 0 < (t633.length : Int) then (if x5_1.length < 17592186044416 then (spec_IslandNumbers.l0 k1 l1 (x5_1 ++ [rd t633 0]) (wrap64 (x6_1 + 1)) a0_0 l0_1) else (none)) else (none)) = some r := H
   have A9 := Aside0.mk A90
   clear A90
   by_cases c10 : 0 < (t633.length : Int)
   rotate_left
   ·
    rw [if_neg c10] at H
    exact absurd H (by simp)
   rw [if_pos c10] at H
   have c10b0 : decide (0 < (t633.length : Int)) = true := decide_eq_true c10
   have c10b1 : decide (0 < t633.length) = true := decide_eq_true (by omega)
   clear c10
   by_cases c11 : x5_1.length < 17592186044416
   rotate_left
   ·
    rw [if_neg c11] at H
    exact absurd H (by simp)
   rw [if_pos c11] at H
   have LMc11 := Aside0.mk c11
   clear c11
   obtain ⟨y637, hy637⟩ : ∃ y_ : List Int, y_ = (x5_1 ++ [rd t633 0]) := ⟨_, rfl⟩
   replace H : (spec_IslandNumbers.l0 k1 l1 y637 (wrap64 (x6_1 + 1)) a0_0 l0_1) = some r := by first | (rw [hy637]; with_reducible exact H) | (have H2_ := (Option.bind_some _ _).symm.trans H; rw [hy637]; with_reducible exact H2_) | (have H2_ := (Option.bind_some _ _).symm.trans H; with_reducible exact H2_) | with_reducible exact H | (rw [hy637]; exact H) | exact H
   have Ny637 := Aside0.mk hy637
   clear hy637
   have H' := Aside0.mk H
   clear H
   have hcz12_0 : wr.cell? ⟨gb628, 0, none⟩ = some (.int .i64 a0_0) := (blk_cell BK628.out 0).trans rfl
   have hcz12_1 : wr.cell? ⟨gb628, 1, none⟩ = some (.slice A0_1 l0_1.length c0_1) := (blk_cell BK628.out 1).trans rfl
   have hfz12_0 := blk_frozen BK628.out 0
   have hfz12_1 := blk_frozen BK628.out 1
   go_wp2_with (first | (go_at_call 43; (with_reducible refine (spec_StateValid.calls k1 a0_0 _ _ l0_1 _ _ l1 true _ ?side1 ?side2 ?side3 ?side4 A7.out).mono ?_); (case side1 => exact gC ((Kd.C_below HR0_1.out HB.out))); (case side2 => exact HC0_1.out); (case side3 => exact gC ((Kd.C_below HR1.out HB.out))); (case side4 => exact HC1.out); rintro e w13 ⟨rfl, hb⟩; have n0_ := Aside0.mk (Kd.R_below (gR (HO_5.out)) hb); have n1_ := Aside0.mk (blk_below (g := gb628) (o := .cells #[.int .i64 a0_0, .slice A0_1 l0_1.length c0_1] 39 (0, 0)) (gB (BK628.out)) hb); have n2_ := Aside0.mk (below_step (bl1 HB GE628) hb); clear HO_5; clear BK628; clear HB; have HO_5 := n0_; have BK628 := n1_; have HB := n2_; clear n0_ n1_ n2_; (try clear hb); (try clear hb2); (try clear hk); (try clear hi); have hcz14_0 : w13.cell? ⟨gb628, 0, none⟩ = some (.int .i64 a0_0) := (blk_cell BK628.out 0).trans rfl; have hcz14_1 : w13.cell? ⟨gb628, 1, none⟩ = some (.slice A0_1 l0_1.length c0_1) := (blk_cell BK628.out 1).trans rfl; have hfz14_0 := blk_frozen BK628.out 0; have hfz14_1 := blk_frozen BK628.out 1) | ((with_reducible refine gate_callee (f := 30) rfl ?_); refine goesL_ (some 23) rfl rfl Tryd.func30 (by kernel_rfl) rfl #[.agg #[.int .i64 a0_0, .slice A0_1 l0_1.length c0_1], .slice A1 l1.length c1, .int .i64 x6_1] rfl mP ?_; (with_reducible refine (spec_Reached.calls k1 a0_0 _ _ l0_1 _ _ l1 x6_1 t633 _ ?side1 ?side2 ?side3 ?side4 A9.out).mono ?_); (case side1 => exact gC ((Kd.C_below HR0_1.out HB.out))); (case side2 => exact HC0_1.out); (case side3 => exact gC ((Kd.C_below HR1.out HB.out))); (case side4 => exact HC1.out); rintro e w15 ⟨v634, rfl, ho0, hb⟩; refine ⟨_, rfl, ?_⟩; have n0_ := Aside0.mk (Kd.R_elder' (gR (HO_5.out)) (Kd.R_base ho0) hb); have n1_ := Aside0.mk (Kd.R_lower (Kd.R_new' ho0 (Kd.R_lt (gR (HO_5.out)))) (below_size (bl1 HB GE628))); have n2_ := Aside0.mk (blk_below (g := gb628) (o := .cells #[.int .i64 a0_0, .slice A0_1 l0_1.length c0_1] 39 (0, 0)) (gB (BK628.out)) hb); have n3_ := Aside0.mk (below_step (bl1 HB GE628) hb); clear HO_5; clear BK628; clear HB; have HO_5 := n0_; have HO635 := n1_; have BK628 := n2_; have HB := n3_; clear n0_ n1_ n2_ n3_; (try clear hb); (try clear hb2); (try clear hk); (try clear hi); (try clear ho0); obtain ⟨Ao16, co16, eo16⟩ := Kd.R_slice HO635.out; subst eo16; have p636 : 0 ≤ (0 : Int) := (by omega); have q636 : 0 < (t633.length : Int) := oD; obtain ⟨ad636, e636, hx636_0⟩ := Kd.at_int (Kd.R_reads' HO635.out).2.2 0 p636 q636; cases e636; have qi636 : (0 < t633.length) = True := eq_true (by omega); (try rw [show ((0 : Int)).toNat = 0 from rfl] at hx636_0); (try rw [Addr.add_zero'] at hx636_0); replace p636 := eq_true p636; replace q636 := eq_true q636) | ((with_reducible refine gate_builtin (b := .append) (xs := #[.tmp 19, .tmp 26]) rfl ?_); at_builtin; refine Kd.R_append (Kd.int .i64) (w0 := w) w.heap.size rfl (.tmp 19) (.tmp 26) 24 3 (.int .i64 0) 8 rfl Tryd.underlying24 info3 rfl (by decide) (by omega) u5 x5_1 (rd t633 0) [.int .i64 (rd t633 0)] (fun k_ => some k_ ≠ (.slice (some ad636) t633.length co16 : Value).ownBlock) (fun _ => False) rfl rfl ?aP (fun _ hk => hk.elim) ?aF ?aO ?aB ?aS ?aL ?_; (case aP => exact rfl); (case aB => exact (bl1 HB GE628)); (case aF => exact (fun k_ hk => Kd.fresh' (Kd.R_lt (gR (HO635.out))) k_ hk)); (case aO => exact (by (with_reducible repeat (first | apply Kd.R_alloc | apply Kd.R_drewN | apply Kd.R_drew)); exact Kd.R_mono HO_5.out (fun _ hk => hk.2))); (case aS => exact (below_size (bl1 HB GE628))); (case aL => have := LMc11.out; omega); intro v638 w17 ho hb hg hat; rw [← Ny637.out] at ho; have n0_ := Aside0.mk (blk_grown (g := gb628) (o := .cells #[.int .i64 a0_0, .slice A0_1 l0_1.length c0_1] 39 (0, 0)) (gB (BK628.out)) hg (Kd.R_ne HO_5.out BK628.out (by decide))); have n1_ := Aside0.mk (Kd.R_after (ok := (fun _ => True)) (gR (HO635.out)) hg hat); have n2_ := Aside0.mk (hb); have n3_ := Aside0.mk (ho); clear BK628; clear HO635; clear HB; clear HO_5; have BK628 := n0_; have HO635 := n1_; have HB := n2_; have HO639 := n3_; clear n0_ n1_ n2_ n3_; clear ho hb hg hat))
   go_roundg k1
   case measure => have := HK1.out; omega
   case rel => exact ⟨(y637), (wrap64 (x6_1 + 1)), fS, H', ⟨by have := HK1.out; omega⟩, ⟨by (with_reducible repeat (first | apply Kd.R_alloc | apply Kd.R_drewN | apply Kd.R_drew)); exact Kd.R_mono HO639.out (fun _ hk => trivial)⟩, ⟨gB (BK628.out)⟩, ⟨bl1 HB GE628⟩⟩

end Go.Proofs.YthkdkjmnnpcdhaaDoor.P
namespace Go.Proofs.YthkdkjmnnpcdhaaDoor.P
open Go.RowKit Go.Proofs.YthkdkjmnnpcdhaaDoorW.PrintWords Go.Proofs.YthkdkjmnnpcdhaaDoorW.PrintLast Go.Proofs.YthkdkjmnnpcdhaaDoorW.PrintMore
attribute [local go_sem] max2_int min2_int max_two min_two max_three min_three max_four min_four   -- for this text's walks alone
set_option linter.unusedVariables false
set_option linter.unusedSimpArgs false

/-! ### spec_IslandsOf: function 35 -/
def spec_IslandsOf.l0 : Nat → List Bool → List (List Int) → List Int → Int → Int → List (S52) → Option ((List (List Int)))
 | 0, _, _, _, _, _, _ => none
 | k + 1, x1, x5, x6, x7, x641000, x641001 => if x7 < (x6.length : Int) then (if 0 ≤ x7 then (if (rd x6 x7) = x7 then ((spec_Reached.f k x641000 x641001 x1 x7).bind fun t648 => (if x5.length < 5864062014805 then (spec_IslandsOf.l0 k x1 (x5 ++ [t648]) x6 (wrap64 (x7 + 1)) x641000 x641001) else (none))) else (spec_IslandsOf.l0 k x1 x5 x6 (wrap64 (x7 + 1)) x641000 x641001)) else (none)) else (some x5)
def spec_IslandsOf.f (k : Nat) (a0_0 : Int) (l0_1 : List (S52)) (l1 : List Bool) : Option ((List (List Int))) := (spec_IslandNumbers.f k a0_0 l0_1 l1).bind fun t644 => (spec_IslandsOf.l0 k l1 (([] : List (List Int))) t644 0 a0_0 l0_1)
theorem spec_IslandsOf.mono_l : ∀ k, (∀ y0 y1 y2 y3 y4 y5, LeO (spec_IslandsOf.l0 k y0 y1 y2 y3 y4 y5) (spec_IslandsOf.l0 (k + 1) y0 y1 y2 y3 y4 y5))
 | 0 => fun _ _ _ _ _ _ r h => by simp [spec_IslandsOf.l0] at h
 | k + 1 => by
  have ih0 := spec_IslandsOf.mono_l k
  ·
   intro y0 y1 y2 y3 y4 y5
   unfold spec_IslandsOf.l0
   repeat' first
   | (with_reducible exact ih0 _ _ _ _ _ _)
   | (with_reducible exact spec_IslandNumbers.mono _ _ _ _)
   | (with_reducible exact spec_Reached.mono _ _ _ _ _)
   | (with_reducible exact LeO.refl _)
   | (with_reducible exact LeO.none _)
   | (with_reducible refine LeO.ite ?_ ?_)
   | (with_reducible refine LeO.bind ?_ (fun _ => ?_))
   | exact ih0 _ _ _ _ _ _
   | exact spec_IslandNumbers.mono _ _ _ _
   | exact spec_Reached.mono _ _ _ _ _
   | exact LeO.none _
   | refine LeO.ite ?_ ?_
   | refine LeO.bind ?_ (fun _ => ?_)
theorem spec_IslandsOf.mono : ∀ a0 a1 a2 k, LeO (spec_IslandsOf.f k a0 a1 a2) (spec_IslandsOf.f (k + 1) a0 a1 a2) := by
 intro a0 a1 a2 k
 have ih0 := spec_IslandsOf.mono_l k
 unfold spec_IslandsOf.f
 repeat' first
   | (with_reducible exact ih0 _ _ _ _ _ _)
   | (with_reducible exact spec_IslandNumbers.mono _ _ _ _)
   | (with_reducible exact spec_Reached.mono _ _ _ _ _)
   | (with_reducible exact LeO.refl _)
   | (with_reducible exact LeO.none _)
   | (with_reducible refine LeO.ite ?_ ?_)
   | (with_reducible refine LeO.bind ?_ (fun _ => ?_))
   | exact ih0 _ _ _ _ _ _
   | exact spec_IslandNumbers.mono _ _ _ _
   | exact spec_Reached.mono _ _ _ _ _
   | exact LeO.none _
   | refine LeO.ite ?_ ?_
   | refine LeO.bind ?_ (fun _ => ?_)
set_option maxHeartbeats 8000000 in
set_option maxRecDepth 100000 in
theorem spec_IslandsOf.calls (k : Nat) (a0_0 : Int) (A0_1 : Option Addr) (c0_1 : Nat) (l0_1 : List (S52)) (A1 : Option Addr) (c1 : Nat) (l1 : List Bool) (r : List (List Int)) (w : World) (hr0_1 : Kd.C k52 w A0_1 l0_1.length l0_1) (hc0_1 : l0_1.length ≤ c0_1) (hr1 : Kd.C Kd.bool w A1 l1.length l1) (hc1 : l1.length ≤ c1) (h : spec_IslandsOf.f k a0_0 l0_1 l1 = some r) :
  Calls Tryd.prog 35 #[.agg #[.int .i64 a0_0, .slice A0_1 l0_1.length c0_1], .slice A1 l1.length c1] w fun e w' => ∃ v0_ : Value, e = .returned (v0_) ∧ Kd.S (Kd.slice 3 (Kd.int .i64)) 24 w' w.heap.size (fun _ => True) v0_ r ∧ Below w.heap.size w w' := by
 have hu39 := Tryd.underlying39
 have HR0_1 := Aside0.mk hr0_1
 have HC0_1 := Aside0.mk hc0_1
 clear hr0_1 hc0_1
 have HR1 := Aside0.mk hr1
 have HC1 := Aside0.mk hc1
 clear hr1 hc1
 have HB := Aside0.mk (Below.refl w.heap.size w)
 have H : ((spec_IslandNumbers.f k a0_0 l0_1 l1).bind fun t644 => (spec_IslandsOf.l0 k l1 (([] : List (List Int))) t644 0 a0_0 l0_1)) = some r := h
 clear h
 obtain ⟨y641, hy641⟩ : ∃ y_ : List (List Int), y_ = (([] : List (List Int))) := ⟨_, rfl⟩
 replace H : ((spec_IslandNumbers.f k a0_0 l0_1 l1).bind fun t644 => (spec_IslandsOf.l0 k l1 y641 t644 0 a0_0 l0_1)) = some r := by first | (rw [hy641]; with_reducible exact H) | (have H2_ := (Option.bind_some _ _).symm.trans H; rw [hy641]; with_reducible exact H2_) | (have H2_ := (Option.bind_some _ _).symm.trans H; with_reducible exact H2_) | with_reducible exact H | (rw [hy641]; exact H) | exact H
 have Ny641 := Aside0.mk hy641
 clear hy641
 replace H := Option.bind_eq_some_iff.mp H
 obtain ⟨t644, A30, H⟩ := H
 replace H : (spec_IslandsOf.l0 k l1 y641 t644 0 a0_0 l0_1) = some r := H
 have A3 := Aside0.mk A30
 clear A30
 have H' := Aside0.mk H
 clear H
 go_enter Tryd.func35, Tryd.ntmps35
 go_wp2_with (first | ((with_reducible refine gate_dst (N := 2) rfl ?_); refine box_event ?hg (N := 2) ?hd (cs := #[.int .i64 a0_0, .slice A0_1 l0_1.length c0_1]) (t := 39) ?hr ?_; (case hd => rfl); (case hg => rfl); (case hr => exact hR); intro gb640 hg w4 hbox hb; have n0_ := Aside0.mk (below_step (bl0 HB) hb); have n1_ := Aside0.mk (hbox); have n2_ := Aside0.mk ((by rw [hg]; exact (below_size (bl0 HB)) : w.heap.size ≤ gb640)); have n3_ := Aside0.mk ((by rw [hg]; exact (below_size (bl0 HB)) : w.heap.size ≤ gb640)); clear HB; have HB := n0_; have BK640 := n1_; have GW640 := n2_; have GE640 := n3_; clear n0_ n1_ n2_ n3_; clear hb hbox hg) | ((with_reducible refine gate_dst (N := 8) rfl ?_); refine Kd.S_lit (Kd.slice 3 (Kd.int .i64)) _ 24 ?hg (N := 8) ?hd (xs := ([] : List (List Int))) (inner := []) (ok := fun _ => True) (okp := fun _ => True) ?hr ?hp (fun _ hk => hk) trivial (Below.refl _ _) (Nat.le_refl _) (by simp) ?_; (case hd => rfl); (case hg => rfl); (case hr => exact hR); (case hp => exact (Reps.none _ _)); intro v642 w5 ho6 hb hg_ hnew_; clear hg_ hnew_; (first | rw [← Ny641.out] at ho6 | (simp only [Int.reduceToNat] at ho6; rw [← Ny641.out] at ho6)); have n0_ := Aside0.mk (Kd.S_lower ho6 (below_size (bl1 HB GE640))); have n1_ := Aside0.mk (blk_below (g := gb640) (o := .cells #[.int .i64 a0_0, .slice A0_1 l0_1.length c0_1] 39 (0, 0)) (gB (BK640.out)) hb); have n2_ := Aside0.mk (below_step (bl1 HB GE640) hb); clear BK640; clear HB; have HO643 := n0_; have BK640 := n1_; have HB := n2_; clear n0_ n1_ n2_; clear hb ho6; have hcz7_0 : w5.cell? ⟨gb640, 0, none⟩ = some (.int .i64 a0_0) := (blk_cell BK640.out 0).trans rfl; have hcz7_1 : w5.cell? ⟨gb640, 1, none⟩ = some (.slice A0_1 l0_1.length c0_1) := (blk_cell BK640.out 1).trans rfl; have hfz7_0 := blk_frozen BK640.out 0; have hfz7_1 := blk_frozen BK640.out 1) | ((with_reducible refine gate_callee (f := 37) rfl ?_); refine goesL_ (some 11) rfl rfl Tryd.func37 (by kernel_rfl) rfl #[.agg #[.int .i64 a0_0, .slice A0_1 l0_1.length c0_1], .slice A1 l1.length c1] rfl mP ?_; (with_reducible refine (spec_IslandNumbers.calls k a0_0 _ _ l0_1 _ _ l1 t644 _ ?side1 ?side2 ?side3 ?side4 A3.out).mono ?_); (case side1 => exact gC ((Kd.C_below HR0_1.out HB.out))); (case side2 => exact HC0_1.out); (case side3 => exact gC ((Kd.C_below HR1.out HB.out))); (case side4 => exact HC1.out); rintro e w8 ⟨v645, rfl, ho0, hb⟩; refine ⟨_, rfl, ?_⟩; have n0_ := Aside0.mk (Kd.S_elder' (gS (HO643.out)) (Kd.R_base ho0) hb); have n1_ := Aside0.mk (Kd.R_lower ho0 (below_size (bl1 HB GE640))); have n2_ := Aside0.mk (blk_below (g := gb640) (o := .cells #[.int .i64 a0_0, .slice A0_1 l0_1.length c0_1] 39 (0, 0)) (gB (BK640.out)) hb); have n3_ := Aside0.mk (below_step (bl1 HB GE640) hb); clear HO643; clear BK640; clear HB; have HO643 := n0_; have HO646 := n1_; have BK640 := n2_; have HB := n3_; clear n0_ n1_ n2_ n3_; (try clear hb); (try clear hb2); (try clear hk); (try clear hi); (try clear ho0)))
 go_loopg [5, 7] k (fun kq v5 v7 w' => ∃ (x5_1 : List (List Int)) (x7_1 : Int), v7 = .int .i64 x7_1 ∧ Aside0 (spec_IslandsOf.l0 kq l1 x5_1 t644 x7_1 a0_0 l0_1 = some r) ∧ Aside0 (kq ≤ k) ∧ Aside0 (Kd.S (Kd.slice 3 (Kd.int .i64)) 24 w' w.heap.size (fun k_ => some k_ ≠ (v645 : Value).ownBlock) v5 x5_1) ∧ Aside0 (Kd.R (Kd.int .i64) 3 w' w.heap.size (fun _ => True) v645 t644) ∧ Aside0 (w'.heap[gb640]? = some (.cells #[.int .i64 a0_0, (.slice A0_1 l0_1.length c0_1)] 39 (0, 0))) ∧ Aside0 (Below w.heap.size w w'))
 case atStart => exact ⟨(y641), (0), fS, H', ⟨Nat.le_refl _⟩, ⟨by (with_reducible repeat (first | apply Kd.S_alloc | apply Kd.S_drewN | apply Kd.S_drew)); exact Kd.S_mono HO643.out (fun _ hk => hk.2)⟩, ⟨gR (HO646.out)⟩, ⟨gB (BK640.out)⟩, ⟨bl1 HB GE640⟩⟩
 case round =>
  clear H'
  try clear c1
  try clear p2
  try clear c3
  try clear hcz7_0
  try clear hcz7_1
  try clear hfz7_0
  try clear hfz7_1
  obtain ⟨x5_1, x7_1, rfl, HA, HK1, HO_5, HO_6, BK640, HB⟩ := hrel
  cases gk with
  | zero => exact absurd HA.out (by simp [spec_IslandsOf.l0])
  | succ k1 =>
   have H := HA.out
   clear HA
   simp only [spec_IslandsOf.l0] at H
   by_cases c9 : x7_1 < (t644.length : Int)
   rotate_left
   ·
    rw [if_neg c9] at H
    have c9b0 : decide (x7_1 < (t644.length : Int)) = false := decide_eq_false c9
    clear c9
    obtain rfl := Option.some.inj H
    obtain ⟨Ao20, co20, eo20⟩ := Kd.R_slice HO_6.out
    subst eo20
    go_wp2
    go_ret
    exact ⟨_, fR, by (with_reducible repeat (first | apply Kd.S_alloc | apply Kd.S_drewN | apply Kd.S_drew)); exact Kd.S_mono HO_5.out (fun _ hk => trivial), bl1 HB GE640⟩
   rw [if_pos c9] at H
   have c9b0 : decide (x7_1 < (t644.length : Int)) = true := decide_eq_true c9
   clear c9
   by_cases c10 : 0 ≤ x7_1
   rotate_left
   ·
    rw [if_neg c10] at H
    exact absurd H (by simp)
   rw [if_pos c10] at H
   have c10b0 : decide (0 ≤ x7_1) = true := decide_eq_true c10
   clear c10
   by_cases c11 : (rd t644 x7_1) = x7_1
   rotate_left
   ·
    rw [if_neg c11] at H
    have c11b0 : ((rd t644 x7_1) == x7_1) = false := beq_eq_false_iff_ne.mpr c11
    have c11b1 : ((rd t644 x7_1) != x7_1) = true := bne_iff_ne.mpr c11
    have H' := Aside0.mk H
    clear H
    obtain ⟨Ao19, co19, eo19⟩ := Kd.R_slice HO_6.out
    subst eo19
    have p647 : 0 ≤ (x7_1 : Int) := oD
    have q647 : x7_1 < (t644.length : Int) := oD
    obtain ⟨ad647, e647, hx647_0⟩ := Kd.at_int (Kd.R_reads' HO_6.out).2.2 x7_1 p647 q647
    cases e647
    replace p647 := eq_true p647
    replace q647 := eq_true q647
    go_wp2
    go_roundg k1
    case measure => have := HK1.out; omega
    case rel => exact ⟨(x5_1), (wrap64 (x7_1 + 1)), fS, H', ⟨by have := HK1.out; omega⟩, ⟨gS (HO_5.out)⟩, ⟨gR (HO_6.out)⟩, ⟨gB (BK640.out)⟩, ⟨bl1 HB GE640⟩⟩
   rw [if_pos c11] at H
   have c11b0 : ((rd t644 x7_1) == x7_1) = true := beq_iff_eq.mpr c11
   have c11b1 : ((rd t644 x7_1) != x7_1) = false := bne_eq_false_iff_eq.mpr c11
   clear c11
   replace H := Option.bind_eq_some_iff.mp H
   obtain ⟨t648, A120, H⟩ := H
   replace H : (if x5_1.length < 5864062014805 then (spec_IslandsOf.l0 k1 l1 (x5_1 ++ [t648]) t644 (wrap64 (x7_1 + 1)) a0_0 l0_1) else (none)) = some r := H
   have A12 := Aside0.mk A120
   clear A120
   by_cases c13 : x5_1.length < 5864062014805
   rotate_left
   ·
    rw [if_neg c13] at H
    exact absurd H (by simp)
   rw [if_pos c13] at H
   have LMc13 := Aside0.mk c13
   clear c13
   obtain ⟨y651, hy651⟩ : ∃ y_ : List (List Int), y_ = (x5_1 ++ [t648]) := ⟨_, rfl⟩
   replace H : (spec_IslandsOf.l0 k1 l1 y651 t644 (wrap64 (x7_1 + 1)) a0_0 l0_1) = some r := by first | (rw [hy651]; with_reducible exact H) | (have H2_ := (Option.bind_some _ _).symm.trans H; rw [hy651]; with_reducible exact H2_) | (have H2_ := (Option.bind_some _ _).symm.trans H; with_reducible exact H2_) | with_reducible exact H | (rw [hy651]; exact H) | exact H
   have Ny651 := Aside0.mk hy651
   clear hy651
   have H' := Aside0.mk H
   clear H
   obtain ⟨Ao14, co14, eo14⟩ := Kd.R_slice HO_6.out
   subst eo14
   have p647 : 0 ≤ (x7_1 : Int) := oD
   have q647 : x7_1 < (t644.length : Int) := oD
   obtain ⟨ad647, e647, hx647_0⟩ := Kd.at_int (Kd.R_reads' HO_6.out).2.2 x7_1 p647 q647
   cases e647
   replace p647 := eq_true p647
   replace q647 := eq_true q647
   have hcz15_0 : wr.cell? ⟨gb640, 0, none⟩ = some (.int .i64 a0_0) := (blk_cell BK640.out 0).trans rfl
   have hcz15_1 : wr.cell? ⟨gb640, 1, none⟩ = some (.slice A0_1 l0_1.length c0_1) := (blk_cell BK640.out 1).trans rfl
   have hfz15_0 := blk_frozen BK640.out 0
   have hfz15_1 := blk_frozen BK640.out 1
   go_wp2_with (first | ((with_reducible refine gate_callee (f := 30) rfl ?_); refine goesL_ (some 28) rfl rfl Tryd.func30 (by kernel_rfl) rfl #[.agg #[.int .i64 a0_0, .slice A0_1 l0_1.length c0_1], .slice A1 l1.length c1, .int .i64 x7_1] rfl mP ?_; (with_reducible refine (spec_Reached.calls k1 a0_0 _ _ l0_1 _ _ l1 x7_1 t648 _ ?side1 ?side2 ?side3 ?side4 A12.out).mono ?_); (case side1 => exact gC ((Kd.C_below HR0_1.out HB.out))); (case side2 => exact HC0_1.out); (case side3 => exact gC ((Kd.C_below HR1.out HB.out))); (case side4 => exact HC1.out); rintro e w16 ⟨v649, rfl, ho0, hb⟩; refine ⟨_, rfl, ?_⟩; have n0_ := Aside0.mk (Kd.S_elder' (gS (HO_5.out)) (Kd.R_base ho0) hb); have n1_ := Aside0.mk (Kd.R_elder' (gR (HO_6.out)) (Kd.R_base ho0) hb); have n2_ := Aside0.mk (Kd.R_lower (Kd.R_new' ho0 (Kd.R_lt (gR (HO_6.out)))) (below_size (bl1 HB GE640))); have n3_ := Aside0.mk (blk_below (g := gb640) (o := .cells #[.int .i64 a0_0, .slice A0_1 l0_1.length c0_1] 39 (0, 0)) (gB (BK640.out)) hb); have n4_ := Aside0.mk (below_step (bl1 HB GE640) hb); clear HO_5; clear HO_6; clear BK640; clear HB; have HO_5 := n0_; have HO_6 := n1_; have HO650 := n2_; have BK640 := n3_; have HB := n4_; clear n0_ n1_ n2_ n3_ n4_; (try clear hb); (try clear hb2); (try clear hk); (try clear hi); (try clear ho0); obtain ⟨Ao18, co18, eo18⟩ := Kd.R_slice HO650.out; subst eo18) | ((with_reducible refine gate_builtin (b := .append) (xs := #[.tmp 24, .tmp 29]) rfl ?_); at_builtin; refine Kd.S_append (Kd.slice 3 (Kd.int .i64)) (w0 := w) w.heap.size rfl (.tmp 24) (.tmp 29) 55 24 (.slice none 0 0) 24 rfl Tryd.underlying55 info24 rfl (by decide) (by omega) u5 x5_1 t648 [.slice Ao18 t648.length co18] (fun k_ => some k_ ≠ (.slice (some ad647) t644.length co14 : Value).ownBlock) (fun k_ => some k_ = (.slice Ao18 t648.length co18 : Value).ownBlock) rfl rfl ?aP (fun k_ hk_ => ((Kd.R_mono (ok' := fun k_ => ((fun k_ => some k_ ≠ (.slice (some ad647) t644.length co14 : Value).ownBlock)) k_ ∧ some k_ ≠ (u5 : Value).ownBlock) (Kd.R_apart' (HO650.out) (Kd.S_typed HO_5.out) (by decide)) (fun k_ hk => ⟨hk.1.2, hk.2⟩))).1 k_ hk_.symm) ?aF ?aO ?aB ?aS ?aL ?_; (case aP => exact Kd.M_row (Kd.R_mono (Kd.R_tight rfl (Kd.R_mono (ok' := fun k_ => ((fun k_ => some k_ ≠ (.slice (some ad647) t644.length co14 : Value).ownBlock)) k_ ∧ some k_ ≠ (u5 : Value).ownBlock) (Kd.R_apart' (HO650.out) (Kd.S_typed HO_5.out) (by decide)) (fun k_ hk => ⟨hk.1.2, hk.2⟩))) (fun _ h_ => h_))); (case aB => exact (bl1 HB GE640)); (case aF => exact (fun k_ hk => Kd.fresh' (Kd.R_lt (gR (HO_6.out))) k_ hk)); (case aO => exact (by (with_reducible repeat (first | apply Kd.S_alloc | apply Kd.S_drewN | apply Kd.S_drew)); exact Kd.S_mono HO_5.out (fun k_ hk => ⟨hk.1, fun e_ => hk.2 e_⟩))); (case aS => exact (below_size (bl1 HB GE640))); (case aL => have := LMc13.out; omega); intro v652 w17 ho hb hg hat; rw [← Ny651.out] at ho; have n0_ := Aside0.mk (Kd.R_over' (gR (HO_6.out)) (Kd.S_typed (gS (HO_5.out))) (by decide) hg); have n1_ := Aside0.mk (blk_grown (g := gb640) (o := .cells #[.int .i64 a0_0, .slice A0_1 l0_1.length c0_1] 39 (0, 0)) (gB (BK640.out)) hg (Kd.S_ne HO_5.out BK640.out (by decide))); have n2_ := Aside0.mk (hb); have n3_ := Aside0.mk (ho); clear HO_6; clear BK640; clear HB; clear HO_5; clear HO650; have HO_6 := n0_; have BK640 := n1_; have HB := n2_; have HO653 := n3_; clear n0_ n1_ n2_ n3_; clear ho hb hg hat))
   go_roundg k1
   case measure => have := HK1.out; omega
   case rel => exact ⟨(y651), (wrap64 (x7_1 + 1)), fS, H', ⟨by have := HK1.out; omega⟩, ⟨gS (HO653.out)⟩, ⟨by (with_reducible repeat (first | apply Kd.R_alloc | apply Kd.R_drewN | apply Kd.R_drew)); exact Kd.R_mono HO_6.out (fun _ hk => trivial)⟩, ⟨gB (BK640.out)⟩, ⟨bl1 HB GE640⟩⟩

end Go.Proofs.YthkdkjmnnpcdhaaDoor.P

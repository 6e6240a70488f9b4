/- Contracts of Go functions of this seat's translation, written by this repo's wip/mk.py: it calls the kit's print.py with contracts typed by hand in place of functions that it does not take. Not trusted: Lean checks it. -/
import Derived.Test.YthkdkjmnnpcdhaaDoorP0
import Derived.Test.YthkdkjmnnpcdhaaDoorP7
namespace Go.Proofs.YthkdkjmnnpcdhaaDoor.P
open Go.RowKit Go.Proofs.YthkdkjmnnpcdhaaDoorW.PrintWords Go.Proofs.YthkdkjmnnpcdhaaDoorW.PrintLast Go.Proofs.YthkdkjmnnpcdhaaDoorW.PrintMore
attribute [local go_sem] max2_int min2_int max_two min_two max_three min_three max_four min_four   -- for this text's walks alone
set_option linter.unusedVariables false
set_option linter.unusedSimpArgs false

/-! ### impl_ChangeAll: function 12 -/
def impl_ChangeAll.l0 : Nat → List Bool → List Int → Int → Int → Option (List Bool × Bool)
 | 0, _, _, _, _ => none
 | k + 1, x6, x11, x12, x13 => if x13 < x12 then (if 0 ≤ x13 then (if x13 < (x11.length : Int) then (if (rd x11 x13) < 0 then (some (([] : List Bool), false)) else (if (rd x11 x13) ≥ (x6.length : Int) then (some (([] : List Bool), false)) else (if 0 ≤ (rd x11 x13) then (if (rd x11 x13) < (x6.length : Int) then (impl_ChangeAll.l0 k (x6.set ((rd x11 x13) : Int).toNat (!(rdOf false x6 (rd x11 x13)))) x11 x12 (wrap64 (x13 + 1))) else (none)) else (none)))) else (none)) else (none)) else (some (x6, true))
def impl_ChangeAll.f (k : Nat) (l0 : List Bool) (l1 : List Int) : Option (List Bool × Bool) := (slices_Clone_bool_bool.f l0).bind fun t200 => (impl_ChangeAll.l0 k t200 l1 (l1.length : Int) 0)
theorem impl_ChangeAll.mono_l : ∀ k, (∀ y0 y1 y2 y3, LeO (impl_ChangeAll.l0 k y0 y1 y2 y3) (impl_ChangeAll.l0 (k + 1) y0 y1 y2 y3))
 | 0 => fun _ _ _ _ r h => by simp [impl_ChangeAll.l0] at h
 | k + 1 => by
  have ih0 := impl_ChangeAll.mono_l k
  ·
   intro y0 y1 y2 y3
   unfold impl_ChangeAll.l0
   repeat' first
   | (with_reducible exact ih0 _ _ _ _)
   | (with_reducible exact LeO.refl _)
   | (with_reducible exact LeO.none _)
   | (with_reducible refine LeO.ite ?_ ?_)
   | (with_reducible refine LeO.bind ?_ (fun _ => ?_))
   | exact ih0 _ _ _ _
   | exact LeO.none _
   | refine LeO.ite ?_ ?_
   | refine LeO.bind ?_ (fun _ => ?_)
theorem impl_ChangeAll.mono : ∀ a0 a1 k, LeO (impl_ChangeAll.f k a0 a1) (impl_ChangeAll.f (k + 1) a0 a1) := by
 intro a0 a1 k
 have ih0 := impl_ChangeAll.mono_l k
 unfold impl_ChangeAll.f
 repeat' first
   | (with_reducible exact ih0 _ _ _ _)
   | (with_reducible exact LeO.refl _)
   | (with_reducible exact LeO.none _)
   | (with_reducible refine LeO.ite ?_ ?_)
   | (with_reducible refine LeO.bind ?_ (fun _ => ?_))
   | exact ih0 _ _ _ _
   | exact LeO.none _
   | refine LeO.ite ?_ ?_
   | refine LeO.bind ?_ (fun _ => ?_)
set_option maxHeartbeats 8000000 in
set_option maxRecDepth 100000 in
theorem impl_ChangeAll.calls (k : Nat) (A0 : Option Addr) (c0 : Nat) (l0 : List Bool) (A1 : Option Addr) (c1 : Nat) (l1 : List Int) (r1 : List Bool) (r2 : Bool) (w : World) (hr0 : Kd.C Kd.bool w A0 l0.length l0) (hc0 : l0.length ≤ c0) (hr1 : Kd.C (Kd.int .i64) w A1 l1.length l1) (hc1 : l1.length ≤ c1) (h : impl_ChangeAll.f k l0 l1 = some (r1, r2)) :
  Calls Tryd.prog 12 #[.slice A0 l0.length c0, .slice A1 l1.length c1] w fun e w' => ∃ v0_ : Value, e = .returned (.tuple #[v0_, .bool r2]) ∧ Kd.R Kd.bool 4 w' w.heap.size (fun _ => True) v0_ r1 ∧ Below w.heap.size w w' := by
 have HR0 := Aside0.mk hr0
 have HC0 := Aside0.mk hc0
 clear hr0 hc0
 have HR1 := Aside0.mk hr1
 have HC1 := Aside0.mk hc1
 clear hr1 hc1
 have HB := Aside0.mk (Below.refl w.heap.size w)
 have H : ((slices_Clone_bool_bool.f l0).bind fun t200 => (impl_ChangeAll.l0 k t200 l1 (l1.length : Int) 0)) = some (r1, r2) := h
 clear h
 replace H := Option.bind_eq_some_iff.mp H
 obtain ⟨t200, A30, H⟩ := H
 replace H : (impl_ChangeAll.l0 k t200 l1 (l1.length : Int) 0) = some (r1, r2) := H
 have A3 := Aside0.mk A30
 clear A30
 have H' := Aside0.mk H
 clear H
 go_enter Tryd.func12, Tryd.ntmps12
 go_wp2_with (first | ((with_reducible refine gate_callee (f := 49) rfl ?_); refine goesL_ (some 10) rfl rfl Tryd.func49 (by kernel_rfl) rfl #[.slice A0 l0.length c0] rfl mP ?_; (with_reducible refine (slices_Clone_bool_bool.calls _ _ l0 t200 _ ?side1 ?side2 A3.out).mono ?_); (case side1 => exact gC (HR0.out)); (case side2 => exact HC0.out); rintro e w4 ⟨v201, rfl, ho0, hb⟩; refine ⟨_, rfl, ?_⟩; have n0_ := Aside0.mk (Kd.R_lower ho0 (below_size (bl0 HB))); have n1_ := Aside0.mk (below_step (bl0 HB) hb); clear HB; have HO202 := n0_; have HB := n1_; clear n0_ n1_; (try clear hb); (try clear hb2); (try clear hk); (try clear hi); (try clear ho0)))
 go_loopg [13] k (fun kq v13 w' => ∃ (x6_1 : List Bool) (x13_1 : Int), v13 = .int .i64 x13_1 ∧ Aside0 (impl_ChangeAll.l0 kq x6_1 l1 (l1.length : Int) x13_1 = some (r1, r2)) ∧ Aside0 (kq ≤ k) ∧ Aside0 (Kd.R Kd.bool 4 w' w.heap.size (fun _ => True) v201 x6_1) ∧ Aside0 (Below w.heap.size w w'))
 case atStart => exact ⟨(t200), (0), fS, H', ⟨Nat.le_refl _⟩, ⟨gR (HO202.out)⟩, ⟨bl0 HB⟩⟩
 case round =>
  clear H'
  try clear c1
  try clear p2
  try clear c4
  obtain ⟨x6_1, x13_1, rfl, HA, HK1, HO_6, HB⟩ := hrel
  cases gk with
  | zero => exact absurd HA.out (by simp [impl_ChangeAll.l0])
  | succ k1 =>
   have H := HA.out
   clear HA
   simp only [impl_ChangeAll.l0] at H
   by_cases c5 : x13_1 < (l1.length : Int)
   rotate_left
   ·
    rw [if_neg c5] at H
    have c5b0 : decide (x13_1 < (l1.length : Int)) = false := decide_eq_false c5
    clear c5
    simp only [Option.some.injEq, Prod.mk.injEq] at H
    obtain ⟨rfl, rfl⟩ := H
    go_wp2
    go_ret2
    exact ⟨_, fR, gR (HO_6.out), bl0 HB⟩
   rw [if_pos c5] at H
   have c5b0 : decide (x13_1 < (l1.length : Int)) = true := decide_eq_true c5
   clear c5
   by_cases c6 : 0 ≤ x13_1
   rotate_left
   ·
    rw [if_neg c6] at H
    exact absurd H (by simp)
   rw [if_pos c6] at H
   have c6b0 : decide (0 ≤ x13_1) = true := decide_eq_true c6
   clear c6
   by_cases c7 : x13_1 < (l1.length : Int)
   rotate_left
   ·
    rw [if_neg c7] at H
    exact absurd H (by simp)
   rw [if_pos c7] at H
   have c7b0 : decide (x13_1 < (l1.length : Int)) = true := decide_eq_true c7
   clear c7
   by_cases c8 : (rd l1 x13_1) < 0
   ·
    rw [if_pos c8] at H
    have c8b0 : decide ((rd l1 x13_1) < 0) = true := decide_eq_true c8
    clear c8
    simp only [Option.some.injEq, Prod.mk.injEq] at H
    obtain ⟨rfl, rfl⟩ := H
    have p203 : 0 ≤ (x13_1 : Int) := oD
    have q203 : x13_1 < (l1.length : Int) := oD
    obtain ⟨ad203, e203, hx203_0⟩ := Kd.at_int HR1.out x13_1 p203 q203
    cases e203
    replace hx203_0 := (HB.out.cell (World.block_lt_of_cell? w _ hx203_0)).trans hx203_0
    replace p203 := eq_true p203
    replace q203 := eq_true q203
    go_wp2
    go_ret2
    exact ⟨_, fR, by first | exact Kd.R_nil _ _ _ _ _ | exact Kd.N_nil _ _ _ _ _ | exact Kd.V_nil _ _ _ _ _ | exact Kd.Q_nil _ _ _ _ _ | exact Kd.S_nil _ _ _ _ _, bl0 HB⟩
   rw [if_neg c8] at H
   have c8b0 : decide ((rd l1 x13_1) < 0) = false := decide_eq_false c8
   clear c8
   by_cases c9 : (rd l1 x13_1) ≥ (x6_1.length : Int)
   ·
    rw [if_pos c9] at H
    have c9b0 : decide ((x6_1.length : Int) ≤ (rd l1 x13_1)) = true := decide_eq_true c9
    clear c9
    simp only [Option.some.injEq, Prod.mk.injEq] at H
    obtain ⟨rfl, rfl⟩ := H
    have p203 : 0 ≤ (x13_1 : Int) := oD
    have q203 : x13_1 < (l1.length : Int) := oD
    obtain ⟨ad203, e203, hx203_0⟩ := Kd.at_int HR1.out x13_1 p203 q203
    cases e203
    replace hx203_0 := (HB.out.cell (World.block_lt_of_cell? w _ hx203_0)).trans hx203_0
    replace p203 := eq_true p203
    replace q203 := eq_true q203
    obtain ⟨Ao10, co10, eo10⟩ := Kd.R_slice HO_6.out
    subst eo10
    go_wp2
    go_ret2
    exact ⟨_, fR, by first | exact Kd.R_nil _ _ _ _ _ | exact Kd.N_nil _ _ _ _ _ | exact Kd.V_nil _ _ _ _ _ | exact Kd.Q_nil _ _ _ _ _ | exact Kd.S_nil _ _ _ _ _, bl0 HB⟩
   rw [if_neg c9] at H
   have c9b0 : decide ((x6_1.length : Int) ≤ (rd l1 x13_1)) = false := decide_eq_false c9
   clear c9
   by_cases c11 : 0 ≤ (rd l1 x13_1)
   rotate_left
   ·
    rw [if_neg c11] at H
    exact absurd H (by simp)
   rw [if_pos c11] at H
   have c11b0 : decide (0 ≤ (rd l1 x13_1)) = true := decide_eq_true c11
   clear c11
   by_cases c12 : (rd l1 x13_1) < (x6_1.length : Int)
   rotate_left
   ·
    rw [if_neg c12] at H
    exact absurd H (by simp)
   rw [if_pos c12] at H
   have c12b0 : decide ((rd l1 x13_1) < (x6_1.length : Int)) = true := decide_eq_true c12
   clear c12
   obtain ⟨y205, hy205⟩ : ∃ y_ : List Bool, y_ = (x6_1.set ((rd l1 x13_1) : Int).toNat (!(rdOf false x6_1 (rd l1 x13_1)))) := ⟨_, rfl⟩
   replace H : (impl_ChangeAll.l0 k1 y205 l1 (l1.length : Int) (wrap64 (x13_1 + 1))) = some (r1, r2) := by first | (rw [hy205]; with_reducible exact H) | (have H2_ := (Option.bind_some _ _).symm.trans H; rw [hy205]; with_reducible exact H2_) | (have H2_ := (Option.bind_some _ _).symm.trans H; with_reducible exact H2_) | with_reducible exact H | (rw [hy205]; exact H) | exact H
   have Ny205 := Aside0.mk hy205
   clear hy205
   have H' := Aside0.mk H
   clear H
   have p203 : 0 ≤ (x13_1 : Int) := oD
   have q203 : x13_1 < (l1.length : Int) := oD
   obtain ⟨ad203, e203, hx203_0⟩ := Kd.at_int HR1.out x13_1 p203 q203
   cases e203
   replace hx203_0 := (HB.out.cell (World.block_lt_of_cell? w _ hx203_0)).trans hx203_0
   replace p203 := eq_true p203
   replace q203 := eq_true q203
   obtain ⟨Ao14, co14, eo14⟩ := Kd.R_slice HO_6.out
   subst eo14
   have p204 : 0 ≤ ((rd l1 x13_1) : Int) := oD
   have q204 : (rd l1 x13_1) < (x6_1.length : Int) := oD
   obtain ⟨ad204, e204, hx204_0⟩ := Kd.at_bool (Kd.R_reads' HO_6.out).2.2 (rd l1 x13_1) p204 q204
   cases e204
   replace p204 := eq_true p204
   replace q204 := eq_true q204
   have p13 : 0 ≤ ((rd l1 x13_1) : Int) := oD
   have q13 : ((rd l1 x13_1) : Int) < ((x6_1.length : Int) : Int) := oD
   obtain ⟨go13, co13, eo13, gb13, gl13, cl13, HG13⟩ := Kd.R_form HO_6.out (by first | omega | (obtain ⟨_, _, e_⟩ := Kd.R_slice HO_6.out; injection e_ with _ e_ _; omega))
   (first | cases eo13 | (injection eo13 with ea_ en_ ec_; (first | subst ea_ | (injection ea_ with ea_; subst ea_)); subst ec_; clear en_))
   have GB13 := Aside0.mk gb13
   have GG13 := Aside0.mk HG13
   clear gb13 gl13 HG13
   (first | simp only [add_plain] at hx204_0 | skip)
   obtain ⟨hx13_0, hf13_0⟩ := Kd.R_celln false HO_6.out ((rd l1 x13_1) : Int) p13 q13
   replace p13 := eq_true p13
   replace q13 := eq_true q13
   have HP15 := Kd.R_putg HO_6.out ((rd l1 x13_1) : Int) (!(rdOf false x6_1 (rd l1 x13_1)))
   go_wp2_with (first | ((with_reducible refine gate_store (t := 4) (p := 32) rfl ?_); refine store_event (t := 4) (p := 32) (v := ?vo_w16) (w1 := (wr.setCell ⟨go13, ((rd l1 x13_1) : Int).toNat, none⟩ (.bool (!(rdOf false x6_1 (rd l1 x13_1)))))) ?hg ?ho ?hn ?hr ?_; (case ho => rfl); (case hg => rfl); (case hn => rfl); (case hr => exact hR); intro w16 hw; have hg : wr.grownBy w16 (some go13) := (by rw [hw]; exact HP15.2); have hp_ : Kd.R Kd.bool 4 w16 w.heap.size (fun _ => True) (.slice (some ⟨go13, 0, none⟩) x6_1.length co14) y205 := (by rw [hw, Ny205.out]; exact HP15.1); clear HP15; have n0_ := Aside0.mk (hp_); have n1_ := Aside0.mk ((by rw [hw]; exact below_set (HB.out) GB13.out : Below w.heap.size w w16)); clear HO_6; clear HB; have HO_6 := n0_; have HB := n1_; clear n0_ n1_; clear hg hw hp_))
   go_roundg k1
   case measure => have := HK1.out; omega
   case rel => exact ⟨(y205), (wrap64 (x13_1 + 1)), fS, H', ⟨by have := HK1.out; omega⟩, ⟨gR (HO_6.out)⟩, ⟨bl0 HB⟩⟩

end Go.Proofs.YthkdkjmnnpcdhaaDoor.P
namespace Go.Proofs.YthkdkjmnnpcdhaaDoor.P
open Go.RowKit Go.Proofs.YthkdkjmnnpcdhaaDoorW.PrintWords Go.Proofs.YthkdkjmnnpcdhaaDoorW.PrintLast Go.Proofs.YthkdkjmnnpcdhaaDoorW.PrintMore
attribute [local go_sem] max2_int min2_int max_two min_two max_three min_three max_four min_four   -- for this text's walks alone
set_option linter.unusedVariables false
set_option linter.unusedSimpArgs false

/-! ### spec_l2Copy: function 50 -/
def spec_l2Copy.f (l0 : List Bool) : Option (List Bool) := (some (([] : List Bool) : List Bool)).bind fun y206 => (if y206.length + l0.length < 140737488355328 then (some (y206 ++ l0)) else (none))
set_option maxHeartbeats 8000000 in
set_option maxRecDepth 100000 in
theorem spec_l2Copy.calls (A0 : Option Addr) (c0 : Nat) (l0 : List Bool) (r : List Bool) (w : World) (hr0 : Kd.C Kd.bool w A0 l0.length l0) (hc0 : l0.length ≤ c0) (h : spec_l2Copy.f l0 = some r) :
  Calls Tryd.prog 50 #[.slice A0 l0.length c0] w fun e w' => ∃ v0_ : Value, e = .returned (v0_) ∧ Kd.R Kd.bool 4 w' w.heap.size (fun _ => True) v0_ r ∧ Below w.heap.size w w' := by
 have HR0 := Aside0.mk hr0
 have HC0 := Aside0.mk hc0
 clear hr0 hc0
 have HB := Aside0.mk (Below.refl w.heap.size w)
 have H : ((some (([] : List Bool) : List Bool)).bind fun y206 => (if y206.length + l0.length < 140737488355328 then (some (y206 ++ l0)) else (none))) = some r := h
 clear h
 obtain ⟨y206, hy206⟩ : ∃ y_ : List Bool, y_ = (([] : List Bool)) := ⟨_, rfl⟩
 replace H : (if y206.length + l0.length < 140737488355328 then (some (y206 ++ l0)) else (none)) = some r := by first | (rw [hy206]; with_reducible exact H) | (have H2_ := (Option.bind_some _ _).symm.trans H; rw [hy206]; with_reducible exact H2_) | (have H2_ := (Option.bind_some _ _).symm.trans H; with_reducible exact H2_) | with_reducible exact H | (rw [hy206]; exact H) | exact H
 have Ny206 := Aside0.mk hy206
 clear hy206
 by_cases c2 : y206.length + l0.length < 140737488355328
 rotate_left
 ·
  rw [if_neg c2] at H
  exact absurd H (by simp)
 rw [if_pos c2] at H
 have LMc2 := Aside0.mk c2
 clear c2
 obtain ⟨y209, hy209⟩ : ∃ y_ : List Bool, y_ = (y206 ++ l0) := ⟨_, rfl⟩
 replace H : (some y209) = some r := by first | (rw [hy209]; with_reducible exact H) | (have H2_ := (Option.bind_some _ _).symm.trans H; rw [hy209]; with_reducible exact H2_) | (have H2_ := (Option.bind_some _ _).symm.trans H; with_reducible exact H2_) | with_reducible exact H | (rw [hy209]; exact H) | exact H
 have Ny209 := Aside0.mk hy209
 clear hy209
 obtain rfl := Option.some.inj H
 go_enter Tryd.func50, Tryd.ntmps50
 go_wp2_with (first | ((with_reducible refine gate_dst (N := 3) rfl ?_); refine Kd.R_lit Kd.bool _ 4 ?hg (N := 3) ?hd (xs := ([] : List Bool)) (inner := []) (ok := fun _ => True) (okp := fun _ => True) ?hr ?hp (fun _ hk => hk) trivial (Below.refl _ _) (Nat.le_refl _) (by simp) ?_; (case hd => rfl); (case hg => rfl); (case hr => exact hR); (case hp => exact (Reps.none _ _)); intro v207 w3 ho4 hb hg_ hnew_; clear hg_ hnew_; (first | rw [← Ny206.out] at ho4 | (simp only [Int.reduceToNat] at ho4; rw [← Ny206.out] at ho4)); have n0_ := Aside0.mk (Kd.R_lower ho4 (below_size (bl0 HB))); have n1_ := Aside0.mk (below_step (bl0 HB) hb); clear HB; have HO208 := n0_; have HB := n1_; clear n0_ n1_; clear hb ho4) | ((with_reducible refine gate_builtin (b := .append) (xs := #[.tmp 3, .tmp 4]) rfl ?_); at_builtin; refine Kd.R_append_rows Kd.bool (w0 := w) w.heap.size rfl (.tmp 3) (.tmp 4) 23 4 (.bool false) 1 rfl Tryd.underlying23 info4 rfl (by decide) (by omega) v207 y206 l0 _ _ _ (fun _ => True) (fun _ => False) rfl rfl ?aO ?aR (fun _ _ h => h) (fun _ h => h.elim) ?aF ?aB ?aS ?aL ?_; (case aR => repeat (first | exact (Kd.C_below HR0.out HB.out) | (with_reducible refine Kd.C_alloc ?_ _) | (with_reducible refine Kd.C_drewN ?_ _) | (with_reducible refine Kd.C_drew ?_))); (case aB => exact (bl0 HB)); (case aF => exact (fun _ _ => trivial)); (case aO => exact (gR (HO208.out))); (case aS => exact (below_size (bl0 HB))); (case aL => have := LMc2.out; omega); intro v210 w5 ho hb hg hat; rw [← Ny209.out] at ho; have n0_ := Aside0.mk (hb); have n1_ := Aside0.mk (ho); clear HB; clear HO208; have HB := n0_; have HO211 := n1_; clear n0_ n1_; clear ho hb hg hat))
 go_ret
 exact ⟨_, fR, gR (HO211.out), bl0 HB⟩

end Go.Proofs.YthkdkjmnnpcdhaaDoor.P
namespace Go.Proofs.YthkdkjmnnpcdhaaDoor.P
open Go.RowKit Go.Proofs.YthkdkjmnnpcdhaaDoorW.PrintWords Go.Proofs.YthkdkjmnnpcdhaaDoorW.PrintLast Go.Proofs.YthkdkjmnnpcdhaaDoorW.PrintMore
attribute [local go_sem] max2_int min2_int max_two min_two max_three min_three max_four min_four   -- for this text's walks alone
set_option linter.unusedVariables false
set_option linter.unusedSimpArgs false

/-! ### spec_l1In: function 51 -/
def spec_l1In.f (a0 : Int) (a1 : Int) (a2 : Int) : Option (Bool) := if a0 ≥ a1 then (some (decide (a0 ≤ a2))) else (some false)
set_option maxHeartbeats 8000000 in
set_option maxRecDepth 100000 in
theorem spec_l1In.calls (a0 : Int) (a1 : Int) (a2 : Int) (r : Bool) (w : World) (h : spec_l1In.f a0 a1 a2 = some r) :
  Calls Tryd.prog 51 #[.int .i64 a0, .int .i64 a1, .int .i64 a2] w fun e w' => e = .returned (.bool r) ∧ Drawn0 w w' := by
 have H : (if a0 ≥ a1 then (some (decide (a0 ≤ a2))) else (some false)) = some r := h
 clear h
 by_cases c4 : a0 ≥ a1
 ·
  rw [if_pos c4] at H
  have c4b0 : decide (a1 ≤ a0) = true := decide_eq_true c4
  clear c4
  obtain rfl := Option.some.inj H
  go_enter Tryd.func51, Tryd.ntmps51
  go_wp2
  go_ret
  exact ⟨by first | rfl | (simp; done) | (simp [*]; done), by repeat (first | exact Drawn0.refl _ | apply Drawn0.step)⟩
 rw [if_neg c4] at H
 have c4b0 : decide (a1 ≤ a0) = false := decide_eq_false c4
 clear c4
 obtain rfl := Option.some.inj H
 go_enter Tryd.func51, Tryd.ntmps51
 go_wp2
 go_ret
 exact ⟨by first | rfl | (simp; done) | (simp [*]; done), by repeat (first | exact Drawn0.refl _ | apply Drawn0.step)⟩

end Go.Proofs.YthkdkjmnnpcdhaaDoor.P
namespace Go.Proofs.YthkdkjmnnpcdhaaDoor.P
open Go.RowKit Go.Proofs.YthkdkjmnnpcdhaaDoorW.PrintWords Go.Proofs.YthkdkjmnnpcdhaaDoorW.PrintLast Go.Proofs.YthkdkjmnnpcdhaaDoorW.PrintMore
attribute [local go_sem] max2_int min2_int max_two min_two max_three min_three max_four min_four   -- for this text's walks alone
set_option linter.unusedVariables false
set_option linter.unusedSimpArgs false

/-! ### spec_ChangeAll: function 13 -/
def spec_ChangeAll.l0 : Nat → List Bool → List Int → List Bool → Int → Option (List Bool × Bool)
 | 0, _, _, _, _ => none
 | k + 1, x0, x1, x6, x7 => if x7 < (x1.length : Int) then (if 0 ≤ x7 then ((spec_l1In.f (rd x1 x7) 0 (wrap64 ((x0.length : Int) - 1))).bind fun t216 => (if t216 = true then (if 0 ≤ (rd x1 x7) then (if (rd x1 x7) < (x6.length : Int) then (spec_ChangeAll.l0 k x0 x1 (x6.set ((rd x1 x7) : Int).toNat (!(rdOf false x6 (rd x1 x7)))) (wrap64 (x7 + 1))) else (none)) else (none)) else (some ((([] : List Bool)), false)))) else (none)) else (some (x6, true))
def spec_ChangeAll.f (k : Nat) (l0 : List Bool) (l1 : List Int) : Option (List Bool × Bool) := (spec_l2Copy.f l0).bind fun t212 => (spec_ChangeAll.l0 k l0 l1 t212 0)
theorem spec_ChangeAll.mono_l : ∀ k, (∀ y0 y1 y2 y3, LeO (spec_ChangeAll.l0 k y0 y1 y2 y3) (spec_ChangeAll.l0 (k + 1) y0 y1 y2 y3))
 | 0 => fun _ _ _ _ r h => by simp [spec_ChangeAll.l0] at h
 | k + 1 => by
  have ih0 := spec_ChangeAll.mono_l k
  ·
   intro y0 y1 y2 y3
   unfold spec_ChangeAll.l0
   repeat' first
   | (with_reducible exact ih0 _ _ _ _)
   | (with_reducible exact LeO.refl _)
   | (with_reducible exact LeO.none _)
   | (with_reducible refine LeO.ite ?_ ?_)
   | (with_reducible refine LeO.bind ?_ (fun _ => ?_))
   | exact ih0 _ _ _ _
   | exact LeO.none _
   | refine LeO.ite ?_ ?_
   | refine LeO.bind ?_ (fun _ => ?_)
theorem spec_ChangeAll.mono : ∀ a0 a1 k, LeO (spec_ChangeAll.f k a0 a1) (spec_ChangeAll.f (k + 1) a0 a1) := by
 intro a0 a1 k
 have ih0 := spec_ChangeAll.mono_l k
 unfold spec_ChangeAll.f
 repeat' first
   | (with_reducible exact ih0 _ _ _ _)
   | (with_reducible exact LeO.refl _)
   | (with_reducible exact LeO.none _)
   | (with_reducible refine LeO.ite ?_ ?_)
   | (with_reducible refine LeO.bind ?_ (fun _ => ?_))
   | exact ih0 _ _ _ _
   | exact LeO.none _
   | refine LeO.ite ?_ ?_
   | refine LeO.bind ?_ (fun _ => ?_)
def spec_ChangeAll.T7 : Bool × List (List Nat × List Nat) := (true, [([], []), ([], []), ([], []), ([1, 2], [1, 2]), ([3], [3]), ([], []), ([], []), ([], []), ([6, 7], [6, 7]), ([8], [8]), ([5, 9], [5, 9]), ([10], [10]), ([11], [11]), ([0, 4, 0, 1, 2, 3, 4, 5, 6, 7, 8, 9, 10, 11, 12], [0, 4]), ([13, 12, 0, 1, 2, 3, 4, 5, 6, 7, 8, 9, 10, 11, 12], [12, 13])])
def spec_ChangeAll.B7 : List Nat := [0, 0, 0, 6, 14, 0, 0, 0, 192, 448, 992, 2016, 4064, 8191, 16383]
theorem spec_ChangeAll.tab7 : rtab .any (opsOf Tryd.f13 7) = spec_ChangeAll.T7 := by kernel_rfl
theorem spec_ChangeAll.bits7 : waitsOk spec_ChangeAll.T7.2 spec_ChangeAll.B7 = true := by kernel_rfl
set_option maxHeartbeats 8000000 in
set_option maxRecDepth 100000 in
theorem spec_ChangeAll.calls (k : Nat) (A0 : Option Addr) (c0 : Nat) (l0 : List Bool) (A1 : Option Addr) (c1 : Nat) (l1 : List Int) (r1 : List Bool) (r2 : Bool) (w : World) (hr0 : Kd.C Kd.bool w A0 l0.length l0) (hc0 : l0.length ≤ c0) (hr1 : Kd.C (Kd.int .i64) w A1 l1.length l1) (hc1 : l1.length ≤ c1) (h : spec_ChangeAll.f k l0 l1 = some (r1, r2)) :
  Calls Tryd.prog 13 #[.slice A0 l0.length c0, .slice A1 l1.length c1] w fun e w' => ∃ v0_ : Value, e = .returned (.tuple #[v0_, .bool r2]) ∧ Kd.R Kd.bool 4 w' w.heap.size (fun _ => True) v0_ r1 ∧ Below w.heap.size w w' := by
 have HR0 := Aside0.mk hr0
 have HC0 := Aside0.mk hc0
 clear hr0 hc0
 have HR1 := Aside0.mk hr1
 have HC1 := Aside0.mk hc1
 clear hr1 hc1
 have HB := Aside0.mk (Below.refl w.heap.size w)
 have H : ((spec_l2Copy.f l0).bind fun t212 => (spec_ChangeAll.l0 k l0 l1 t212 0)) = some (r1, r2) := h
 clear h
 replace H := Option.bind_eq_some_iff.mp H
 obtain ⟨t212, A30, H⟩ := H
 replace H : (spec_ChangeAll.l0 k l0 l1 t212 0) = some (r1, r2) := H
 have A3 := Aside0.mk A30
 clear A30
 have H' := Aside0.mk H
 clear H
 go_enter Tryd.func13, Tryd.ntmps13
 go_wp2_with (first | ((with_reducible refine gate_callee (f := 50) rfl ?_); refine goesL_ (some 9) rfl rfl Tryd.func50 (by kernel_rfl) rfl #[.slice A0 l0.length c0] rfl mP ?_; (with_reducible refine (spec_l2Copy.calls _ _ l0 t212 _ ?side1 ?side2 A3.out).mono ?_); (case side1 => exact gC (HR0.out)); (case side2 => exact HC0.out); rintro e w4 ⟨v213, rfl, ho0, hb⟩; refine ⟨_, rfl, ?_⟩; have n0_ := Aside0.mk (Kd.R_lower ho0 (below_size (bl0 HB))); have n1_ := Aside0.mk (below_step (bl0 HB) hb); clear HB; have HO214 := n0_; have HB := n1_; clear n0_ n1_; (try clear hb); (try clear hb2); (try clear hk); (try clear hi); (try clear ho0)))
 go_loopg [7] k (fun kq v7 w' => ∃ (x6_1 : List Bool) (x7_1 : Int), v7 = .int .i64 x7_1 ∧ Aside0 (spec_ChangeAll.l0 kq l0 l1 x6_1 x7_1 = some (r1, r2)) ∧ Aside0 (kq ≤ k) ∧ Aside0 (Kd.R Kd.bool 4 w' w.heap.size (fun _ => True) v213 x6_1) ∧ Aside0 (Below w.heap.size w w'))
 case atStart => exact ⟨(t212), (0), fS, H', ⟨Nat.le_refl _⟩, ⟨gR (HO214.out)⟩, ⟨bl0 HB⟩⟩
 case round =>
  clear H'
  try clear c1
  try clear p2
  obtain ⟨x6_1, x7_1, rfl, HA, HK1, HO_6, HB⟩ := hrel
  cases gk with
  | zero => exact absurd HA.out (by simp [spec_ChangeAll.l0])
  | succ k1 =>
   have H := HA.out
   clear HA
   simp only [spec_ChangeAll.l0] at H
   by_cases c5 : x7_1 < (l1.length : Int)
   rotate_left
   ·
    rw [if_neg c5] at H
    have c5b0 : decide (x7_1 < (l1.length : Int)) = false := decide_eq_false c5
    clear c5
    simp only [Option.some.injEq, Prod.mk.injEq] at H
    obtain ⟨rfl, rfl⟩ := H
    go_wp2
    go_ret2
    exact ⟨_, fR, gR (HO_6.out), bl0 HB⟩
   rw [if_pos c5] at H
   have c5b0 : decide (x7_1 < (l1.length : Int)) = true := decide_eq_true c5
   clear c5
   by_cases c6 : 0 ≤ x7_1
   rotate_left
   ·
    rw [if_neg c6] at H
    exact absurd H (by simp)
   rw [if_pos c6] at H
   have c6b0 : decide (0 ≤ x7_1) = true := decide_eq_true c6
   clear c6
   replace H := Option.bind_eq_some_iff.mp H
   obtain ⟨t216, A70, H⟩ := H
   replace H : (if t216 = true then (if 0 ≤ (rd l1 x7_1) then (if (rd l1 x7_1) < (x6_1.length : Int) then (spec_ChangeAll.l0 k1 l0 l1 (x6_1.set ((rd l1 x7_1) : Int).toNat (!(rdOf false x6_1 (rd l1 x7_1)))) (wrap64 (x7_1 + 1))) else (none)) else (none)) else (some ((([] : List Bool)), false))) = some (r1, r2) := H
   have A7 := Aside0.mk A70
   clear A70
   by_cases c8 : t216 = true
   rotate_left
   ·
    replace c8 := Bool.eq_false_iff.mpr c8
    subst c8
    have H1 : (some ((([] : List Bool)), false)) = some (r1, r2) := by rw [if_neg (show ¬ (false = true) by decide)] at H; exact H
    clear H
    have H := H1
    clear H1
    obtain ⟨y221, hy221⟩ : ∃ y_ : List Bool, y_ = (([] : List Bool)) := ⟨_, rfl⟩
    replace H : (some (y221, false)) = some (r1, r2) := by first | (rw [hy221]; with_reducible exact H) | (have H2_ := (Option.bind_some _ _).symm.trans H; rw [hy221]; with_reducible exact H2_) | (have H2_ := (Option.bind_some _ _).symm.trans H; with_reducible exact H2_) | with_reducible exact H | (rw [hy221]; exact H) | exact H
    have Ny221 := Aside0.mk hy221
    clear hy221
    simp only [Option.some.injEq, Prod.mk.injEq] at H
    obtain ⟨rfl, rfl⟩ := H
    have p215 : 0 ≤ (x7_1 : Int) := oD
    have q215 : x7_1 < (l1.length : Int) := oD
    obtain ⟨ad215, e215, hx215_0⟩ := Kd.at_int HR1.out x7_1 p215 q215
    cases e215
    replace hx215_0 := (HB.out.cell (World.block_lt_of_cell? w _ hx215_0)).trans hx215_0
    replace p215 := eq_true p215
    replace q215 := eq_true q215
    go_wp2_with (first | ((with_reducible refine gate_callee (f := 51) rfl ?_); refine goesL_ (some 23) rfl rfl Tryd.func51 (by kernel_rfl) rfl #[.int .i64 (rd l1 x7_1), .int .i64 0, .int .i64 (wrap64 ((l0.length : Int) - 1))] rfl mP ?_; (with_reducible refine (spec_l1In.calls (rd l1 x7_1) 0 (wrap64 ((l0.length : Int) - 1)) false _ A7.out).mono ?_); rintro e w' ⟨rfl, ⟨nd, rfl⟩⟩; refine ⟨_, rfl, ?_⟩) | ((with_reducible refine gate_dst (N := 25) rfl ?_); refine Kd.R_lit Kd.bool _ 4 ?hg (N := 25) ?hd (xs := ([] : List Bool)) (inner := []) (ok := fun _ => True) (okp := fun _ => True) ?hr ?hp (fun _ hk => hk) trivial (Below.refl _ _) (Nat.le_refl _) (by simp) ?_; (case hd => rfl); (case hg => rfl); (case hr => exact hR); (case hp => exact (Reps.none _ _)); intro v222 w15 ho16 hb hg_ hnew_; clear hg_ hnew_; (first | rw [← Ny221.out] at ho16 | (simp only [Int.reduceToNat] at ho16; rw [← Ny221.out] at ho16)); have n0_ := Aside0.mk (Kd.R_elder' (gR (HO_6.out)) (Kd.R_base ho16) hb); have n1_ := Aside0.mk (Kd.R_lower (Kd.R_new' ho16 (Kd.R_lt (gR (HO_6.out)))) (below_size (bl0 HB))); have n2_ := Aside0.mk (below_step (bl0 HB) hb); clear HO_6; clear HB; have HO_6 := n0_; have HO223 := n1_; have HB := n2_; clear n0_ n1_ n2_; clear hb ho16))
    go_ret2
    exact ⟨_, fR, by (with_reducible repeat (first | apply Kd.R_alloc | apply Kd.R_drewN | apply Kd.R_drew)); exact Kd.R_mono HO223.out (fun _ hk => trivial), bl0 HB⟩
   subst c8
   have H1 : (if 0 ≤ (rd l1 x7_1) then (if (rd l1 x7_1) < (x6_1.length : Int) then (spec_ChangeAll.l0 k1 l0 l1 (x6_1.set ((rd l1 x7_1) : Int).toNat (!(rdOf false x6_1 (rd l1 x7_1)))) (wrap64 (x7_1 + 1))) else (none)) else (none)) = some (r1, r2) := by rw [if_pos rfl] at H; exact H
   clear H
   have H := H1
   clear H1
   by_cases c9 : 0 ≤ (rd l1 x7_1)
   rotate_left
   ·
    rw [if_neg c9] at H
    exact absurd H (by simp)
   rw [if_pos c9] at H
   have c9b0 : decide (0 ≤ (rd l1 x7_1)) = true := decide_eq_true c9
   clear c9
   by_cases c10 : (rd l1 x7_1) < (x6_1.length : Int)
   rotate_left
   ·
    rw [if_neg c10] at H
    exact absurd H (by simp)
   rw [if_pos c10] at H
   have c10b0 : decide ((rd l1 x7_1) < (x6_1.length : Int)) = true := decide_eq_true c10
   clear c10
   obtain ⟨y220, hy220⟩ : ∃ y_ : List Bool, y_ = (x6_1.set ((rd l1 x7_1) : Int).toNat (!(rdOf false x6_1 (rd l1 x7_1)))) := ⟨_, rfl⟩
   replace H : (spec_ChangeAll.l0 k1 l0 l1 y220 (wrap64 (x7_1 + 1))) = some (r1, r2) := by first | (rw [hy220]; with_reducible exact H) | (have H2_ := (Option.bind_some _ _).symm.trans H; rw [hy220]; with_reducible exact H2_) | (have H2_ := (Option.bind_some _ _).symm.trans H; with_reducible exact H2_) | with_reducible exact H | (rw [hy220]; exact H) | exact H
   have Ny220 := Aside0.mk hy220
   clear hy220
   have H' := Aside0.mk H
   clear H
   have p215 : 0 ≤ (x7_1 : Int) := oD
   have q215 : x7_1 < (l1.length : Int) := oD
   obtain ⟨ad215, e215, hx215_0⟩ := Kd.at_int HR1.out x7_1 p215 q215
   cases e215
   replace hx215_0 := (HB.out.cell (World.block_lt_of_cell? w _ hx215_0)).trans hx215_0
   replace p215 := eq_true p215
   replace q215 := eq_true q215
   try go_wp2_with (first | ((with_reducible refine gate_callee (f := 51) rfl ?_); refine goesL_ (some 23) rfl rfl Tryd.func51 (by kernel_rfl) rfl #[.int .i64 (rd l1 x7_1), .int .i64 0, .int .i64 (wrap64 ((l0.length : Int) - 1))] rfl mP ?_; (with_reducible refine (spec_l1In.calls (rd l1 x7_1) 0 (wrap64 ((l0.length : Int) - 1)) true _ A7.out).mono ?_); rintro e w' ⟨rfl, ⟨nd, rfl⟩⟩; refine ⟨_, rfl, ?_⟩; (try (rw [drewN_self wr]; generalize hq_ : World.drewN wr _ = wr; have n0_ : Aside0 (Kd.R Kd.bool 4 wr w.heap.size (fun _ => True) v213 x6_1) := ⟨by rw [← hq_]; exact (gR (HO_6.out))⟩; have n1_ : Aside0 (Below w.heap.size w wr) := ⟨by rw [← hq_]; exact (bl0 HB)⟩; clear HO_6 HB hq_; have HO_6 := n0_; have HB := n1_; clear n0_ n1_))))
   have n0_ := Aside0.mk (Kd.R_drew HO_6.out)
   have n1_ := Aside0.mk (below_drew1 HB.out)
   clear HO_6
   clear HB
   have HO_6 := n0_
   have HB := n1_
   clear n0_ n1_
   have p217 : 0 ≤ (x7_1 : Int) := oD
   have q217 : x7_1 < (l1.length : Int) := oD
   obtain ⟨ad217, e217, hx217_0⟩ := Kd.at_int HR1.out x7_1 p217 q217
   have hw217_0 := hx217_0
   obtain rfl : ad215 = ad217 := (by injection e217)
   replace hx217_0 := (HB.out.cell (World.block_lt_of_cell? w _ hx217_0)).trans hx217_0
   replace p217 := eq_true p217
   replace q217 := eq_true q217
   have p218 : 0 ≤ (x7_1 : Int) := oD
   have q218 : x7_1 < (l1.length : Int) := oD
   obtain ⟨ad218, e218, hx218_0⟩ := Kd.at_int HR1.out x7_1 p218 q218
   have hw218_0 := hx218_0
   obtain rfl : ad215 = ad218 := (by injection e218)
   replace hx218_0 := (HB.out.cell (World.block_lt_of_cell? w _ hx218_0)).trans hx218_0
   replace p218 := eq_true p218
   replace q218 := eq_true q218
   obtain ⟨Ao13, co13, eo13⟩ := Kd.R_slice HO_6.out
   (first | subst eo13 | (injection eo13 with f1_ f2_ f3_; have f4_ := f1_.symm; have f5_ := f3_.symm; clear f1_ f2_ f3_; subst f4_; subst f5_))
   have p219 : 0 ≤ ((rd l1 x7_1) : Int) := oD
   have q219 : (rd l1 x7_1) < (x6_1.length : Int) := oD
   obtain ⟨ad219, e219, hx219_0⟩ := Kd.at_bool (Kd.R_reads' HO_6.out).2.2 (rd l1 x7_1) p219 q219
   cases e219
   replace p219 := eq_true p219
   replace q219 := eq_true q219
   have p11 : 0 ≤ ((rd l1 x7_1) : Int) := oD
   have q11 : ((rd l1 x7_1) : Int) < ((x6_1.length : Int) : Int) := oD
   obtain ⟨go11, co11, eo11, gb11, gl11, cl11, HG11⟩ := Kd.R_form HO_6.out (by first | omega | (obtain ⟨_, _, e_⟩ := Kd.R_slice HO_6.out; injection e_ with _ e_ _; omega))
   (first | cases eo11 | (injection eo11 with ea_ en_ ec_; (first | subst ea_ | (injection ea_ with ea_; subst ea_)); subst ec_; clear en_))
   have GB11 := Aside0.mk gb11
   have GG11 := Aside0.mk HG11
   clear gb11 gl11 HG11
   (first | simp only [add_plain] at hx219_0 | skip)
   obtain ⟨hx11_0, hf11_0⟩ := Kd.R_celln false HO_6.out ((rd l1 x7_1) : Int) p11 q11
   replace p11 := eq_true p11
   replace q11 := eq_true q11
   have HP14 := Kd.R_putn HO_6.out ((rd l1 x7_1) : Int) (!(rdOf false x6_1 (rd l1 x7_1)))
   rw [← Ny220.out] at HP14
   have HQ14 := Aside0.mk HP14
   clear HP14
   refine start_ (n := 15) (S := fun w' => w'.cell? (ad215.add (x7_1).toNat) = some (.int .i64 (rd l1 x7_1)) ∧ w'.cell? (ad215.add (x7_1).toNat) = some (.int .i64 (rd l1 x7_1)) ∧ w'.cell? ⟨go11, ((rd l1 x7_1)).toNat, none⟩ = some (.bool (rdOf false x6_1 (rd l1 x7_1)))) (ds := [14]) #[false, false, false, false, false, false, false, false, false, false, false, false, false, false, false] (by kernel_rfl) rfl rfl ⟨((HB.out.cell (World.block_lt_of_cell? w _ hw217_0)).trans (by first | exact hw217_0 | (refine (hw217_0).trans ?_; congr 2; first | assumption | exact Eq.symm (Aside0.out (by assumption)) | exact Aside0.out (by assumption)))), ((HB.out.cell (World.block_lt_of_cell? w _ hw218_0)).trans (by first | exact hw218_0 | (refine (hw218_0).trans ?_; congr 2; first | assumption | exact Eq.symm (Aside0.out (by assumption)) | exact Aside0.out (by assumption)))), hx219_0⟩ (fun hHeld => ?_); refine with_tabW spec_ChangeAll.tab7 spec_ChangeAll.bits7 (fun HT_ HW_ => ?_)
   generalize wr.drew = w12 at HO_6 HB GG11 HQ14 hf11_0 hx11_0 hx217_0 hx218_0 hx219_0 hHeld ⊢
   refine pure_ (i := 0) (N := some 26) (v := ?_) (a' := ?_) #[true, false, false, false, false, false, false, false, false, false, false, false, false, false, false] rfl rfl (any_of HT_.out (by kernel_rfl)) (fun _ _ _ h => h) (Or.inl ⟨by rfl, ?_⟩) ?_ ?_
   rotate_left
   ·
    intro w'
    go_simp
    with_reducible rfl
   rotate_left
   ·
    simp only [Act.put, List.setIfInBounds_toArray, List.set_cons_zero, List.set_cons_succ, i64_w, i32_w]
    rfl
   refine pure_ (i := 1) (N := some 27) (v := ?_) (a' := ?_) #[true, true, false, false, false, false, false, false, false, false, false, false, false, false, false] rfl rfl (any_of HT_.out (by kernel_rfl)) (fun _ _ _ h => h) (Or.inl ⟨by rfl, ?_⟩) ?_ ?_
   rotate_left
   ·
    intro w'
    go_simp
    with_reducible rfl
   rotate_left
   ·
    simp only [Act.put, List.setIfInBounds_toArray, List.set_cons_zero, List.set_cons_succ, i64_w, i32_w]
    rfl
   refine pure_ (i := 2) (N := some 28) (v := ?_) (a' := ?_) #[true, true, true, false, false, false, false, false, false, false, false, false, false, false, false] rfl rfl (any_of HT_.out (by kernel_rfl)) (fun _ _ _ h => h) (Or.inl ⟨by rfl, ?_⟩) ?_ ?_
   rotate_left
   ·
    intro w'
    go_simp
    with_reducible rfl
   rotate_left
   ·
    simp only [Act.put, List.setIfInBounds_toArray, List.set_cons_zero, List.set_cons_succ, i64_w, i32_w]
    rfl
   refine pure_ (i := 3) (N := some 29) (v := ?_) (a' := ?_) #[true, true, true, true, false, false, false, false, false, false, false, false, false, false, false] rfl rfl (any_of HT_.out (by kernel_rfl)) (fun _ _ _ h => h) (Or.inl ⟨by rfl, ?_⟩) ?_ ?_
   rotate_left
   ·
    intro w'
    go_simp
    with_reducible rfl
   rotate_left
   ·
    simp only [Act.put, List.setIfInBounds_toArray, List.set_cons_zero, List.set_cons_succ, i64_w, i32_w]
    rfl
   refine pure_ (i := 5) (N := some 31) (v := ?_) (a' := ?_) #[true, true, true, true, false, true, false, false, false, false, false, false, false, false, false] rfl rfl (any_of HT_.out (by kernel_rfl)) (fun _ _ _ h => h) (Or.inl ⟨by rfl, ?_⟩) ?_ ?_
   rotate_left
   ·
    intro w'
    go_simp
    with_reducible rfl
   rotate_left
   ·
    simp only [Act.put, List.setIfInBounds_toArray, List.set_cons_zero, List.set_cons_succ, i64_w, i32_w]
    rfl
   refine pure_ (i := 6) (N := some 32) (v := ?_) (a' := ?_) #[true, true, true, true, false, true, true, false, false, false, false, false, false, false, false] rfl rfl (any_of HT_.out (by kernel_rfl)) (fun _ _ _ h => h) (Or.inl ⟨by rfl, ?_⟩) ?_ ?_
   rotate_left
   ·
    intro w'
    go_simp
    with_reducible rfl
   rotate_left
   ·
    simp only [Act.put, List.setIfInBounds_toArray, List.set_cons_zero, List.set_cons_succ, i64_w, i32_w]
    rfl
   refine pure_ (i := 7) (N := some 33) (v := ?_) (a' := ?_) #[true, true, true, true, false, true, true, true, false, false, false, false, false, false, false] rfl rfl (any_of HT_.out (by kernel_rfl)) (fun _ _ _ h => h) (Or.inl ⟨by rfl, ?_⟩) ?_ ?_
   rotate_left
   ·
    intro w'
    go_simp
    with_reducible rfl
   rotate_left
   ·
    simp only [Act.put, List.setIfInBounds_toArray, List.set_cons_zero, List.set_cons_succ, i64_w, i32_w]
    rfl
   refine pure_ (i := 8) (N := some 34) (v := ?_) (a' := ?_) #[true, true, true, true, false, true, true, true, true, false, false, false, false, false, false] rfl rfl (any_of HT_.out (by kernel_rfl)) (fun _ _ _ h => h) (Or.inl ⟨by rfl, ?_⟩) ?_ ?_
   rotate_left
   ·
    intro w'
    go_simp
    with_reducible rfl
   rotate_left
   ·
    simp only [Act.put, List.setIfInBounds_toArray, List.set_cons_zero, List.set_cons_succ, i64_w, i32_w]
    rfl
   refine take_ (i := 4) (N := some 30) (v := ?_) (a' := ?_) #[true, true, true, true, true, true, true, true, true, false, false, false, false, false, false] rfl rfl (take_ofW HT_.out HW_.out (by kernel_rfl)) (fun _ _ _ h => h) (Or.inl ⟨by rfl, ?_⟩) hHeld ?_ ?_
   rotate_left
   ·
    rintro w' ⟨s0, s1, s2⟩
    go_simp
    with_reducible rfl
   rotate_left
   ·
    simp only [Act.put, List.setIfInBounds_toArray, List.set_cons_zero, List.set_cons_succ, i64_w, i32_w]
    rfl
   refine take_ (i := 9) (N := some 35) (v := ?_) (a' := ?_) #[true, true, true, true, true, true, true, true, true, true, false, false, false, false, false] rfl rfl (take_ofW HT_.out HW_.out (by kernel_rfl)) (fun _ _ _ h => h) (Or.inl ⟨by rfl, ?_⟩) hHeld ?_ ?_
   rotate_left
   ·
    rintro w' ⟨s0, s1, s2⟩
    go_simp
    with_reducible rfl
   rotate_left
   ·
    simp only [Act.put, List.setIfInBounds_toArray, List.set_cons_zero, List.set_cons_succ, i64_w, i32_w]
    rfl
   refine pure_ (i := 10) (N := some 36) (v := ?_) (a' := ?_) #[true, true, true, true, true, true, true, true, true, true, true, false, false, false, false] rfl rfl (any_of HT_.out (by kernel_rfl)) (fun _ _ _ h => h) (Or.inl ⟨by rfl, ?_⟩) ?_ ?_
   rotate_left
   ·
    intro w'
    go_simp
    with_reducible rfl
   rotate_left
   ·
    simp only [Act.put, List.setIfInBounds_toArray, List.set_cons_zero, List.set_cons_succ, i64_w, i32_w]
    rfl
   refine take_ (i := 11) (N := some 37) (v := ?_) (a' := ?_) #[true, true, true, true, true, true, true, true, true, true, true, true, false, false, false] rfl rfl (take_ofW HT_.out HW_.out (by kernel_rfl)) (fun _ _ _ h => h) (Or.inl ⟨by rfl, ?_⟩) hHeld ?_ ?_
   rotate_left
   ·
    rintro w' ⟨s0, s1, s2⟩
    go_simp
    with_reducible rfl
   rotate_left
   ·
    simp only [Act.put, List.setIfInBounds_toArray, List.set_cons_zero, List.set_cons_succ, i64_w, i32_w]
    rfl
   refine pure_ (i := 12) (N := some 38) (v := ?_) (a' := ?_) #[true, true, true, true, true, true, true, true, true, true, true, true, true, false, false] rfl rfl (any_of HT_.out (by kernel_rfl)) (fun _ _ _ h => h) (Or.inl ⟨by rfl, ?_⟩) ?_ ?_
   rotate_left
   ·
    intro w'
    go_simp
    with_reducible rfl
   rotate_left
   ·
    simp only [Act.put, List.setIfInBounds_toArray, List.set_cons_zero, List.set_cons_succ, i64_w, i32_w]
    rfl
   refine pure_ (i := 13) (N := some 39) (v := ?_) (a' := ?_) #[true, true, true, true, true, true, true, true, true, true, true, true, true, true, false] rfl rfl (any_of HT_.out (by kernel_rfl)) (fun _ _ _ h => h) (Or.inl ⟨by rfl, ?_⟩) ?_ ?_
   rotate_left
   ·
    intro w'
    go_simp
    with_reducible rfl
   rotate_left
   ·
    simp only [Act.put, List.setIfInBounds_toArray, List.set_cons_zero, List.set_cons_succ, i64_w, i32_w]
    rfl
   refine last_ (i := 14) (N := none) #[true, true, true, true, true, true, true, true, true, true, true, true, true, true, true] rfl rfl (one_of HT_.out (by kernel_rfl)) (by decide) (fun K hK => ?_)
   refine skip_ (w1 := ?_) (by rfl) rfl ?_ ?_
   rotate_left
   ·
    go_simp
    rfl
   refine hK.out _ _ ?_
   clear hK K
   refine done_ (done_of HT_.out (by kernel_rfl)) ?_
   try go_wp2
   go_roundg k1
   case measure => have := HK1.out; omega
   case rel => exact ⟨(y220), (wrap64 (x7_1 + 1)), fS, H', ⟨by have := HK1.out; omega⟩, ⟨gR (HQ14.out)⟩, ⟨bl1 HB GB11⟩⟩

end Go.Proofs.YthkdkjmnnpcdhaaDoor.P

/- Contracts of Go functions of this seat's translation, written by this repo's wip/mk.py: it calls the kit's print.py with contracts typed by hand in place of functions that it does not take. Not trusted: Lean checks it. -/
import Derived.Test.YtpgjgbjkfgbpaaaDoorP0
namespace Go.Proofs.YtpgjgbjkfgbpaaaDoor.P
open Go.RowKit Go.Proofs.YtpgjgbjkfgbpaaaDoorW.PrintWords Go.Proofs.YtpgjgbjkfgbpaaaDoorW.PrintLast Go.Proofs.YtpgjgbjkfgbpaaaDoorW.PrintMore
attribute [local go_sem] max2_int min2_int max_two min_two max_three min_three max_four min_four   -- for this text's walks alone
set_option linter.unusedVariables false
set_option linter.unusedSimpArgs false

/-! ### laws_onOnly: function 35 -/
def laws_onOnly.l0 : Nat → Int → List Int → List Bool → Int → Option (List Bool)
 | 0, _, _, _, _ => none
 | k + 1, x0, x1, x5, x6 => if x6 < (x1.length : Int) then (if 0 ≤ x6 then (if (rd x1 x6) ≥ 0 then (if (rd x1 x6) < x0 then (if 0 ≤ (rd x1 x6) then (if (rd x1 x6) < (x5.length : Int) then (laws_onOnly.l0 k x0 x1 (x5.set ((rd x1 x6) : Int).toNat true) (wrap64 (x6 + 1))) else (none)) else (none)) else (laws_onOnly.l0 k x0 x1 x5 (wrap64 (x6 + 1)))) else (laws_onOnly.l0 k x0 x1 x5 (wrap64 (x6 + 1)))) else (none)) else (some x5)
def laws_onOnly.f (k : Nat) (a0 : Int) (l1 : List Int) : Option (List Bool) := if 0 ≤ a0 then (if (a0 : Int).toNat ≤ 281474976710656 then (laws_onOnly.l0 k a0 l1 (List.replicate (a0 : Int).toNat false) 0) else (none)) else (none)
theorem laws_onOnly.mono_l : ∀ k, (∀ y0 y1 y2 y3, LeO (laws_onOnly.l0 k y0 y1 y2 y3) (laws_onOnly.l0 (k + 1) y0 y1 y2 y3))
 | 0 => fun _ _ _ _ r h => by simp [laws_onOnly.l0] at h
 | k + 1 => by
  have ih0 := laws_onOnly.mono_l k
  ·
   intro y0 y1 y2 y3
   unfold laws_onOnly.l0
   repeat' first
   | (with_reducible exact ih0 _ _ _ _)
   | (with_reducible exact LeO.refl _)
   | (with_reducible exact LeO.none _)
   | (with_reducible refine LeO.ite ?_ ?_)
   | (with_reducible refine LeO.bind ?_ (fun _ => ?_))
   | exact ih0 _ _ _ _
   | exact LeO.none _
   | refine LeO.ite ?_ ?_
   | refine LeO.bind ?_ (fun _ => ?_)
theorem laws_onOnly.mono : ∀ a0 a1 k, LeO (laws_onOnly.f k a0 a1) (laws_onOnly.f (k + 1) a0 a1) := by
 intro a0 a1 k
 have ih0 := laws_onOnly.mono_l k
 unfold laws_onOnly.f
 repeat' first
   | (with_reducible exact ih0 _ _ _ _)
   | (with_reducible exact LeO.refl _)
   | (with_reducible exact LeO.none _)
   | (with_reducible refine LeO.ite ?_ ?_)
   | (with_reducible refine LeO.bind ?_ (fun _ => ?_))
   | exact ih0 _ _ _ _
   | exact LeO.none _
   | refine LeO.ite ?_ ?_
   | refine LeO.bind ?_ (fun _ => ?_)
set_option maxHeartbeats 8000000 in
set_option maxRecDepth 100000 in
theorem laws_onOnly.calls (k : Nat) (a0 : Int) (A1 : Option Addr) (c1 : Nat) (l1 : List Int) (r : List Bool) (w : World) (hr1 : Kd.C (Kd.int .i64) w A1 l1.length l1) (hc1 : l1.length ≤ c1) (h : laws_onOnly.f k a0 l1 = some r) :
  Calls Tryd.prog 35 #[.int .i64 a0, .slice A1 l1.length c1] w fun e w' => ∃ v0_ : Value, e = .returned (v0_) ∧ Kd.R Kd.bool 4 w' w.heap.size (fun _ => True) v0_ r ∧ Below w.heap.size w w' := by
 have HR1 := Aside0.mk hr1
 have HC1 := Aside0.mk hc1
 clear hr1 hc1
 have HB := aM (Below.refl w.heap.size w)
 have H : (if 0 ≤ a0 then (if (a0 : Int).toNat ≤ 281474976710656 then (laws_onOnly.l0 k a0 l1 (List.replicate (a0 : Int).toNat false) 0) else (none)) else (none)) = some r := h
 clear h
 by_cases c3 : 0 ≤ a0
 rotate_left
 ·
  rw [if_neg c3] at H
  exact absurd H (by simp)
 rw [if_pos c3] at H
 have c3b0 := eq_true c3
 have c3b1 : decide (0 ≤ a0) = true := decide_eq_true c3
 clear c3
 by_cases c4 : (a0 : Int).toNat ≤ 281474976710656
 rotate_left
 ·
  rw [if_neg c4] at H
  exact absurd H (by simp)
 rw [if_pos c4] at H
 have c4b0 := eq_true c4
 have c4b1 : decide ((a0 : Int).toNat ≤ 281474976710656) = true := decide_eq_true c4
 clear c4
 obtain ⟨y614, hy614⟩ : ∃ y_ : List Bool, y_ = (List.replicate (a0 : Int).toNat false) := ⟨_, rfl⟩
 replace H : (laws_onOnly.l0 k a0 l1 y614 0) = some r := by first | (rw [hy614]; with_reducible exact H) | (have H2_ := (Option.bind_some _ _).symm.trans H; rw [hy614]; with_reducible exact H2_) | (have H2_ := (Option.bind_some _ _).symm.trans H; with_reducible exact H2_) | with_reducible exact H | (rw [hy614]; exact H) | exact H
 have Ny614 := Aside0.mk hy614
 clear hy614
 have H' := Aside0.mk H
 clear H
 go_enter Tryd.func35, Tryd.ntmps35
 go_wp2_with (first | ((with_reducible refine gate_dst (N := 8) rfl ?_); refine Kd.R_make Kd.bool _ 4 rfl (N := 8) rfl 26 _ _ rfl a0 rfl rfl Tryd.underlying26 (.bool false) 1 info4 rfl (by decide) (by omega) false (ok := fun _ => True) (okp := fun _ => True) rfl (fun _ hk => hk) trivial (oD) (Nat.le_trans (Nat.mul_le_mul_right _ (oD : a0.toNat ≤ 281474976710656)) (by omega)) (Below.refl _ _) (Nat.le_refl _) ?_; intro v615 w5 ho6 hb hg_ hnew_; clear hg_ hnew_; (first | rw [← Ny614.out] at ho6 | (simp only [Int.reduceToNat] at ho6; rw [← Ny614.out] at ho6)); have n0_ := aM (Kd.R_lower ho6 (below_size (bl0 HB))); have n1_ := aM (below_step (bl0 HB) hb); clear HB; have HO616 := n0_; have HB := n1_; clear n0_ n1_; clear hb ho6))
 go_loopg [6] k (fun kq v6 w' => ∃ (x5_1 : List Bool) (x6_1 : Int), v6 = .int .i64 x6_1 ∧ Aside0 (laws_onOnly.l0 kq a0 l1 x5_1 x6_1 = some r) ∧ Aside0 (kq ≤ k) ∧ Aside0 (Kd.R Kd.bool 4 w' w.heap.size (fun _ => True) v615 x5_1) ∧ Aside0 (Below w.heap.size w w'))
 case atStart => exact ⟨(y614), (0), fS, H', ⟨Nat.le_refl _⟩, ⟨gR (HO616.out)⟩, ⟨bl0 HB⟩⟩
 case round =>
  clear H'
  try clear c1
  try clear p2
  try clear c3
  try clear c3b0
  try clear c3b1
  try clear c4
  try clear c4b0
  try clear c4b1
  obtain ⟨x5_1, x6_1, rfl, HA, HK1, HO_5, HB⟩ := hrel
  cases gk with
  | zero => exact absurd HA.out (by simp [laws_onOnly.l0])
  | succ k1 =>
   have H := HA.out
   clear HA
   simp only [laws_onOnly.l0] at H
   by_cases c7 : x6_1 < (l1.length : Int)
   rotate_left
   ·
    rw [if_neg c7] at H
    have c7b0 : decide (x6_1 < (l1.length : Int)) = false := decide_eq_false c7
    clear c7
    obtain rfl := Option.some.inj H
    go_wp2
    go_ret
    exact ⟨_, fR, gR (HO_5.out), bl0 HB⟩
   rw [if_pos c7] at H
   have c7b0 : decide (x6_1 < (l1.length : Int)) = true := decide_eq_true c7
   clear c7
   by_cases c8 : 0 ≤ x6_1
   rotate_left
   ·
    rw [if_neg c8] at H
    exact absurd H (by simp)
   rw [if_pos c8] at H
   have c8b0 : decide (0 ≤ x6_1) = true := decide_eq_true c8
   clear c8
   by_cases c9 : (rd l1 x6_1) ≥ 0
   rotate_left
   ·
    rw [if_neg c9] at H
    have c9b0 : decide (0 ≤ (rd l1 x6_1)) = false := decide_eq_false c9
    clear c9
    have H' := Aside0.mk H
    clear H
    have p617 : 0 ≤ (x6_1 : Int) := oD
    have q617 : x6_1 < (l1.length : Int) := oD
    obtain ⟨ad617, e617, hx617_0⟩ := Kd.at_int HR1.out x6_1 p617 q617
    cases e617
    replace hx617_0 := (HB.out.cell (World.block_lt_of_cell? w _ hx617_0)).trans hx617_0
    replace p617 := eq_true p617
    replace q617 := eq_true q617
    go_wp2
    go_roundg k1
    case measure => have := HK1.out; omega
    case rel => exact ⟨(x5_1), (wrap64 (x6_1 + 1)), fS, H', ⟨by have := HK1.out; omega⟩, ⟨gR (HO_5.out)⟩, ⟨bl0 HB⟩⟩
   rw [if_pos c9] at H
   have c9b0 : decide (0 ≤ (rd l1 x6_1)) = true := decide_eq_true c9
   clear c9
   by_cases c10 : (rd l1 x6_1) < a0
   rotate_left
   ·
    rw [if_neg c10] at H
    have c10b0 : decide ((rd l1 x6_1) < a0) = false := decide_eq_false c10
    clear c10
    have H' := Aside0.mk H
    clear H
    have p617 : 0 ≤ (x6_1 : Int) := oD
    have q617 : x6_1 < (l1.length : Int) := oD
    obtain ⟨ad617, e617, hx617_0⟩ := Kd.at_int HR1.out x6_1 p617 q617
    cases e617
    replace hx617_0 := (HB.out.cell (World.block_lt_of_cell? w _ hx617_0)).trans hx617_0
    replace p617 := eq_true p617
    replace q617 := eq_true q617
    have p618 : 0 ≤ (x6_1 : Int) := oD
    have q618 : x6_1 < (l1.length : Int) := oD
    obtain ⟨ad618, e618, hx618_0⟩ := Kd.at_int HR1.out x6_1 p618 q618
    obtain rfl : ad617 = ad618 := (by injection e618)
    replace hx618_0 := (HB.out.cell (World.block_lt_of_cell? w _ hx618_0)).trans hx618_0
    replace p618 := eq_true p618
    replace q618 := eq_true q618
    go_wp2
    go_roundg k1
    case measure => have := HK1.out; omega
    case rel => exact ⟨(x5_1), (wrap64 (x6_1 + 1)), fS, H', ⟨by have := HK1.out; omega⟩, ⟨gR (HO_5.out)⟩, ⟨bl0 HB⟩⟩
   rw [if_pos c10] at H
   have c10b0 : decide ((rd l1 x6_1) < a0) = true := decide_eq_true c10
   clear c10
   by_cases c11 : 0 ≤ (rd l1 x6_1)
   rotate_left
   ·
    rw [if_neg c11] at H
    exact absurd H (by simp)
   rw [if_pos c11] at H
   have c11b0 : decide (0 ≤ (rd l1 x6_1)) = true := decide_eq_true c11
   clear c11
   by_cases c12 : (rd l1 x6_1) < (x5_1.length : Int)
   rotate_left
   ·
    rw [if_neg c12] at H
    exact absurd H (by simp)
   rw [if_pos c12] at H
   have c12b0 : decide ((rd l1 x6_1) < (x5_1.length : Int)) = true := decide_eq_true c12
   clear c12
   obtain ⟨y620, hy620⟩ : ∃ y_ : List Bool, y_ = (x5_1.set ((rd l1 x6_1) : Int).toNat true) := ⟨_, rfl⟩
   replace H : (laws_onOnly.l0 k1 a0 l1 y620 (wrap64 (x6_1 + 1))) = some r := by first | (rw [hy620]; with_reducible exact H) | (have H2_ := (Option.bind_some _ _).symm.trans H; rw [hy620]; with_reducible exact H2_) | (have H2_ := (Option.bind_some _ _).symm.trans H; with_reducible exact H2_) | with_reducible exact H | (rw [hy620]; exact H) | exact H
   have Ny620 := Aside0.mk hy620
   clear hy620
   have H' := Aside0.mk H
   clear H
   have p617 : 0 ≤ (x6_1 : Int) := oD
   have q617 : x6_1 < (l1.length : Int) := oD
   obtain ⟨ad617, e617, hx617_0⟩ := Kd.at_int HR1.out x6_1 p617 q617
   cases e617
   replace hx617_0 := (HB.out.cell (World.block_lt_of_cell? w _ hx617_0)).trans hx617_0
   replace p617 := eq_true p617
   replace q617 := eq_true q617
   have p618 : 0 ≤ (x6_1 : Int) := oD
   have q618 : x6_1 < (l1.length : Int) := oD
   obtain ⟨ad618, e618, hx618_0⟩ := Kd.at_int HR1.out x6_1 p618 q618
   obtain rfl : ad617 = ad618 := (by injection e618)
   replace hx618_0 := (HB.out.cell (World.block_lt_of_cell? w _ hx618_0)).trans hx618_0
   replace p618 := eq_true p618
   replace q618 := eq_true q618
   have p619 : 0 ≤ (x6_1 : Int) := oD
   have q619 : x6_1 < (l1.length : Int) := oD
   obtain ⟨ad619, e619, hx619_0⟩ := Kd.at_int HR1.out x6_1 p619 q619
   obtain rfl : ad617 = ad619 := (by injection e619)
   replace hx619_0 := (HB.out.cell (World.block_lt_of_cell? w _ hx619_0)).trans hx619_0
   replace p619 := eq_true p619
   replace q619 := eq_true q619
   have p13 : 0 ≤ ((rd l1 x6_1) : Int) := oD
   have q13 : ((rd l1 x6_1) : Int) < ((x5_1.length : Int) : Int) := oD
   obtain ⟨go13, co13, eo13, gb13, gl13, cl13, HG13⟩ := Kd.R_form HO_5.out (by first | omega | (obtain ⟨_, _, e_⟩ := Kd.R_slice HO_5.out; injection e_ with _ e_ _; omega))
   (first | cases eo13 | (injection eo13 with ea_ en_ ec_; (first | subst ea_ | (injection ea_ with ea_; subst ea_)); subst ec_; clear en_))
   have GB13 := Aside0.mk gb13
   have GG13 := Aside0.mk HG13
   clear gb13 gl13 HG13
   obtain ⟨hx13_0, hf13_0⟩ := Kd.R_celln false HO_5.out ((rd l1 x6_1) : Int) p13 q13
   replace p13 := eq_true p13
   replace q13 := eq_true q13
   have HP14 := Kd.R_putg HO_5.out ((rd l1 x6_1) : Int) true
   go_wp2_with (first | ((with_reducible refine gate_store (t := 4) (p := 33) rfl ?_); refine store_event (t := 4) (p := 33) (v := ?vo_w15) (w1 := (wr.setCell ⟨go13, ((rd l1 x6_1) : Int).toNat, none⟩ (.bool true))) ?hg ?ho ?hn ?hr ?_; (case ho => rfl); (case hg => rfl); (case hn => rfl); (case hr => exact hR); intro w15 hw; have hg : wr.grownBy w15 (some go13) := (by rw [hw]; exact HP14.2); have hp_ : Kd.R Kd.bool 4 w15 w.heap.size (fun _ => True) (.slice (some ⟨go13, 0, none⟩) x5_1.length co13) y620 := (by rw [hw, Ny620.out]; exact HP14.1); clear HP14; have n0_ := aM (hp_); have n1_ := aM ((by rw [hw]; exact below_set (HB.out) GB13.out : Below w.heap.size w w15)); clear HO_5; clear HB; have HO_5 := n0_; have HB := n1_; clear n0_ n1_; clear hg hw hp_))
   go_roundg k1
   case measure => have := HK1.out; omega
   case rel => exact ⟨(y620), (wrap64 (x6_1 + 1)), fS, H', ⟨by have := HK1.out; omega⟩, ⟨gR (HO_5.out)⟩, ⟨bl0 HB⟩⟩

end Go.Proofs.YtpgjgbjkfgbpaaaDoor.P

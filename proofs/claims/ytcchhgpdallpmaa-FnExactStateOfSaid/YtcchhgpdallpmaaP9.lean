/- Contracts of Go functions of this seat's translation, written by this repo's wip/mk.py: it calls the kit's print.py with contracts typed by hand in place of functions that it does not take. Not trusted: Lean checks it. -/
import Derived.Test.YtcchhgpdallpmaaP0
namespace Go.Proofs.Ytcchhgpdallpmaa.P
open Go.RowKit Go.Proofs.YtcchhgpdallpmaaW.PrintWords Go.Proofs.YtcchhgpdallpmaaW.PrintLast Go.Proofs.YtcchhgpdallpmaaW.PrintMore
attribute [local go_sem] max2_int min2_int max_two min_two max_three min_three max_four min_four   -- for this text's walks alone
set_option linter.unusedVariables false
set_option linter.unusedSimpArgs false

/-! ### impl_stateOf: function 53 -/
def impl_stateOf.l0 : Nat → Int → List Bool → Int → Int → Option (List Bool)
  | 0, _, _, _, _ => none
  | k + 1, x0, x5, x10, x11 => if x11 < x10 then (if 0 ≤ x11 then (if x11 < (x5.length : Int) then (impl_stateOf.l0 k x0 (x5.set (x11 : Int).toNat ((Go.bits .and .i64 (shr .i64 x0 x11) 1) == 1)) x10 (wrap64 (x11 + 1))) else (none)) else (none)) else (some x5)
def impl_stateOf.f (k : Nat) (a0 : Int) (a1 : Int) : Option (List Bool) := if 0 ≤ a1 then (if (a1 : Int).toNat ≤ 281474976710656 then ((some (List.replicate (a1 : Int).toNat false : List Bool)).bind fun y130 => (impl_stateOf.l0 k a0 y130 (y130.length : Int) 0)) else (none)) else (none)
theorem impl_stateOf.mono_l : ∀ k, (∀ y0 y1 y2 y3, LeO (impl_stateOf.l0 k y0 y1 y2 y3) (impl_stateOf.l0 (k + 1) y0 y1 y2 y3))
  | 0 => fun _ _ _ _ r h => by simp [impl_stateOf.l0] at h
  | k + 1 => by
    have ih0 := impl_stateOf.mono_l k
    · intro y0 y1 y2 y3
      unfold impl_stateOf.l0
      repeat' first
      | (with_reducible exact ih0 _ _ _ _)
      | (with_reducible exact LeO.refl _)
      | (with_reducible exact LeO.none _)
      | (with_reducible refine LeO.ite ?_ ?_)
      | (with_reducible refine LeO.bind ?_ (fun _ => ?_))
      | exact ih0 _ _ _ _
      | exact LeO.none _
      | refine LeO.ite ?_ ?_
      | refine LeO.bind ?_ (fun _ => ?_)
theorem impl_stateOf.mono : ∀ a0 a1 k, LeO (impl_stateOf.f k a0 a1) (impl_stateOf.f (k + 1) a0 a1) := by
  intro a0 a1 k
  have ih0 := impl_stateOf.mono_l k
  unfold impl_stateOf.f
  repeat' first
      | (with_reducible exact ih0 _ _ _ _)
      | (with_reducible exact LeO.refl _)
      | (with_reducible exact LeO.none _)
      | (with_reducible refine LeO.ite ?_ ?_)
      | (with_reducible refine LeO.bind ?_ (fun _ => ?_))
      | exact ih0 _ _ _ _
      | exact LeO.none _
      | refine LeO.ite ?_ ?_
      | refine LeO.bind ?_ (fun _ => ?_)
set_option maxHeartbeats 8000000 in
set_option maxRecDepth 100000 in
theorem impl_stateOf.calls (k : Nat) (a0 : Int) (a1 : Int) (r : List Bool) (w : World) (h : impl_stateOf.f k a0 a1 = some r) :
    Calls Try.prog 53 #[.int .i64 a0, .int .i64 a1] w fun e w' => ∃ v0_ : Value, e = .returned (v0_) ∧ Kd.R Kd.bool 4 w' w.heap.size (fun _ => True) v0_ r ∧ Below w.heap.size w w' := by
  have HB := Aside0.mk (Below.refl w.heap.size w)
  have H : (if 0 ≤ a1 then (if (a1 : Int).toNat ≤ 281474976710656 then ((some (List.replicate (a1 : Int).toNat false : List Bool)).bind fun y130 => (impl_stateOf.l0 k a0 y130 (y130.length : Int) 0)) else (none)) else (none)) = some r := h
  clear h
  by_cases c3 : 0 ≤ a1
  · rw [if_pos c3] at H
    have c3b0 := eq_true c3
    have c3b1 : decide (0 ≤ a1) = true := decide_eq_true c3
    clear c3
    by_cases c4 : (a1 : Int).toNat ≤ 281474976710656
    · rw [if_pos c4] at H
      have c4b0 := eq_true c4
      have c4b1 : decide ((a1 : Int).toNat ≤ 281474976710656) = true := decide_eq_true c4
      clear c4
      obtain ⟨y130, hy130⟩ : ∃ y_ : List Bool, y_ = (List.replicate (a1 : Int).toNat false) := ⟨_, rfl⟩
      replace H : (impl_stateOf.l0 k a0 y130 (y130.length : Int) 0) = some r := by first | (rw [hy130]; with_reducible exact H) | (have H2_ := (Option.bind_some _ _).symm.trans H; rw [hy130]; with_reducible exact H2_) | (have H2_ := (Option.bind_some _ _).symm.trans H; with_reducible exact H2_) | with_reducible exact H | (rw [hy130]; exact H) | exact H
      have Ny130 := Aside0.mk hy130
      clear hy130
      have H' := Aside0.mk H
      clear H
      go_enter Try.func53, Try.ntmps53
      go_wp2_with (first | ((with_reducible refine gate_dst (N := 8) rfl ?_); refine Kd.R_make Kd.bool _ 4 rfl (N := 8) rfl 23 _ _ rfl a1 rfl rfl Try.underlying23 (.bool false) 1 info4 rfl (by decide) (by omega) false (ok := fun _ => True) (okp := fun _ => True) rfl (fun _ hk => hk) trivial (of_decide_eq_true (by first | (with_reducible assumption) | assumption)) (Nat.le_trans (Nat.mul_le_mul_right _ (of_decide_eq_true (by first | (with_reducible assumption) | assumption) : a1.toNat ≤ 281474976710656)) (by omega)) (Below.refl _ _) (Nat.le_refl _) ?_; intro v131 w5 ho6 hb hg_ hnew_; clear hg_ hnew_; (first | rw [← Ny130.out] at ho6 | (simp only [Int.reduceToNat] at ho6; rw [← Ny130.out] at ho6)); have n0_ := Aside0.mk (Kd.R_lower ho6 (below_size (by repeat (first | (with_reducible first | exact HB.out | apply below_alloc | apply pw_below_drewN | apply below_drew1) | exact HB.out)))); have n1_ := Aside0.mk (below_step (by repeat (first | (with_reducible first | exact HB.out | apply below_alloc | apply pw_below_drewN | apply below_drew1) | exact HB.out)) hb); clear HB; have HO132 := n0_; have HB := n1_; clear n0_ n1_; clear hb ho6; obtain ⟨Ao7, co7, eo7⟩ := Kd.R_slice HO132.out; subst eo7))
      go_loopg [11] k (fun kq v11 w' => ∃ (x5_1 : List Bool) (x11_1 : Int), v11 = .int .i64 x11_1 ∧ Aside0 (impl_stateOf.l0 kq a0 x5_1 (y130.length : Int) x11_1 = some r) ∧ Aside0 (kq ≤ k) ∧ Aside0 (Kd.R Kd.bool 4 w' w.heap.size (fun _ => True) (.slice Ao7 y130.length co7) x5_1) ∧ Aside0 (Below w.heap.size w w'))
      case atStart => exact ⟨(y130), (0), (by first | rfl | (simp; done) | (simp [*]; done)), H', ⟨Nat.le_refl _⟩, ⟨by (with_reducible repeat (first | apply Kd.R_alloc | apply Kd.R_drewN | apply Kd.R_drew)); exact HO132.out⟩, ⟨by repeat (first | (with_reducible first | exact HB.out | apply below_alloc | apply pw_below_drewN | apply below_drew1) | exact HB.out)⟩⟩
      case round =>
        clear H'
        try clear p2
        try clear c3
        try clear c3b0
        try clear c3b1
        try clear c4
        try clear c4b0
        try clear c4b1
        try clear c5
        obtain ⟨x5_1, x11_1, rfl, HA, HK1, HO_5, HB⟩ := hrel
        have hl5_1 := (Kd.R_reads' HO_5.out).1
        rw [hl5_1] at HO_5
        (try simp only [hl5_1])
        cases gk with
        | zero => exact absurd HA.out (by simp [impl_stateOf.l0])
        | succ k1 =>
          have H := HA.out
          clear HA
          simp only [impl_stateOf.l0] at H
          by_cases c8 : x11_1 < (y130.length : Int)
          · rw [if_pos c8] at H
            have c8b0 : decide (x11_1 < (y130.length : Int)) = true := decide_eq_true c8
            clear c8
            by_cases c9 : 0 ≤ x11_1
            · rw [if_pos c9] at H
              have c9b0 := eq_true c9
              have c9b1 : decide (0 ≤ x11_1) = true := decide_eq_true c9
              clear c9
              obtain ⟨ji10, hji10⟩ : ∃ j_ : Int, (shr .i64 a0 x11_1) = j_ := ⟨_, rfl⟩
              replace H : (if x11_1 < (x5_1.length : Int) then (impl_stateOf.l0 k1 a0 (x5_1.set (x11_1 : Int).toNat ((Go.bits .and .i64 (ji10) 1) == 1)) (y130.length : Int) (wrap64 (x11_1 + 1))) else (none)) = some r := by first | (rw [hji10] at H; exact H) | (simp only [hji10] at H ⊢; exact H)
              have hji10_ : (a0 / 2 ^ min x11_1.toNat 64) = ji10 := hji10
              have hji10z : x11_1 ≤ 64 → (a0 / 2 ^ x11_1.toNat) = ji10 := shr_small hji10
              by_cases c11 : x11_1 < (x5_1.length : Int)
              · rw [if_pos c11] at H
                have c11b0 : decide (x11_1 < (x5_1.length : Int)) = true := decide_eq_true c11
                clear c11
                obtain ⟨y133, hy133⟩ : ∃ y_ : List Bool, y_ = (x5_1.set (x11_1 : Int).toNat ((Go.bits .and .i64 (ji10) 1) == 1)) := ⟨_, rfl⟩
                replace H : (impl_stateOf.l0 k1 a0 y133 (y130.length : Int) (wrap64 (x11_1 + 1))) = some r := by first | (rw [hy133]; with_reducible exact H) | (have H2_ := (Option.bind_some _ _).symm.trans H; rw [hy133]; with_reducible exact H2_) | (have H2_ := (Option.bind_some _ _).symm.trans H; with_reducible exact H2_) | with_reducible exact H | (rw [hy133]; exact H) | exact H
                have Ny133 := Aside0.mk hy133
                clear hy133
                have H' := Aside0.mk H
                clear H
                have p12 : 0 ≤ (x11_1 : Int) := of_decide_eq_true (by first | (with_reducible assumption) | assumption)
                have q12 : (x11_1 : Int) < ((x5_1.length : Int) : Int) := of_decide_eq_true (by first | (with_reducible assumption) | assumption)
                obtain ⟨go12, co12, eo12, gb12, gl12, cl12, HG12⟩ := Kd.R_form HO_5.out (by omega)
                (first | cases eo12 | (injection eo12 with ea_ en_ ec_; (first | subst ea_ | (injection ea_ with ea_; subst ea_)); subst ec_; clear en_))
                have GB12 := Aside0.mk gb12
                have GG12 := Aside0.mk HG12
                clear gb12 gl12 HG12
                obtain ⟨hx12_0, hf12_0⟩ := Kd.R_celln false HO_5.out (x11_1 : Int) p12 q12
                replace p12 := eq_true p12
                replace q12 := eq_true q12
                have HP13 := Kd.R_putg HO_5.out (x11_1 : Int) ((Go.bits .and .i64 (ji10) 1) == 1)
                go_wp2_with (first | ((with_reducible refine gate_store (t := 4) (p := 21) rfl ?_); refine store_event (t := 4) (p := 21) (v := ?vo_w14) (w1 := (wr.setCell ⟨go12, (x11_1 : Int).toNat, none⟩ (.bool ((Go.bits .and .i64 (ji10) 1) == 1)))) ?hg ?ho ?hn ?hr ?_; (case ho => rfl); (case hg => rfl); (case hn => rfl); (case hr => first | (go_simp; done) | (go_simp; rfl)); intro w14 hw; have hg : wr.grownBy w14 (some go12) := (by rw [hw]; exact HP13.2); have hp_ : Kd.R Kd.bool 4 w14 w.heap.size (fun _ => True) (.slice (some ⟨go12, 0, none⟩) x5_1.length co7) y133 := (by rw [hw, Ny133.out]; exact HP13.1); clear HP13; have n0_ := Aside0.mk (hp_); have n1_ := Aside0.mk ((by rw [hw]; exact below_set (HB.out) GB12.out : Below w.heap.size w w14)); clear HO_5; clear HB; have HO_5 := n0_; have HB := n1_; clear n0_ n1_; clear hg hw hp_))
                (try simp only [← hl5_1])
                go_roundg k1
                case measure => have := HK1.out; omega
                case rel => exact ⟨(y133), (wrap64 (x11_1 + 1)), (by first | rfl | (simp; done) | (simp [*]; done)), H', ⟨by have := HK1.out; omega⟩, ⟨by (try simp only [hl5_1]); (with_reducible repeat (first | apply Kd.R_alloc | apply Kd.R_drewN | apply Kd.R_drew)); exact HO_5.out⟩, ⟨by repeat (first | (with_reducible first | exact HB.out | apply below_alloc | apply pw_below_drewN | apply below_drew1) | exact HB.out)⟩⟩
              · rw [if_neg c11] at H
                exact absurd H (by simp)
            · rw [if_neg c9] at H
              exact absurd H (by simp)
          · rw [if_neg c8] at H
            have c8b0 : decide (x11_1 < (y130.length : Int)) = false := decide_eq_false c8
            have c8b9 : decide (x11_1 < (x5_1.length : Int)) = false := by rw [← hl5_1]; exact c8b0
            have c8b9' := of_decide_eq_false c8b9
            clear c8
            obtain rfl := Option.some.inj H
            go_wp2
            go_ret
            exact ⟨_, by first | rfl | (simp [errW_none, errW_some] <;> rfl) | (simp [*, errW_none, errW_some] <;> rfl), by (with_reducible repeat (first | apply Kd.R_alloc | apply Kd.R_drewN | apply Kd.R_drew)); exact HO_5.out, by repeat (first | (with_reducible first | exact HB.out | apply below_alloc | apply pw_below_drewN | apply below_drew1) | exact HB.out)⟩
    · rw [if_neg c4] at H
      exact absurd H (by simp)
  · rw [if_neg c3] at H
    exact absurd H (by simp)

end Go.Proofs.Ytcchhgpdallpmaa.P

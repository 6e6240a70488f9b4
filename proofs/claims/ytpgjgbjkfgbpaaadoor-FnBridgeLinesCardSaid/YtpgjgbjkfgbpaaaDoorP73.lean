/- Contracts of Go functions of this seat's translation, written by this repo's wip/mk.py: it calls the kit's print.py with contracts typed by hand in place of functions that it does not take. Not trusted: Lean checks it. -/
import Derived.Test.YtpgjgbjkfgbpaaaDoorP0
namespace Go.Proofs.YtpgjgbjkfgbpaaaDoor.P
open Go.RowKit Go.Proofs.YtpgjgbjkfgbpaaaDoorW.PrintWords Go.Proofs.YtpgjgbjkfgbpaaaDoorW.PrintLast Go.Proofs.YtpgjgbjkfgbpaaaDoorW.PrintMore
attribute [local go_sem] max2_int min2_int max_two min_two max_three min_three max_four min_four   -- for this text's walks alone
set_option linter.unusedVariables false
set_option linter.unusedSimpArgs false

/-! ### laws_count: function 41 -/
def laws_count.l0 : Nat → List Bool → Int → Int → Option (Int)
 | 0, _, _, _ => none
 | k + 1, x0, x3, x4 => if x4 < (x0.length : Int) then (if 0 ≤ x4 then (if rdOf false x0 x4 = true then (laws_count.l0 k x0 (wrap64 (x3 + 1)) (wrap64 (x4 + 1))) else (laws_count.l0 k x0 x3 (wrap64 (x4 + 1)))) else (none)) else (some x3)
def laws_count.f (k : Nat) (l0 : List Bool) : Option (Int) := laws_count.l0 k l0 0 0
theorem laws_count.mono_l : ∀ k, (∀ y0 y1 y2, LeO (laws_count.l0 k y0 y1 y2) (laws_count.l0 (k + 1) y0 y1 y2))
 | 0 => fun _ _ _ r h => by simp [laws_count.l0] at h
 | k + 1 => by
  have ih0 := laws_count.mono_l k
  ·
   intro y0 y1 y2
   unfold laws_count.l0
   repeat' first
   | (with_reducible exact ih0 _ _ _)
   | (with_reducible exact LeO.refl _)
   | (with_reducible exact LeO.none _)
   | (with_reducible refine LeO.ite ?_ ?_)
   | (with_reducible refine LeO.bind ?_ (fun _ => ?_))
   | exact ih0 _ _ _
   | exact LeO.none _
   | refine LeO.ite ?_ ?_
   | refine LeO.bind ?_ (fun _ => ?_)
theorem laws_count.mono : ∀ a0 k, LeO (laws_count.f k a0) (laws_count.f (k + 1) a0) := by
 intro a0 k
 have ih0 := laws_count.mono_l k
 unfold laws_count.f
 repeat' first
   | (with_reducible exact ih0 _ _ _)
   | (with_reducible exact LeO.refl _)
   | (with_reducible exact LeO.none _)
   | (with_reducible refine LeO.ite ?_ ?_)
   | (with_reducible refine LeO.bind ?_ (fun _ => ?_))
   | exact ih0 _ _ _
   | exact LeO.none _
   | refine LeO.ite ?_ ?_
   | refine LeO.bind ?_ (fun _ => ?_)
set_option maxHeartbeats 8000000 in
set_option maxRecDepth 100000 in
theorem laws_count.calls (k : Nat) (A0 : Option Addr) (c0 : Nat) (l0 : List Bool) (r : Int) (w : World) (hr0 : Kd.C Kd.bool w A0 l0.length l0) (hc0 : l0.length ≤ c0) (h : laws_count.f k l0 = some r) :
  Calls Tryd.prog 41 #[.slice A0 l0.length c0] w fun e w' => e = .returned (.int .i64 r) ∧ Drawn0 w w' := by
 have HR0 := Aside0.mk hr0
 have HC0 := Aside0.mk hc0
 clear hr0 hc0
 have H : (laws_count.l0 k l0 0 0) = some r := h
 clear h
 have H' := Aside0.mk H
 clear H
 go_enter Tryd.func41, Tryd.ntmps41
 go_wp2
 go_loopg [3, 4] k (fun kq v3 v4 w' => ∃ (x3_1 : Int) (x4_1 : Int), v3 = .int .i64 x3_1 ∧ v4 = .int .i64 x4_1 ∧ Aside0 (laws_count.l0 kq l0 x3_1 x4_1 = some r) ∧ Aside0 (kq ≤ k) ∧ Drawn0 w w')
 case atStart => exact ⟨(0), (0), fS, fS, H', ⟨Nat.le_refl _⟩, by repeat (first | exact Drawn0.refl _ | apply Drawn0.step)⟩
 case round =>
  clear H'
  obtain ⟨x3_1, x4_1, rfl, rfl, HA, HK1, ⟨m1, rfl⟩⟩ := hrel
  cases gk with
  | zero => exact absurd HA.out (by simp [laws_count.l0])
  | succ k1 =>
   have H := HA.out
   clear HA
   simp only [laws_count.l0] at H
   by_cases c2 : x4_1 < (l0.length : Int)
   rotate_left
   ·
    rw [if_neg c2] at H
    have c2b0 : decide (x4_1 < (l0.length : Int)) = false := decide_eq_false c2
    clear c2
    obtain rfl := Option.some.inj H
    go_wp2
    go_ret
    exact ⟨by first | rfl | (simp; done) | (simp [*]; done), by repeat (first | exact Drawn0.refl _ | apply Drawn0.step)⟩
   rw [if_pos c2] at H
   have c2b0 : decide (x4_1 < (l0.length : Int)) = true := decide_eq_true c2
   clear c2
   by_cases c3 : 0 ≤ x4_1
   rotate_left
   ·
    rw [if_neg c3] at H
    exact absurd H (by simp)
   rw [if_pos c3] at H
   have c3b0 : decide (0 ≤ x4_1) = true := decide_eq_true c3
   clear c3
   obtain ⟨bq4, hbq4⟩ : ∃ b_ : Bool, b_ = (rdOf false l0 x4_1) := ⟨_, rfl⟩
   replace H : (if bq4 = true then (laws_count.l0 k1 l0 (wrap64 (x3_1 + 1)) (wrap64 (x4_1 + 1))) else (laws_count.l0 k1 l0 x3_1 (wrap64 (x4_1 + 1)))) = some r := by rw [← hbq4] at H; exact H
   have Nbq4 := Aside0.mk hbq4
   clear hbq4
   by_cases c5 : bq4 = true
   ·
    subst c5
    have H1 : (laws_count.l0 k1 l0 (wrap64 (x3_1 + 1)) (wrap64 (x4_1 + 1))) = some r := by rw [if_pos rfl] at H; exact H
    clear H
    have H := H1
    clear H1
    have H' := Aside0.mk H
    clear H
    have p693 : 0 ≤ (x4_1 : Int) := oD
    have q693 : x4_1 < (l0.length : Int) := oD
    obtain ⟨ad693, e693, hx693_0⟩ := Kd.at_bool HR0.out x4_1 p693 q693
    (try rw [← Nbq4.out] at hx693_0)
    cases e693
    replace p693 := eq_true p693
    replace q693 := eq_true q693
    go_wp2
    go_roundg k1
    case measure => have := HK1.out; omega
    case rel => exact ⟨(wrap64 (x3_1 + 1)), (wrap64 (x4_1 + 1)), fS, fS, H', ⟨by have := HK1.out; omega⟩, by repeat (first | exact Drawn0.refl _ | apply Drawn0.step)⟩
   replace c5 := Bool.eq_false_iff.mpr c5
   subst c5
   have H1 : (laws_count.l0 k1 l0 x3_1 (wrap64 (x4_1 + 1))) = some r := by rw [if_neg (show ¬ (false = true) by decide)] at H; exact H
   clear H
   have H := H1
   clear H1
   have H' := Aside0.mk H
   clear H
   have p693 : 0 ≤ (x4_1 : Int) := oD
   have q693 : x4_1 < (l0.length : Int) := oD
   obtain ⟨ad693, e693, hx693_0⟩ := Kd.at_bool HR0.out x4_1 p693 q693
   (try rw [← Nbq4.out] at hx693_0)
   cases e693
   replace p693 := eq_true p693
   replace q693 := eq_true q693
   go_wp2
   go_roundg k1
   case measure => have := HK1.out; omega
   case rel => exact ⟨(x3_1), (wrap64 (x4_1 + 1)), fS, fS, H', ⟨by have := HK1.out; omega⟩, by repeat (first | exact Drawn0.refl _ | apply Drawn0.step)⟩

end Go.Proofs.YtpgjgbjkfgbpaaaDoor.P

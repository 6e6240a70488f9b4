/- Contracts of Go functions of this seat's translation, written by this repo's wip/mk.py: it calls the kit's print.py with contracts typed by hand in place of functions that it does not take. Not trusted: Lean checks it. -/
import Derived.Test.YtpgjgbjkfgbpaaaDoorP0
import Derived.Test.YtpgjgbjkfgbpaaaDoorP25
import Derived.Test.YtpgjgbjkfgbpaaaDoorP27
import Derived.Test.YtpgjgbjkfgbpaaaDoorP34
namespace Go.Proofs.YtpgjgbjkfgbpaaaDoor.P
open Go.RowKit Go.Proofs.YtpgjgbjkfgbpaaaDoorW.PrintWords Go.Proofs.YtpgjgbjkfgbpaaaDoorW.PrintLast Go.Proofs.YtpgjgbjkfgbpaaaDoorW.PrintMore
attribute [local go_sem] max2_int min2_int max_two min_two max_three min_three max_four min_four   -- for this text's walks alone
set_option linter.unusedVariables false
set_option linter.unusedSimpArgs false

/-! ### laws_sameInts: function 22 -/
def laws_sameInts.l0 : Nat → List Int → List Int → Int → Option (Bool)
 | 0, _, _, _ => none
 | k + 1, x0, x1, x5 => if x5 < (x0.length : Int) then (if 0 ≤ x5 then (if x5 < (x1.length : Int) then (if (rd x0 x5) = (rd x1 x5) then (laws_sameInts.l0 k x0 x1 (wrap64 (x5 + 1))) else (some false)) else (none)) else (none)) else (some true)
def laws_sameInts.f (k : Nat) (l0 : List Int) (l1 : List Int) : Option (Bool) := if (l0.length : Int) = (l1.length : Int) then (laws_sameInts.l0 k l0 l1 0) else (some false)
theorem laws_sameInts.mono_l : ∀ k, (∀ y0 y1 y2, LeO (laws_sameInts.l0 k y0 y1 y2) (laws_sameInts.l0 (k + 1) y0 y1 y2))
 | 0 => fun _ _ _ r h => by simp [laws_sameInts.l0] at h
 | k + 1 => by
  have ih0 := laws_sameInts.mono_l k
  ·
   intro y0 y1 y2
   unfold laws_sameInts.l0
   repeat' first
   | (with_reducible exact ih0 _ _ _)
   | (with_reducible exact LeO.refl _)
   | (with_reducible exact LeO.none _)
   | (with_reducible refine LeO.ite ?_ ?_)
   | (with_reducible refine LeO.bind ?_ (fun _ => ?_))
   | exact ih0 _ _ _
   | exact LeO.none _
   | refine LeO.ite ?_ ?_
   | refine LeO.bind ?_ (fun _ => ?_)
theorem laws_sameInts.mono : ∀ a0 a1 k, LeO (laws_sameInts.f k a0 a1) (laws_sameInts.f (k + 1) a0 a1) := by
 intro a0 a1 k
 have ih0 := laws_sameInts.mono_l k
 unfold laws_sameInts.f
 repeat' first
   | (with_reducible exact ih0 _ _ _)
   | (with_reducible exact LeO.refl _)
   | (with_reducible exact LeO.none _)
   | (with_reducible refine LeO.ite ?_ ?_)
   | (with_reducible refine LeO.bind ?_ (fun _ => ?_))
   | exact ih0 _ _ _
   | exact LeO.none _
   | refine LeO.ite ?_ ?_
   | refine LeO.bind ?_ (fun _ => ?_)
set_option maxHeartbeats 8000000 in
set_option maxRecDepth 100000 in
theorem laws_sameInts.calls (k : Nat) (A0 : Option Addr) (c0 : Nat) (l0 : List Int) (A1 : Option Addr) (c1 : Nat) (l1 : List Int) (r : Bool) (w : World) (hr0 : Kd.C (Kd.int .i64) w A0 l0.length l0) (hc0 : l0.length ≤ c0) (hr1 : Kd.C (Kd.int .i64) w A1 l1.length l1) (hc1 : l1.length ≤ c1) (h : laws_sameInts.f k l0 l1 = some r) :
  Calls Tryd.prog 22 #[.slice A0 l0.length c0, .slice A1 l1.length c1] w fun e w' => e = .returned (.bool r) ∧ Drawn0 w w' := by
 have HR0 := Aside0.mk hr0
 have HC0 := Aside0.mk hc0
 clear hr0 hc0
 have HR1 := Aside0.mk hr1
 have HC1 := Aside0.mk hc1
 clear hr1 hc1
 have H : (if (l0.length : Int) = (l1.length : Int) then (laws_sameInts.l0 k l0 l1 0) else (some false)) = some r := h
 clear h
 by_cases c3 : (l0.length : Int) = (l1.length : Int)
 rotate_left
 ·
  rw [if_neg c3] at H
  have c3b0 : ((l0.length : Int) == (l1.length : Int)) = false := beq_eq_false_iff_ne.mpr c3
  have c3b1 : ((l0.length : Int) != (l1.length : Int)) = true := bne_iff_ne.mpr c3
  have c3b2 : (l0.length == l1.length) = false := by first | simpa using c3 | (simp at c3 ⊢; omega)
  obtain rfl := Option.some.inj H
  go_enter Tryd.func22, Tryd.ntmps22
  go_wp2
  repeat (go_quiet (fail); try go_wp2)
  go_ret
  exact ⟨by first | rfl | (simp; done) | (simp [*]; done), by repeat (first | exact Drawn0.refl _ | apply Drawn0.step)⟩
 rw [if_pos c3] at H
 have c3b0 : ((l0.length : Int) == (l1.length : Int)) = true := beq_iff_eq.mpr c3
 have c3b1 : ((l0.length : Int) != (l1.length : Int)) = false := bne_eq_false_iff_eq.mpr c3
 have c3b2 : (l0.length == l1.length) = true := by first | simpa using c3 | (simp at c3 ⊢; omega)
 clear c3
 have H' := Aside0.mk H
 clear H
 go_enter Tryd.func22, Tryd.ntmps22
 go_wp2
 repeat (go_quiet (fail); try go_wp2)
 go_loopg [5] k (fun kq v5 w' => ∃ (x5_1 : Int), v5 = .int .i64 x5_1 ∧ Aside0 (laws_sameInts.l0 kq l0 l1 x5_1 = some r) ∧ Aside0 (kq ≤ k) ∧ Drawn0 w w')
 case atStart => exact ⟨(0), fS, H', ⟨Nat.le_refl _⟩, by repeat (first | exact Drawn0.refl _ | apply Drawn0.step)⟩
 case round =>
  clear H'
  try clear c1
  try clear c2
  try clear p2
  try clear c3
  try clear c3b0
  try clear c3b1
  try clear c3b2
  obtain ⟨x5_1, rfl, HA, HK1, ⟨m1, rfl⟩⟩ := hrel
  cases gk with
  | zero => exact absurd HA.out (by simp [laws_sameInts.l0])
  | succ k1 =>
   have H := HA.out
   clear HA
   simp only [laws_sameInts.l0] at H
   by_cases c4 : x5_1 < (l0.length : Int)
   rotate_left
   ·
    rw [if_neg c4] at H
    have c4b0 : decide (x5_1 < (l0.length : Int)) = false := decide_eq_false c4
    clear c4
    obtain rfl := Option.some.inj H
    go_wp2
    repeat (go_quiet (fail); try go_wp2)
    go_ret
    exact ⟨by first | rfl | (simp; done) | (simp [*]; done), by repeat (first | exact Drawn0.refl _ | apply Drawn0.step)⟩
   rw [if_pos c4] at H
   have c4b0 : decide (x5_1 < (l0.length : Int)) = true := decide_eq_true c4
   clear c4
   by_cases c5 : 0 ≤ x5_1
   rotate_left
   ·
    rw [if_neg c5] at H
    exact absurd H (by simp)
   rw [if_pos c5] at H
   have c5b0 : decide (0 ≤ x5_1) = true := decide_eq_true c5
   clear c5
   by_cases c6 : x5_1 < (l1.length : Int)
   rotate_left
   ·
    rw [if_neg c6] at H
    exact absurd H (by simp)
   rw [if_pos c6] at H
   have c6b0 : decide (x5_1 < (l1.length : Int)) = true := decide_eq_true c6
   clear c6
   by_cases c7 : (rd l0 x5_1) = (rd l1 x5_1)
   rotate_left
   ·
    rw [if_neg c7] at H
    have c7b0 : ((rd l0 x5_1) == (rd l1 x5_1)) = false := beq_eq_false_iff_ne.mpr c7
    have c7b1 : ((rd l0 x5_1) != (rd l1 x5_1)) = true := bne_iff_ne.mpr c7
    obtain rfl := Option.some.inj H
    have p438 : 0 ≤ (x5_1 : Int) := oD
    have q438 : x5_1 < (l0.length : Int) := oD
    obtain ⟨ad438, e438, hx438_0⟩ := Kd.at_int HR0.out x5_1 p438 q438
    cases e438
    replace p438 := eq_true p438
    replace q438 := eq_true q438
    have p439 : 0 ≤ (x5_1 : Int) := oD
    have q439 : x5_1 < (l1.length : Int) := oD
    obtain ⟨ad439, e439, hx439_0⟩ := Kd.at_int HR1.out x5_1 p439 q439
    cases e439
    replace p439 := eq_true p439
    replace q439 := eq_true q439
    go_wp2
    repeat (go_quiet (fail); try go_wp2)
    go_ret
    exact ⟨by first | rfl | (simp; done) | (simp [*]; done), by repeat (first | exact Drawn0.refl _ | apply Drawn0.step)⟩
   rw [if_pos c7] at H
   have c7b0 : ((rd l0 x5_1) == (rd l1 x5_1)) = true := beq_iff_eq.mpr c7
   have c7b1 : ((rd l0 x5_1) != (rd l1 x5_1)) = false := bne_eq_false_iff_eq.mpr c7
   clear c7
   have H' := Aside0.mk H
   clear H
   have p438 : 0 ≤ (x5_1 : Int) := oD
   have q438 : x5_1 < (l0.length : Int) := oD
   obtain ⟨ad438, e438, hx438_0⟩ := Kd.at_int HR0.out x5_1 p438 q438
   cases e438
   replace p438 := eq_true p438
   replace q438 := eq_true q438
   have p439 : 0 ≤ (x5_1 : Int) := oD
   have q439 : x5_1 < (l1.length : Int) := oD
   obtain ⟨ad439, e439, hx439_0⟩ := Kd.at_int HR1.out x5_1 p439 q439
   cases e439
   replace p439 := eq_true p439
   replace q439 := eq_true q439
   go_wp2
   repeat (go_quiet (fail); try go_wp2)
   go_roundg k1
   case measure => have := HK1.out; omega
   case rel => exact ⟨(wrap64 (x5_1 + 1)), fS, H', ⟨by have := HK1.out; omega⟩, by repeat (first | exact Drawn0.refl _ | apply Drawn0.step)⟩

end Go.Proofs.YtpgjgbjkfgbpaaaDoor.P
namespace Go.Proofs.YtpgjgbjkfgbpaaaDoor.P
open Go.RowKit Go.Proofs.YtpgjgbjkfgbpaaaDoorW.PrintWords Go.Proofs.YtpgjgbjkfgbpaaaDoorW.PrintLast Go.Proofs.YtpgjgbjkfgbpaaaDoorW.PrintMore
attribute [local go_sem] max2_int min2_int max_two min_two max_three min_three max_four min_four   -- for this text's walks alone
set_option linter.unusedVariables false
set_option linter.unusedSimpArgs false

/-! ### spec_l2Copy: function 117 -/
def spec_l2Copy.f (l0 : List Bool) : Option (List Bool) := (some (([] : List Bool) : List Bool)).bind fun y440 => (if y440.length + l0.length < 140737488355328 then (some (y440 ++ l0)) else (none))
set_option maxHeartbeats 8000000 in
set_option maxRecDepth 100000 in
theorem spec_l2Copy.calls (A0 : Option Addr) (c0 : Nat) (l0 : List Bool) (r : List Bool) (w : World) (hr0 : Kd.C Kd.bool w A0 l0.length l0) (hc0 : l0.length ≤ c0) (h : spec_l2Copy.f l0 = some r) :
  Calls Tryd.prog 117 #[.slice A0 l0.length c0] w fun e w' => ∃ v0_ : Value, e = .returned (v0_) ∧ Kd.R Kd.bool 4 w' w.heap.size (fun _ => True) v0_ r ∧ Below w.heap.size w w' := by
 have HR0 := Aside0.mk hr0
 have HC0 := Aside0.mk hc0
 clear hr0 hc0
 have HB := aM (Below.refl w.heap.size w)
 have H : ((some (([] : List Bool) : List Bool)).bind fun y440 => (if y440.length + l0.length < 140737488355328 then (some (y440 ++ l0)) else (none))) = some r := h
 clear h
 obtain ⟨y440, hy440⟩ : ∃ y_ : List Bool, y_ = (([] : List Bool)) := ⟨_, rfl⟩
 replace H : (if y440.length + l0.length < 140737488355328 then (some (y440 ++ l0)) else (none)) = some r := by first | (rw [hy440]; with_reducible exact H) | (have H2_ := (Option.bind_some _ _).symm.trans H; rw [hy440]; with_reducible exact H2_) | (have H2_ := (Option.bind_some _ _).symm.trans H; with_reducible exact H2_) | with_reducible exact H | (rw [hy440]; exact H) | exact H
 have Ny440 := Aside0.mk hy440
 clear hy440
 by_cases c2 : y440.length + l0.length < 140737488355328
 rotate_left
 ·
  rw [if_neg c2] at H
  exact absurd H (by simp)
 rw [if_pos c2] at H
 have LMc2 := Aside0.mk c2
 clear c2
 obtain ⟨y443, hy443⟩ : ∃ y_ : List Bool, y_ = (y440 ++ l0) := ⟨_, rfl⟩
 replace H : (some y443) = some r := by first | (rw [hy443]; with_reducible exact H) | (have H2_ := (Option.bind_some _ _).symm.trans H; rw [hy443]; with_reducible exact H2_) | (have H2_ := (Option.bind_some _ _).symm.trans H; with_reducible exact H2_) | with_reducible exact H | (rw [hy443]; exact H) | exact H
 have Ny443 := Aside0.mk hy443
 clear hy443
 obtain rfl := Option.some.inj H
 go_enter Tryd.func117, Tryd.ntmps117
 go_wp2_with (first | ((with_reducible refine gate_dst (N := 3) rfl ?_); refine Kd.R_lit Kd.bool _ 4 ?hg (N := 3) ?hd (xs := ([] : List Bool)) (inner := []) (ok := fun _ => True) (okp := fun _ => True) ?hr ?hp (fun _ hk => hk) trivial (Below.refl _ _) (Nat.le_refl _) (by simp) ?_; (case hd => rfl); (case hg => rfl); (case hr => exact hR); (case hp => exact (Reps.none _ _)); intro v441 w3 ho4 hb hg_ hnew_; clear hg_ hnew_; (first | rw [← Ny440.out] at ho4 | (simp only [Int.reduceToNat] at ho4; rw [← Ny440.out] at ho4)); have n0_ := aM (Kd.R_lower ho4 (below_size (bl0 HB))); have n1_ := aM (below_step (bl0 HB) hb); clear HB; have HO442 := n0_; have HB := n1_; clear n0_ n1_; clear hb ho4) | ((with_reducible refine gate_builtin (b := .append) (xs := #[.tmp 3, .tmp 4]) rfl ?_); at_builtin; refine Kd.R_append_rows Kd.bool (w0 := w) w.heap.size rfl (.tmp 3) (.tmp 4) 26 4 (.bool false) 1 rfl Tryd.underlying26 info4 rfl (by decide) (by omega) v441 y440 l0 _ _ _ (fun _ => True) (fun _ => False) rfl rfl ?aO ?aR (fun _ _ h => h) (fun _ h => h.elim) ?aF ?aB ?aS ?aL ?_; (case aR => repeat (first | exact (Kd.C_below HR0.out HB.out) | (with_reducible refine Kd.C_alloc ?_ _) | (with_reducible refine Kd.C_drewN ?_ _) | (with_reducible refine Kd.C_drew ?_))); (case aB => exact (bl0 HB)); (case aF => exact (fun _ _ => trivial)); (case aO => exact (gR (HO442.out))); (case aS => exact (below_size (bl0 HB))); (case aL => have := LMc2.out; omega); intro v444 w5 ho hb hg hat; rw [← Ny443.out] at ho; have n0_ := aM (hb); have n1_ := aM (ho); clear HB; clear HO442; have HB := n0_; have HO445 := n1_; clear n0_ n1_; clear ho hb hg hat))
 go_ret
 exact ⟨_, fR, gR (HO445.out), bl0 HB⟩

end Go.Proofs.YtpgjgbjkfgbpaaaDoor.P
namespace Go.Proofs.YtpgjgbjkfgbpaaaDoor.P
open Go.RowKit Go.Proofs.YtpgjgbjkfgbpaaaDoorW.PrintWords Go.Proofs.YtpgjgbjkfgbpaaaDoorW.PrintLast Go.Proofs.YtpgjgbjkfgbpaaaDoorW.PrintMore
attribute [local go_sem] max2_int min2_int max_two min_two max_three min_three max_four min_four   -- for this text's walks alone
set_option linter.unusedVariables false
set_option linter.unusedSimpArgs false

/-! ### spec_SwitchLine: function 84 -/
def spec_SwitchLine.f (k : Nat) (a0_0 : Int) (l0_1 : List (S79)) (l1 : List Bool) (a2 : Int) (a3 : Bool) : Option (List Bool × Bool) := (spec_StateValid.f k a0_0 l0_1 l1).bind fun t447 => (if t447 = true then ((spec_l2Copy.f l1).bind fun t451 => ((spec_l1In.f a2 0 (wrap64 ((l1.length : Int) - 1))).bind fun t454 => (if t454 = true then (if 0 ≤ a2 then (if a2 < (t451.length : Int) then (some ((t451.set (a2 : Int).toNat a3), true)) else (none)) else (none)) else (some (t451, false))))) else (some ((([] : List Bool)), false)))
theorem spec_SwitchLine.mono : ∀ a0 a1 a2 a3 a4 k, LeO (spec_SwitchLine.f k a0 a1 a2 a3 a4) (spec_SwitchLine.f (k + 1) a0 a1 a2 a3 a4) := by
 intro a0 a1 a2 a3 a4 k
 unfold spec_SwitchLine.f
 repeat' first
   | (with_reducible exact spec_StateValid.mono _ _ _ _)
   | (with_reducible exact LeO.refl _)
   | (with_reducible exact LeO.none _)
   | (with_reducible refine LeO.ite ?_ ?_)
   | (with_reducible refine LeO.bind ?_ (fun _ => ?_))
   | exact spec_StateValid.mono _ _ _ _
   | exact LeO.none _
   | refine LeO.ite ?_ ?_
   | refine LeO.bind ?_ (fun _ => ?_)
set_option maxHeartbeats 8000000 in
set_option maxRecDepth 100000 in
theorem spec_SwitchLine.calls (k : Nat) (a0_0 : Int) (A0_1 : Option Addr) (c0_1 : Nat) (l0_1 : List (S79)) (A1 : Option Addr) (c1 : Nat) (l1 : List Bool) (a2 : Int) (a3 : Bool) (r1 : List Bool) (r2 : Bool) (w : World) (hr0_1 : Kd.C k79 w A0_1 l0_1.length l0_1) (hc0_1 : l0_1.length ≤ c0_1) (hr1 : Kd.C Kd.bool w A1 l1.length l1) (hc1 : l1.length ≤ c1) (h : spec_SwitchLine.f k a0_0 l0_1 l1 a2 a3 = some (r1, r2)) :
  Calls Tryd.prog 84 #[.agg #[.int .i64 a0_0, .slice A0_1 l0_1.length c0_1], .slice A1 l1.length c1, .int .i64 a2, .bool a3] w fun e w' => ∃ v0_ : Value, e = .returned (.tuple #[v0_, .bool r2]) ∧ Kd.R Kd.bool 4 w' w.heap.size (fun _ => True) v0_ r1 ∧ Below w.heap.size w w' := by
 have hu25 := Tryd.underlying25
 have HR0_1 := Aside0.mk hr0_1
 have HC0_1 := Aside0.mk hc0_1
 clear hr0_1 hc0_1
 have HR1 := Aside0.mk hr1
 have HC1 := Aside0.mk hc1
 clear hr1 hc1
 have HB := aM (Below.refl w.heap.size w)
 have H : ((spec_StateValid.f k a0_0 l0_1 l1).bind fun t447 => (if t447 = true then ((spec_l2Copy.f l1).bind fun t451 => ((spec_l1In.f a2 0 (wrap64 ((l1.length : Int) - 1))).bind fun t454 => (if t454 = true then (if 0 ≤ a2 then (if a2 < (t451.length : Int) then (some ((t451.set (a2 : Int).toNat a3), true)) else (none)) else (none)) else (some (t451, false))))) else (some ((([] : List Bool)), false)))) = some (r1, r2) := h
 clear h
 replace H := Option.bind_eq_some_iff.mp H
 obtain ⟨t447, A50, H⟩ := H
 replace H : (if t447 = true then ((spec_l2Copy.f l1).bind fun t451 => ((spec_l1In.f a2 0 (wrap64 ((l1.length : Int) - 1))).bind fun t454 => (if t454 = true then (if 0 ≤ a2 then (if a2 < (t451.length : Int) then (some ((t451.set (a2 : Int).toNat a3), true)) else (none)) else (none)) else (some (t451, false))))) else (some ((([] : List Bool)), false))) = some (r1, r2) := H
 have A5 := Aside0.mk A50
 clear A50
 by_cases c6 : t447 = true
 rotate_left
 ·
  replace c6 := Bool.eq_false_iff.mpr c6
  subst c6
  have H1 : (some ((([] : List Bool)), false)) = some (r1, r2) := by rw [if_neg (show ¬ (false = true) by decide)] at H; exact H
  clear H
  have H := H1
  clear H1
  obtain ⟨y448, hy448⟩ : ∃ y_ : List Bool, y_ = (([] : List Bool)) := ⟨_, rfl⟩
  replace H : (some (y448, false)) = some (r1, r2) := by first | (rw [hy448]; with_reducible exact H) | (have H2_ := (Option.bind_some _ _).symm.trans H; rw [hy448]; with_reducible exact H2_) | (have H2_ := (Option.bind_some _ _).symm.trans H; with_reducible exact H2_) | with_reducible exact H | (rw [hy448]; exact H) | exact H
  have Ny448 := Aside0.mk hy448
  clear hy448
  simp only [Option.some.injEq, Prod.mk.injEq] at H
  obtain ⟨rfl, rfl⟩ := H
  go_enter Tryd.func84, Tryd.ntmps84
  go_wp2_with (first | ((with_reducible refine gate_dst (N := 4) rfl ?_); refine box_event ?hg (N := 4) ?hd (cs := #[.int .i64 a0_0, .slice A0_1 l0_1.length c0_1]) (t := 25) ?hr ?_; (case hd => rfl); (case hg => rfl); (case hr => exact hR); intro gb446 hg w23 hbox hb; have n0_ := aM (below_step (bl0 HB) hb); have n1_ := aM (hbox); have n2_ := aM ((by rw [hg]; exact (below_size (bl0 HB)) : w.heap.size ≤ gb446)); have n3_ := aM ((by rw [hg]; exact (below_size (bl0 HB)) : w.heap.size ≤ gb446)); clear HB; have HB := n0_; have BK446 := n1_; have GW446 := n2_; have GE446 := n3_; clear n0_ n1_ n2_ n3_; clear hb hbox hg; have hcz24_0 : w23.cell? ⟨gb446, 0, none⟩ = some (.int .i64 a0_0) := (blk_cell BK446.out 0).trans rfl; have hcz24_1 : w23.cell? ⟨gb446, 1, none⟩ = some (.slice A0_1 l0_1.length c0_1) := (blk_cell BK446.out 1).trans rfl; have hfz24_0 := blk_frozen BK446.out 0; have hfz24_1 := blk_frozen BK446.out 1) | ((with_reducible refine gate_callee (f := 34) rfl ?_); refine goesL_ (some 13) rfl rfl Tryd.func34 (by kernel_rfl) rfl #[.agg #[.int .i64 a0_0, .slice A0_1 l0_1.length c0_1], .slice A1 l1.length c1] rfl mP ?_; (with_reducible refine (spec_StateValid.calls k a0_0 _ _ l0_1 _ _ l1 false _ ?side1 ?side2 ?side3 ?side4 A5.out).mono ?_); (case side1 => exact gC ((Kd.C_below HR0_1.out HB.out))); (case side2 => exact HC0_1.out); (case side3 => exact gC ((Kd.C_below HR1.out HB.out))); (case side4 => exact HC1.out); rintro e w25 ⟨rfl, hb⟩; refine ⟨_, rfl, ?_⟩; have n0_ := aM (blk_below (g := gb446) (o := .cells #[.int .i64 a0_0, .slice A0_1 l0_1.length c0_1] 25 (0, 0)) (gB (BK446.out)) hb); have n1_ := aM (below_step (bl1 HB GE446) hb); clear BK446; clear HB; have BK446 := n0_; have HB := n1_; clear n0_ n1_; (try clear hb); (try clear hb2); (try clear hk); (try clear hi)) | ((with_reducible refine gate_dst (N := 15) rfl ?_); refine Kd.R_lit Kd.bool _ 4 ?hg (N := 15) ?hd (xs := ([] : List Bool)) (inner := []) (ok := fun _ => True) (okp := fun _ => True) ?hr ?hp (fun _ hk => hk) trivial (Below.refl _ _) (Nat.le_refl _) (by simp) ?_; (case hd => rfl); (case hg => rfl); (case hr => exact hR); (case hp => exact (Reps.none _ _)); intro v449 w26 ho27 hb hg_ hnew_; clear hg_ hnew_; (first | rw [← Ny448.out] at ho27 | (simp only [Int.reduceToNat] at ho27; rw [← Ny448.out] at ho27)); have n0_ := aM (Kd.R_lower ho27 (below_size (bl1 HB GE446))); have n1_ := aM (blk_below (g := gb446) (o := .cells #[.int .i64 a0_0, .slice A0_1 l0_1.length c0_1] 25 (0, 0)) (gB (BK446.out)) hb); have n2_ := aM (below_step (bl1 HB GE446) hb); clear BK446; clear HB; have HO450 := n0_; have BK446 := n1_; have HB := n2_; clear n0_ n1_ n2_; clear hb ho27))
  go_ret2
  exact ⟨_, fR, gR (HO450.out), bl1 HB GE446⟩
 subst c6
 have H1 : ((spec_l2Copy.f l1).bind fun t451 => ((spec_l1In.f a2 0 (wrap64 ((l1.length : Int) - 1))).bind fun t454 => (if t454 = true then (if 0 ≤ a2 then (if a2 < (t451.length : Int) then (some ((t451.set (a2 : Int).toNat a3), true)) else (none)) else (none)) else (some (t451, false))))) = some (r1, r2) := by rw [if_pos rfl] at H; exact H
 clear H
 have H := H1
 clear H1
 replace H := Option.bind_eq_some_iff.mp H
 obtain ⟨t451, A70, H⟩ := H
 replace H : ((spec_l1In.f a2 0 (wrap64 ((l1.length : Int) - 1))).bind fun t454 => (if t454 = true then (if 0 ≤ a2 then (if a2 < (t451.length : Int) then (some ((t451.set (a2 : Int).toNat a3), true)) else (none)) else (none)) else (some (t451, false)))) = some (r1, r2) := H
 have A7 := Aside0.mk A70
 clear A70
 replace H := Option.bind_eq_some_iff.mp H
 obtain ⟨t454, A80, H⟩ := H
 replace H : (if t454 = true then (if 0 ≤ a2 then (if a2 < (t451.length : Int) then (some ((t451.set (a2 : Int).toNat a3), true)) else (none)) else (none)) else (some (t451, false))) = some (r1, r2) := H
 have A8 := Aside0.mk A80
 clear A80
 by_cases c9 : t454 = true
 rotate_left
 ·
  replace c9 := Bool.eq_false_iff.mpr c9
  subst c9
  have H1 : (some (t451, false)) = some (r1, r2) := by rw [if_neg (show ¬ (false = true) by decide)] at H; exact H
  clear H
  have H := H1
  clear H1
  simp only [Option.some.injEq, Prod.mk.injEq] at H
  obtain ⟨rfl, rfl⟩ := H
  go_enter Tryd.func84, Tryd.ntmps84
  go_wp2_with (first | ((with_reducible refine gate_dst (N := 4) rfl ?_); refine box_event ?hg (N := 4) ?hd (cs := #[.int .i64 a0_0, .slice A0_1 l0_1.length c0_1]) (t := 25) ?hr ?_; (case hd => rfl); (case hg => rfl); (case hr => exact hR); intro gb446 hg w19 hbox hb; have n0_ := aM (below_step (bl0 HB) hb); have n1_ := aM (hbox); have n2_ := aM ((by rw [hg]; exact (below_size (bl0 HB)) : w.heap.size ≤ gb446)); have n3_ := aM ((by rw [hg]; exact (below_size (bl0 HB)) : w.heap.size ≤ gb446)); clear HB; have HB := n0_; have BK446 := n1_; have GW446 := n2_; have GE446 := n3_; clear n0_ n1_ n2_ n3_; clear hb hbox hg; have hcz20_0 : w19.cell? ⟨gb446, 0, none⟩ = some (.int .i64 a0_0) := (blk_cell BK446.out 0).trans rfl; have hcz20_1 : w19.cell? ⟨gb446, 1, none⟩ = some (.slice A0_1 l0_1.length c0_1) := (blk_cell BK446.out 1).trans rfl; have hfz20_0 := blk_frozen BK446.out 0; have hfz20_1 := blk_frozen BK446.out 1) | ((with_reducible refine gate_callee (f := 34) rfl ?_); refine goesL_ (some 13) rfl rfl Tryd.func34 (by kernel_rfl) rfl #[.agg #[.int .i64 a0_0, .slice A0_1 l0_1.length c0_1], .slice A1 l1.length c1] rfl mP ?_; (with_reducible refine (spec_StateValid.calls k a0_0 _ _ l0_1 _ _ l1 true _ ?side1 ?side2 ?side3 ?side4 A5.out).mono ?_); (case side1 => exact gC ((Kd.C_below HR0_1.out HB.out))); (case side2 => exact HC0_1.out); (case side3 => exact gC ((Kd.C_below HR1.out HB.out))); (case side4 => exact HC1.out); rintro e w21 ⟨rfl, hb⟩; refine ⟨_, rfl, ?_⟩; have n0_ := aM (blk_below (g := gb446) (o := .cells #[.int .i64 a0_0, .slice A0_1 l0_1.length c0_1] 25 (0, 0)) (gB (BK446.out)) hb); have n1_ := aM (below_step (bl1 HB GE446) hb); clear BK446; clear HB; have BK446 := n0_; have HB := n1_; clear n0_ n1_; (try clear hb); (try clear hb2); (try clear hk); (try clear hi)) | ((with_reducible refine gate_callee (f := 117) rfl ?_); refine goesL_ (some 17) rfl rfl Tryd.func117 (by kernel_rfl) rfl #[.slice A1 l1.length c1] rfl mP ?_; (with_reducible refine (spec_l2Copy.calls _ _ l1 t451 _ ?side1 ?side2 A7.out).mono ?_); (case side1 => exact gC ((Kd.C_below HR1.out HB.out))); (case side2 => exact HC1.out); rintro e w22 ⟨v452, rfl, ho0, hb⟩; refine ⟨_, rfl, ?_⟩; have n0_ := aM (Kd.R_lower ho0 (below_size (bl1 HB GE446))); have n1_ := aM (blk_below (g := gb446) (o := .cells #[.int .i64 a0_0, .slice A0_1 l0_1.length c0_1] 25 (0, 0)) (gB (BK446.out)) hb); have n2_ := aM (below_step (bl1 HB GE446) hb); clear BK446; clear HB; have HO453 := n0_; have BK446 := n1_; have HB := n2_; clear n0_ n1_ n2_; (try clear hb); (try clear hb2); (try clear hk); (try clear hi); (try clear ho0)) | ((with_reducible refine gate_callee (f := 75) rfl ?_); refine goesL_ (some 22) rfl rfl Tryd.func75 (by kernel_rfl) rfl #[.int .i64 a2, .int .i64 0, .int .i64 (wrap64 ((l1.length : Int) - 1))] rfl mP ?_; (with_reducible refine (spec_l1In.calls a2 0 (wrap64 ((l1.length : Int) - 1)) false _ A8.out).mono ?_); rintro e w' ⟨rfl, ⟨nd, rfl⟩⟩; refine ⟨_, rfl, ?_⟩))
  go_ret2
  exact ⟨_, fR, gR (HO453.out), bl1 HB GE446⟩
 subst c9
 have H1 : (if 0 ≤ a2 then (if a2 < (t451.length : Int) then (some ((t451.set (a2 : Int).toNat a3), true)) else (none)) else (none)) = some (r1, r2) := by rw [if_pos rfl] at H; exact H
 clear H
 have H := H1
 clear H1
 by_cases c10 : 0 ≤ a2
 rotate_left
 ·
  rw [if_neg c10] at H
  exact absurd H (by simp)
 rw [if_pos c10] at H
 have c10b0 : decide (0 ≤ a2) = true := decide_eq_true c10
 clear c10
 by_cases c11 : a2 < (t451.length : Int)
 rotate_left
 ·
  rw [if_neg c11] at H
  exact absurd H (by simp)
 rw [if_pos c11] at H
 have c11b0 : decide (a2 < (t451.length : Int)) = true := decide_eq_true c11
 clear c11
 obtain ⟨y455, hy455⟩ : ∃ y_ : List Bool, y_ = (t451.set (a2 : Int).toNat a3) := ⟨_, rfl⟩
 replace H : (some (y455, true)) = some (r1, r2) := by first | (rw [hy455]; with_reducible exact H) | (have H2_ := (Option.bind_some _ _).symm.trans H; rw [hy455]; with_reducible exact H2_) | (have H2_ := (Option.bind_some _ _).symm.trans H; with_reducible exact H2_) | with_reducible exact H | (rw [hy455]; exact H) | exact H
 have Ny455 := Aside0.mk hy455
 clear hy455
 simp only [Option.some.injEq, Prod.mk.injEq] at H
 obtain ⟨rfl, rfl⟩ := H
 go_enter Tryd.func84, Tryd.ntmps84
 go_wp2_with (first | ((with_reducible refine gate_dst (N := 4) rfl ?_); refine box_event ?hg (N := 4) ?hd (cs := #[.int .i64 a0_0, .slice A0_1 l0_1.length c0_1]) (t := 25) ?hr ?_; (case hd => rfl); (case hg => rfl); (case hr => exact hR); intro gb446 hg w13 hbox hb; have n0_ := aM (below_step (bl0 HB) hb); have n1_ := aM (hbox); have n2_ := aM ((by rw [hg]; exact (below_size (bl0 HB)) : w.heap.size ≤ gb446)); have n3_ := aM ((by rw [hg]; exact (below_size (bl0 HB)) : w.heap.size ≤ gb446)); clear HB; have HB := n0_; have BK446 := n1_; have GW446 := n2_; have GE446 := n3_; clear n0_ n1_ n2_ n3_; clear hb hbox hg; have hcz14_0 : w13.cell? ⟨gb446, 0, none⟩ = some (.int .i64 a0_0) := (blk_cell BK446.out 0).trans rfl; have hcz14_1 : w13.cell? ⟨gb446, 1, none⟩ = some (.slice A0_1 l0_1.length c0_1) := (blk_cell BK446.out 1).trans rfl; have hfz14_0 := blk_frozen BK446.out 0; have hfz14_1 := blk_frozen BK446.out 1) | ((with_reducible refine gate_callee (f := 34) rfl ?_); refine goesL_ (some 13) rfl rfl Tryd.func34 (by kernel_rfl) rfl #[.agg #[.int .i64 a0_0, .slice A0_1 l0_1.length c0_1], .slice A1 l1.length c1] rfl mP ?_; (with_reducible refine (spec_StateValid.calls k a0_0 _ _ l0_1 _ _ l1 true _ ?side1 ?side2 ?side3 ?side4 A5.out).mono ?_); (case side1 => exact gC ((Kd.C_below HR0_1.out HB.out))); (case side2 => exact HC0_1.out); (case side3 => exact gC ((Kd.C_below HR1.out HB.out))); (case side4 => exact HC1.out); rintro e w15 ⟨rfl, hb⟩; refine ⟨_, rfl, ?_⟩; have n0_ := aM (blk_below (g := gb446) (o := .cells #[.int .i64 a0_0, .slice A0_1 l0_1.length c0_1] 25 (0, 0)) (gB (BK446.out)) hb); have n1_ := aM (below_step (bl1 HB GE446) hb); clear BK446; clear HB; have BK446 := n0_; have HB := n1_; clear n0_ n1_; (try clear hb); (try clear hb2); (try clear hk); (try clear hi)) | ((with_reducible refine gate_callee (f := 117) rfl ?_); refine goesL_ (some 17) rfl rfl Tryd.func117 (by kernel_rfl) rfl #[.slice A1 l1.length c1] rfl mP ?_; (with_reducible refine (spec_l2Copy.calls _ _ l1 t451 _ ?side1 ?side2 A7.out).mono ?_); (case side1 => exact gC ((Kd.C_below HR1.out HB.out))); (case side2 => exact HC1.out); rintro e w16 ⟨v452, rfl, ho0, hb⟩; refine ⟨_, rfl, ?_⟩; have n0_ := aM (Kd.R_lower ho0 (below_size (bl1 HB GE446))); have n1_ := aM (blk_below (g := gb446) (o := .cells #[.int .i64 a0_0, .slice A0_1 l0_1.length c0_1] 25 (0, 0)) (gB (BK446.out)) hb); have n2_ := aM (below_step (bl1 HB GE446) hb); clear BK446; clear HB; have HO453 := n0_; have BK446 := n1_; have HB := n2_; clear n0_ n1_ n2_; (try clear hb); (try clear hb2); (try clear hk); (try clear hi); (try clear ho0)) | ((with_reducible refine gate_callee (f := 75) rfl ?_); refine goesL_ (some 22) rfl rfl Tryd.func75 (by kernel_rfl) rfl #[.int .i64 a2, .int .i64 0, .int .i64 (wrap64 ((l1.length : Int) - 1))] rfl mP ?_; (with_reducible refine (spec_l1In.calls a2 0 (wrap64 ((l1.length : Int) - 1)) true _ A8.out).mono ?_); rintro e w' ⟨rfl, ⟨nd, rfl⟩⟩; refine ⟨_, rfl, ?_⟩; (try (rw [drewN_self w16]; generalize hq_ : World.drewN w16 _ = w16; have n0_ : Aside0 (Kd.R Kd.bool 4 w16 w.heap.size (fun _ => True) v452 t451) := ⟨by rw [← hq_]; exact (gR (HO453.out))⟩; have n1_ : Aside0 (w16.heap[gb446]? = some (.cells #[.int .i64 a0_0, .slice A0_1 l0_1.length c0_1] 25 (0, 0))) := ⟨by rw [← hq_]; exact (gB (BK446.out))⟩; have n2_ : Aside0 (Below w.heap.size w w16) := ⟨by rw [← hq_]; exact (bl1 HB GE446)⟩; clear HO453 BK446 HB hq_; have HO453 := n0_; have BK446 := n1_; have HB := n2_; clear n0_ n1_ n2_)); have p12 : 0 ≤ (a2 : Int) := oD; have q12 : (a2 : Int) < ((t451.length : Int) : Int) := oD; obtain ⟨go12, co12, eo12, gb12, gl12, cl12, HG12⟩ := Kd.R_form HO453.out (by first | omega | (obtain ⟨_, _, e_⟩ := Kd.R_slice HO453.out; injection e_ with _ e_ _; omega)); (first | cases eo12 | (injection eo12 with ea_ en_ ec_; (first | subst ea_ | (injection ea_ with ea_; subst ea_)); subst ec_; clear en_)); have GB12 := Aside0.mk gb12; have GG12 := Aside0.mk HG12; clear gb12 gl12 HG12; obtain ⟨hx12_0, hf12_0⟩ := Kd.R_celln false HO453.out (a2 : Int) p12 q12; replace p12 := eq_true p12; replace q12 := eq_true q12; obtain ⟨hy17_, hz17_⟩ := Kd.R_celln false HO453.out (a2 : Int) (oD) (oD); have HP17 := Kd.R_putg HO453.out (a2 : Int) a3) | ((with_reducible refine gate_store (t := 4) (p := 28) rfl ?_); refine store_event (t := 4) (p := 28) (v := ?vo_w18) (w1 := (w16.setCell ⟨go12, (a2 : Int).toNat, none⟩ (.bool a3))) ?hg ?ho ?hn ?hr ?_; (case ho => rfl); (case hg => rfl); (case hn => rfl); (case hr => exact hR); intro w18 hw; have hg : w16.grownBy w18 (some go12) := (by rw [hw]; exact HP17.2); have hp_ : Kd.R Kd.bool 4 w18 w.heap.size (fun _ => True) (.slice (some ⟨go12, 0, none⟩) t451.length co12) y455 := (by rw [hw, Ny455.out]; exact HP17.1); clear HP17; have n0_ := aM (blk_grown (g := gb446) (o := .cells #[.int .i64 a0_0, .slice A0_1 l0_1.length c0_1] 25 (0, 0)) (gB (BK446.out)) hg (Kd.R_ne HO453.out BK446.out (by decide))); have n1_ := aM (hp_); have n2_ := aM ((by rw [hw]; exact below_set (HB.out) GB12.out : Below w.heap.size w w18)); clear BK446; clear HO453; clear HB; have BK446 := n0_; have HO453 := n1_; have HB := n2_; clear n0_ n1_ n2_; clear hg hw hp_))
 go_ret2
 exact ⟨_, fR, gR (HO453.out), bl1 HB GE446⟩

end Go.Proofs.YtpgjgbjkfgbpaaaDoor.P
namespace Go.Proofs.YtpgjgbjkfgbpaaaDoor.P
open Go.RowKit Go.Proofs.YtpgjgbjkfgbpaaaDoorW.PrintWords Go.Proofs.YtpgjgbjkfgbpaaaDoorW.PrintLast Go.Proofs.YtpgjgbjkfgbpaaaDoorW.PrintMore
attribute [local go_sem] max2_int min2_int max_two min_two max_three min_three max_four min_four   -- for this text's walks alone
set_option linter.unusedVariables false
set_option linter.unusedSimpArgs false

/-! ### spec_l1Has: function 93 -/
def spec_l1Has.l0 : Nat → List Int → Int → Int → Option (Bool)
 | 0, _, _, _ => none
 | k + 1, x0, x1, x5 => if x5 < (x0.length : Int) then (if 0 ≤ x5 then (if (rd x0 x5) = x1 then (some true) else (spec_l1Has.l0 k x0 x1 (wrap64 (x5 + 1)))) else (none)) else (some false)
def spec_l1Has.f (k : Nat) (l0 : List Int) (a1 : Int) : Option (Bool) := spec_l1Has.l0 k l0 a1 0
theorem spec_l1Has.mono_l : ∀ k, (∀ y0 y1 y2, LeO (spec_l1Has.l0 k y0 y1 y2) (spec_l1Has.l0 (k + 1) y0 y1 y2))
 | 0 => fun _ _ _ r h => by simp [spec_l1Has.l0] at h
 | k + 1 => by
  have ih0 := spec_l1Has.mono_l k
  ·
   intro y0 y1 y2
   unfold spec_l1Has.l0
   repeat' first
   | (with_reducible exact ih0 _ _ _)
   | (with_reducible exact LeO.refl _)
   | (with_reducible exact LeO.none _)
   | (with_reducible refine LeO.ite ?_ ?_)
   | (with_reducible refine LeO.bind ?_ (fun _ => ?_))
   | exact ih0 _ _ _
   | exact LeO.none _
   | refine LeO.ite ?_ ?_
   | refine LeO.bind ?_ (fun _ => ?_)
theorem spec_l1Has.mono : ∀ a0 a1 k, LeO (spec_l1Has.f k a0 a1) (spec_l1Has.f (k + 1) a0 a1) := by
 intro a0 a1 k
 have ih0 := spec_l1Has.mono_l k
 unfold spec_l1Has.f
 repeat' first
   | (with_reducible exact ih0 _ _ _)
   | (with_reducible exact LeO.refl _)
   | (with_reducible exact LeO.none _)
   | (with_reducible refine LeO.ite ?_ ?_)
   | (with_reducible refine LeO.bind ?_ (fun _ => ?_))
   | exact ih0 _ _ _
   | exact LeO.none _
   | refine LeO.ite ?_ ?_
   | refine LeO.bind ?_ (fun _ => ?_)
set_option maxHeartbeats 8000000 in
set_option maxRecDepth 100000 in
theorem spec_l1Has.calls (k : Nat) (A0 : Option Addr) (c0 : Nat) (l0 : List Int) (a1 : Int) (r : Bool) (w : World) (hr0 : Kd.C (Kd.int .i64) w A0 l0.length l0) (hc0 : l0.length ≤ c0) (h : spec_l1Has.f k l0 a1 = some r) :
  Calls Tryd.prog 93 #[.slice A0 l0.length c0, .int .i64 a1] w fun e w' => e = .returned (.bool r) ∧ Drawn0 w w' := by
 have HR0 := Aside0.mk hr0
 have HC0 := Aside0.mk hc0
 clear hr0 hc0
 have H : (spec_l1Has.l0 k l0 a1 0) = some r := h
 clear h
 have H' := Aside0.mk H
 clear H
 go_enter Tryd.func93, Tryd.ntmps93
 go_wp2
 go_loopg [5] k (fun kq v5 w' => ∃ (x5_1 : Int), v5 = .int .i64 x5_1 ∧ Aside0 (spec_l1Has.l0 kq l0 a1 x5_1 = some r) ∧ Aside0 (kq ≤ k) ∧ Drawn0 w w')
 case atStart => exact ⟨(0), fS, H', ⟨Nat.le_refl _⟩, by repeat (first | exact Drawn0.refl _ | apply Drawn0.step)⟩
 case round =>
  clear H'
  try clear p2
  obtain ⟨x5_1, rfl, HA, HK1, ⟨m1, rfl⟩⟩ := hrel
  cases gk with
  | zero => exact absurd HA.out (by simp [spec_l1Has.l0])
  | succ k1 =>
   have H := HA.out
   clear HA
   simp only [spec_l1Has.l0] at H
   by_cases c3 : x5_1 < (l0.length : Int)
   rotate_left
   ·
    rw [if_neg c3] at H
    have c3b0 : decide (x5_1 < (l0.length : Int)) = false := decide_eq_false c3
    clear c3
    obtain rfl := Option.some.inj H
    go_wp2
    go_ret
    exact ⟨by first | rfl | (simp; done) | (simp [*]; done), by repeat (first | exact Drawn0.refl _ | apply Drawn0.step)⟩
   rw [if_pos c3] at H
   have c3b0 : decide (x5_1 < (l0.length : Int)) = true := decide_eq_true c3
   clear c3
   by_cases c4 : 0 ≤ x5_1
   rotate_left
   ·
    rw [if_neg c4] at H
    exact absurd H (by simp)
   rw [if_pos c4] at H
   have c4b0 : decide (0 ≤ x5_1) = true := decide_eq_true c4
   clear c4
   by_cases c5 : (rd l0 x5_1) = a1
   ·
    rw [if_pos c5] at H
    have c5b0 : ((rd l0 x5_1) == a1) = true := beq_iff_eq.mpr c5
    have c5b1 : ((rd l0 x5_1) != a1) = false := bne_eq_false_iff_eq.mpr c5
    clear c5
    obtain rfl := Option.some.inj H
    have p456 : 0 ≤ (x5_1 : Int) := oD
    have q456 : x5_1 < (l0.length : Int) := oD
    obtain ⟨ad456, e456, hx456_0⟩ := Kd.at_int HR0.out x5_1 p456 q456
    cases e456
    replace p456 := eq_true p456
    replace q456 := eq_true q456
    go_wp2
    go_ret
    exact ⟨by first | rfl | (simp; done) | (simp [*]; done), by repeat (first | exact Drawn0.refl _ | apply Drawn0.step)⟩
   rw [if_neg c5] at H
   have c5b0 : ((rd l0 x5_1) == a1) = false := beq_eq_false_iff_ne.mpr c5
   have c5b1 : ((rd l0 x5_1) != a1) = true := bne_iff_ne.mpr c5
   have H' := Aside0.mk H
   clear H
   have p456 : 0 ≤ (x5_1 : Int) := oD
   have q456 : x5_1 < (l0.length : Int) := oD
   obtain ⟨ad456, e456, hx456_0⟩ := Kd.at_int HR0.out x5_1 p456 q456
   cases e456
   replace p456 := eq_true p456
   replace q456 := eq_true q456
   go_wp2
   go_roundg k1
   case measure => have := HK1.out; omega
   case rel => exact ⟨(wrap64 (x5_1 + 1)), fS, H', ⟨by have := HK1.out; omega⟩, by repeat (first | exact Drawn0.refl _ | apply Drawn0.step)⟩

end Go.Proofs.YtpgjgbjkfgbpaaaDoor.P
namespace Go.Proofs.YtpgjgbjkfgbpaaaDoor.P
open Go.RowKit Go.Proofs.YtpgjgbjkfgbpaaaDoorW.PrintWords Go.Proofs.YtpgjgbjkfgbpaaaDoorW.PrintLast Go.Proofs.YtpgjgbjkfgbpaaaDoorW.PrintMore
attribute [local go_sem] max2_int min2_int max_two min_two max_three min_three max_four min_four   -- for this text's walks alone
set_option linter.unusedVariables false
set_option linter.unusedSimpArgs false

/-! ### spec_SameIsland: function 85 -/
def spec_SameIsland.f (k : Nat) (a0_0 : Int) (l0_1 : List (S79)) (l1 : List Bool) (a2 : Int) (a3 : Int) : Option (Bool) := (spec_Reached.f k a0_0 l0_1 l1 a2).bind fun t458 => ((spec_l1Has.f k t458 a3).bind fun t461 => (some t461))
theorem spec_SameIsland.mono : ∀ a0 a1 a2 a3 a4 k, LeO (spec_SameIsland.f k a0 a1 a2 a3 a4) (spec_SameIsland.f (k + 1) a0 a1 a2 a3 a4) := by
 intro a0 a1 a2 a3 a4 k
 unfold spec_SameIsland.f
 repeat' first
   | (with_reducible exact spec_Reached.mono _ _ _ _ _)
   | (with_reducible exact spec_l1Has.mono _ _ _)
   | (with_reducible exact LeO.refl _)
   | (with_reducible exact LeO.none _)
   | (with_reducible refine LeO.ite ?_ ?_)
   | (with_reducible refine LeO.bind ?_ (fun _ => ?_))
   | exact spec_Reached.mono _ _ _ _ _
   | exact spec_l1Has.mono _ _ _
   | exact LeO.none _
   | refine LeO.ite ?_ ?_
   | refine LeO.bind ?_ (fun _ => ?_)
set_option maxHeartbeats 8000000 in
set_option maxRecDepth 100000 in
theorem spec_SameIsland.calls (k : Nat) (a0_0 : Int) (A0_1 : Option Addr) (c0_1 : Nat) (l0_1 : List (S79)) (A1 : Option Addr) (c1 : Nat) (l1 : List Bool) (a2 : Int) (a3 : Int) (r : Bool) (w : World) (hr0_1 : Kd.C k79 w A0_1 l0_1.length l0_1) (hc0_1 : l0_1.length ≤ c0_1) (hr1 : Kd.C Kd.bool w A1 l1.length l1) (hc1 : l1.length ≤ c1) (h : spec_SameIsland.f k a0_0 l0_1 l1 a2 a3 = some r) :
  Calls Tryd.prog 85 #[.agg #[.int .i64 a0_0, .slice A0_1 l0_1.length c0_1], .slice A1 l1.length c1, .int .i64 a2, .int .i64 a3] w fun e w' => e = .returned (.bool r) ∧ Below w.heap.size w w' := by
 have hu25 := Tryd.underlying25
 have HR0_1 := Aside0.mk hr0_1
 have HC0_1 := Aside0.mk hc0_1
 clear hr0_1 hc0_1
 have HR1 := Aside0.mk hr1
 have HC1 := Aside0.mk hc1
 clear hr1 hc1
 have HB := aM (Below.refl w.heap.size w)
 have H : ((spec_Reached.f k a0_0 l0_1 l1 a2).bind fun t458 => ((spec_l1Has.f k t458 a3).bind fun t461 => (some t461))) = some r := h
 clear h
 replace H := Option.bind_eq_some_iff.mp H
 obtain ⟨t458, A50, H⟩ := H
 replace H : ((spec_l1Has.f k t458 a3).bind fun t461 => (some t461)) = some r := H
 have A5 := Aside0.mk A50
 clear A50
 replace H := Option.bind_eq_some_iff.mp H
 obtain ⟨t461, A60, H⟩ := H
 replace H : (some t461) = some r := H
 have A6 := Aside0.mk A60
 clear A60
 obtain rfl := Option.some.inj H
 go_enter Tryd.func85, Tryd.ntmps85
 go_wp2_with (first | ((with_reducible refine gate_dst (N := 4) rfl ?_); refine box_event ?hg (N := 4) ?hd (cs := #[.int .i64 a0_0, .slice A0_1 l0_1.length c0_1]) (t := 25) ?hr ?_; (case hd => rfl); (case hg => rfl); (case hr => exact hR); intro gb457 hg w7 hbox hb; have n0_ := aM (below_step (bl0 HB) hb); have n1_ := aM (hbox); have n2_ := aM ((by rw [hg]; exact (below_size (bl0 HB)) : w.heap.size ≤ gb457)); have n3_ := aM ((by rw [hg]; exact (below_size (bl0 HB)) : w.heap.size ≤ gb457)); clear HB; have HB := n0_; have BK457 := n1_; have GW457 := n2_; have GE457 := n3_; clear n0_ n1_ n2_ n3_; clear hb hbox hg; have hcz8_0 : w7.cell? ⟨gb457, 0, none⟩ = some (.int .i64 a0_0) := (blk_cell BK457.out 0).trans rfl; have hcz8_1 : w7.cell? ⟨gb457, 1, none⟩ = some (.slice A0_1 l0_1.length c0_1) := (blk_cell BK457.out 1).trans rfl; have hfz8_0 := blk_frozen BK457.out 0; have hfz8_1 := blk_frozen BK457.out 1) | ((with_reducible refine gate_callee (f := 76) rfl ?_); refine goesL_ (some 12) rfl rfl Tryd.func76 (by kernel_rfl) rfl #[.agg #[.int .i64 a0_0, .slice A0_1 l0_1.length c0_1], .slice A1 l1.length c1, .int .i64 a2] rfl mP ?_; (with_reducible refine (spec_Reached.calls k a0_0 _ _ l0_1 _ _ l1 a2 t458 _ ?side1 ?side2 ?side3 ?side4 A5.out).mono ?_); (case side1 => exact gC ((Kd.C_below HR0_1.out HB.out))); (case side2 => exact HC0_1.out); (case side3 => exact gC ((Kd.C_below HR1.out HB.out))); (case side4 => exact HC1.out); rintro e w9 ⟨v459, rfl, ho0, hb⟩; refine ⟨_, rfl, ?_⟩; have n0_ := aM (Kd.R_lower ho0 (below_size (bl1 HB GE457))); have n1_ := aM (blk_below (g := gb457) (o := .cells #[.int .i64 a0_0, .slice A0_1 l0_1.length c0_1] 25 (0, 0)) (gB (BK457.out)) hb); have n2_ := aM (below_step (bl1 HB GE457) hb); clear BK457; clear HB; have HO460 := n0_; have BK457 := n1_; have HB := n2_; clear n0_ n1_ n2_; (try clear hb); (try clear hb2); (try clear hk); (try clear hi); (try clear ho0); obtain ⟨Ao10, co10, eo10⟩ := Kd.R_slice HO460.out; subst eo10) | ((with_reducible refine gate_callee (f := 93) rfl ?_); refine goesL_ (some 14) rfl rfl Tryd.func93 (by kernel_rfl) rfl #[.slice Ao10 t458.length co10, .int .i64 a3] rfl mP ?_; (with_reducible refine (spec_l1Has.calls k _ _ t458 a3 t461 _ ?side1 ?side2 A6.out).mono ?_); (case side1 => exact gC ((Kd.R_reads' HO460.out).2.2)); (case side2 => exact (Kd.R_reads' HO460.out).2.1); rintro e w' ⟨rfl, ⟨nd, rfl⟩⟩; refine ⟨_, rfl, ?_⟩))
 go_ret
 exact ⟨fR, bl1 HB GE457⟩

end Go.Proofs.YtpgjgbjkfgbpaaaDoor.P

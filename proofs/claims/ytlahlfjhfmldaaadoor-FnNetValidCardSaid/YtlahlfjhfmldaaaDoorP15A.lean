/- Contracts of Go functions of this seat's translation, written by this repo's wip/mk.py: it calls the kit's print.py with contracts typed by hand in place of functions that it does not take. Not trusted: Lean checks it. -/
import Derived.Test.YtlahlfjhfmldaaaDoorP0
import Derived.Test.YtlahlfjhfmldaaaDoorP6
import Derived.Test.YtlahlfjhfmldaaaDoorP7
import Derived.Test.YtlahlfjhfmldaaaDoorP9
import Derived.Test.YtlahlfjhfmldaaaDoorP14
namespace Go.Proofs.YtlahlfjhfmldaaaDoor.P
open Go.RowKit Go.Proofs.YtlahlfjhfmldaaaDoorW.PrintWords Go.Proofs.YtlahlfjhfmldaaaDoorW.PrintLast Go.Proofs.YtlahlfjhfmldaaaDoorW.PrintMore
attribute [local go_sem] max2_int min2_int max_two min_two max_three min_three max_four min_four   -- for this text's walks alone
set_option linter.unusedVariables false
set_option linter.unusedSimpArgs false

/-! ### laws_FnNetValid: function 3 -/
def laws_FnNetValid.f (k : Nat) (l0 : List Int) : Option (Bool) := if (l0.length : Int) > 1048576 then (some true) else ((spec_DrawNetValid.f k l0).bind fun bt192 => ((impl_NetValid.f k bt192.1 bt192.2).bind fun t197 => ((spec_NetValid.f k bt192.1 bt192.2).bind fun t198 => (if (t197 != t198) = true then (none) else (if t197 = true then ((some (([] : List (S30)) : List (S30))).bind fun y201 => (if y201.length + bt192.2.length < 5864062014805 then ((some (y201 ++ bt192.2 : List (S30))).bind fun y204 => ((some (([(⟨0, 0, 1⟩ : S30)] : List (S30)) : List (S30))).bind fun y207 => (if y204.length + y207.length < 5864062014805 then ((some (y204 ++ y207 : List (S30))).bind fun y210 => ((some (([] : List (S30)) : List (S30))).bind fun y214 => (if y214.length + bt192.2.length < 5864062014805 then ((some (y214 ++ bt192.2 : List (S30))).bind fun y217 => (if (bt192.2.length : Int) > 0 then (if 0 ≤ (wrap64 ((bt192.2.length : Int) - 1)) then (if (wrap64 ((bt192.2.length : Int) - 1)) ≤ (y217.length : Int) then ((impl_NetValid.f k bt192.1 (y217.take ((wrap64 ((bt192.2.length : Int) - 1)) : Int).toNat)).bind fun t224 => (if t224 = true then ((impl_NetValid.f k bt192.1 y210).bind fun t225 => (some (!t225))) else (none))) else (none)) else (none)) else ((impl_NetValid.f k bt192.1 y217).bind fun t226 => (if t226 = true then ((impl_NetValid.f k bt192.1 y210).bind fun t227 => (some (!t227))) else (none))))) else (none)))) else (none)))) else (none))) else ((impl_NetValid.f k 0 ([] : List (S30))).bind fun t199 => (if t199 = true then (none) else ((laws_alive.f k).bind fun t200 => (some t200)))))))))
theorem laws_FnNetValid.mono : ∀ a0 k, LeO (laws_FnNetValid.f k a0) (laws_FnNetValid.f (k + 1) a0) := by
 intro a0 k
 unfold laws_FnNetValid.f
 repeat' first
   | (with_reducible exact impl_NetValid.mono _ _ _)
   | (with_reducible exact laws_alive.mono _)
   | (with_reducible exact spec_DrawNetValid.mono _ _)
   | (with_reducible exact spec_NetValid.mono _ _ _)
   | (with_reducible exact LeO.refl _)
   | (with_reducible exact LeO.none _)
   | (with_reducible refine LeO.ite ?_ ?_)
   | (with_reducible refine LeO.bind ?_ (fun _ => ?_))
   | exact impl_NetValid.mono _ _ _
   | exact laws_alive.mono _
   | exact spec_DrawNetValid.mono _ _
   | exact spec_NetValid.mono _ _ _
   | exact LeO.none _
   | refine LeO.ite ?_ ?_
   | refine LeO.bind ?_ (fun _ => ?_)
def laws_FnNetValid.T9 : Bool × List (List Nat × List Nat) := (true, [([], []), ([0], [0]), ([], []), ([], []), ([3], [3]), ([2, 4], [2, 4]), ([], []), ([6], [6]), ([5, 7, 5], [5, 7]), ([1, 8], [1, 8]), ([], []), ([10, 9, 8, 0, 1, 2, 3, 4, 5, 6, 7, 8, 9, 10], [9, 10])])
def laws_FnNetValid.B9 : List Nat := [0, 1, 0, 0, 8, 28, 0, 64, 252, 511, 0, 2047]
theorem laws_FnNetValid.tab9 : rtab .any (opsOf Tryd.f3 9) = laws_FnNetValid.T9 := by kernel_rfl
theorem laws_FnNetValid.bits9 : waitsOk laws_FnNetValid.T9.2 laws_FnNetValid.B9 = true := by kernel_rfl
def laws_FnNetValid.T10 : Bool × List (List Nat × List Nat) := (true, [([], []), ([0], [0]), ([], []), ([], []), ([3], [3]), ([2, 4], [2, 4]), ([1, 5], [1, 5]), ([], []), ([7, 6, 5, 0, 1, 2, 3, 4, 5, 6, 7], [6, 7])])
def laws_FnNetValid.B10 : List Nat := [0, 1, 0, 0, 8, 28, 63, 0, 255]
theorem laws_FnNetValid.tab10 : rtab .any (opsOf Tryd.f3 10) = laws_FnNetValid.T10 := by kernel_rfl
theorem laws_FnNetValid.bits10 : waitsOk laws_FnNetValid.T10.2 laws_FnNetValid.B10 = true := by kernel_rfl
set_option maxHeartbeats 8000000 in
set_option maxRecDepth 100000 in
theorem laws_FnNetValid.calls_some (k : Nat) (A0 : Option Addr) (c0 : Nat) (l0 : List Int) (r : Bool) (w : World) (hr0 : Kd.C (Kd.int .u8) w A0 l0.length l0) (hc0 : l0.length ≤ c0) (hSp : ∀ bt, spec_DrawNetValid.f k l0 = some bt → (bt.2.length : Int) > 0) (h : laws_FnNetValid.f k l0 = some r) :
  Calls Tryd.prog 3 #[.slice A0 l0.length c0] w fun e w' => e = .returned (.bool r) ∧ Below w.heap.size w w' := by
 have hu25 := Tryd.underlying25
 have hu30 := Tryd.underlying30
 have HR0 := Aside0.mk hr0
 have HC0 := Aside0.mk hc0
 clear hr0 hc0
 have HB := Aside0.mk (Below.refl w.heap.size w)
 have H : (if (l0.length : Int) > 1048576 then (some true) else ((spec_DrawNetValid.f k l0).bind fun bt192 => ((impl_NetValid.f k bt192.1 bt192.2).bind fun t197 => ((spec_NetValid.f k bt192.1 bt192.2).bind fun t198 => (if (t197 != t198) = true then (none) else (if t197 = true then ((some (([] : List (S30)) : List (S30))).bind fun y201 => (if y201.length + bt192.2.length < 5864062014805 then ((some (y201 ++ bt192.2 : List (S30))).bind fun y204 => ((some (([(⟨0, 0, 1⟩ : S30)] : List (S30)) : List (S30))).bind fun y207 => (if y204.length + y207.length < 5864062014805 then ((some (y204 ++ y207 : List (S30))).bind fun y210 => ((some (([] : List (S30)) : List (S30))).bind fun y214 => (if y214.length + bt192.2.length < 5864062014805 then ((some (y214 ++ bt192.2 : List (S30))).bind fun y217 => (if (bt192.2.length : Int) > 0 then (if 0 ≤ (wrap64 ((bt192.2.length : Int) - 1)) then (if (wrap64 ((bt192.2.length : Int) - 1)) ≤ (y217.length : Int) then ((impl_NetValid.f k bt192.1 (y217.take ((wrap64 ((bt192.2.length : Int) - 1)) : Int).toNat)).bind fun t224 => (if t224 = true then ((impl_NetValid.f k bt192.1 y210).bind fun t225 => (some (!t225))) else (none))) else (none)) else (none)) else ((impl_NetValid.f k bt192.1 y217).bind fun t226 => (if t226 = true then ((impl_NetValid.f k bt192.1 y210).bind fun t227 => (some (!t227))) else (none))))) else (none)))) else (none)))) else (none))) else ((impl_NetValid.f k 0 ([] : List (S30))).bind fun t199 => (if t199 = true then (none) else ((laws_alive.f k).bind fun t200 => (some t200)))))))))) = some r := h
 clear h
 by_cases c2 : (l0.length : Int) > 1048576
 ·
  rw [if_pos c2] at H
  have c2b0 : decide (1048576 < (l0.length : Int)) = true := decide_eq_true c2
  have c2b1 : decide (1048576 < l0.length) = true := decide_eq_true (by omega)
  clear c2
  obtain rfl := Option.some.inj H
  go_enter Tryd.func3, Tryd.ntmps3
  go_wp2
  go_ret
  exact ⟨by first | rfl | (simp [errW_none, errW_some] <;> rfl) | (simp [*, errW_none, errW_some] <;> rfl), by repeat (first | (with_reducible first | exact HB.out | apply below_alloc | apply pw_below_drewN | apply below_drew1) | exact HB.out)⟩
 ·
  rw [if_neg c2] at H
  have c2b0 : decide (1048576 < (l0.length : Int)) = false := decide_eq_false c2
  have c2b1 : decide (1048576 < l0.length) = false := decide_eq_false (by omega)
  clear c2
  replace H := Option.bind_eq_some_iff.mp H
  obtain ⟨⟨t192, t193⟩, A30, H⟩ := H
  replace H : ((impl_NetValid.f k t192 t193).bind fun t197 => ((spec_NetValid.f k t192 t193).bind fun t198 => (if (t197 != t198) = true then (none) else (if t197 = true then ((some (([] : List (S30)) : List (S30))).bind fun y201 => (if y201.length + t193.length < 5864062014805 then ((some (y201 ++ t193 : List (S30))).bind fun y204 => ((some (([(⟨0, 0, 1⟩ : S30)] : List (S30)) : List (S30))).bind fun y207 => (if y204.length + y207.length < 5864062014805 then ((some (y204 ++ y207 : List (S30))).bind fun y210 => ((some (([] : List (S30)) : List (S30))).bind fun y214 => (if y214.length + t193.length < 5864062014805 then ((some (y214 ++ t193 : List (S30))).bind fun y217 => (if (t193.length : Int) > 0 then (if 0 ≤ (wrap64 ((t193.length : Int) - 1)) then (if (wrap64 ((t193.length : Int) - 1)) ≤ (y217.length : Int) then ((impl_NetValid.f k t192 (y217.take ((wrap64 ((t193.length : Int) - 1)) : Int).toNat)).bind fun t224 => (if t224 = true then ((impl_NetValid.f k t192 y210).bind fun t225 => (some (!t225))) else (none))) else (none)) else (none)) else ((impl_NetValid.f k t192 y217).bind fun t226 => (if t226 = true then ((impl_NetValid.f k t192 y210).bind fun t227 => (some (!t227))) else (none))))) else (none)))) else (none)))) else (none))) else ((impl_NetValid.f k 0 ([] : List (S30))).bind fun t199 => (if t199 = true then (none) else ((laws_alive.f k).bind fun t200 => (some t200)))))))) = some r := H
  have A3 := Aside0.mk A30
  clear A30
  replace H := Option.bind_eq_some_iff.mp H
  obtain ⟨t197, A40, H⟩ := H
  replace H : ((spec_NetValid.f k t192 t193).bind fun t198 => (if (t197 != t198) = true then (none) else (if t197 = true then ((some (([] : List (S30)) : List (S30))).bind fun y201 => (if y201.length + t193.length < 5864062014805 then ((some (y201 ++ t193 : List (S30))).bind fun y204 => ((some (([(⟨0, 0, 1⟩ : S30)] : List (S30)) : List (S30))).bind fun y207 => (if y204.length + y207.length < 5864062014805 then ((some (y204 ++ y207 : List (S30))).bind fun y210 => ((some (([] : List (S30)) : List (S30))).bind fun y214 => (if y214.length + t193.length < 5864062014805 then ((some (y214 ++ t193 : List (S30))).bind fun y217 => (if (t193.length : Int) > 0 then (if 0 ≤ (wrap64 ((t193.length : Int) - 1)) then (if (wrap64 ((t193.length : Int) - 1)) ≤ (y217.length : Int) then ((impl_NetValid.f k t192 (y217.take ((wrap64 ((t193.length : Int) - 1)) : Int).toNat)).bind fun t224 => (if t224 = true then ((impl_NetValid.f k t192 y210).bind fun t225 => (some (!t225))) else (none))) else (none)) else (none)) else ((impl_NetValid.f k t192 y217).bind fun t226 => (if t226 = true then ((impl_NetValid.f k t192 y210).bind fun t227 => (some (!t227))) else (none))))) else (none)))) else (none)))) else (none))) else ((impl_NetValid.f k 0 ([] : List (S30))).bind fun t199 => (if t199 = true then (none) else ((laws_alive.f k).bind fun t200 => (some t200))))))) = some r := H
  have A4 := Aside0.mk A40
  clear A40
  replace H := Option.bind_eq_some_iff.mp H
  obtain ⟨t198, A50, H⟩ := H
  replace H : (if (t197 != t198) = true then (none) else (if t197 = true then ((some (([] : List (S30)) : List (S30))).bind fun y201 => (if y201.length + t193.length < 5864062014805 then ((some (y201 ++ t193 : List (S30))).bind fun y204 => ((some (([(⟨0, 0, 1⟩ : S30)] : List (S30)) : List (S30))).bind fun y207 => (if y204.length + y207.length < 5864062014805 then ((some (y204 ++ y207 : List (S30))).bind fun y210 => ((some (([] : List (S30)) : List (S30))).bind fun y214 => (if y214.length + t193.length < 5864062014805 then ((some (y214 ++ t193 : List (S30))).bind fun y217 => (if (t193.length : Int) > 0 then (if 0 ≤ (wrap64 ((t193.length : Int) - 1)) then (if (wrap64 ((t193.length : Int) - 1)) ≤ (y217.length : Int) then ((impl_NetValid.f k t192 (y217.take ((wrap64 ((t193.length : Int) - 1)) : Int).toNat)).bind fun t224 => (if t224 = true then ((impl_NetValid.f k t192 y210).bind fun t225 => (some (!t225))) else (none))) else (none)) else (none)) else ((impl_NetValid.f k t192 y217).bind fun t226 => (if t226 = true then ((impl_NetValid.f k t192 y210).bind fun t227 => (some (!t227))) else (none))))) else (none)))) else (none)))) else (none))) else ((impl_NetValid.f k 0 ([] : List (S30))).bind fun t199 => (if t199 = true then (none) else ((laws_alive.f k).bind fun t200 => (some t200)))))) = some r := H
  have A5 := Aside0.mk A50
  clear A50
  by_cases c6 : (t197 != t198) = true
  ·
   rw [if_pos c6] at H
   exact absurd H (by simp)
  ·
   rw [if_neg c6] at H
   have c6b0 : (t197 != t198) = false := by simpa using c6
   (try (have c6b1 : decide (t197 = t198) = true := by simpa using c6))
   (try (have c6b2 : (t197 == t198) = true := by simpa using c6))
   clear c6
   by_cases c7 : t197 = true
   ·
    subst c7
    have H1 : ((some (([] : List (S30)) : List (S30))).bind fun y201 => (if y201.length + t193.length < 5864062014805 then ((some (y201 ++ t193 : List (S30))).bind fun y204 => ((some (([(⟨0, 0, 1⟩ : S30)] : List (S30)) : List (S30))).bind fun y207 => (if y204.length + y207.length < 5864062014805 then ((some (y204 ++ y207 : List (S30))).bind fun y210 => ((some (([] : List (S30)) : List (S30))).bind fun y214 => (if y214.length + t193.length < 5864062014805 then ((some (y214 ++ t193 : List (S30))).bind fun y217 => (if (t193.length : Int) > 0 then (if 0 ≤ (wrap64 ((t193.length : Int) - 1)) then (if (wrap64 ((t193.length : Int) - 1)) ≤ (y217.length : Int) then ((impl_NetValid.f k t192 (y217.take ((wrap64 ((t193.length : Int) - 1)) : Int).toNat)).bind fun t224 => (if t224 = true then ((impl_NetValid.f k t192 y210).bind fun t225 => (some (!t225))) else (none))) else (none)) else (none)) else ((impl_NetValid.f k t192 y217).bind fun t226 => (if t226 = true then ((impl_NetValid.f k t192 y210).bind fun t227 => (some (!t227))) else (none))))) else (none)))) else (none)))) else (none))) = some r := by rw [if_pos rfl] at H; exact H
    clear H
    have H := H1
    clear H1
    obtain ⟨y201, hy201⟩ : ∃ y_ : List (S30), y_ = (([] : List (S30))) := ⟨_, rfl⟩
    replace H : (if y201.length + t193.length < 5864062014805 then ((some (y201 ++ t193 : List (S30))).bind fun y204 => ((some (([(⟨0, 0, 1⟩ : S30)] : List (S30)) : List (S30))).bind fun y207 => (if y204.length + y207.length < 5864062014805 then ((some (y204 ++ y207 : List (S30))).bind fun y210 => ((some (([] : List (S30)) : List (S30))).bind fun y214 => (if y214.length + t193.length < 5864062014805 then ((some (y214 ++ t193 : List (S30))).bind fun y217 => (if (t193.length : Int) > 0 then (if 0 ≤ (wrap64 ((t193.length : Int) - 1)) then (if (wrap64 ((t193.length : Int) - 1)) ≤ (y217.length : Int) then ((impl_NetValid.f k t192 (y217.take ((wrap64 ((t193.length : Int) - 1)) : Int).toNat)).bind fun t224 => (if t224 = true then ((impl_NetValid.f k t192 y210).bind fun t225 => (some (!t225))) else (none))) else (none)) else (none)) else ((impl_NetValid.f k t192 y217).bind fun t226 => (if t226 = true then ((impl_NetValid.f k t192 y210).bind fun t227 => (some (!t227))) else (none))))) else (none)))) else (none)))) else (none)) = some r := by first | (rw [hy201]; with_reducible exact H) | (have H2_ := (Option.bind_some _ _).symm.trans H; rw [hy201]; with_reducible exact H2_) | (have H2_ := (Option.bind_some _ _).symm.trans H; with_reducible exact H2_) | with_reducible exact H | (rw [hy201]; exact H) | exact H
    have Ny201 := Aside0.mk hy201
    clear hy201
    by_cases c8 : y201.length + t193.length < 5864062014805
    ·
     rw [if_pos c8] at H
     have LMc8 := Aside0.mk c8
     clear c8
     obtain ⟨y204, hy204⟩ : ∃ y_ : List (S30), y_ = (y201 ++ t193) := ⟨_, rfl⟩
     replace H : ((some (([(⟨0, 0, 1⟩ : S30)] : List (S30)) : List (S30))).bind fun y207 => (if y204.length + y207.length < 5864062014805 then ((some (y204 ++ y207 : List (S30))).bind fun y210 => ((some (([] : List (S30)) : List (S30))).bind fun y214 => (if y214.length + t193.length < 5864062014805 then ((some (y214 ++ t193 : List (S30))).bind fun y217 => (if (t193.length : Int) > 0 then (if 0 ≤ (wrap64 ((t193.length : Int) - 1)) then (if (wrap64 ((t193.length : Int) - 1)) ≤ (y217.length : Int) then ((impl_NetValid.f k t192 (y217.take ((wrap64 ((t193.length : Int) - 1)) : Int).toNat)).bind fun t224 => (if t224 = true then ((impl_NetValid.f k t192 y210).bind fun t225 => (some (!t225))) else (none))) else (none)) else (none)) else ((impl_NetValid.f k t192 y217).bind fun t226 => (if t226 = true then ((impl_NetValid.f k t192 y210).bind fun t227 => (some (!t227))) else (none))))) else (none)))) else (none))) = some r := by first | (rw [hy204]; with_reducible exact H) | (have H2_ := (Option.bind_some _ _).symm.trans H; rw [hy204]; with_reducible exact H2_) | (have H2_ := (Option.bind_some _ _).symm.trans H; with_reducible exact H2_) | with_reducible exact H | (rw [hy204]; exact H) | exact H
     have Ny204 := Aside0.mk hy204
     clear hy204
     obtain ⟨y207, hy207⟩ : ∃ y_ : List (S30), y_ = (([(⟨0, 0, 1⟩ : S30)] : List (S30))) := ⟨_, rfl⟩
     replace H : (if y204.length + y207.length < 5864062014805 then ((some (y204 ++ y207 : List (S30))).bind fun y210 => ((some (([] : List (S30)) : List (S30))).bind fun y214 => (if y214.length + t193.length < 5864062014805 then ((some (y214 ++ t193 : List (S30))).bind fun y217 => (if (t193.length : Int) > 0 then (if 0 ≤ (wrap64 ((t193.length : Int) - 1)) then (if (wrap64 ((t193.length : Int) - 1)) ≤ (y217.length : Int) then ((impl_NetValid.f k t192 (y217.take ((wrap64 ((t193.length : Int) - 1)) : Int).toNat)).bind fun t224 => (if t224 = true then ((impl_NetValid.f k t192 y210).bind fun t225 => (some (!t225))) else (none))) else (none)) else (none)) else ((impl_NetValid.f k t192 y217).bind fun t226 => (if t226 = true then ((impl_NetValid.f k t192 y210).bind fun t227 => (some (!t227))) else (none))))) else (none)))) else (none)) = some r := by first | (rw [hy207]; with_reducible exact H) | (have H2_ := (Option.bind_some _ _).symm.trans H; rw [hy207]; with_reducible exact H2_) | (have H2_ := (Option.bind_some _ _).symm.trans H; with_reducible exact H2_) | with_reducible exact H | (rw [hy207]; exact H) | exact H
     have Ny207 := Aside0.mk hy207
     clear hy207
     by_cases c9 : y204.length + y207.length < 5864062014805
     ·
      rw [if_pos c9] at H
      have LMc9 := Aside0.mk c9
      clear c9
      obtain ⟨y210, hy210⟩ : ∃ y_ : List (S30), y_ = (y204 ++ y207) := ⟨_, rfl⟩
      replace H : ((some (([] : List (S30)) : List (S30))).bind fun y214 => (if y214.length + t193.length < 5864062014805 then ((some (y214 ++ t193 : List (S30))).bind fun y217 => (if (t193.length : Int) > 0 then (if 0 ≤ (wrap64 ((t193.length : Int) - 1)) then (if (wrap64 ((t193.length : Int) - 1)) ≤ (y217.length : Int) then ((impl_NetValid.f k t192 (y217.take ((wrap64 ((t193.length : Int) - 1)) : Int).toNat)).bind fun t224 => (if t224 = true then ((impl_NetValid.f k t192 y210).bind fun t225 => (some (!t225))) else (none))) else (none)) else (none)) else ((impl_NetValid.f k t192 y217).bind fun t226 => (if t226 = true then ((impl_NetValid.f k t192 y210).bind fun t227 => (some (!t227))) else (none))))) else (none))) = some r := by first | (rw [hy210]; with_reducible exact H) | (have H2_ := (Option.bind_some _ _).symm.trans H; rw [hy210]; with_reducible exact H2_) | (have H2_ := (Option.bind_some _ _).symm.trans H; with_reducible exact H2_) | with_reducible exact H | (rw [hy210]; exact H) | exact H
      have Ny210 := Aside0.mk hy210
      clear hy210
      obtain ⟨y214, hy214⟩ : ∃ y_ : List (S30), y_ = (([] : List (S30))) := ⟨_, rfl⟩
      replace H : (if y214.length + t193.length < 5864062014805 then ((some (y214 ++ t193 : List (S30))).bind fun y217 => (if (t193.length : Int) > 0 then (if 0 ≤ (wrap64 ((t193.length : Int) - 1)) then (if (wrap64 ((t193.length : Int) - 1)) ≤ (y217.length : Int) then ((impl_NetValid.f k t192 (y217.take ((wrap64 ((t193.length : Int) - 1)) : Int).toNat)).bind fun t224 => (if t224 = true then ((impl_NetValid.f k t192 y210).bind fun t225 => (some (!t225))) else (none))) else (none)) else (none)) else ((impl_NetValid.f k t192 y217).bind fun t226 => (if t226 = true then ((impl_NetValid.f k t192 y210).bind fun t227 => (some (!t227))) else (none))))) else (none)) = some r := by first | (rw [hy214]; with_reducible exact H) | (have H2_ := (Option.bind_some _ _).symm.trans H; rw [hy214]; with_reducible exact H2_) | (have H2_ := (Option.bind_some _ _).symm.trans H; with_reducible exact H2_) | with_reducible exact H | (rw [hy214]; exact H) | exact H
      have Ny214 := Aside0.mk hy214
      clear hy214
      by_cases c10 : y214.length + t193.length < 5864062014805
      ·
       rw [if_pos c10] at H
       have LMc10 := Aside0.mk c10
       clear c10
       obtain ⟨y217, hy217⟩ : ∃ y_ : List (S30), y_ = (y214 ++ t193) := ⟨_, rfl⟩
       replace H : (if (t193.length : Int) > 0 then (if 0 ≤ (wrap64 ((t193.length : Int) - 1)) then (if (wrap64 ((t193.length : Int) - 1)) ≤ (y217.length : Int) then ((impl_NetValid.f k t192 (y217.take ((wrap64 ((t193.length : Int) - 1)) : Int).toNat)).bind fun t224 => (if t224 = true then ((impl_NetValid.f k t192 y210).bind fun t225 => (some (!t225))) else (none))) else (none)) else (none)) else ((impl_NetValid.f k t192 y217).bind fun t226 => (if t226 = true then ((impl_NetValid.f k t192 y210).bind fun t227 => (some (!t227))) else (none)))) = some r := by first | (rw [hy217]; with_reducible exact H) | (have H2_ := (Option.bind_some _ _).symm.trans H; rw [hy217]; with_reducible exact H2_) | (have H2_ := (Option.bind_some _ _).symm.trans H; with_reducible exact H2_) | with_reducible exact H | (rw [hy217]; exact H) | exact H
       have Ny217 := Aside0.mk hy217
       clear hy217
       by_cases c11 : (t193.length : Int) > 0
       ·
        rw [if_pos c11] at H
        have c11b0 : decide (0 < (t193.length : Int)) = true := decide_eq_true c11
        have c11b1 : decide (0 < t193.length) = true := decide_eq_true (by omega)
        clear c11
        obtain ⟨ji12, hji12⟩ : ∃ j_ : Int, (wrap64 ((t193.length : Int) - 1)) = j_ := ⟨_, rfl⟩
        replace H : (if 0 ≤ (ji12) then (if (ji12) ≤ (y217.length : Int) then ((impl_NetValid.f k t192 (y217.take ((ji12) : Int).toNat)).bind fun t224 => (if t224 = true then ((impl_NetValid.f k t192 y210).bind fun t225 => (some (!t225))) else (none))) else (none)) else (none)) = some r := by first | (rw [hji12] at H; exact H) | (simp only [hji12] at H ⊢; exact H)
        (try rw [hji12] at A3)
        (try rw [hji12] at A4)
        (try rw [hji12] at A5)
        have hji12w : (IntKind.i64.wrap ((t193.length : Int) - 1)) = ji12 := (i64_w _).trans hji12
        by_cases c13 : 0 ≤ (ji12)
        ·
         rw [if_pos c13] at H
         have c13b0 := eq_true c13
         have c13b1 : decide (0 ≤ (ji12)) = true := decide_eq_true c13
         clear c13
         by_cases c14 : (ji12) ≤ (y217.length : Int)
         ·
          rw [if_pos c14] at H
          have c14b0 := eq_true c14
          have c14b1 : decide ((ji12) ≤ (y217.length : Int)) = true := decide_eq_true c14
          clear c14
          obtain ⟨y221, hy221⟩ : ∃ y_ : List (S30), y_ = (y217.take ((ji12) : Int).toNat) := ⟨_, rfl⟩
          replace H : ((impl_NetValid.f k t192 y221).bind fun t224 => (if t224 = true then ((impl_NetValid.f k t192 y210).bind fun t225 => (some (!t225))) else (none))) = some r := by first | (rw [hy221]; with_reducible exact H) | (have H2_ := (Option.bind_some _ _).symm.trans H; rw [hy221]; with_reducible exact H2_) | (have H2_ := (Option.bind_some _ _).symm.trans H; with_reducible exact H2_) | with_reducible exact H | (rw [hy221]; exact H) | exact H
          have Ny221 := Aside0.mk hy221
          clear hy221
          replace H := Option.bind_eq_some_iff.mp H
          obtain ⟨t224, A150, H⟩ := H
          replace H : (if t224 = true then ((impl_NetValid.f k t192 y210).bind fun t225 => (some (!t225))) else (none)) = some r := H
          have A15 := Aside0.mk A150
          clear A150
          by_cases c16 : t224 = true
          ·
           subst c16
           have H1 : ((impl_NetValid.f k t192 y210).bind fun t225 => (some (!t225))) = some r := by rw [if_pos rfl] at H; exact H
           clear H
           have H := H1
           clear H1
           replace H := Option.bind_eq_some_iff.mp H
           obtain ⟨t225, A170, H⟩ := H
           replace H : (some (!t225)) = some r := H
           have A17 := Aside0.mk A170
           clear A170
           obtain rfl := Option.some.inj H
           go_enter Tryd.func3, Tryd.ntmps3
           try go_wp2_with (first | ((with_reducible refine gate_callee (f := 12) rfl ?_); refine goesL_ (some 11) rfl rfl Tryd.func12 (by kernel_rfl) rfl #[.slice A0 l0.length c0] rfl (by (try simp only [List.map_toArray, List.map_cons, List.map_nil]); first | done | rfl | (simp only [List.length_drop, List.length_take]; rfl)) ?_; (with_reducible refine (spec_DrawNetValid.calls k _ _ l0 t192 t193 _ ?side1 ?side2 A3.out).mono ?_); (case side1 => repeat (first | exact HR0.out | (with_reducible refine Kd.C_alloc ?_ _) | (with_reducible refine Kd.C_drewN ?_ _) | (with_reducible refine Kd.C_drew ?_))); (case side2 => exact HC0.out); rintro e w18 ⟨v194, rfl, ho0, hb⟩; refine ⟨_, rfl, ?_⟩; have n0_ := Aside0.mk (Kd.R_lower ho0 (below_size (by repeat (first | (with_reducible first | exact HB.out | apply below_alloc | apply pw_below_drewN | apply below_drew1) | exact HB.out)))); have n1_ := Aside0.mk (below_step (by repeat (first | (with_reducible first | exact HB.out | apply below_alloc | apply pw_below_drewN | apply below_drew1) | exact HB.out)) hb); clear HB; have HO195 := n0_; have HB := n1_; clear n0_ n1_; (try clear hb); (try clear hb2); (try clear hk); (try clear hi); (try clear ho0)) | ((with_reducible refine gate_dst (N := 3) rfl ?_); refine box_event ?hg (N := 3) ?hd (cs := #[.int .i64 0, .slice none 0 0]) (t := 25) ?hr ?_; (case hd => rfl); (case hg => rfl); (case hr => first | (go_simp; done) | (go_simp; rfl)); intro gb196 hg w19 hbox hb; have n0_ := Aside0.mk (Kd.R_below (by (with_reducible repeat (first | apply Kd.R_alloc | apply Kd.R_drewN | apply Kd.R_drew)); exact HO195.out) hb); have n1_ := Aside0.mk (below_step (by repeat (first | (with_reducible first | exact HB.out | apply below_alloc | apply pw_below_drewN | apply below_drew1) | exact HB.out)) hb); have n2_ := Aside0.mk (hbox); have n3_ := Aside0.mk ((by rw [hg]; exact (below_size (by repeat (first | (with_reducible first | exact HB.out | apply below_alloc | apply pw_below_drewN | apply below_drew1) | exact HB.out))) : w.heap.size ≤ gb196)); have n4_ := Aside0.mk ((by rw [hg]; exact (below_size (by repeat (first | (with_reducible first | exact HB.out | apply below_alloc | apply pw_below_drewN | apply below_drew1) | exact HB.out))) : w.heap.size ≤ gb196)); clear HO195; clear HB; have HO195 := n0_; have HB := n1_; have BK196 := n2_; have GW196 := n3_; have GE196 := n4_; clear n0_ n1_ n2_ n3_ n4_; clear hb hbox hg; have hcz20_0 : w19.cell? ⟨gb196, 0, none⟩ = some (.int .i64 0) := (blk_cell BK196.out 0).trans rfl; have hcz20_1 : w19.cell? ⟨gb196, 1, none⟩ = some (.slice none 0 0) := (blk_cell BK196.out 1).trans rfl; have hfz20_0 := blk_frozen BK196.out 0; have hfz20_1 := blk_frozen BK196.out 1; obtain ⟨Ao21, co21, eo21⟩ := Kd.R_slice HO195.out; subst eo21) | ((with_reducible refine gate_callee (f := 13) rfl ?_); refine goesL_ (some 13) rfl rfl Tryd.func13 (by kernel_rfl) rfl #[.agg #[.int .i64 t192, .slice Ao21 t193.length co21]] rfl (by (try simp only [List.map_toArray, List.map_cons, List.map_nil]); first | done | rfl | (simp only [List.length_drop, List.length_take]; rfl)) ?_; (with_reducible refine (impl_NetValid.calls k t192 _ _ t193 true _ ?side1 ?side2 A4.out).mono ?_); (case side1 => refine (Kd.R_reads' (e := 30) (base := w.heap.size) (ok := fun k_ => True) (n := t193.length) (c := co21) ?_).2.2; exact (by (with_reducible repeat (first | apply Kd.R_alloc | apply Kd.R_drewN | apply Kd.R_drew)); exact (Kd.R_mono (Kd.R_far (p := ⟨gb196, 1, none⟩) (Kd.R_far (p := ⟨gb196, 0, none⟩) (Kd.R_types HO195.out BK196.out (by decide)) (fun _ hk => hk.2) (.int .i64 t192)) (fun _ hk => hk.2) (.slice Ao21 t193.length co21)) (fun _ h_ => h_.1)))); (case side2 => exact (Kd.R_reads' HO195.out).2.1); rintro e w22 ⟨rfl, hb⟩; refine ⟨_, rfl, ?_⟩; have n0_ := Aside0.mk (Kd.R_below (by (with_reducible repeat (first | apply Kd.R_alloc | apply Kd.R_drewN | apply Kd.R_drew)); exact (Kd.R_mono (Kd.R_far (p := ⟨gb196, 1, none⟩) (Kd.R_far (p := ⟨gb196, 0, none⟩) (Kd.R_types HO195.out BK196.out (by decide)) (fun _ hk => hk.2) (.int .i64 t192)) (fun _ hk => hk.2) (.slice Ao21 t193.length co21)) (fun _ h_ => h_.1))) hb); have n1_ := Aside0.mk (blk_below (g := gb196) (o := .cells #[.int .i64 t192, .slice Ao21 t193.length co21] 25 (0, 0)) (by (with_reducible repeat (first | refine blk_drewN ?_ _ | refine blk_drew ?_ | refine blk_alloc ?_ _)); refine blk_put (cs := #[.int .i64 t192, .slice none 0 0]) ?_ 1 _ rfl; (with_reducible repeat (first | refine blk_drewN ?_ _ | refine blk_drew ?_ | refine blk_alloc ?_ _)); refine blk_put (cs := #[.int .i64 0, .slice none 0 0]) ?_ 0 _ rfl; (with_reducible repeat (first | refine blk_drewN ?_ _ | refine blk_drew ?_ | refine blk_alloc ?_ _)); exact BK196.out) hb); have n2_ := Aside0.mk (below_step (by repeat (first | (with_reducible first | exact HB.out | apply below_alloc | apply pw_below_drewN | apply below_drew1 | refine below_set ?_ GE196.out) | exact HB.out)) hb); clear HO195; clear BK196; clear HB; have HO195 := n0_; have BK196 := n1_; have HB := n2_; clear n0_ n1_ n2_; (try clear hb); (try clear hb2); (try clear hk); (try clear hi); have hcz23_0 : w22.cell? ⟨gb196, 0, none⟩ = some (.int .i64 t192) := (blk_cell BK196.out 0).trans rfl; have hcz23_1 : w22.cell? ⟨gb196, 1, none⟩ = some (.slice Ao21 t193.length co21) := (blk_cell BK196.out 1).trans rfl; have hfz23_0 := blk_frozen BK196.out 0; have hfz23_1 := blk_frozen BK196.out 1) | ((with_reducible refine gate_callee (f := 14) rfl ?_); refine goesL_ (some 16) rfl rfl Tryd.func14 (by kernel_rfl) rfl #[.agg #[.int .i64 t192, .slice Ao21 t193.length co21]] rfl (by (try simp only [List.map_toArray, List.map_cons, List.map_nil]); first | done | rfl | (simp only [List.length_drop, List.length_take]; rfl)) ?_; (with_reducible refine (spec_NetValid.calls k t192 _ _ t193 t198 _ ?side1 ?side2 A5.out).mono ?_); (case side1 => repeat (first | exact (Kd.R_reads' HO195.out).2.2 | (with_reducible refine Kd.C_alloc ?_ _) | (with_reducible refine Kd.C_drewN ?_ _) | (with_reducible refine Kd.C_drew ?_))); (case side2 => exact (Kd.R_reads' HO195.out).2.1); rintro e w24 ⟨rfl, hb⟩; refine ⟨_, rfl, ?_⟩; have n0_ := Aside0.mk (Kd.R_below (by (with_reducible repeat (first | apply Kd.R_alloc | apply Kd.R_drewN | apply Kd.R_drew)); exact HO195.out) hb); have n1_ := Aside0.mk (blk_below (g := gb196) (o := .cells #[.int .i64 t192, .slice Ao21 t193.length co21] 25 (0, 0)) (by (with_reducible repeat (first | refine blk_drewN ?_ _ | refine blk_drew ?_ | refine blk_alloc ?_ _)); exact BK196.out) hb); have n2_ := Aside0.mk (below_step (by repeat (first | (with_reducible first | exact HB.out | apply below_alloc | apply pw_below_drewN | apply below_drew1 | refine below_set ?_ GE196.out) | exact HB.out)) hb); clear HO195; clear BK196; clear HB; have HO195 := n0_; have BK196 := n1_; have HB := n2_; clear n0_ n1_ n2_; (try clear hb); (try clear hb2); (try clear hk); (try clear hi)))
           have n0_ := Aside0.mk (Kd.R_drew HO195.out)
           have n1_ := Aside0.mk (blk_drew BK196.out)
           have n2_ := Aside0.mk (below_drew1 HB.out)
           clear HO195
           clear BK196
           clear HB
           have HO195 := n0_
           have BK196 := n1_
           have HB := n2_
           clear n0_ n1_ n2_
           refine start_ (n := 12) (S := fun w' => w'.cell? ⟨gb196, 0, none⟩ = some (.int .i64 t192) ∧ w'.cell? ⟨gb196, 1, none⟩ = some (.slice Ao21 t193.length co21)) (ds := []) #[false, false, false, false, false, false, false, false, false, false, false, false] (by kernel_rfl) rfl rfl ⟨(blk_cell BK196.out 0).trans rfl, (blk_cell BK196.out 1).trans rfl⟩ (fun hHeld => ?_); refine with_tabW laws_FnNetValid.tab9 laws_FnNetValid.bits9 (fun HT_ HW_ => ?_)
           generalize w24.drew = w25 at HO195 BK196 HB hHeld ⊢
           refine pure_ (i := 0) (N := some 26) (v := ?_) (a' := ?_) #[true, false, false, false, false, false, false, false, false, false, false, false] rfl rfl (any_of HT_.out (by kernel_rfl)) (fun _ _ _ h => h) (Or.inl ⟨by rfl, ?_⟩) ?_ ?_
           rotate_left
           ·
            intro w'
            go_simp
            with_reducible rfl
           rotate_left
           ·
            simp only [Act.put, List.setIfInBounds_toArray, List.set_cons_zero, List.set_cons_succ, i64_w, i32_w]
            rfl
           refine pure_ (i := 3) (N := some 29) (v := ?_) (a' := ?_) #[true, false, false, true, false, false, false, false, false, false, false, false] rfl rfl (any_of HT_.out (by kernel_rfl)) (fun _ _ _ h => h) (Or.inl ⟨by rfl, ?_⟩) ?_ ?_
           rotate_left
           ·
            intro w'
            go_simp
            with_reducible rfl
           rotate_left
           ·
            simp only [Act.put, List.setIfInBounds_toArray, List.set_cons_zero, List.set_cons_succ, i64_w, i32_w]
            rfl
           refine pure_ (i := 6) (N := some 32) (v := ?_) (a' := ?_) #[true, false, false, true, false, false, true, false, false, false, false, false] rfl rfl (any_of HT_.out (by kernel_rfl)) (fun _ _ _ h => h) (Or.inl ⟨by rfl, ?_⟩) ?_ ?_
           rotate_left
           ·
            intro w'
            go_simp
            with_reducible rfl
           rotate_left
           ·
            simp only [Act.put, List.setIfInBounds_toArray, List.set_cons_zero, List.set_cons_succ, i64_w, i32_w]
            rfl
           refine take_ (i := 1) (N := some 27) (v := ?_) (a' := ?_) #[true, true, false, true, false, false, true, false, false, false, false, false] rfl rfl (take_ofW HT_.out HW_.out (by kernel_rfl)) (fun _ _ _ h => h) (Or.inl ⟨by rfl, ?_⟩) hHeld ?_ ?_
           rotate_left
           ·
            rintro w' ⟨s0, s1⟩
            go_simp
            with_reducible rfl
           rotate_left
           ·
            simp only [Act.put, List.setIfInBounds_toArray, List.set_cons_zero, List.set_cons_succ, i64_w, i32_w]
            rfl
           refine take_ (i := 4) (N := some 30) (v := ?_) (a' := ?_) #[true, true, false, true, true, false, true, false, false, false, false, false] rfl rfl (take_ofW HT_.out HW_.out (by kernel_rfl)) (fun _ _ _ h => h) (Or.inl ⟨by rfl, ?_⟩) hHeld ?_ ?_
           rotate_left
           ·
            rintro w' ⟨s0, s1⟩
            go_simp
            with_reducible rfl
           rotate_left
           ·
            simp only [Act.put, List.setIfInBounds_toArray, List.set_cons_zero, List.set_cons_succ, i64_w, i32_w]
            rfl
           refine join_ (σ := Value × Value × Value × Value × Nat) 1 #[true, true, true, true, true, true, true, true, true, true, true, false] (fun s_ => [(28, s_.1), (31, s_.2.1), (33, s_.2.2.1), (34, s_.2.2.2.1), (5, .pointer (some ⟨s_.2.2.2.2, 0, none⟩)), (35, .agg #[.int .i64 t192, s_.2.2.2.1])]) (fun s_ w' => (w'.cell? ⟨gb196, 0, none⟩ = some (.int .i64 t192) ∧ w'.cell? ⟨gb196, 1, none⟩ = some (.slice Ao21 t193.length co21)) ∧ (Kd.R k30 30 w' w.heap.size (fun k_ => some k_ ≠ (s_.2.2.1 : Value).ownBlock ∧ some k_ ≠ (s_.2.2.2.1 : Value).ownBlock) (.slice Ao21 t193.length co21) t193) ∧ (Kd.R k30 30 w' w.heap.size (fun k_ => some k_ ≠ (.slice Ao21 t193.length co21 : Value).ownBlock ∧ some k_ ≠ (s_.2.2.2.1 : Value).ownBlock) s_.2.2.1 y207) ∧ (Kd.R k30 30 w' w.heap.size (fun k_ => some k_ ≠ (.slice Ao21 t193.length co21 : Value).ownBlock ∧ some k_ ≠ (s_.2.2.1 : Value).ownBlock) s_.2.2.2.1 y210) ∧ (w'.heap[gb196]? = some (.cells #[.int .i64 t192, .slice Ao21 t193.length co21] 25 (0, 0))) ∧ (w'.heap[s_.2.2.2.2]? = some (.cells #[.int .i64 0, .slice none 0 0] 25 (0, 0))) ∧ (w.heap.size ≤ s_.2.2.2.2) ∧ (w.heap.size ≤ s_.2.2.2.2) ∧ (gb196 ≠ s_.2.2.2.2) ∧ (s_.2.2.2.2 ≠ gb196) ∧ (Below w.heap.size w w')) ?_ ?_
           rotate_left
           ·
            intro hJ2_5_7_8_10
            refine join_ (σ := Value × Value × Value × Value) 2 #[true, true, true, true, true, true, true, true, true, true, false, false] (fun s_ => [(28, s_.1), (31, s_.2.1), (33, s_.2.2.1), (34, s_.2.2.2), (35, .agg #[.int .i64 t192, s_.2.2.2])]) (fun s_ w' => (w'.cell? ⟨gb196, 0, none⟩ = some (.int .i64 t192) ∧ w'.cell? ⟨gb196, 1, none⟩ = some (.slice Ao21 t193.length co21)) ∧ (Kd.R k30 30 w' w.heap.size (fun k_ => some k_ ≠ (s_.2.2.1 : Value).ownBlock ∧ some k_ ≠ (s_.2.2.2 : Value).ownBlock) (.slice Ao21 t193.length co21) t193) ∧ (Kd.R k30 30 w' w.heap.size (fun k_ => some k_ ≠ (.slice Ao21 t193.length co21 : Value).ownBlock ∧ some k_ ≠ (s_.2.2.2 : Value).ownBlock) s_.2.2.1 y207) ∧ (Kd.R k30 30 w' w.heap.size (fun k_ => some k_ ≠ (.slice Ao21 t193.length co21 : Value).ownBlock ∧ some k_ ≠ (s_.2.2.1 : Value).ownBlock) s_.2.2.2 y210) ∧ (w'.heap[gb196]? = some (.cells #[.int .i64 t192, .slice Ao21 t193.length co21] 25 (0, 0))) ∧ (Below w.heap.size w w')) ?_ ?_
            rotate_left
            ·
             intro hJ2_5_7_8
             refine join_ (σ := Value × Value × Value × Nat) 3 #[true, true, true, true, true, true, true, true, false, false, true, false] (fun s_ => [(28, s_.1), (31, s_.2.1), (33, s_.2.2.1), (5, .pointer (some ⟨s_.2.2.2, 0, none⟩))]) (fun s_ w' => (w'.cell? ⟨gb196, 0, none⟩ = some (.int .i64 t192) ∧ w'.cell? ⟨gb196, 1, none⟩ = some (.slice Ao21 t193.length co21)) ∧ (Kd.R k30 30 w' w.heap.size (fun k_ => some k_ ≠ (s_.2.1 : Value).ownBlock ∧ some k_ ≠ (s_.2.2.1 : Value).ownBlock) (.slice Ao21 t193.length co21) t193) ∧ (Kd.R k30 30 w' w.heap.size (fun k_ => some k_ ≠ (.slice Ao21 t193.length co21 : Value).ownBlock ∧ some k_ ≠ (s_.2.2.1 : Value).ownBlock) s_.2.1 y204) ∧ (Kd.R k30 30 w' w.heap.size (fun k_ => some k_ ≠ (.slice Ao21 t193.length co21 : Value).ownBlock ∧ some k_ ≠ (s_.2.1 : Value).ownBlock) s_.2.2.1 y207) ∧ (w'.heap[gb196]? = some (.cells #[.int .i64 t192, .slice Ao21 t193.length co21] 25 (0, 0))) ∧ (w'.heap[s_.2.2.2]? = some (.cells #[.int .i64 0, .slice none 0 0] 25 (0, 0))) ∧ (w.heap.size ≤ s_.2.2.2) ∧ (w.heap.size ≤ s_.2.2.2) ∧ (gb196 ≠ s_.2.2.2) ∧ (s_.2.2.2 ≠ gb196) ∧ (Below w.heap.size w w')) ?_ ?_
             rotate_left
             ·
              intro hJ2_5_7_10
              refine join_ (σ := Value × Value × Value) 4 #[true, true, true, true, true, true, true, true, false, false, false, false] (fun s_ => [(28, s_.1), (31, s_.2.1), (33, s_.2.2)]) (fun s_ w' => (w'.cell? ⟨gb196, 0, none⟩ = some (.int .i64 t192) ∧ w'.cell? ⟨gb196, 1, none⟩ = some (.slice Ao21 t193.length co21)) ∧ (Kd.R k30 30 w' w.heap.size (fun k_ => some k_ ≠ (s_.2.1 : Value).ownBlock ∧ some k_ ≠ (s_.2.2 : Value).ownBlock) (.slice Ao21 t193.length co21) t193) ∧ (Kd.R k30 30 w' w.heap.size (fun k_ => some k_ ≠ (.slice Ao21 t193.length co21 : Value).ownBlock ∧ some k_ ≠ (s_.2.2 : Value).ownBlock) s_.2.1 y204) ∧ (Kd.R k30 30 w' w.heap.size (fun k_ => some k_ ≠ (.slice Ao21 t193.length co21 : Value).ownBlock ∧ some k_ ≠ (s_.2.1 : Value).ownBlock) s_.2.2 y207) ∧ (w'.heap[gb196]? = some (.cells #[.int .i64 t192, .slice Ao21 t193.length co21] 25 (0, 0))) ∧ (Below w.heap.size w w')) ?_ ?_
              rotate_left
              ·
               intro hJ2_5_7
               refine join_ (σ := Value × Value × Nat) 4 #[true, true, true, true, true, true, true, false, false, false, true, false] (fun s_ => [(28, s_.1), (31, s_.2.1), (5, .pointer (some ⟨s_.2.2, 0, none⟩))]) (fun s_ w' => (w'.cell? ⟨gb196, 0, none⟩ = some (.int .i64 t192) ∧ w'.cell? ⟨gb196, 1, none⟩ = some (.slice Ao21 t193.length co21)) ∧ (Kd.R k30 30 w' w.heap.size (fun k_ => some k_ ≠ (s_.2.1 : Value).ownBlock) (.slice Ao21 t193.length co21) t193) ∧ (Kd.R k30 30 w' w.heap.size (fun k_ => some k_ ≠ (.slice Ao21 t193.length co21 : Value).ownBlock) s_.2.1 y204) ∧ (w'.heap[gb196]? = some (.cells #[.int .i64 t192, .slice Ao21 t193.length co21] 25 (0, 0))) ∧ (w'.heap[s_.2.2]? = some (.cells #[.int .i64 0, .slice none 0 0] 25 (0, 0))) ∧ (w.heap.size ≤ s_.2.2) ∧ (w.heap.size ≤ s_.2.2) ∧ (gb196 ≠ s_.2.2) ∧ (s_.2.2 ≠ gb196) ∧ (Below w.heap.size w w')) ?_ ?_
               rotate_left
               ·
                intro hJ2_5_10
                refine join_ (σ := Value × Value × Nat) 4 #[true, true, true, true, true, false, true, true, false, false, true, false] (fun s_ => [(28, s_.1), (33, s_.2.1), (5, .pointer (some ⟨s_.2.2, 0, none⟩))]) (fun s_ w' => (w'.cell? ⟨gb196, 0, none⟩ = some (.int .i64 t192) ∧ w'.cell? ⟨gb196, 1, none⟩ = some (.slice Ao21 t193.length co21)) ∧ (Kd.R k30 30 w' w.heap.size (fun k_ => some k_ ≠ (s_.1 : Value).ownBlock ∧ some k_ ≠ (s_.2.1 : Value).ownBlock) (.slice Ao21 t193.length co21) t193) ∧ (Kd.R k30 30 w' w.heap.size (fun k_ => some k_ ≠ (.slice Ao21 t193.length co21 : Value).ownBlock ∧ some k_ ≠ (s_.2.1 : Value).ownBlock) s_.1 y201) ∧ (Kd.R k30 30 w' w.heap.size (fun k_ => some k_ ≠ (.slice Ao21 t193.length co21 : Value).ownBlock ∧ some k_ ≠ (s_.1 : Value).ownBlock) s_.2.1 y207) ∧ (w'.heap[gb196]? = some (.cells #[.int .i64 t192, .slice Ao21 t193.length co21] 25 (0, 0))) ∧ (w'.heap[s_.2.2]? = some (.cells #[.int .i64 0, .slice none 0 0] 25 (0, 0))) ∧ (w.heap.size ≤ s_.2.2) ∧ (w.heap.size ≤ s_.2.2) ∧ (gb196 ≠ s_.2.2) ∧ (s_.2.2 ≠ gb196) ∧ (Below w.heap.size w w')) ?_ ?_
                rotate_left
                ·
                 intro hJ2_7_10
                 refine join_ (σ := Value × Value) 5 #[true, true, true, true, true, true, true, false, false, false, false, false] (fun s_ => [(28, s_.1), (31, s_.2)]) (fun s_ w' => (w'.cell? ⟨gb196, 0, none⟩ = some (.int .i64 t192) ∧ w'.cell? ⟨gb196, 1, none⟩ = some (.slice Ao21 t193.length co21)) ∧ (Kd.R k30 30 w' w.heap.size (fun k_ => some k_ ≠ (s_.2 : Value).ownBlock) (.slice Ao21 t193.length co21) t193) ∧ (Kd.R k30 30 w' w.heap.size (fun k_ => some k_ ≠ (.slice Ao21 t193.length co21 : Value).ownBlock) s_.2 y204) ∧ (w'.heap[gb196]? = some (.cells #[.int .i64 t192, .slice Ao21 t193.length co21] 25 (0, 0))) ∧ (Below w.heap.size w w')) ?_ ?_
                 rotate_left
                 ·
                  intro hJ2_5
                  refine join_ (σ := Value × Value) 5 #[true, true, true, true, true, false, true, true, false, false, false, false] (fun s_ => [(28, s_.1), (33, s_.2)]) (fun s_ w' => (w'.cell? ⟨gb196, 0, none⟩ = some (.int .i64 t192) ∧ w'.cell? ⟨gb196, 1, none⟩ = some (.slice Ao21 t193.length co21)) ∧ (Kd.R k30 30 w' w.heap.size (fun k_ => some k_ ≠ (s_.1 : Value).ownBlock ∧ some k_ ≠ (s_.2 : Value).ownBlock) (.slice Ao21 t193.length co21) t193) ∧ (Kd.R k30 30 w' w.heap.size (fun k_ => some k_ ≠ (.slice Ao21 t193.length co21 : Value).ownBlock ∧ some k_ ≠ (s_.2 : Value).ownBlock) s_.1 y201) ∧ (Kd.R k30 30 w' w.heap.size (fun k_ => some k_ ≠ (.slice Ao21 t193.length co21 : Value).ownBlock ∧ some k_ ≠ (s_.1 : Value).ownBlock) s_.2 y207) ∧ (w'.heap[gb196]? = some (.cells #[.int .i64 t192, .slice Ao21 t193.length co21] 25 (0, 0))) ∧ (Below w.heap.size w w')) ?_ ?_
                  rotate_left
                  ·
                   intro hJ2_7
                   refine join_ (σ := Value × Nat) 5 #[true, true, true, true, true, false, true, false, false, false, true, false] (fun s_ => [(28, s_.1), (5, .pointer (some ⟨s_.2, 0, none⟩))]) (fun s_ w' => (w'.cell? ⟨gb196, 0, none⟩ = some (.int .i64 t192) ∧ w'.cell? ⟨gb196, 1, none⟩ = some (.slice Ao21 t193.length co21)) ∧ (Kd.R k30 30 w' w.heap.size (fun k_ => some k_ ≠ (s_.1 : Value).ownBlock) (.slice Ao21 t193.length co21) t193) ∧ (Kd.R k30 30 w' w.heap.size (fun k_ => some k_ ≠ (.slice Ao21 t193.length co21 : Value).ownBlock) s_.1 y201) ∧ (w'.heap[gb196]? = some (.cells #[.int .i64 t192, .slice Ao21 t193.length co21] 25 (0, 0))) ∧ (w'.heap[s_.2]? = some (.cells #[.int .i64 0, .slice none 0 0] 25 (0, 0))) ∧ (w.heap.size ≤ s_.2) ∧ (w.heap.size ≤ s_.2) ∧ (gb196 ≠ s_.2) ∧ (s_.2 ≠ gb196) ∧ (Below w.heap.size w w')) ?_ ?_
                   rotate_left
                   ·
                    intro hJ2_10
                    refine join_ (σ := Value × Nat) 5 #[true, true, false, true, true, false, true, true, false, false, true, false] (fun s_ => [(33, s_.1), (5, .pointer (some ⟨s_.2, 0, none⟩))]) (fun s_ w' => (w'.cell? ⟨gb196, 0, none⟩ = some (.int .i64 t192) ∧ w'.cell? ⟨gb196, 1, none⟩ = some (.slice Ao21 t193.length co21)) ∧ (Kd.R k30 30 w' w.heap.size (fun k_ => some k_ ≠ (s_.1 : Value).ownBlock) (.slice Ao21 t193.length co21) t193) ∧ (Kd.R k30 30 w' w.heap.size (fun k_ => some k_ ≠ (.slice Ao21 t193.length co21 : Value).ownBlock) s_.1 y207) ∧ (w'.heap[gb196]? = some (.cells #[.int .i64 t192, .slice Ao21 t193.length co21] 25 (0, 0))) ∧ (w'.heap[s_.2]? = some (.cells #[.int .i64 0, .slice none 0 0] 25 (0, 0))) ∧ (w.heap.size ≤ s_.2) ∧ (w.heap.size ≤ s_.2) ∧ (gb196 ≠ s_.2) ∧ (s_.2 ≠ gb196) ∧ (Below w.heap.size w w')) ?_ ?_
                    rotate_left
                    ·
                     intro hJ7_10
                     refine join_ (σ := Value) 6 #[true, true, true, true, true, false, true, false, false, false, false, false] (fun s_ => [(28, s_)]) (fun s_ w' => (w'.cell? ⟨gb196, 0, none⟩ = some (.int .i64 t192) ∧ w'.cell? ⟨gb196, 1, none⟩ = some (.slice Ao21 t193.length co21)) ∧ (Kd.R k30 30 w' w.heap.size (fun k_ => some k_ ≠ (s_ : Value).ownBlock) (.slice Ao21 t193.length co21) t193) ∧ (Kd.R k30 30 w' w.heap.size (fun k_ => some k_ ≠ (.slice Ao21 t193.length co21 : Value).ownBlock) s_ y201) ∧ (w'.heap[gb196]? = some (.cells #[.int .i64 t192, .slice Ao21 t193.length co21] 25 (0, 0))) ∧ (Below w.heap.size w w')) ?_ ?_
                     rotate_left
                     ·
                      intro hJ2
                      refine join_ (σ := Value) 6 #[true, true, false, true, true, false, true, true, false, false, false, false] (fun s_ => [(33, s_)]) (fun s_ w' => (w'.cell? ⟨gb196, 0, none⟩ = some (.int .i64 t192) ∧ w'.cell? ⟨gb196, 1, none⟩ = some (.slice Ao21 t193.length co21)) ∧ (Kd.R k30 30 w' w.heap.size (fun k_ => some k_ ≠ (s_ : Value).ownBlock) (.slice Ao21 t193.length co21) t193) ∧ (Kd.R k30 30 w' w.heap.size (fun k_ => some k_ ≠ (.slice Ao21 t193.length co21 : Value).ownBlock) s_ y207) ∧ (w'.heap[gb196]? = some (.cells #[.int .i64 t192, .slice Ao21 t193.length co21] 25 (0, 0))) ∧ (Below w.heap.size w w')) ?_ ?_
                      rotate_left
                      ·
                       intro hJ7
                       refine join_ (σ := Nat) 6 #[true, true, false, true, true, false, true, false, false, false, true, false] (fun s_ => [(5, .pointer (some ⟨s_, 0, none⟩))]) (fun s_ w' => (w'.cell? ⟨gb196, 0, none⟩ = some (.int .i64 t192) ∧ w'.cell? ⟨gb196, 1, none⟩ = some (.slice Ao21 t193.length co21)) ∧ (Kd.R k30 30 w' w.heap.size (fun _ => True) (.slice Ao21 t193.length co21) t193) ∧ (w'.heap[gb196]? = some (.cells #[.int .i64 t192, .slice Ao21 t193.length co21] 25 (0, 0))) ∧ (w'.heap[s_]? = some (.cells #[.int .i64 0, .slice none 0 0] 25 (0, 0))) ∧ (w.heap.size ≤ s_) ∧ (w.heap.size ≤ s_) ∧ (gb196 ≠ s_) ∧ (s_ ≠ gb196) ∧ (Below w.heap.size w w')) ?_ ?_
                       rotate_left
                       ·
                        intro hJ10
                        refine three_ (i := 2) (j := 7) (k := 10) (Ni := some 28) (Nj := some 33) (Nk := some 5) #[true, true, true, true, true, false, true, false, false, false, false, false] #[true, true, false, true, true, false, true, true, false, false, false, false] #[true, true, false, true, true, false, true, false, false, false, true, false] rfl rfl rfl rfl rfl rfl (three_of HT_.out (by kernel_rfl)) (by decide) (by decide) (by decide) (fun K hK => ?_) (fun K hK => ?_) (fun K hK => ?_)
                        ·
                         skip
                         refine Kd.R_lit_step k30 _ 30 ?hg (N := 28) ?hd (xs := ([] : List (S30))) (inner := []) (ok := fun _ => True) (okp := fun _ => True) ?hr ?hp (fun _ hk => hk) trivial (Below.refl _ _) (Nat.le_refl _) (by simp) ?_; (case hd => rfl); (case hg => rfl); (case hr => first | (go_simp; done) | (go_simp; rfl)); (case hp => exact (Reps.none _ _))
                         intro v202 w26 ho27 hb hg_ hnew_
                         clear hg_ hnew_
                         (first | rw [← Ny201.out] at ho27 | (simp only [Int.reduceToNat] at ho27; rw [← Ny201.out] at ho27))
                         have n0_ := Aside0.mk (Kd.R_elder' (by (with_reducible repeat (first | apply Kd.R_alloc | apply Kd.R_drewN | apply Kd.R_drew)); exact HO195.out) (Kd.R_base ho27) hb)
                         have n1_ := Aside0.mk (Kd.R_lower (Kd.R_new' ho27 (Kd.R_lt (by (with_reducible repeat (first | apply Kd.R_alloc | apply Kd.R_drewN | apply Kd.R_drew)); exact HO195.out))) (below_size (by repeat (first | (with_reducible first | exact HB.out | apply below_alloc | apply pw_below_drewN | apply below_drew1 | refine below_set ?_ GE196.out) | exact HB.out))))
                         have n2_ := Aside0.mk (blk_below (g := gb196) (o := .cells #[.int .i64 t192, .slice Ao21 t193.length co21] 25 (0, 0)) (by (with_reducible repeat (first | refine blk_drewN ?_ _ | refine blk_drew ?_ | refine blk_alloc ?_ _)); exact BK196.out) hb)
                         have n3_ := Aside0.mk (below_step (by repeat (first | (with_reducible first | exact HB.out | apply below_alloc | apply pw_below_drewN | apply below_drew1 | refine below_set ?_ GE196.out) | exact HB.out)) hb)
                         clear HO195
                         clear BK196
                         clear HB
                         have HO195 := n0_
                         have HO203 := n1_
                         have BK196 := n2_
                         have HB := n3_
                         clear n0_ n1_ n2_ n3_
                         clear hb ho27
                         refine hK.out _ _ ⟨(blk_cell BK196.out 0).trans rfl, (blk_cell BK196.out 1).trans rfl⟩ (fun hHeld => ?_)
                         clear hK K
                         refine norm_ (a' := ?_) ?_ ?_
                         rotate_left
                         ·
                          show Act.put _ (some 28) _ = _
                          simp only [Act.put, List.setIfInBounds_toArray, List.set_cons_zero, List.set_cons_succ, i64_w, i32_w]
                          rfl
                         exact norm_ (by first | (simp only [putAll, Act.put, List.setIfInBounds_toArray, List.set_cons_zero, List.set_cons_succ]; done) | (simp only [putAll, Act.put, List.setIfInBounds_toArray, List.set_cons_zero, List.set_cons_succ]; rfl)) (hJ2 (v202) _ ⟨hHeld, (by (with_reducible repeat (first | apply Kd.R_alloc | apply Kd.R_drewN | apply Kd.R_drew)); exact Kd.R_mono HO195.out (fun _ hk => hk.2)), (by (with_reducible repeat (first | apply Kd.R_alloc | apply Kd.R_drewN | apply Kd.R_drew)); exact Kd.R_mono HO203.out (fun _ hk => hk.2)), (by (with_reducible repeat (first | refine blk_drewN ?_ _ | refine blk_drew ?_ | refine blk_alloc ?_ _)); exact BK196.out), (by repeat (first | (with_reducible first | exact HB.out | apply below_alloc | apply pw_below_drewN | apply below_drew1 | refine below_set ?_ GE196.out) | exact HB.out))⟩)
                        ·
                         skip
                         refine Kd.R_lit_step k30 _ 30 ?hg (N := 33) ?hd (xs := ([(⟨0, 0, 1⟩ : S30)] : List (S30))) (inner := [.int .i64 0, .int .i64 0, .int .i64 1]) (ok := fun _ => True) (okp := fun _ => True) ?hr ?hp (fun _ hk => hk) trivial (Below.refl _ _) (Nat.le_refl _) (by simp) ?_; (case hd => rfl); (case hg => rfl); (case hr => first | (go_simp; done) | (go_simp; rfl)); (case hp => exact (Reps.c3 (show Kd.M k30 _ _ _ (⟨0, 0, 1⟩ : S30) [.int .i64 0, .int .i64 0, .int .i64 1] from (k30_mkM _ _ _ (⟨0, 0, 1⟩ : S30) )) (Reps.none _ _)))
                         intro v208 w26 ho27 hb hg_ hnew_
                         clear hg_ hnew_
                         (first | rw [← Ny207.out] at ho27 | (simp only [Int.reduceToNat] at ho27; rw [← Ny207.out] at ho27))
                         have n0_ := Aside0.mk (Kd.R_elder' (by (with_reducible repeat (first | apply Kd.R_alloc | apply Kd.R_drewN | apply Kd.R_drew)); exact HO195.out) (Kd.R_base ho27) hb)
                         have n1_ := Aside0.mk (Kd.R_lower (Kd.R_new' ho27 (Kd.R_lt (by (with_reducible repeat (first | apply Kd.R_alloc | apply Kd.R_drewN | apply Kd.R_drew)); exact HO195.out))) (below_size (by repeat (first | (with_reducible first | exact HB.out | apply below_alloc | apply pw_below_drewN | apply below_drew1 | refine below_set ?_ GE196.out) | exact HB.out))))
                         have n2_ := Aside0.mk (blk_below (g := gb196) (o := .cells #[.int .i64 t192, .slice Ao21 t193.length co21] 25 (0, 0)) (by (with_reducible repeat (first | refine blk_drewN ?_ _ | refine blk_drew ?_ | refine blk_alloc ?_ _)); exact BK196.out) hb)
                         have n3_ := Aside0.mk (below_step (by repeat (first | (with_reducible first | exact HB.out | apply below_alloc | apply pw_below_drewN | apply below_drew1 | refine below_set ?_ GE196.out) | exact HB.out)) hb)
                         clear HO195
                         clear BK196
                         clear HB
                         have HO195 := n0_
                         have HO209 := n1_
                         have BK196 := n2_
                         have HB := n3_
                         clear n0_ n1_ n2_ n3_
                         clear hb ho27
                         refine hK.out _ _ ⟨(blk_cell BK196.out 0).trans rfl, (blk_cell BK196.out 1).trans rfl⟩ (fun hHeld => ?_)
                         clear hK K
                         refine norm_ (a' := ?_) ?_ ?_
                         rotate_left
                         ·
                          show Act.put _ (some 33) _ = _
                          simp only [Act.put, List.setIfInBounds_toArray, List.set_cons_zero, List.set_cons_succ, i64_w, i32_w]
                          rfl
                         exact norm_ (by first | (simp only [putAll, Act.put, List.setIfInBounds_toArray, List.set_cons_zero, List.set_cons_succ]; done) | (simp only [putAll, Act.put, List.setIfInBounds_toArray, List.set_cons_zero, List.set_cons_succ]; rfl)) (hJ7 (v208) _ ⟨hHeld, (by (with_reducible repeat (first | apply Kd.R_alloc | apply Kd.R_drewN | apply Kd.R_drew)); exact Kd.R_mono HO195.out (fun _ hk => hk.2)), (by (with_reducible repeat (first | apply Kd.R_alloc | apply Kd.R_drewN | apply Kd.R_drew)); exact Kd.R_mono HO209.out (fun _ hk => hk.2)), (by (with_reducible repeat (first | refine blk_drewN ?_ _ | refine blk_drew ?_ | refine blk_alloc ?_ _)); exact BK196.out), (by repeat (first | (with_reducible first | exact HB.out | apply below_alloc | apply pw_below_drewN | apply below_drew1 | refine below_set ?_ GE196.out) | exact HB.out))⟩)
                        ·
                         skip
                         refine box_step ?hg (N := 5) ?hd (cs := #[.int .i64 0, .slice none 0 0]) (t := 25) ?hr ?_; (case hd => rfl); (case hg => rfl); (case hr => first | (go_simp; done) | (go_simp; rfl))
                         intro gb213 hg w26 hbox hb
                         have n0_ := Aside0.mk (Kd.R_below (by (with_reducible repeat (first | apply Kd.R_alloc | apply Kd.R_drewN | apply Kd.R_drew)); exact HO195.out) hb)
                         have n1_ := Aside0.mk (blk_below (g := gb196) (o := .cells #[.int .i64 t192, .slice Ao21 t193.length co21] 25 (0, 0)) (by (with_reducible repeat (first | refine blk_drewN ?_ _ | refine blk_drew ?_ | refine blk_alloc ?_ _)); exact BK196.out) hb)
                         have n2_ := Aside0.mk (below_step (by repeat (first | (with_reducible first | exact HB.out | apply below_alloc | apply pw_below_drewN | apply below_drew1 | refine below_set ?_ GE196.out) | exact HB.out)) hb)
                         have n3_ := Aside0.mk (hbox)
                         have n4_ := Aside0.mk ((by rw [hg]; exact (below_size (by repeat (first | (with_reducible first | exact HB.out | apply below_alloc | apply pw_below_drewN | apply below_drew1 | refine below_set ?_ GE196.out) | exact HB.out))) : w.heap.size ≤ gb213))
                         have n5_ := Aside0.mk ((by rw [hg]; exact (below_size (by repeat (first | (with_reducible first | exact HB.out | apply below_alloc | apply pw_below_drewN | apply below_drew1 | refine below_set ?_ GE196.out) | exact HB.out))) : w.heap.size ≤ gb213))
                         have n6_ := Aside0.mk ((by rw [hg]; exact Nat.ne_of_lt (blk_lt (g := gb196) (o := .cells #[.int .i64 t192, .slice Ao21 t193.length co21] 25 (0, 0)) (by (with_reducible repeat (first | refine blk_drewN ?_ _ | refine blk_drew ?_ | refine blk_alloc ?_ _)); exact BK196.out)) : gb196 ≠ gb213))
                         have n7_ := Aside0.mk ((by rw [hg]; exact Nat.ne_of_gt (blk_lt (g := gb196) (o := .cells #[.int .i64 t192, .slice Ao21 t193.length co21] 25 (0, 0)) (by (with_reducible repeat (first | refine blk_drewN ?_ _ | refine blk_drew ?_ | refine blk_alloc ?_ _)); exact BK196.out)) : gb213 ≠ gb196))
                         clear HO195
                         clear BK196
                         clear HB
                         have HO195 := n0_
                         have BK196 := n1_
                         have HB := n2_
                         have BK213 := n3_
                         have GW213 := n4_
                         have GE213 := n5_
                         have NB196_213 := n6_
                         have NB213_196 := n7_
                         clear n0_ n1_ n2_ n3_ n4_ n5_ n6_ n7_
                         clear hb hbox hg
                         refine hK.out _ _ ⟨(blk_cell BK196.out 0).trans rfl, (blk_cell BK196.out 1).trans rfl⟩ (fun hHeld => ?_)
                         clear hK K
                         refine norm_ (a' := ?_) ?_ ?_
                         rotate_left
                         ·
                          show Act.put _ (some 5) _ = _
                          simp only [Act.put, List.setIfInBounds_toArray, List.set_cons_zero, List.set_cons_succ, i64_w, i32_w]
                          rfl
                         exact norm_ (by first | (simp only [putAll, Act.put, List.setIfInBounds_toArray, List.set_cons_zero, List.set_cons_succ]; done) | (simp only [putAll, Act.put, List.setIfInBounds_toArray, List.set_cons_zero, List.set_cons_succ]; rfl)) (hJ10 (gb213) _ ⟨hHeld, (by (with_reducible repeat (first | apply Kd.R_alloc | apply Kd.R_drewN | apply Kd.R_drew)); exact HO195.out), (by (with_reducible repeat (first | refine blk_drewN ?_ _ | refine blk_drew ?_ | refine blk_alloc ?_ _)); exact BK196.out), (by (with_reducible repeat (first | refine blk_drewN ?_ _ | refine blk_drew ?_ | refine blk_alloc ?_ _)); exact BK213.out), GW213.out, GE213.out, NB196_213.out, NB213_196.out, (by repeat (first | (with_reducible first | exact HB.out | apply below_alloc | apply pw_below_drewN | apply below_drew1 | refine below_set ?_ GE196.out | refine below_set ?_ GE213.out) | exact HB.out))⟩)
                       ·
                        skip
                        rintro gb213 w27 ⟨hS_, h0_, h1_, h2_, h3_, h4_, h5_, h6_, h7_⟩
                        have n0_ : Aside0 (Kd.R k30 30 w27 w.heap.size (fun _ => True) (.slice Ao21 t193.length co21) t193) := ⟨h0_⟩
                        have n1_ : Aside0 (w27.heap[gb196]? = some (.cells #[.int .i64 t192, .slice Ao21 t193.length co21] 25 (0, 0))) := ⟨h1_⟩
                        have n2_ : Aside0 (w27.heap[gb213]? = some (.cells #[.int .i64 0, .slice none 0 0] 25 (0, 0))) := ⟨h2_⟩
                        have n3_ : Aside0 (w.heap.size ≤ gb213) := ⟨h3_⟩
                        have n4_ : Aside0 (w.heap.size ≤ gb213) := ⟨h4_⟩
                        have n5_ : Aside0 (gb196 ≠ gb213) := ⟨h5_⟩
                        have n6_ : Aside0 (gb213 ≠ gb196) := ⟨h6_⟩
                        have n7_ : Aside0 (Below w.heap.size w w27) := ⟨h7_⟩
                        clear HO195
                        clear BK196
                        clear HB
                        clear h0_ h1_ h2_ h3_ h4_ h5_ h6_ h7_
                        have HO195 := n0_
                        have BK196 := n1_
                        have BK213 := n2_
                        have GW213 := n3_
                        have GE213 := n4_
                        have NB196_213 := n5_
                        have NB213_196 := n6_
                        have HB := n7_
                        clear n0_ n1_ n2_ n3_ n4_ n5_ n6_ n7_
                        have hHeld : w27.cell? ⟨gb196, 0, none⟩ = some (.int .i64 t192) ∧ w27.cell? ⟨gb196, 1, none⟩ = some (.slice Ao21 t193.length co21) := hS_
                        refine norm_ (a' := ?_) ?_ ?_
                        rotate_left
                        ·
                         simp only [putAll, Act.put, List.setIfInBounds_toArray, List.set_cons_zero, List.set_cons_succ]
                         rfl
                        refine two_ (i := 2) (j := 7) (Ni := some 28) (Nj := some 33) #[true, true, true, true, true, false, true, false, false, false, true, false] #[true, true, false, true, true, false, true, true, false, false, true, false] rfl rfl rfl rfl (two_of HT_.out (by kernel_rfl)) (by decide) (by decide) (fun K hK => ?_) (fun K hK => ?_)
                        ·
                         skip
                         refine Kd.R_lit_step k30 _ 30 ?hg (N := 28) ?hd (xs := ([] : List (S30))) (inner := []) (ok := fun _ => True) (okp := fun _ => True) ?hr ?hp (fun _ hk => hk) trivial (Below.refl _ _) (Nat.le_refl _) (by simp) ?_; (case hd => rfl); (case hg => rfl); (case hr => first | (go_simp; done) | (go_simp; rfl)); (case hp => exact (Reps.none _ _))
                         intro v202 w28 ho29 hb hg_ hnew_
                         clear hg_ hnew_
                         (first | rw [← Ny201.out] at ho29 | (simp only [Int.reduceToNat] at ho29; rw [← Ny201.out] at ho29))
                         have n0_ := Aside0.mk (Kd.R_elder' (by (with_reducible repeat (first | apply Kd.R_alloc | apply Kd.R_drewN | apply Kd.R_drew)); exact HO195.out) (Kd.R_base ho29) hb)
                         have n1_ := Aside0.mk (Kd.R_lower (Kd.R_new' ho29 (Kd.R_lt (by (with_reducible repeat (first | apply Kd.R_alloc | apply Kd.R_drewN | apply Kd.R_drew)); exact HO195.out))) (below_size (by repeat (first | (with_reducible first | exact HB.out | apply below_alloc | apply pw_below_drewN | apply below_drew1 | refine below_set ?_ GE196.out | refine below_set ?_ GE213.out) | exact HB.out))))
                         have n2_ := Aside0.mk (blk_below (g := gb196) (o := .cells #[.int .i64 t192, .slice Ao21 t193.length co21] 25 (0, 0)) (by (with_reducible repeat (first | refine blk_drewN ?_ _ | refine blk_drew ?_ | refine blk_alloc ?_ _)); exact BK196.out) hb)
                         have n3_ := Aside0.mk (blk_below (g := gb213) (o := .cells #[.int .i64 0, .slice none 0 0] 25 (0, 0)) (by (with_reducible repeat (first | refine blk_drewN ?_ _ | refine blk_drew ?_ | refine blk_alloc ?_ _)); exact BK213.out) hb)
                         have n4_ := Aside0.mk (below_step (by repeat (first | (with_reducible first | exact HB.out | apply below_alloc | apply pw_below_drewN | apply below_drew1 | refine below_set ?_ GE196.out | refine below_set ?_ GE213.out) | exact HB.out)) hb)
                         clear HO195
                         clear BK196
                         clear BK213
                         clear HB
                         have HO195 := n0_
                         have HO203 := n1_
                         have BK196 := n2_
                         have BK213 := n3_
                         have HB := n4_
                         clear n0_ n1_ n2_ n3_ n4_
                         clear hb ho29
                         refine hK.out _ _ ⟨(blk_cell BK196.out 0).trans rfl, (blk_cell BK196.out 1).trans rfl⟩ (fun hHeld => ?_)
                         clear hK K
                         refine norm_ (a' := ?_) ?_ ?_
                         rotate_left
                         ·
                          show Act.put _ (some 28) _ = _
                          simp only [Act.put, List.setIfInBounds_toArray, List.set_cons_zero, List.set_cons_succ, i64_w, i32_w]
                          rfl
                         exact norm_ (by first | (simp only [putAll, Act.put, List.setIfInBounds_toArray, List.set_cons_zero, List.set_cons_succ]; done) | (simp only [putAll, Act.put, List.setIfInBounds_toArray, List.set_cons_zero, List.set_cons_succ]; rfl)) (hJ2_10 (v202, gb213) _ ⟨hHeld, (by (with_reducible repeat (first | apply Kd.R_alloc | apply Kd.R_drewN | apply Kd.R_drew)); exact Kd.R_mono HO195.out (fun _ hk => hk.2)), (by (with_reducible repeat (first | apply Kd.R_alloc | apply Kd.R_drewN | apply Kd.R_drew)); exact Kd.R_mono HO203.out (fun _ hk => hk.2)), (by (with_reducible repeat (first | refine blk_drewN ?_ _ | refine blk_drew ?_ | refine blk_alloc ?_ _)); exact BK196.out), (by (with_reducible repeat (first | refine blk_drewN ?_ _ | refine blk_drew ?_ | refine blk_alloc ?_ _)); exact BK213.out), GW213.out, GE213.out, NB196_213.out, NB213_196.out, (by repeat (first | (with_reducible first | exact HB.out | apply below_alloc | apply pw_below_drewN | apply below_drew1 | refine below_set ?_ GE196.out | refine below_set ?_ GE213.out) | exact HB.out))⟩)
                        ·
                         skip
                         refine Kd.R_lit_step k30 _ 30 ?hg (N := 33) ?hd (xs := ([(⟨0, 0, 1⟩ : S30)] : List (S30))) (inner := [.int .i64 0, .int .i64 0, .int .i64 1]) (ok := fun _ => True) (okp := fun _ => True) ?hr ?hp (fun _ hk => hk) trivial (Below.refl _ _) (Nat.le_refl _) (by simp) ?_; (case hd => rfl); (case hg => rfl); (case hr => first | (go_simp; done) | (go_simp; rfl)); (case hp => exact (Reps.c3 (show Kd.M k30 _ _ _ (⟨0, 0, 1⟩ : S30) [.int .i64 0, .int .i64 0, .int .i64 1] from (k30_mkM _ _ _ (⟨0, 0, 1⟩ : S30) )) (Reps.none _ _)))
                         intro v208 w28 ho29 hb hg_ hnew_
                         clear hg_ hnew_
                         (first | rw [← Ny207.out] at ho29 | (simp only [Int.reduceToNat] at ho29; rw [← Ny207.out] at ho29))
                         have n0_ := Aside0.mk (Kd.R_elder' (by (with_reducible repeat (first | apply Kd.R_alloc | apply Kd.R_drewN | apply Kd.R_drew)); exact HO195.out) (Kd.R_base ho29) hb)
                         have n1_ := Aside0.mk (Kd.R_lower (Kd.R_new' ho29 (Kd.R_lt (by (with_reducible repeat (first | apply Kd.R_alloc | apply Kd.R_drewN | apply Kd.R_drew)); exact HO195.out))) (below_size (by repeat (first | (with_reducible first | exact HB.out | apply below_alloc | apply pw_below_drewN | apply below_drew1 | refine below_set ?_ GE196.out | refine below_set ?_ GE213.out) | exact HB.out))))
                         have n2_ := Aside0.mk (blk_below (g := gb196) (o := .cells #[.int .i64 t192, .slice Ao21 t193.length co21] 25 (0, 0)) (by (with_reducible repeat (first | refine blk_drewN ?_ _ | refine blk_drew ?_ | refine blk_alloc ?_ _)); exact BK196.out) hb)
                         have n3_ := Aside0.mk (blk_below (g := gb213) (o := .cells #[.int .i64 0, .slice none 0 0] 25 (0, 0)) (by (with_reducible repeat (first | refine blk_drewN ?_ _ | refine blk_drew ?_ | refine blk_alloc ?_ _)); exact BK213.out) hb)
                         have n4_ := Aside0.mk (below_step (by repeat (first | (with_reducible first | exact HB.out | apply below_alloc | apply pw_below_drewN | apply below_drew1 | refine below_set ?_ GE196.out | refine below_set ?_ GE213.out) | exact HB.out)) hb)
                         clear HO195
                         clear BK196
                         clear BK213
                         clear HB
                         have HO195 := n0_
                         have HO209 := n1_
                         have BK196 := n2_
                         have BK213 := n3_
                         have HB := n4_
                         clear n0_ n1_ n2_ n3_ n4_
                         clear hb ho29
                         refine hK.out _ _ ⟨(blk_cell BK196.out 0).trans rfl, (blk_cell BK196.out 1).trans rfl⟩ (fun hHeld => ?_)
                         clear hK K
                         refine norm_ (a' := ?_) ?_ ?_
                         rotate_left
                         ·
                          show Act.put _ (some 33) _ = _
                          simp only [Act.put, List.setIfInBounds_toArray, List.set_cons_zero, List.set_cons_succ, i64_w, i32_w]
                          rfl
                         exact norm_ (by first | (simp only [putAll, Act.put, List.setIfInBounds_toArray, List.set_cons_zero, List.set_cons_succ]; done) | (simp only [putAll, Act.put, List.setIfInBounds_toArray, List.set_cons_zero, List.set_cons_succ]; rfl)) (hJ7_10 (v208, gb213) _ ⟨hHeld, (by (with_reducible repeat (first | apply Kd.R_alloc | apply Kd.R_drewN | apply Kd.R_drew)); exact Kd.R_mono HO195.out (fun _ hk => hk.2)), (by (with_reducible repeat (first | apply Kd.R_alloc | apply Kd.R_drewN | apply Kd.R_drew)); exact Kd.R_mono HO209.out (fun _ hk => hk.2)), (by (with_reducible repeat (first | refine blk_drewN ?_ _ | refine blk_drew ?_ | refine blk_alloc ?_ _)); exact BK196.out), (by (with_reducible repeat (first | refine blk_drewN ?_ _ | refine blk_drew ?_ | refine blk_alloc ?_ _)); exact BK213.out), GW213.out, GE213.out, NB196_213.out, NB213_196.out, (by repeat (first | (with_reducible first | exact HB.out | apply below_alloc | apply pw_below_drewN | apply below_drew1 | refine below_set ?_ GE196.out | refine below_set ?_ GE213.out) | exact HB.out))⟩)
                      ·
                       skip
                       rintro v208 w28 ⟨hS_, h0_, h1_, h2_, h3_⟩
                       have n0_ : Aside0 (Kd.R k30 30 w28 w.heap.size (fun k_ => some k_ ≠ (v208 : Value).ownBlock) (.slice Ao21 t193.length co21) t193) := ⟨h0_⟩
                       have n1_ : Aside0 (Kd.R k30 30 w28 w.heap.size (fun k_ => some k_ ≠ (.slice Ao21 t193.length co21 : Value).ownBlock) v208 y207) := ⟨h1_⟩
                       have n2_ : Aside0 (w28.heap[gb196]? = some (.cells #[.int .i64 t192, .slice Ao21 t193.length co21] 25 (0, 0))) := ⟨h2_⟩
                       have n3_ : Aside0 (Below w.heap.size w w28) := ⟨h3_⟩
                       clear HO195
                       clear BK196
                       clear HB
                       clear h0_ h1_ h2_ h3_
                       have HO195 := n0_
                       have HO209 := n1_
                       have BK196 := n2_
                       have HB := n3_
                       clear n0_ n1_ n2_ n3_
                       have hHeld : w28.cell? ⟨gb196, 0, none⟩ = some (.int .i64 t192) ∧ w28.cell? ⟨gb196, 1, none⟩ = some (.slice Ao21 t193.length co21) := hS_
                       refine norm_ (a' := ?_) ?_ ?_
                       rotate_left
                       ·
                        simp only [putAll, Act.put, List.setIfInBounds_toArray, List.set_cons_zero, List.set_cons_succ]
                        rfl
                       refine two_ (i := 2) (j := 10) (Ni := some 28) (Nj := some 5) #[true, true, true, true, true, false, true, true, false, false, false, false] #[true, true, false, true, true, false, true, true, false, false, true, false] rfl rfl rfl rfl (two_of HT_.out (by kernel_rfl)) (by decide) (by decide) (fun K hK => ?_) (fun K hK => ?_)
                       ·
                        skip
                        refine Kd.R_lit_step k30 _ 30 ?hg (N := 28) ?hd (xs := ([] : List (S30))) (inner := []) (ok := fun _ => True) (okp := fun _ => True) ?hr ?hp (fun _ hk => hk) trivial (Below.refl _ _) (Nat.le_refl _) (by simp) ?_; (case hd => rfl); (case hg => rfl); (case hr => first | (go_simp; done) | (go_simp; rfl)); (case hp => exact (Reps.none _ _))
                        intro v202 w29 ho30 hb hg_ hnew_
                        clear hg_ hnew_
                        (first | rw [← Ny201.out] at ho30 | (simp only [Int.reduceToNat] at ho30; rw [← Ny201.out] at ho30))
                        have n0_ := Aside0.mk (Kd.R_elder' (by (with_reducible repeat (first | apply Kd.R_alloc | apply Kd.R_drewN | apply Kd.R_drew)); exact HO195.out) (Kd.R_base ho30) hb)
                        have n1_ := Aside0.mk (Kd.R_elder' (by (with_reducible repeat (first | apply Kd.R_alloc | apply Kd.R_drewN | apply Kd.R_drew)); exact HO209.out) (Kd.R_base ho30) hb)
                        have n2_ := Aside0.mk (Kd.R_lower (Kd.R_new' (Kd.R_new' ho30 (Kd.R_lt (by (with_reducible repeat (first | apply Kd.R_alloc | apply Kd.R_drewN | apply Kd.R_drew)); exact HO195.out))) (Kd.R_lt (by (with_reducible repeat (first | apply Kd.R_alloc | apply Kd.R_drewN | apply Kd.R_drew)); exact HO209.out))) (below_size (by repeat (first | (with_reducible first | exact HB.out | apply below_alloc | apply pw_below_drewN | apply below_drew1 | refine below_set ?_ GE196.out) | exact HB.out))))
                        have n3_ := Aside0.mk (blk_below (g := gb196) (o := .cells #[.int .i64 t192, .slice Ao21 t193.length co21] 25 (0, 0)) (by (with_reducible repeat (first | refine blk_drewN ?_ _ | refine blk_drew ?_ | refine blk_alloc ?_ _)); exact BK196.out) hb)
                        have n4_ := Aside0.mk (below_step (by repeat (first | (with_reducible first | exact HB.out | apply below_alloc | apply pw_below_drewN | apply below_drew1 | refine below_set ?_ GE196.out) | exact HB.out)) hb)
                        clear HO195
                        clear HO209
                        clear BK196
                        clear HB
                        have HO195 := n0_
                        have HO209 := n1_
                        have HO203 := n2_
                        have BK196 := n3_
                        have HB := n4_
                        clear n0_ n1_ n2_ n3_ n4_
                        clear hb ho30
                        refine hK.out _ _ ⟨(blk_cell BK196.out 0).trans rfl, (blk_cell BK196.out 1).trans rfl⟩ (fun hHeld => ?_)
                        clear hK K
                        refine norm_ (a' := ?_) ?_ ?_
                        rotate_left
                        ·
                         show Act.put _ (some 28) _ = _
                         simp only [Act.put, List.setIfInBounds_toArray, List.set_cons_zero, List.set_cons_succ, i64_w, i32_w]
                         rfl
                        exact norm_ (by first | (simp only [putAll, Act.put, List.setIfInBounds_toArray, List.set_cons_zero, List.set_cons_succ]; done) | (simp only [putAll, Act.put, List.setIfInBounds_toArray, List.set_cons_zero, List.set_cons_succ]; rfl)) (hJ2_7 (v202, v208) _ ⟨hHeld, (by (with_reducible repeat (first | apply Kd.R_alloc | apply Kd.R_drewN | apply Kd.R_drew)); exact Kd.R_mono HO195.out (fun _ hk => ⟨hk.2, hk.1⟩)), (by (with_reducible repeat (first | apply Kd.R_alloc | apply Kd.R_drewN | apply Kd.R_drew)); exact Kd.R_mono HO203.out (fun _ hk => ⟨hk.1.2, hk.2⟩)), (by (with_reducible repeat (first | apply Kd.R_alloc | apply Kd.R_drewN | apply Kd.R_drew)); exact HO209.out), (by (with_reducible repeat (first | refine blk_drewN ?_ _ | refine blk_drew ?_ | refine blk_alloc ?_ _)); exact BK196.out), (by repeat (first | (with_reducible first | exact HB.out | apply below_alloc | apply pw_below_drewN | apply below_drew1 | refine below_set ?_ GE196.out) | exact HB.out))⟩)
                       ·
                        skip
                        refine box_step ?hg (N := 5) ?hd (cs := #[.int .i64 0, .slice none 0 0]) (t := 25) ?hr ?_; (case hd => rfl); (case hg => rfl); (case hr => first | (go_simp; done) | (go_simp; rfl))
                        intro gb213 hg w29 hbox hb
                        have n0_ := Aside0.mk (Kd.R_below (by (with_reducible repeat (first | apply Kd.R_alloc | apply Kd.R_drewN | apply Kd.R_drew)); exact HO195.out) hb)
                        have n1_ := Aside0.mk (Kd.R_below (by (with_reducible repeat (first | apply Kd.R_alloc | apply Kd.R_drewN | apply Kd.R_drew)); exact HO209.out) hb)
                        have n2_ := Aside0.mk (blk_below (g := gb196) (o := .cells #[.int .i64 t192, .slice Ao21 t193.length co21] 25 (0, 0)) (by (with_reducible repeat (first | refine blk_drewN ?_ _ | refine blk_drew ?_ | refine blk_alloc ?_ _)); exact BK196.out) hb)
                        have n3_ := Aside0.mk (below_step (by repeat (first | (with_reducible first | exact HB.out | apply below_alloc | apply pw_below_drewN | apply below_drew1 | refine below_set ?_ GE196.out) | exact HB.out)) hb)
                        have n4_ := Aside0.mk (hbox)
                        have n5_ := Aside0.mk ((by rw [hg]; exact (below_size (by repeat (first | (with_reducible first | exact HB.out | apply below_alloc | apply pw_below_drewN | apply below_drew1 | refine below_set ?_ GE196.out) | exact HB.out))) : w.heap.size ≤ gb213))
                        have n6_ := Aside0.mk ((by rw [hg]; exact (below_size (by repeat (first | (with_reducible first | exact HB.out | apply below_alloc | apply pw_below_drewN | apply below_drew1 | refine below_set ?_ GE196.out) | exact HB.out))) : w.heap.size ≤ gb213))
                        have n7_ := Aside0.mk ((by rw [hg]; exact Nat.ne_of_lt (blk_lt (g := gb196) (o := .cells #[.int .i64 t192, .slice Ao21 t193.length co21] 25 (0, 0)) (by (with_reducible repeat (first | refine blk_drewN ?_ _ | refine blk_drew ?_ | refine blk_alloc ?_ _)); exact BK196.out)) : gb196 ≠ gb213))
                        have n8_ := Aside0.mk ((by rw [hg]; exact Nat.ne_of_gt (blk_lt (g := gb196) (o := .cells #[.int .i64 t192, .slice Ao21 t193.length co21] 25 (0, 0)) (by (with_reducible repeat (first | refine blk_drewN ?_ _ | refine blk_drew ?_ | refine blk_alloc ?_ _)); exact BK196.out)) : gb213 ≠ gb196))
                        clear HO195
                        clear HO209
                        clear BK196
                        clear HB
                        have HO195 := n0_
                        have HO209 := n1_
                        have BK196 := n2_
                        have HB := n3_
                        have BK213 := n4_
                        have GW213 := n5_
                        have GE213 := n6_
                        have NB196_213 := n7_
                        have NB213_196 := n8_
                        clear n0_ n1_ n2_ n3_ n4_ n5_ n6_ n7_ n8_
                        clear hb hbox hg
                        refine hK.out _ _ ⟨(blk_cell BK196.out 0).trans rfl, (blk_cell BK196.out 1).trans rfl⟩ (fun hHeld => ?_)
                        clear hK K
                        refine norm_ (a' := ?_) ?_ ?_
                        rotate_left
                        ·
                         show Act.put _ (some 5) _ = _
                         simp only [Act.put, List.setIfInBounds_toArray, List.set_cons_zero, List.set_cons_succ, i64_w, i32_w]
                         rfl
                        exact norm_ (by first | (simp only [putAll, Act.put, List.setIfInBounds_toArray, List.set_cons_zero, List.set_cons_succ]; done) | (simp only [putAll, Act.put, List.setIfInBounds_toArray, List.set_cons_zero, List.set_cons_succ]; rfl)) (hJ7_10 (v208, gb213) _ ⟨hHeld, (by (with_reducible repeat (first | apply Kd.R_alloc | apply Kd.R_drewN | apply Kd.R_drew)); exact HO195.out), (by (with_reducible repeat (first | apply Kd.R_alloc | apply Kd.R_drewN | apply Kd.R_drew)); exact HO209.out), (by (with_reducible repeat (first | refine blk_drewN ?_ _ | refine blk_drew ?_ | refine blk_alloc ?_ _)); exact BK196.out), (by (with_reducible repeat (first | refine blk_drewN ?_ _ | refine blk_drew ?_ | refine blk_alloc ?_ _)); exact BK213.out), GW213.out, GE213.out, NB196_213.out, NB213_196.out, (by repeat (first | (with_reducible first | exact HB.out | apply below_alloc | apply pw_below_drewN | apply below_drew1 | refine below_set ?_ GE196.out | refine below_set ?_ GE213.out) | exact HB.out))⟩)
                     ·
                      skip
                      rintro v202 w28 ⟨hS_, h0_, h1_, h2_, h3_⟩
                      have n0_ : Aside0 (Kd.R k30 30 w28 w.heap.size (fun k_ => some k_ ≠ (v202 : Value).ownBlock) (.slice Ao21 t193.length co21) t193) := ⟨h0_⟩
                      have n1_ : Aside0 (Kd.R k30 30 w28 w.heap.size (fun k_ => some k_ ≠ (.slice Ao21 t193.length co21 : Value).ownBlock) v202 y201) := ⟨h1_⟩
                      have n2_ : Aside0 (w28.heap[gb196]? = some (.cells #[.int .i64 t192, .slice Ao21 t193.length co21] 25 (0, 0))) := ⟨h2_⟩
                      have n3_ : Aside0 (Below w.heap.size w w28) := ⟨h3_⟩
                      clear HO195
                      clear BK196
                      clear HB
                      clear h0_ h1_ h2_ h3_
                      have HO195 := n0_
                      have HO203 := n1_
                      have BK196 := n2_
                      have HB := n3_
                      clear n0_ n1_ n2_ n3_
                      have hHeld : w28.cell? ⟨gb196, 0, none⟩ = some (.int .i64 t192) ∧ w28.cell? ⟨gb196, 1, none⟩ = some (.slice Ao21 t193.length co21) := hS_
                      refine norm_ (a' := ?_) ?_ ?_
                      rotate_left
                      ·
                       simp only [putAll, Act.put, List.setIfInBounds_toArray, List.set_cons_zero, List.set_cons_succ]
                       rfl
                      refine three_ (i := 5) (j := 7) (k := 10) (Ni := some 31) (Nj := some 33) (Nk := some 5) #[true, true, true, true, true, true, true, false, false, false, false, false] #[true, true, true, true, true, false, true, true, false, false, false, false] #[true, true, true, true, true, false, true, false, false, false, true, false] rfl rfl rfl rfl rfl rfl (three_of HT_.out (by kernel_rfl)) (by decide) (by decide) (by decide) (fun K hK => ?_) (fun K hK => ?_) (fun K hK => ?_)
                      ·
                       skip
                       refine Kd.R_append_rows_step k30 (w0 := w) w.heap.size (by rfl) (.tmp 28) (.tmp 30) 23 30 (.agg #[(.int .i64 0), (.int .i64 0), (.int .i64 0)]) 24 rfl Tryd.underlying23 info30 rfl (by decide) (by omega) v202 y201 t193 _ _ _ (fun k_ => some k_ ≠ (.slice Ao21 t193.length co21 : Value).ownBlock) (fun _ => False) rfl rfl ?aO ?aR (fun _ _ h => h) (fun _ h => h.elim) ?aF ?aB ?aS ?aL ?_
                       (case aR => repeat (first | exact (Kd.R_reads' HO195.out).2.2 | (with_reducible refine Kd.C_alloc ?_ _) | (with_reducible refine Kd.C_drewN ?_ _) | (with_reducible refine Kd.C_drew ?_)))
                       (case aB => exact (by repeat (first | (with_reducible first | exact HB.out | apply below_alloc | apply pw_below_drewN | apply below_drew1 | refine below_set ?_ GE196.out) | exact HB.out)))
                       (case aF => exact (fun k_ hk => Kd.fresh' (Kd.R_lt (by (with_reducible repeat (first | apply Kd.R_alloc | apply Kd.R_drewN | apply Kd.R_drew)); exact HO195.out)) k_ hk))
                       (case aO => exact (by (with_reducible repeat (first | apply Kd.R_alloc | apply Kd.R_drewN | apply Kd.R_drew)); exact HO203.out))
                       (case aS => exact (below_size (by repeat (first | (with_reducible first | exact HB.out | apply below_alloc | apply pw_below_drewN | apply below_drew1 | refine below_set ?_ GE196.out) | exact HB.out))))
                       (case aL => have := LMc8.out; omega)
                       intro v205 w29 ho hb hg hat
                       rw [← Ny204.out] at ho
                       have n0_ := Aside0.mk (Kd.R_after (ok := (fun _ => True)) (by (with_reducible repeat (first | apply Kd.R_alloc | apply Kd.R_drewN | apply Kd.R_drew)); exact Kd.R_mono HO195.out (fun _ hk => ⟨trivial, hk⟩)) hg hat)
                       have n1_ := Aside0.mk (blk_grown (g := gb196) (o := .cells #[.int .i64 t192, .slice Ao21 t193.length co21] 25 (0, 0)) (by (with_reducible repeat (first | refine blk_drewN ?_ _ | refine blk_drew ?_ | refine blk_alloc ?_ _)); exact BK196.out) hg (Kd.R_ne HO203.out BK196.out (by decide)))
                       have n2_ := Aside0.mk (hb)
                       have n3_ := Aside0.mk (ho)
                       clear HO195
                       clear BK196
                       clear HB
                       clear HO203
                       have HO195 := n0_
                       have BK196 := n1_
                       have HB := n2_
                       have HO206 := n3_
                       clear n0_ n1_ n2_ n3_
                       clear ho hb hg hat
                       refine hK.out _ _ ⟨(blk_cell BK196.out 0).trans rfl, (blk_cell BK196.out 1).trans rfl⟩ (fun hHeld => ?_)
                       clear hK K
                       refine norm_ (a' := ?_) ?_ ?_
                       rotate_left
                       ·
                        show Act.put _ (some 31) _ = _
                        simp only [Act.put, List.setIfInBounds_toArray, List.set_cons_zero, List.set_cons_succ, i64_w, i32_w]
                        rfl
                       exact norm_ (by first | (simp only [putAll, Act.put, List.setIfInBounds_toArray, List.set_cons_zero, List.set_cons_succ]; done) | (simp only [putAll, Act.put, List.setIfInBounds_toArray, List.set_cons_zero, List.set_cons_succ]; rfl)) (hJ2_5 (v202, v205) _ ⟨hHeld, (by (with_reducible repeat (first | apply Kd.R_alloc | apply Kd.R_drewN | apply Kd.R_drew)); exact Kd.R_mono HO195.out (fun _ hk => hk.2)), (by (with_reducible repeat (first | apply Kd.R_alloc | apply Kd.R_drewN | apply Kd.R_drew)); exact HO206.out), (by (with_reducible repeat (first | refine blk_drewN ?_ _ | refine blk_drew ?_ | refine blk_alloc ?_ _)); exact BK196.out), (by repeat (first | (with_reducible first | exact HB.out | apply below_alloc | apply pw_below_drewN | apply below_drew1 | refine below_set ?_ GE196.out) | exact HB.out))⟩)
                      ·
                       skip
                       refine Kd.R_lit_step k30 _ 30 ?hg (N := 33) ?hd (xs := ([(⟨0, 0, 1⟩ : S30)] : List (S30))) (inner := [.int .i64 0, .int .i64 0, .int .i64 1]) (ok := fun _ => True) (okp := fun _ => True) ?hr ?hp (fun _ hk => hk) trivial (Below.refl _ _) (Nat.le_refl _) (by simp) ?_; (case hd => rfl); (case hg => rfl); (case hr => first | (go_simp; done) | (go_simp; rfl)); (case hp => exact (Reps.c3 (show Kd.M k30 _ _ _ (⟨0, 0, 1⟩ : S30) [.int .i64 0, .int .i64 0, .int .i64 1] from (k30_mkM _ _ _ (⟨0, 0, 1⟩ : S30) )) (Reps.none _ _)))
                       intro v208 w29 ho30 hb hg_ hnew_
                       clear hg_ hnew_
                       (first | rw [← Ny207.out] at ho30 | (simp only [Int.reduceToNat] at ho30; rw [← Ny207.out] at ho30))
                       have n0_ := Aside0.mk (Kd.R_elder' (by (with_reducible repeat (first | apply Kd.R_alloc | apply Kd.R_drewN | apply Kd.R_drew)); exact HO195.out) (Kd.R_base ho30) hb)
                       have n1_ := Aside0.mk (Kd.R_elder' (by (with_reducible repeat (first | apply Kd.R_alloc | apply Kd.R_drewN | apply Kd.R_drew)); exact HO203.out) (Kd.R_base ho30) hb)
                       have n2_ := Aside0.mk (Kd.R_lower (Kd.R_new' (Kd.R_new' ho30 (Kd.R_lt (by (with_reducible repeat (first | apply Kd.R_alloc | apply Kd.R_drewN | apply Kd.R_drew)); exact HO195.out))) (Kd.R_lt (by (with_reducible repeat (first | apply Kd.R_alloc | apply Kd.R_drewN | apply Kd.R_drew)); exact HO203.out))) (below_size (by repeat (first | (with_reducible first | exact HB.out | apply below_alloc | apply pw_below_drewN | apply below_drew1 | refine below_set ?_ GE196.out) | exact HB.out))))
                       have n3_ := Aside0.mk (blk_below (g := gb196) (o := .cells #[.int .i64 t192, .slice Ao21 t193.length co21] 25 (0, 0)) (by (with_reducible repeat (first | refine blk_drewN ?_ _ | refine blk_drew ?_ | refine blk_alloc ?_ _)); exact BK196.out) hb)
                       have n4_ := Aside0.mk (below_step (by repeat (first | (with_reducible first | exact HB.out | apply below_alloc | apply pw_below_drewN | apply below_drew1 | refine below_set ?_ GE196.out) | exact HB.out)) hb)
                       clear HO195
                       clear HO203
                       clear BK196
                       clear HB
                       have HO195 := n0_
                       have HO203 := n1_
                       have HO209 := n2_
                       have BK196 := n3_
                       have HB := n4_
                       clear n0_ n1_ n2_ n3_ n4_
                       clear hb ho30
                       refine hK.out _ _ ⟨(blk_cell BK196.out 0).trans rfl, (blk_cell BK196.out 1).trans rfl⟩ (fun hHeld => ?_)
                       clear hK K
                       refine norm_ (a' := ?_) ?_ ?_
                       rotate_left
                       ·
                        show Act.put _ (some 33) _ = _
                        simp only [Act.put, List.setIfInBounds_toArray, List.set_cons_zero, List.set_cons_succ, i64_w, i32_w]
                        rfl
                       exact norm_ (by first | (simp only [putAll, Act.put, List.setIfInBounds_toArray, List.set_cons_zero, List.set_cons_succ]; done) | (simp only [putAll, Act.put, List.setIfInBounds_toArray, List.set_cons_zero, List.set_cons_succ]; rfl)) (hJ2_7 (v202, v208) _ ⟨hHeld, (by (with_reducible repeat (first | apply Kd.R_alloc | apply Kd.R_drewN | apply Kd.R_drew)); exact HO195.out), (by (with_reducible repeat (first | apply Kd.R_alloc | apply Kd.R_drewN | apply Kd.R_drew)); exact HO203.out), (by (with_reducible repeat (first | apply Kd.R_alloc | apply Kd.R_drewN | apply Kd.R_drew)); exact Kd.R_mono HO209.out (fun _ hk => ⟨hk.1.2, hk.2⟩)), (by (with_reducible repeat (first | refine blk_drewN ?_ _ | refine blk_drew ?_ | refine blk_alloc ?_ _)); exact BK196.out), (by repeat (first | (with_reducible first | exact HB.out | apply below_alloc | apply pw_below_drewN | apply below_drew1 | refine below_set ?_ GE196.out) | exact HB.out))⟩)
                      ·
                       skip
                       refine box_step ?hg (N := 5) ?hd (cs := #[.int .i64 0, .slice none 0 0]) (t := 25) ?hr ?_; (case hd => rfl); (case hg => rfl); (case hr => first | (go_simp; done) | (go_simp; rfl))
                       intro gb213 hg w29 hbox hb
                       have n0_ := Aside0.mk (Kd.R_below (by (with_reducible repeat (first | apply Kd.R_alloc | apply Kd.R_drewN | apply Kd.R_drew)); exact HO195.out) hb)
                       have n1_ := Aside0.mk (Kd.R_below (by (with_reducible repeat (first | apply Kd.R_alloc | apply Kd.R_drewN | apply Kd.R_drew)); exact HO203.out) hb)
                       have n2_ := Aside0.mk (blk_below (g := gb196) (o := .cells #[.int .i64 t192, .slice Ao21 t193.length co21] 25 (0, 0)) (by (with_reducible repeat (first | refine blk_drewN ?_ _ | refine blk_drew ?_ | refine blk_alloc ?_ _)); exact BK196.out) hb)
                       have n3_ := Aside0.mk (below_step (by repeat (first | (with_reducible first | exact HB.out | apply below_alloc | apply pw_below_drewN | apply below_drew1 | refine below_set ?_ GE196.out) | exact HB.out)) hb)
                       have n4_ := Aside0.mk (hbox)
                       have n5_ := Aside0.mk ((by rw [hg]; exact (below_size (by repeat (first | (with_reducible first | exact HB.out | apply below_alloc | apply pw_below_drewN | apply below_drew1 | refine below_set ?_ GE196.out) | exact HB.out))) : w.heap.size ≤ gb213))
                       have n6_ := Aside0.mk ((by rw [hg]; exact (below_size (by repeat (first | (with_reducible first | exact HB.out | apply below_alloc | apply pw_below_drewN | apply below_drew1 | refine below_set ?_ GE196.out) | exact HB.out))) : w.heap.size ≤ gb213))
                       have n7_ := Aside0.mk ((by rw [hg]; exact Nat.ne_of_lt (blk_lt (g := gb196) (o := .cells #[.int .i64 t192, .slice Ao21 t193.length co21] 25 (0, 0)) (by (with_reducible repeat (first | refine blk_drewN ?_ _ | refine blk_drew ?_ | refine blk_alloc ?_ _)); exact BK196.out)) : gb196 ≠ gb213))
                       have n8_ := Aside0.mk ((by rw [hg]; exact Nat.ne_of_gt (blk_lt (g := gb196) (o := .cells #[.int .i64 t192, .slice Ao21 t193.length co21] 25 (0, 0)) (by (with_reducible repeat (first | refine blk_drewN ?_ _ | refine blk_drew ?_ | refine blk_alloc ?_ _)); exact BK196.out)) : gb213 ≠ gb196))
                       clear HO195
                       clear HO203
                       clear BK196
                       clear HB
                       have HO195 := n0_
                       have HO203 := n1_
                       have BK196 := n2_
                       have HB := n3_
                       have BK213 := n4_
                       have GW213 := n5_
                       have GE213 := n6_
                       have NB196_213 := n7_
                       have NB213_196 := n8_
                       clear n0_ n1_ n2_ n3_ n4_ n5_ n6_ n7_ n8_
                       clear hb hbox hg
                       refine hK.out _ _ ⟨(blk_cell BK196.out 0).trans rfl, (blk_cell BK196.out 1).trans rfl⟩ (fun hHeld => ?_)
                       clear hK K
                       refine norm_ (a' := ?_) ?_ ?_
                       rotate_left
                       ·
                        show Act.put _ (some 5) _ = _
                        simp only [Act.put, List.setIfInBounds_toArray, List.set_cons_zero, List.set_cons_succ, i64_w, i32_w]
                        rfl
                       exact norm_ (by first | (simp only [putAll, Act.put, List.setIfInBounds_toArray, List.set_cons_zero, List.set_cons_succ]; done) | (simp only [putAll, Act.put, List.setIfInBounds_toArray, List.set_cons_zero, List.set_cons_succ]; rfl)) (hJ2_10 (v202, gb213) _ ⟨hHeld, (by (with_reducible repeat (first | apply Kd.R_alloc | apply Kd.R_drewN | apply Kd.R_drew)); exact HO195.out), (by (with_reducible repeat (first | apply Kd.R_alloc | apply Kd.R_drewN | apply Kd.R_drew)); exact HO203.out), (by (with_reducible repeat (first | refine blk_drewN ?_ _ | refine blk_drew ?_ | refine blk_alloc ?_ _)); exact BK196.out), (by (with_reducible repeat (first | refine blk_drewN ?_ _ | refine blk_drew ?_ | refine blk_alloc ?_ _)); exact BK213.out), GW213.out, GE213.out, NB196_213.out, NB213_196.out, (by repeat (first | (with_reducible first | exact HB.out | apply below_alloc | apply pw_below_drewN | apply below_drew1 | refine below_set ?_ GE196.out | refine below_set ?_ GE213.out) | exact HB.out))⟩)
                    ·
                     skip
                     rintro ⟨v208, gb213⟩ w29 ⟨hS_, h0_, h1_, h2_, h3_, h4_, h5_, h6_, h7_, h8_⟩
                     have n0_ : Aside0 (Kd.R k30 30 w29 w.heap.size (fun k_ => some k_ ≠ (v208 : Value).ownBlock) (.slice Ao21 t193.length co21) t193) := ⟨h0_⟩
                     have n1_ : Aside0 (Kd.R k30 30 w29 w.heap.size (fun k_ => some k_ ≠ (.slice Ao21 t193.length co21 : Value).ownBlock) v208 y207) := ⟨h1_⟩
                     have n2_ : Aside0 (w29.heap[gb196]? = some (.cells #[.int .i64 t192, .slice Ao21 t193.length co21] 25 (0, 0))) := ⟨h2_⟩
                     have n3_ : Aside0 (w29.heap[gb213]? = some (.cells #[.int .i64 0, .slice none 0 0] 25 (0, 0))) := ⟨h3_⟩
                     have n4_ : Aside0 (w.heap.size ≤ gb213) := ⟨h4_⟩
                     have n5_ : Aside0 (w.heap.size ≤ gb213) := ⟨h5_⟩
                     have n6_ : Aside0 (gb196 ≠ gb213) := ⟨h6_⟩
                     have n7_ : Aside0 (gb213 ≠ gb196) := ⟨h7_⟩
                     have n8_ : Aside0 (Below w.heap.size w w29) := ⟨h8_⟩
                     clear HO195
                     clear BK196
                     clear HB
                     clear h0_ h1_ h2_ h3_ h4_ h5_ h6_ h7_ h8_
                     have HO195 := n0_
                     have HO209 := n1_
                     have BK196 := n2_
                     have BK213 := n3_
                     have GW213 := n4_
                     have GE213 := n5_
                     have NB196_213 := n6_
                     have NB213_196 := n7_
                     have HB := n8_
                     clear n0_ n1_ n2_ n3_ n4_ n5_ n6_ n7_ n8_
                     have hHeld : w29.cell? ⟨gb196, 0, none⟩ = some (.int .i64 t192) ∧ w29.cell? ⟨gb196, 1, none⟩ = some (.slice Ao21 t193.length co21) := hS_
                     refine norm_ (a' := ?_) ?_ ?_
                     rotate_left
                     ·
                      simp only [putAll, Act.put, List.setIfInBounds_toArray, List.set_cons_zero, List.set_cons_succ]
                      rfl
                     refine one_ (i := 2) (N := some 28) #[true, true, true, true, true, false, true, true, false, false, true, false] rfl rfl (one_of HT_.out (by kernel_rfl)) (by decide) (fun K hK => ?_)
                     refine Kd.R_lit_step k30 _ 30 ?hg (N := 28) ?hd (xs := ([] : List (S30))) (inner := []) (ok := fun _ => True) (okp := fun _ => True) ?hr ?hp (fun _ hk => hk) trivial (Below.refl _ _) (Nat.le_refl _) (by simp) ?_; (case hd => rfl); (case hg => rfl); (case hr => first | (go_simp; done) | (go_simp; rfl)); (case hp => exact (Reps.none _ _))
                     intro v202 w30 ho31 hb hg_ hnew_
                     clear hg_ hnew_
                     (first | rw [← Ny201.out] at ho31 | (simp only [Int.reduceToNat] at ho31; rw [← Ny201.out] at ho31))
                     have n0_ := Aside0.mk (Kd.R_elder' (by (with_reducible repeat (first | apply Kd.R_alloc | apply Kd.R_drewN | apply Kd.R_drew)); exact HO195.out) (Kd.R_base ho31) hb)
                     have n1_ := Aside0.mk (Kd.R_elder' (by (with_reducible repeat (first | apply Kd.R_alloc | apply Kd.R_drewN | apply Kd.R_drew)); exact HO209.out) (Kd.R_base ho31) hb)
                     have n2_ := Aside0.mk (Kd.R_lower (Kd.R_new' (Kd.R_new' ho31 (Kd.R_lt (by (with_reducible repeat (first | apply Kd.R_alloc | apply Kd.R_drewN | apply Kd.R_drew)); exact HO195.out))) (Kd.R_lt (by (with_reducible repeat (first | apply Kd.R_alloc | apply Kd.R_drewN | apply Kd.R_drew)); exact HO209.out))) (below_size (by repeat (first | (with_reducible first | exact HB.out | apply below_alloc | apply pw_below_drewN | apply below_drew1 | refine below_set ?_ GE196.out | refine below_set ?_ GE213.out) | exact HB.out))))
                     have n3_ := Aside0.mk (blk_below (g := gb196) (o := .cells #[.int .i64 t192, .slice Ao21 t193.length co21] 25 (0, 0)) (by (with_reducible repeat (first | refine blk_drewN ?_ _ | refine blk_drew ?_ | refine blk_alloc ?_ _)); exact BK196.out) hb)
                     have n4_ := Aside0.mk (blk_below (g := gb213) (o := .cells #[.int .i64 0, .slice none 0 0] 25 (0, 0)) (by (with_reducible repeat (first | refine blk_drewN ?_ _ | refine blk_drew ?_ | refine blk_alloc ?_ _)); exact BK213.out) hb)
                     have n5_ := Aside0.mk (below_step (by repeat (first | (with_reducible first | exact HB.out | apply below_alloc | apply pw_below_drewN | apply below_drew1 | refine below_set ?_ GE196.out | refine below_set ?_ GE213.out) | exact HB.out)) hb)
                     clear HO195
                     clear HO209
                     clear BK196
                     clear BK213
                     clear HB
                     have HO195 := n0_
                     have HO209 := n1_
                     have HO203 := n2_
                     have BK196 := n3_
                     have BK213 := n4_
                     have HB := n5_
                     clear n0_ n1_ n2_ n3_ n4_ n5_
                     clear hb ho31
                     refine hK.out _ _ ⟨(blk_cell BK196.out 0).trans rfl, (blk_cell BK196.out 1).trans rfl⟩ (fun hHeld => ?_)
                     clear hK K
                     refine norm_ (a' := ?_) ?_ ?_
                     rotate_left
                     ·
                      show Act.put _ (some 28) _ = _
                      simp only [Act.put, List.setIfInBounds_toArray, List.set_cons_zero, List.set_cons_succ, i64_w, i32_w]
                      rfl
                     exact norm_ (by first | (simp only [putAll, Act.put, List.setIfInBounds_toArray, List.set_cons_zero, List.set_cons_succ]; done) | (simp only [putAll, Act.put, List.setIfInBounds_toArray, List.set_cons_zero, List.set_cons_succ]; rfl)) (hJ2_7_10 (v202, v208, gb213) _ ⟨hHeld, (by (with_reducible repeat (first | apply Kd.R_alloc | apply Kd.R_drewN | apply Kd.R_drew)); exact Kd.R_mono HO195.out (fun _ hk => ⟨hk.2, hk.1⟩)), (by (with_reducible repeat (first | apply Kd.R_alloc | apply Kd.R_drewN | apply Kd.R_drew)); exact Kd.R_mono HO203.out (fun _ hk => ⟨hk.1.2, hk.2⟩)), (by (with_reducible repeat (first | apply Kd.R_alloc | apply Kd.R_drewN | apply Kd.R_drew)); exact HO209.out), (by (with_reducible repeat (first | refine blk_drewN ?_ _ | refine blk_drew ?_ | refine blk_alloc ?_ _)); exact BK196.out), (by (with_reducible repeat (first | refine blk_drewN ?_ _ | refine blk_drew ?_ | refine blk_alloc ?_ _)); exact BK213.out), GW213.out, GE213.out, NB196_213.out, NB213_196.out, (by repeat (first | (with_reducible first | exact HB.out | apply below_alloc | apply pw_below_drewN | apply below_drew1 | refine below_set ?_ GE196.out | refine below_set ?_ GE213.out) | exact HB.out))⟩)
                   ·
                    skip
                    rintro ⟨v202, gb213⟩ w29 ⟨hS_, h0_, h1_, h2_, h3_, h4_, h5_, h6_, h7_, h8_⟩
                    have n0_ : Aside0 (Kd.R k30 30 w29 w.heap.size (fun k_ => some k_ ≠ (v202 : Value).ownBlock) (.slice Ao21 t193.length co21) t193) := ⟨h0_⟩
                    have n1_ : Aside0 (Kd.R k30 30 w29 w.heap.size (fun k_ => some k_ ≠ (.slice Ao21 t193.length co21 : Value).ownBlock) v202 y201) := ⟨h1_⟩
                    have n2_ : Aside0 (w29.heap[gb196]? = some (.cells #[.int .i64 t192, .slice Ao21 t193.length co21] 25 (0, 0))) := ⟨h2_⟩
                    have n3_ : Aside0 (w29.heap[gb213]? = some (.cells #[.int .i64 0, .slice none 0 0] 25 (0, 0))) := ⟨h3_⟩
                    have n4_ : Aside0 (w.heap.size ≤ gb213) := ⟨h4_⟩
                    have n5_ : Aside0 (w.heap.size ≤ gb213) := ⟨h5_⟩
                    have n6_ : Aside0 (gb196 ≠ gb213) := ⟨h6_⟩
                    have n7_ : Aside0 (gb213 ≠ gb196) := ⟨h7_⟩
                    have n8_ : Aside0 (Below w.heap.size w w29) := ⟨h8_⟩
                    clear HO195
                    clear BK196
                    clear HB
                    clear h0_ h1_ h2_ h3_ h4_ h5_ h6_ h7_ h8_
                    have HO195 := n0_
                    have HO203 := n1_
                    have BK196 := n2_
                    have BK213 := n3_
                    have GW213 := n4_
                    have GE213 := n5_
                    have NB196_213 := n6_
                    have NB213_196 := n7_
                    have HB := n8_
                    clear n0_ n1_ n2_ n3_ n4_ n5_ n6_ n7_ n8_
                    have hHeld : w29.cell? ⟨gb196, 0, none⟩ = some (.int .i64 t192) ∧ w29.cell? ⟨gb196, 1, none⟩ = some (.slice Ao21 t193.length co21) := hS_
                    refine norm_ (a' := ?_) ?_ ?_
                    rotate_left
                    ·
                     simp only [putAll, Act.put, List.setIfInBounds_toArray, List.set_cons_zero, List.set_cons_succ]
                     rfl
                    refine two_ (i := 5) (j := 7) (Ni := some 31) (Nj := some 33) #[true, true, true, true, true, true, true, false, false, false, true, false] #[true, true, true, true, true, false, true, true, false, false, true, false] rfl rfl rfl rfl (two_of HT_.out (by kernel_rfl)) (by decide) (by decide) (fun K hK => ?_) (fun K hK => ?_)
                    ·
                     skip
                     refine Kd.R_append_rows_step k30 (w0 := w) w.heap.size (by rfl) (.tmp 28) (.tmp 30) 23 30 (.agg #[(.int .i64 0), (.int .i64 0), (.int .i64 0)]) 24 rfl Tryd.underlying23 info30 rfl (by decide) (by omega) v202 y201 t193 _ _ _ (fun k_ => some k_ ≠ (.slice Ao21 t193.length co21 : Value).ownBlock) (fun _ => False) rfl rfl ?aO ?aR (fun _ _ h => h) (fun _ h => h.elim) ?aF ?aB ?aS ?aL ?_
                     (case aR => repeat (first | exact (Kd.R_reads' HO195.out).2.2 | (with_reducible refine Kd.C_alloc ?_ _) | (with_reducible refine Kd.C_drewN ?_ _) | (with_reducible refine Kd.C_drew ?_)))
                     (case aB => exact (by repeat (first | (with_reducible first | exact HB.out | apply below_alloc | apply pw_below_drewN | apply below_drew1 | refine below_set ?_ GE196.out | refine below_set ?_ GE213.out) | exact HB.out)))
                     (case aF => exact (fun k_ hk => Kd.fresh' (Kd.R_lt (by (with_reducible repeat (first | apply Kd.R_alloc | apply Kd.R_drewN | apply Kd.R_drew)); exact HO195.out)) k_ hk))
                     (case aO => exact (by (with_reducible repeat (first | apply Kd.R_alloc | apply Kd.R_drewN | apply Kd.R_drew)); exact HO203.out))
                     (case aS => exact (below_size (by repeat (first | (with_reducible first | exact HB.out | apply below_alloc | apply pw_below_drewN | apply below_drew1 | refine below_set ?_ GE196.out | refine below_set ?_ GE213.out) | exact HB.out))))
                     (case aL => have := LMc8.out; omega)
                     intro v205 w30 ho hb hg hat
                     rw [← Ny204.out] at ho
                     have n0_ := Aside0.mk (Kd.R_after (ok := (fun _ => True)) (by (with_reducible repeat (first | apply Kd.R_alloc | apply Kd.R_drewN | apply Kd.R_drew)); exact Kd.R_mono HO195.out (fun _ hk => ⟨trivial, hk⟩)) hg hat)
                     have n1_ := Aside0.mk (blk_grown (g := gb196) (o := .cells #[.int .i64 t192, .slice Ao21 t193.length co21] 25 (0, 0)) (by (with_reducible repeat (first | refine blk_drewN ?_ _ | refine blk_drew ?_ | refine blk_alloc ?_ _)); exact BK196.out) hg (Kd.R_ne HO203.out BK196.out (by decide)))
                     have n2_ := Aside0.mk (blk_grown (g := gb213) (o := .cells #[.int .i64 0, .slice none 0 0] 25 (0, 0)) (by (with_reducible repeat (first | refine blk_drewN ?_ _ | refine blk_drew ?_ | refine blk_alloc ?_ _)); exact BK213.out) hg (Kd.R_ne HO203.out BK213.out (by decide)))
                     have n3_ := Aside0.mk (hb)
                     have n4_ := Aside0.mk (ho)
                     clear HO195
                     clear BK196
                     clear BK213
                     clear HB
                     clear HO203
                     have HO195 := n0_
                     have BK196 := n1_
                     have BK213 := n2_
                     have HB := n3_
                     have HO206 := n4_
                     clear n0_ n1_ n2_ n3_ n4_
                     clear ho hb hg hat
                     refine hK.out _ _ ⟨(blk_cell BK196.out 0).trans rfl, (blk_cell BK196.out 1).trans rfl⟩ (fun hHeld => ?_)
                     clear hK K
                     refine norm_ (a' := ?_) ?_ ?_
                     rotate_left
                     ·
                      show Act.put _ (some 31) _ = _
                      simp only [Act.put, List.setIfInBounds_toArray, List.set_cons_zero, List.set_cons_succ, i64_w, i32_w]
                      rfl
                     exact norm_ (by first | (simp only [putAll, Act.put, List.setIfInBounds_toArray, List.set_cons_zero, List.set_cons_succ]; done) | (simp only [putAll, Act.put, List.setIfInBounds_toArray, List.set_cons_zero, List.set_cons_succ]; rfl)) (hJ2_5_10 (v202, v205, gb213) _ ⟨hHeld, (by (with_reducible repeat (first | apply Kd.R_alloc | apply Kd.R_drewN | apply Kd.R_drew)); exact Kd.R_mono HO195.out (fun _ hk => hk.2)), (by (with_reducible repeat (first | apply Kd.R_alloc | apply Kd.R_drewN | apply Kd.R_drew)); exact HO206.out), (by (with_reducible repeat (first | refine blk_drewN ?_ _ | refine blk_drew ?_ | refine blk_alloc ?_ _)); exact BK196.out), (by (with_reducible repeat (first | refine blk_drewN ?_ _ | refine blk_drew ?_ | refine blk_alloc ?_ _)); exact BK213.out), GW213.out, GE213.out, NB196_213.out, NB213_196.out, (by repeat (first | (with_reducible first | exact HB.out | apply below_alloc | apply pw_below_drewN | apply below_drew1 | refine below_set ?_ GE196.out | refine below_set ?_ GE213.out) | exact HB.out))⟩)
                    ·
                     skip
                     refine Kd.R_lit_step k30 _ 30 ?hg (N := 33) ?hd (xs := ([(⟨0, 0, 1⟩ : S30)] : List (S30))) (inner := [.int .i64 0, .int .i64 0, .int .i64 1]) (ok := fun _ => True) (okp := fun _ => True) ?hr ?hp (fun _ hk => hk) trivial (Below.refl _ _) (Nat.le_refl _) (by simp) ?_; (case hd => rfl); (case hg => rfl); (case hr => first | (go_simp; done) | (go_simp; rfl)); (case hp => exact (Reps.c3 (show Kd.M k30 _ _ _ (⟨0, 0, 1⟩ : S30) [.int .i64 0, .int .i64 0, .int .i64 1] from (k30_mkM _ _ _ (⟨0, 0, 1⟩ : S30) )) (Reps.none _ _)))
                     intro v208 w30 ho31 hb hg_ hnew_
                     clear hg_ hnew_
                     (first | rw [← Ny207.out] at ho31 | (simp only [Int.reduceToNat] at ho31; rw [← Ny207.out] at ho31))
                     have n0_ := Aside0.mk (Kd.R_elder' (by (with_reducible repeat (first | apply Kd.R_alloc | apply Kd.R_drewN | apply Kd.R_drew)); exact HO195.out) (Kd.R_base ho31) hb)
                     have n1_ := Aside0.mk (Kd.R_elder' (by (with_reducible repeat (first | apply Kd.R_alloc | apply Kd.R_drewN | apply Kd.R_drew)); exact HO203.out) (Kd.R_base ho31) hb)
                     have n2_ := Aside0.mk (Kd.R_lower (Kd.R_new' (Kd.R_new' ho31 (Kd.R_lt (by (with_reducible repeat (first | apply Kd.R_alloc | apply Kd.R_drewN | apply Kd.R_drew)); exact HO195.out))) (Kd.R_lt (by (with_reducible repeat (first | apply Kd.R_alloc | apply Kd.R_drewN | apply Kd.R_drew)); exact HO203.out))) (below_size (by repeat (first | (with_reducible first | exact HB.out | apply below_alloc | apply pw_below_drewN | apply below_drew1 | refine below_set ?_ GE196.out | refine below_set ?_ GE213.out) | exact HB.out))))
                     have n3_ := Aside0.mk (blk_below (g := gb196) (o := .cells #[.int .i64 t192, .slice Ao21 t193.length co21] 25 (0, 0)) (by (with_reducible repeat (first | refine blk_drewN ?_ _ | refine blk_drew ?_ | refine blk_alloc ?_ _)); exact BK196.out) hb)
                     have n4_ := Aside0.mk (blk_below (g := gb213) (o := .cells #[.int .i64 0, .slice none 0 0] 25 (0, 0)) (by (with_reducible repeat (first | refine blk_drewN ?_ _ | refine blk_drew ?_ | refine blk_alloc ?_ _)); exact BK213.out) hb)
                     have n5_ := Aside0.mk (below_step (by repeat (first | (with_reducible first | exact HB.out | apply below_alloc | apply pw_below_drewN | apply below_drew1 | refine below_set ?_ GE196.out | refine below_set ?_ GE213.out) | exact HB.out)) hb)
                     clear HO195
                     clear HO203
                     clear BK196
                     clear BK213
                     clear HB
                     have HO195 := n0_
                     have HO203 := n1_
                     have HO209 := n2_
                     have BK196 := n3_
                     have BK213 := n4_
                     have HB := n5_
                     clear n0_ n1_ n2_ n3_ n4_ n5_
                     clear hb ho31
                     refine hK.out _ _ ⟨(blk_cell BK196.out 0).trans rfl, (blk_cell BK196.out 1).trans rfl⟩ (fun hHeld => ?_)
                     clear hK K
                     refine norm_ (a' := ?_) ?_ ?_
                     rotate_left
                     ·
                      show Act.put _ (some 33) _ = _
                      simp only [Act.put, List.setIfInBounds_toArray, List.set_cons_zero, List.set_cons_succ, i64_w, i32_w]
                      rfl
                     exact norm_ (by first | (simp only [putAll, Act.put, List.setIfInBounds_toArray, List.set_cons_zero, List.set_cons_succ]; done) | (simp only [putAll, Act.put, List.setIfInBounds_toArray, List.set_cons_zero, List.set_cons_succ]; rfl)) (hJ2_7_10 (v202, v208, gb213) _ ⟨hHeld, (by (with_reducible repeat (first | apply Kd.R_alloc | apply Kd.R_drewN | apply Kd.R_drew)); exact HO195.out), (by (with_reducible repeat (first | apply Kd.R_alloc | apply Kd.R_drewN | apply Kd.R_drew)); exact HO203.out), (by (with_reducible repeat (first | apply Kd.R_alloc | apply Kd.R_drewN | apply Kd.R_drew)); exact Kd.R_mono HO209.out (fun _ hk => ⟨hk.1.2, hk.2⟩)), (by (with_reducible repeat (first | refine blk_drewN ?_ _ | refine blk_drew ?_ | refine blk_alloc ?_ _)); exact BK196.out), (by (with_reducible repeat (first | refine blk_drewN ?_ _ | refine blk_drew ?_ | refine blk_alloc ?_ _)); exact BK213.out), GW213.out, GE213.out, NB196_213.out, NB213_196.out, (by repeat (first | (with_reducible first | exact HB.out | apply below_alloc | apply pw_below_drewN | apply below_drew1 | refine below_set ?_ GE196.out | refine below_set ?_ GE213.out) | exact HB.out))⟩)
                  ·
                   skip
                   rintro ⟨v202, v208⟩ w30 ⟨hS_, h0_, h1_, h2_, h3_, h4_⟩
                   have n0_ : Aside0 (Kd.R k30 30 w30 w.heap.size (fun k_ => some k_ ≠ (v202 : Value).ownBlock ∧ some k_ ≠ (v208 : Value).ownBlock) (.slice Ao21 t193.length co21) t193) := ⟨h0_⟩
                   have n1_ : Aside0 (Kd.R k30 30 w30 w.heap.size (fun k_ => some k_ ≠ (.slice Ao21 t193.length co21 : Value).ownBlock ∧ some k_ ≠ (v208 : Value).ownBlock) v202 y201) := ⟨h1_⟩
                   have n2_ : Aside0 (Kd.R k30 30 w30 w.heap.size (fun k_ => some k_ ≠ (.slice Ao21 t193.length co21 : Value).ownBlock ∧ some k_ ≠ (v202 : Value).ownBlock) v208 y207) := ⟨h2_⟩
                   have n3_ : Aside0 (w30.heap[gb196]? = some (.cells #[.int .i64 t192, .slice Ao21 t193.length co21] 25 (0, 0))) := ⟨h3_⟩
                   have n4_ : Aside0 (Below w.heap.size w w30) := ⟨h4_⟩
                   clear HO195
                   clear BK196
                   clear HB
                   clear h0_ h1_ h2_ h3_ h4_
                   have HO195 := n0_
                   have HO203 := n1_
                   have HO209 := n2_
                   have BK196 := n3_
                   have HB := n4_
                   clear n0_ n1_ n2_ n3_ n4_
                   have hHeld : w30.cell? ⟨gb196, 0, none⟩ = some (.int .i64 t192) ∧ w30.cell? ⟨gb196, 1, none⟩ = some (.slice Ao21 t193.length co21) := hS_
                   refine norm_ (a' := ?_) ?_ ?_
                   rotate_left
                   ·
                    simp only [putAll, Act.put, List.setIfInBounds_toArray, List.set_cons_zero, List.set_cons_succ]
                    rfl
                   refine two_ (i := 5) (j := 10) (Ni := some 31) (Nj := some 5) #[true, true, true, true, true, true, true, true, false, false, false, false] #[true, true, true, true, true, false, true, true, false, false, true, false] rfl rfl rfl rfl (two_of HT_.out (by kernel_rfl)) (by decide) (by decide) (fun K hK => ?_) (fun K hK => ?_)
                   ·
                    skip
                    refine Kd.R_append_rows_step k30 (w0 := w) w.heap.size (by rfl) (.tmp 28) (.tmp 30) 23 30 (.agg #[(.int .i64 0), (.int .i64 0), (.int .i64 0)]) 24 rfl Tryd.underlying23 info30 rfl (by decide) (by omega) v202 y201 t193 _ _ _ (fun k_ => some k_ ≠ (.slice Ao21 t193.length co21 : Value).ownBlock ∧ some k_ ≠ (v208 : Value).ownBlock) (fun _ => False) rfl rfl ?aO ?aR (fun _ _ h => h) (fun _ h => h.elim) ?aF ?aB ?aS ?aL ?_
                    (case aR => repeat (first | exact (Kd.R_reads' HO195.out).2.2 | (with_reducible refine Kd.C_alloc ?_ _) | (with_reducible refine Kd.C_drewN ?_ _) | (with_reducible refine Kd.C_drew ?_)))
                    (case aB => exact (by repeat (first | (with_reducible first | exact HB.out | apply below_alloc | apply pw_below_drewN | apply below_drew1 | refine below_set ?_ GE196.out) | exact HB.out)))
                    (case aF => exact (fun k_ hk => ⟨Kd.fresh' (Kd.R_lt (by (with_reducible repeat (first | apply Kd.R_alloc | apply Kd.R_drewN | apply Kd.R_drew)); exact HO195.out)) k_ hk, Kd.fresh' (Kd.R_lt (by (with_reducible repeat (first | apply Kd.R_alloc | apply Kd.R_drewN | apply Kd.R_drew)); exact HO209.out)) k_ hk⟩))
                    (case aO => exact (by (with_reducible repeat (first | apply Kd.R_alloc | apply Kd.R_drewN | apply Kd.R_drew)); exact HO203.out))
                    (case aS => exact (below_size (by repeat (first | (with_reducible first | exact HB.out | apply below_alloc | apply pw_below_drewN | apply below_drew1 | refine below_set ?_ GE196.out) | exact HB.out))))
                    (case aL => have := LMc8.out; omega)
                    intro v205 w31 ho hb hg hat
                    rw [← Ny204.out] at ho
                    have n0_ := Aside0.mk (Kd.R_after (ok := (fun k_ => some k_ ≠ (v208 : Value).ownBlock)) (by (with_reducible repeat (first | apply Kd.R_alloc | apply Kd.R_drewN | apply Kd.R_drew)); exact Kd.R_mono HO195.out (fun _ hk => ⟨hk.2, hk.1⟩)) hg hat)
                    have n1_ := Aside0.mk (blk_grown (g := gb196) (o := .cells #[.int .i64 t192, .slice Ao21 t193.length co21] 25 (0, 0)) (by (with_reducible repeat (first | refine blk_drewN ?_ _ | refine blk_drew ?_ | refine blk_alloc ?_ _)); exact BK196.out) hg (Kd.R_ne HO203.out BK196.out (by decide)))
                    have n2_ := Aside0.mk (Kd.R_after (ok := (fun k_ => some k_ ≠ (.slice Ao21 t193.length co21 : Value).ownBlock)) (by (with_reducible repeat (first | apply Kd.R_alloc | apply Kd.R_drewN | apply Kd.R_drew)); exact HO209.out) hg hat)
                    have n3_ := Aside0.mk (hb)
                    have n4_ := Aside0.mk (ho)
                    clear HO195
                    clear BK196
                    clear HO209
                    clear HB
                    clear HO203
                    have HO195 := n0_
                    have BK196 := n1_
                    have HO209 := n2_
                    have HB := n3_
                    have HO206 := n4_
                    clear n0_ n1_ n2_ n3_ n4_
                    clear ho hb hg hat
                    refine hK.out _ _ ⟨(blk_cell BK196.out 0).trans rfl, (blk_cell BK196.out 1).trans rfl⟩ (fun hHeld => ?_)
                    clear hK K
                    refine norm_ (a' := ?_) ?_ ?_
                    rotate_left
                    ·
                     show Act.put _ (some 31) _ = _
                     simp only [Act.put, List.setIfInBounds_toArray, List.set_cons_zero, List.set_cons_succ, i64_w, i32_w]
                     rfl
                    exact norm_ (by first | (simp only [putAll, Act.put, List.setIfInBounds_toArray, List.set_cons_zero, List.set_cons_succ]; done) | (simp only [putAll, Act.put, List.setIfInBounds_toArray, List.set_cons_zero, List.set_cons_succ]; rfl)) (hJ2_5_7 (v202, v205, v208) _ ⟨hHeld, (by (with_reducible repeat (first | apply Kd.R_alloc | apply Kd.R_drewN | apply Kd.R_drew)); exact Kd.R_mono HO195.out (fun _ hk => ⟨hk.2, hk.1⟩)), (by (with_reducible repeat (first | apply Kd.R_alloc | apply Kd.R_drewN | apply Kd.R_drew)); exact HO206.out), (by (with_reducible repeat (first | apply Kd.R_alloc | apply Kd.R_drewN | apply Kd.R_drew)); exact HO209.out), (by (with_reducible repeat (first | refine blk_drewN ?_ _ | refine blk_drew ?_ | refine blk_alloc ?_ _)); exact BK196.out), (by repeat (first | (with_reducible first | exact HB.out | apply below_alloc | apply pw_below_drewN | apply below_drew1 | refine below_set ?_ GE196.out) | exact HB.out))⟩)
                   ·
                    skip
                    refine box_step ?hg (N := 5) ?hd (cs := #[.int .i64 0, .slice none 0 0]) (t := 25) ?hr ?_; (case hd => rfl); (case hg => rfl); (case hr => first | (go_simp; done) | (go_simp; rfl))
                    intro gb213 hg w31 hbox hb
                    have n0_ := Aside0.mk (Kd.R_below (by (with_reducible repeat (first | apply Kd.R_alloc | apply Kd.R_drewN | apply Kd.R_drew)); exact HO195.out) hb)
                    have n1_ := Aside0.mk (Kd.R_below (by (with_reducible repeat (first | apply Kd.R_alloc | apply Kd.R_drewN | apply Kd.R_drew)); exact HO203.out) hb)
                    have n2_ := Aside0.mk (Kd.R_below (by (with_reducible repeat (first | apply Kd.R_alloc | apply Kd.R_drewN | apply Kd.R_drew)); exact HO209.out) hb)
                    have n3_ := Aside0.mk (blk_below (g := gb196) (o := .cells #[.int .i64 t192, .slice Ao21 t193.length co21] 25 (0, 0)) (by (with_reducible repeat (first | refine blk_drewN ?_ _ | refine blk_drew ?_ | refine blk_alloc ?_ _)); exact BK196.out) hb)
                    have n4_ := Aside0.mk (below_step (by repeat (first | (with_reducible first | exact HB.out | apply below_alloc | apply pw_below_drewN | apply below_drew1 | refine below_set ?_ GE196.out) | exact HB.out)) hb)
                    have n5_ := Aside0.mk (hbox)
                    have n6_ := Aside0.mk ((by rw [hg]; exact (below_size (by repeat (first | (with_reducible first | exact HB.out | apply below_alloc | apply pw_below_drewN | apply below_drew1 | refine below_set ?_ GE196.out) | exact HB.out))) : w.heap.size ≤ gb213))
                    have n7_ := Aside0.mk ((by rw [hg]; exact (below_size (by repeat (first | (with_reducible first | exact HB.out | apply below_alloc | apply pw_below_drewN | apply below_drew1 | refine below_set ?_ GE196.out) | exact HB.out))) : w.heap.size ≤ gb213))
                    have n8_ := Aside0.mk ((by rw [hg]; exact Nat.ne_of_lt (blk_lt (g := gb196) (o := .cells #[.int .i64 t192, .slice Ao21 t193.length co21] 25 (0, 0)) (by (with_reducible repeat (first | refine blk_drewN ?_ _ | refine blk_drew ?_ | refine blk_alloc ?_ _)); exact BK196.out)) : gb196 ≠ gb213))
                    have n9_ := Aside0.mk ((by rw [hg]; exact Nat.ne_of_gt (blk_lt (g := gb196) (o := .cells #[.int .i64 t192, .slice Ao21 t193.length co21] 25 (0, 0)) (by (with_reducible repeat (first | refine blk_drewN ?_ _ | refine blk_drew ?_ | refine blk_alloc ?_ _)); exact BK196.out)) : gb213 ≠ gb196))
                    clear HO195
                    clear HO203
                    clear HO209
                    clear BK196
                    clear HB
                    have HO195 := n0_
                    have HO203 := n1_
                    have HO209 := n2_
                    have BK196 := n3_
                    have HB := n4_
                    have BK213 := n5_
                    have GW213 := n6_
                    have GE213 := n7_
                    have NB196_213 := n8_
                    have NB213_196 := n9_
                    clear n0_ n1_ n2_ n3_ n4_ n5_ n6_ n7_ n8_ n9_
                    clear hb hbox hg
                    refine hK.out _ _ ⟨(blk_cell BK196.out 0).trans rfl, (blk_cell BK196.out 1).trans rfl⟩ (fun hHeld => ?_)
                    clear hK K
                    refine norm_ (a' := ?_) ?_ ?_
                    rotate_left
                    ·
                     show Act.put _ (some 5) _ = _
                     simp only [Act.put, List.setIfInBounds_toArray, List.set_cons_zero, List.set_cons_succ, i64_w, i32_w]
                     rfl
                    exact norm_ (by first | (simp only [putAll, Act.put, List.setIfInBounds_toArray, List.set_cons_zero, List.set_cons_succ]; done) | (simp only [putAll, Act.put, List.setIfInBounds_toArray, List.set_cons_zero, List.set_cons_succ]; rfl)) (hJ2_7_10 (v202, v208, gb213) _ ⟨hHeld, (by (with_reducible repeat (first | apply Kd.R_alloc | apply Kd.R_drewN | apply Kd.R_drew)); exact HO195.out), (by (with_reducible repeat (first | apply Kd.R_alloc | apply Kd.R_drewN | apply Kd.R_drew)); exact HO203.out), (by (with_reducible repeat (first | apply Kd.R_alloc | apply Kd.R_drewN | apply Kd.R_drew)); exact HO209.out), (by (with_reducible repeat (first | refine blk_drewN ?_ _ | refine blk_drew ?_ | refine blk_alloc ?_ _)); exact BK196.out), (by (with_reducible repeat (first | refine blk_drewN ?_ _ | refine blk_drew ?_ | refine blk_alloc ?_ _)); exact BK213.out), GW213.out, GE213.out, NB196_213.out, NB213_196.out, (by repeat (first | (with_reducible first | exact HB.out | apply below_alloc | apply pw_below_drewN | apply below_drew1 | refine below_set ?_ GE196.out | refine below_set ?_ GE213.out) | exact HB.out))⟩)
                 ·
                  skip
                  rintro ⟨v202, v205⟩ w29 ⟨hS_, h0_, h1_, h2_, h3_⟩
                  have n0_ : Aside0 (Kd.R k30 30 w29 w.heap.size (fun k_ => some k_ ≠ (v205 : Value).ownBlock) (.slice Ao21 t193.length co21) t193) := ⟨h0_⟩
                  have n1_ : Aside0 (Kd.R k30 30 w29 w.heap.size (fun k_ => some k_ ≠ (.slice Ao21 t193.length co21 : Value).ownBlock) v205 y204) := ⟨h1_⟩
                  have n2_ : Aside0 (w29.heap[gb196]? = some (.cells #[.int .i64 t192, .slice Ao21 t193.length co21] 25 (0, 0))) := ⟨h2_⟩
                  have n3_ : Aside0 (Below w.heap.size w w29) := ⟨h3_⟩
                  clear HO195
                  clear BK196
                  clear HB
                  clear h0_ h1_ h2_ h3_
                  have HO195 := n0_
                  have HO206 := n1_
                  have BK196 := n2_
                  have HB := n3_
                  clear n0_ n1_ n2_ n3_
                  have hHeld : w29.cell? ⟨gb196, 0, none⟩ = some (.int .i64 t192) ∧ w29.cell? ⟨gb196, 1, none⟩ = some (.slice Ao21 t193.length co21) := hS_
                  refine norm_ (a' := ?_) ?_ ?_
                  rotate_left
                  ·
                   simp only [putAll, Act.put, List.setIfInBounds_toArray, List.set_cons_zero, List.set_cons_succ]
                   rfl
                  refine two_ (i := 7) (j := 10) (Ni := some 33) (Nj := some 5) #[true, true, true, true, true, true, true, true, false, false, false, false] #[true, true, true, true, true, true, true, false, false, false, true, false] rfl rfl rfl rfl (two_of HT_.out (by kernel_rfl)) (by decide) (by decide) (fun K hK => ?_) (fun K hK => ?_)
                  ·
                   skip
                   refine Kd.R_lit_step k30 _ 30 ?hg (N := 33) ?hd (xs := ([(⟨0, 0, 1⟩ : S30)] : List (S30))) (inner := [.int .i64 0, .int .i64 0, .int .i64 1]) (ok := fun _ => True) (okp := fun _ => True) ?hr ?hp (fun _ hk => hk) trivial (Below.refl _ _) (Nat.le_refl _) (by simp) ?_; (case hd => rfl); (case hg => rfl); (case hr => first | (go_simp; done) | (go_simp; rfl)); (case hp => exact (Reps.c3 (show Kd.M k30 _ _ _ (⟨0, 0, 1⟩ : S30) [.int .i64 0, .int .i64 0, .int .i64 1] from (k30_mkM _ _ _ (⟨0, 0, 1⟩ : S30) )) (Reps.none _ _)))
                   intro v208 w30 ho31 hb hg_ hnew_
                   clear hg_ hnew_
                   (first | rw [← Ny207.out] at ho31 | (simp only [Int.reduceToNat] at ho31; rw [← Ny207.out] at ho31))
                   have n0_ := Aside0.mk (Kd.R_elder' (by (with_reducible repeat (first | apply Kd.R_alloc | apply Kd.R_drewN | apply Kd.R_drew)); exact HO195.out) (Kd.R_base ho31) hb)
                   have n1_ := Aside0.mk (Kd.R_elder' (by (with_reducible repeat (first | apply Kd.R_alloc | apply Kd.R_drewN | apply Kd.R_drew)); exact HO206.out) (Kd.R_base ho31) hb)
                   have n2_ := Aside0.mk (Kd.R_lower (Kd.R_new' (Kd.R_new' ho31 (Kd.R_lt (by (with_reducible repeat (first | apply Kd.R_alloc | apply Kd.R_drewN | apply Kd.R_drew)); exact HO195.out))) (Kd.R_lt (by (with_reducible repeat (first | apply Kd.R_alloc | apply Kd.R_drewN | apply Kd.R_drew)); exact HO206.out))) (below_size (by repeat (first | (with_reducible first | exact HB.out | apply below_alloc | apply pw_below_drewN | apply below_drew1 | refine below_set ?_ GE196.out) | exact HB.out))))
                   have n3_ := Aside0.mk (blk_below (g := gb196) (o := .cells #[.int .i64 t192, .slice Ao21 t193.length co21] 25 (0, 0)) (by (with_reducible repeat (first | refine blk_drewN ?_ _ | refine blk_drew ?_ | refine blk_alloc ?_ _)); exact BK196.out) hb)
                   have n4_ := Aside0.mk (below_step (by repeat (first | (with_reducible first | exact HB.out | apply below_alloc | apply pw_below_drewN | apply below_drew1 | refine below_set ?_ GE196.out) | exact HB.out)) hb)
                   clear HO195
                   clear HO206
                   clear BK196
                   clear HB
                   have HO195 := n0_
                   have HO206 := n1_
                   have HO209 := n2_
                   have BK196 := n3_
                   have HB := n4_
                   clear n0_ n1_ n2_ n3_ n4_
                   clear hb ho31
                   refine hK.out _ _ ⟨(blk_cell BK196.out 0).trans rfl, (blk_cell BK196.out 1).trans rfl⟩ (fun hHeld => ?_)
                   clear hK K
                   refine norm_ (a' := ?_) ?_ ?_
                   rotate_left
                   ·
                    show Act.put _ (some 33) _ = _
                    simp only [Act.put, List.setIfInBounds_toArray, List.set_cons_zero, List.set_cons_succ, i64_w, i32_w]
                    rfl
                   exact norm_ (by first | (simp only [putAll, Act.put, List.setIfInBounds_toArray, List.set_cons_zero, List.set_cons_succ]; done) | (simp only [putAll, Act.put, List.setIfInBounds_toArray, List.set_cons_zero, List.set_cons_succ]; rfl)) (hJ2_5_7 (v202, v205, v208) _ ⟨hHeld, (by (with_reducible repeat (first | apply Kd.R_alloc | apply Kd.R_drewN | apply Kd.R_drew)); exact HO195.out), (by (with_reducible repeat (first | apply Kd.R_alloc | apply Kd.R_drewN | apply Kd.R_drew)); exact HO206.out), (by (with_reducible repeat (first | apply Kd.R_alloc | apply Kd.R_drewN | apply Kd.R_drew)); exact Kd.R_mono HO209.out (fun _ hk => ⟨hk.1.2, hk.2⟩)), (by (with_reducible repeat (first | refine blk_drewN ?_ _ | refine blk_drew ?_ | refine blk_alloc ?_ _)); exact BK196.out), (by repeat (first | (with_reducible first | exact HB.out | apply below_alloc | apply pw_below_drewN | apply below_drew1 | refine below_set ?_ GE196.out) | exact HB.out))⟩)
                  ·
                   skip
                   refine box_step ?hg (N := 5) ?hd (cs := #[.int .i64 0, .slice none 0 0]) (t := 25) ?hr ?_; (case hd => rfl); (case hg => rfl); (case hr => first | (go_simp; done) | (go_simp; rfl))
                   intro gb213 hg w30 hbox hb
                   have n0_ := Aside0.mk (Kd.R_below (by (with_reducible repeat (first | apply Kd.R_alloc | apply Kd.R_drewN | apply Kd.R_drew)); exact HO195.out) hb)
                   have n1_ := Aside0.mk (Kd.R_below (by (with_reducible repeat (first | apply Kd.R_alloc | apply Kd.R_drewN | apply Kd.R_drew)); exact HO206.out) hb)
                   have n2_ := Aside0.mk (blk_below (g := gb196) (o := .cells #[.int .i64 t192, .slice Ao21 t193.length co21] 25 (0, 0)) (by (with_reducible repeat (first | refine blk_drewN ?_ _ | refine blk_drew ?_ | refine blk_alloc ?_ _)); exact BK196.out) hb)
                   have n3_ := Aside0.mk (below_step (by repeat (first | (with_reducible first | exact HB.out | apply below_alloc | apply pw_below_drewN | apply below_drew1 | refine below_set ?_ GE196.out) | exact HB.out)) hb)
                   have n4_ := Aside0.mk (hbox)
                   have n5_ := Aside0.mk ((by rw [hg]; exact (below_size (by repeat (first | (with_reducible first | exact HB.out | apply below_alloc | apply pw_below_drewN | apply below_drew1 | refine below_set ?_ GE196.out) | exact HB.out))) : w.heap.size ≤ gb213))
                   have n6_ := Aside0.mk ((by rw [hg]; exact (below_size (by repeat (first | (with_reducible first | exact HB.out | apply below_alloc | apply pw_below_drewN | apply below_drew1 | refine below_set ?_ GE196.out) | exact HB.out))) : w.heap.size ≤ gb213))
                   have n7_ := Aside0.mk ((by rw [hg]; exact Nat.ne_of_lt (blk_lt (g := gb196) (o := .cells #[.int .i64 t192, .slice Ao21 t193.length co21] 25 (0, 0)) (by (with_reducible repeat (first | refine blk_drewN ?_ _ | refine blk_drew ?_ | refine blk_alloc ?_ _)); exact BK196.out)) : gb196 ≠ gb213))
                   have n8_ := Aside0.mk ((by rw [hg]; exact Nat.ne_of_gt (blk_lt (g := gb196) (o := .cells #[.int .i64 t192, .slice Ao21 t193.length co21] 25 (0, 0)) (by (with_reducible repeat (first | refine blk_drewN ?_ _ | refine blk_drew ?_ | refine blk_alloc ?_ _)); exact BK196.out)) : gb213 ≠ gb196))
                   clear HO195
                   clear HO206
                   clear BK196
                   clear HB
                   have HO195 := n0_
                   have HO206 := n1_
                   have BK196 := n2_
                   have HB := n3_
                   have BK213 := n4_
                   have GW213 := n5_
                   have GE213 := n6_
                   have NB196_213 := n7_
                   have NB213_196 := n8_
                   clear n0_ n1_ n2_ n3_ n4_ n5_ n6_ n7_ n8_
                   clear hb hbox hg
                   refine hK.out _ _ ⟨(blk_cell BK196.out 0).trans rfl, (blk_cell BK196.out 1).trans rfl⟩ (fun hHeld => ?_)
                   clear hK K
                   refine norm_ (a' := ?_) ?_ ?_
                   rotate_left
                   ·
                    show Act.put _ (some 5) _ = _
                    simp only [Act.put, List.setIfInBounds_toArray, List.set_cons_zero, List.set_cons_succ, i64_w, i32_w]
                    rfl
                   exact norm_ (by first | (simp only [putAll, Act.put, List.setIfInBounds_toArray, List.set_cons_zero, List.set_cons_succ]; done) | (simp only [putAll, Act.put, List.setIfInBounds_toArray, List.set_cons_zero, List.set_cons_succ]; rfl)) (hJ2_5_10 (v202, v205, gb213) _ ⟨hHeld, (by (with_reducible repeat (first | apply Kd.R_alloc | apply Kd.R_drewN | apply Kd.R_drew)); exact HO195.out), (by (with_reducible repeat (first | apply Kd.R_alloc | apply Kd.R_drewN | apply Kd.R_drew)); exact HO206.out), (by (with_reducible repeat (first | refine blk_drewN ?_ _ | refine blk_drew ?_ | refine blk_alloc ?_ _)); exact BK196.out), (by (with_reducible repeat (first | refine blk_drewN ?_ _ | refine blk_drew ?_ | refine blk_alloc ?_ _)); exact BK213.out), GW213.out, GE213.out, NB196_213.out, NB213_196.out, (by repeat (first | (with_reducible first | exact HB.out | apply below_alloc | apply pw_below_drewN | apply below_drew1 | refine below_set ?_ GE196.out | refine below_set ?_ GE213.out) | exact HB.out))⟩)
                ·
                 skip
                 rintro ⟨v202, v208, gb213⟩ w31 ⟨hS_, h0_, h1_, h2_, h3_, h4_, h5_, h6_, h7_, h8_, h9_⟩
                 have n0_ : Aside0 (Kd.R k30 30 w31 w.heap.size (fun k_ => some k_ ≠ (v202 : Value).ownBlock ∧ some k_ ≠ (v208 : Value).ownBlock) (.slice Ao21 t193.length co21) t193) := ⟨h0_⟩
                 have n1_ : Aside0 (Kd.R k30 30 w31 w.heap.size (fun k_ => some k_ ≠ (.slice Ao21 t193.length co21 : Value).ownBlock ∧ some k_ ≠ (v208 : Value).ownBlock) v202 y201) := ⟨h1_⟩
                 have n2_ : Aside0 (Kd.R k30 30 w31 w.heap.size (fun k_ => some k_ ≠ (.slice Ao21 t193.length co21 : Value).ownBlock ∧ some k_ ≠ (v202 : Value).ownBlock) v208 y207) := ⟨h2_⟩
                 have n3_ : Aside0 (w31.heap[gb196]? = some (.cells #[.int .i64 t192, .slice Ao21 t193.length co21] 25 (0, 0))) := ⟨h3_⟩
                 have n4_ : Aside0 (w31.heap[gb213]? = some (.cells #[.int .i64 0, .slice none 0 0] 25 (0, 0))) := ⟨h4_⟩
                 have n5_ : Aside0 (w.heap.size ≤ gb213) := ⟨h5_⟩
                 have n6_ : Aside0 (w.heap.size ≤ gb213) := ⟨h6_⟩
                 have n7_ : Aside0 (gb196 ≠ gb213) := ⟨h7_⟩
                 have n8_ : Aside0 (gb213 ≠ gb196) := ⟨h8_⟩
                 have n9_ : Aside0 (Below w.heap.size w w31) := ⟨h9_⟩
                 clear HO195
                 clear BK196
                 clear HB
                 clear h0_ h1_ h2_ h3_ h4_ h5_ h6_ h7_ h8_ h9_
                 have HO195 := n0_
                 have HO203 := n1_
                 have HO209 := n2_
                 have BK196 := n3_
                 have BK213 := n4_
                 have GW213 := n5_
                 have GE213 := n6_
                 have NB196_213 := n7_
                 have NB213_196 := n8_
                 have HB := n9_
                 clear n0_ n1_ n2_ n3_ n4_ n5_ n6_ n7_ n8_ n9_
                 have hHeld : w31.cell? ⟨gb196, 0, none⟩ = some (.int .i64 t192) ∧ w31.cell? ⟨gb196, 1, none⟩ = some (.slice Ao21 t193.length co21) := hS_
                 refine norm_ (a' := ?_) ?_ ?_
                 rotate_left
                 ·
                  simp only [putAll, Act.put, List.setIfInBounds_toArray, List.set_cons_zero, List.set_cons_succ]
                  rfl
                 refine one_ (i := 5) (N := some 31) #[true, true, true, true, true, true, true, true, false, false, true, false] rfl rfl (one_of HT_.out (by kernel_rfl)) (by decide) (fun K hK => ?_)
                 refine Kd.R_append_rows_step k30 (w0 := w) w.heap.size (by rfl) (.tmp 28) (.tmp 30) 23 30 (.agg #[(.int .i64 0), (.int .i64 0), (.int .i64 0)]) 24 rfl Tryd.underlying23 info30 rfl (by decide) (by omega) v202 y201 t193 _ _ _ (fun k_ => some k_ ≠ (.slice Ao21 t193.length co21 : Value).ownBlock ∧ some k_ ≠ (v208 : Value).ownBlock) (fun _ => False) rfl rfl ?aO ?aR (fun _ _ h => h) (fun _ h => h.elim) ?aF ?aB ?aS ?aL ?_
                 (case aR => repeat (first | exact (Kd.R_reads' HO195.out).2.2 | (with_reducible refine Kd.C_alloc ?_ _) | (with_reducible refine Kd.C_drewN ?_ _) | (with_reducible refine Kd.C_drew ?_)))
                 (case aB => exact (by repeat (first | (with_reducible first | exact HB.out | apply below_alloc | apply pw_below_drewN | apply below_drew1 | refine below_set ?_ GE196.out | refine below_set ?_ GE213.out) | exact HB.out)))
                 (case aF => exact (fun k_ hk => ⟨Kd.fresh' (Kd.R_lt (by (with_reducible repeat (first | apply Kd.R_alloc | apply Kd.R_drewN | apply Kd.R_drew)); exact HO195.out)) k_ hk, Kd.fresh' (Kd.R_lt (by (with_reducible repeat (first | apply Kd.R_alloc | apply Kd.R_drewN | apply Kd.R_drew)); exact HO209.out)) k_ hk⟩))
                 (case aO => exact (by (with_reducible repeat (first | apply Kd.R_alloc | apply Kd.R_drewN | apply Kd.R_drew)); exact HO203.out))
                 (case aS => exact (below_size (by repeat (first | (with_reducible first | exact HB.out | apply below_alloc | apply pw_below_drewN | apply below_drew1 | refine below_set ?_ GE196.out | refine below_set ?_ GE213.out) | exact HB.out))))
                 (case aL => have := LMc8.out; omega)
                 intro v205 w32 ho hb hg hat
                 rw [← Ny204.out] at ho
                 have n0_ := Aside0.mk (Kd.R_after (ok := (fun k_ => some k_ ≠ (v208 : Value).ownBlock)) (by (with_reducible repeat (first | apply Kd.R_alloc | apply Kd.R_drewN | apply Kd.R_drew)); exact Kd.R_mono HO195.out (fun _ hk => ⟨hk.2, hk.1⟩)) hg hat)
                 have n1_ := Aside0.mk (blk_grown (g := gb196) (o := .cells #[.int .i64 t192, .slice Ao21 t193.length co21] 25 (0, 0)) (by (with_reducible repeat (first | refine blk_drewN ?_ _ | refine blk_drew ?_ | refine blk_alloc ?_ _)); exact BK196.out) hg (Kd.R_ne HO203.out BK196.out (by decide)))
                 have n2_ := Aside0.mk (Kd.R_after (ok := (fun k_ => some k_ ≠ (.slice Ao21 t193.length co21 : Value).ownBlock)) (by (with_reducible repeat (first | apply Kd.R_alloc | apply Kd.R_drewN | apply Kd.R_drew)); exact HO209.out) hg hat)
                 have n3_ := Aside0.mk (blk_grown (g := gb213) (o := .cells #[.int .i64 0, .slice none 0 0] 25 (0, 0)) (by (with_reducible repeat (first | refine blk_drewN ?_ _ | refine blk_drew ?_ | refine blk_alloc ?_ _)); exact BK213.out) hg (Kd.R_ne HO203.out BK213.out (by decide)))
                 have n4_ := Aside0.mk (hb)
                 have n5_ := Aside0.mk (ho)
                 clear HO195
                 clear BK196
                 clear HO209
                 clear BK213
                 clear HB
                 clear HO203
                 have HO195 := n0_
                 have BK196 := n1_
                 have HO209 := n2_
                 have BK213 := n3_
                 have HB := n4_
                 have HO206 := n5_
                 clear n0_ n1_ n2_ n3_ n4_ n5_
                 clear ho hb hg hat
                 refine hK.out _ _ ⟨(blk_cell BK196.out 0).trans rfl, (blk_cell BK196.out 1).trans rfl⟩ (fun hHeld => ?_)
                 clear hK K
                 refine norm_ (a' := ?_) ?_ ?_
                 rotate_left
                 ·
                  show Act.put _ (some 31) _ = _
                  simp only [Act.put, List.setIfInBounds_toArray, List.set_cons_zero, List.set_cons_succ, i64_w, i32_w]
                  rfl
                 exact norm_ (by first | (simp only [putAll, Act.put, List.setIfInBounds_toArray, List.set_cons_zero, List.set_cons_succ]; done) | (simp only [putAll, Act.put, List.setIfInBounds_toArray, List.set_cons_zero, List.set_cons_succ]; rfl)) (hJ2_5_7_10 (v202, v205, v208, gb213) _ ⟨hHeld, (by (with_reducible repeat (first | apply Kd.R_alloc | apply Kd.R_drewN | apply Kd.R_drew)); exact Kd.R_mono HO195.out (fun _ hk => ⟨hk.2, hk.1⟩)), (by (with_reducible repeat (first | apply Kd.R_alloc | apply Kd.R_drewN | apply Kd.R_drew)); exact HO206.out), (by (with_reducible repeat (first | apply Kd.R_alloc | apply Kd.R_drewN | apply Kd.R_drew)); exact HO209.out), (by (with_reducible repeat (first | refine blk_drewN ?_ _ | refine blk_drew ?_ | refine blk_alloc ?_ _)); exact BK196.out), (by (with_reducible repeat (first | refine blk_drewN ?_ _ | refine blk_drew ?_ | refine blk_alloc ?_ _)); exact BK213.out), GW213.out, GE213.out, NB196_213.out, NB213_196.out, (by repeat (first | (with_reducible first | exact HB.out | apply below_alloc | apply pw_below_drewN | apply below_drew1 | refine below_set ?_ GE196.out | refine below_set ?_ GE213.out) | exact HB.out))⟩)
               ·
                skip
                rintro ⟨v202, v205, gb213⟩ w30 ⟨hS_, h0_, h1_, h2_, h3_, h4_, h5_, h6_, h7_, h8_⟩
                have n0_ : Aside0 (Kd.R k30 30 w30 w.heap.size (fun k_ => some k_ ≠ (v205 : Value).ownBlock) (.slice Ao21 t193.length co21) t193) := ⟨h0_⟩
                have n1_ : Aside0 (Kd.R k30 30 w30 w.heap.size (fun k_ => some k_ ≠ (.slice Ao21 t193.length co21 : Value).ownBlock) v205 y204) := ⟨h1_⟩
                have n2_ : Aside0 (w30.heap[gb196]? = some (.cells #[.int .i64 t192, .slice Ao21 t193.length co21] 25 (0, 0))) := ⟨h2_⟩
                have n3_ : Aside0 (w30.heap[gb213]? = some (.cells #[.int .i64 0, .slice none 0 0] 25 (0, 0))) := ⟨h3_⟩
                have n4_ : Aside0 (w.heap.size ≤ gb213) := ⟨h4_⟩
                have n5_ : Aside0 (w.heap.size ≤ gb213) := ⟨h5_⟩
                have n6_ : Aside0 (gb196 ≠ gb213) := ⟨h6_⟩
                have n7_ : Aside0 (gb213 ≠ gb196) := ⟨h7_⟩
                have n8_ : Aside0 (Below w.heap.size w w30) := ⟨h8_⟩
                clear HO195
                clear BK196
                clear HB
                clear h0_ h1_ h2_ h3_ h4_ h5_ h6_ h7_ h8_
                have HO195 := n0_
                have HO206 := n1_
                have BK196 := n2_
                have BK213 := n3_
                have GW213 := n4_
                have GE213 := n5_
                have NB196_213 := n6_
                have NB213_196 := n7_
                have HB := n8_
                clear n0_ n1_ n2_ n3_ n4_ n5_ n6_ n7_ n8_
                have hHeld : w30.cell? ⟨gb196, 0, none⟩ = some (.int .i64 t192) ∧ w30.cell? ⟨gb196, 1, none⟩ = some (.slice Ao21 t193.length co21) := hS_
                refine norm_ (a' := ?_) ?_ ?_
                rotate_left
                ·
                 simp only [putAll, Act.put, List.setIfInBounds_toArray, List.set_cons_zero, List.set_cons_succ]
                 rfl
                refine one_ (i := 7) (N := some 33) #[true, true, true, true, true, true, true, true, false, false, true, false] rfl rfl (one_of HT_.out (by kernel_rfl)) (by decide) (fun K hK => ?_)
                refine Kd.R_lit_step k30 _ 30 ?hg (N := 33) ?hd (xs := ([(⟨0, 0, 1⟩ : S30)] : List (S30))) (inner := [.int .i64 0, .int .i64 0, .int .i64 1]) (ok := fun _ => True) (okp := fun _ => True) ?hr ?hp (fun _ hk => hk) trivial (Below.refl _ _) (Nat.le_refl _) (by simp) ?_; (case hd => rfl); (case hg => rfl); (case hr => first | (go_simp; done) | (go_simp; rfl)); (case hp => exact (Reps.c3 (show Kd.M k30 _ _ _ (⟨0, 0, 1⟩ : S30) [.int .i64 0, .int .i64 0, .int .i64 1] from (k30_mkM _ _ _ (⟨0, 0, 1⟩ : S30) )) (Reps.none _ _)))
                intro v208 w31 ho32 hb hg_ hnew_
                clear hg_ hnew_
                (first | rw [← Ny207.out] at ho32 | (simp only [Int.reduceToNat] at ho32; rw [← Ny207.out] at ho32))
                have n0_ := Aside0.mk (Kd.R_elder' (by (with_reducible repeat (first | apply Kd.R_alloc | apply Kd.R_drewN | apply Kd.R_drew)); exact HO195.out) (Kd.R_base ho32) hb)
                have n1_ := Aside0.mk (Kd.R_elder' (by (with_reducible repeat (first | apply Kd.R_alloc | apply Kd.R_drewN | apply Kd.R_drew)); exact HO206.out) (Kd.R_base ho32) hb)
                have n2_ := Aside0.mk (Kd.R_lower (Kd.R_new' (Kd.R_new' ho32 (Kd.R_lt (by (with_reducible repeat (first | apply Kd.R_alloc | apply Kd.R_drewN | apply Kd.R_drew)); exact HO195.out))) (Kd.R_lt (by (with_reducible repeat (first | apply Kd.R_alloc | apply Kd.R_drewN | apply Kd.R_drew)); exact HO206.out))) (below_size (by repeat (first | (with_reducible first | exact HB.out | apply below_alloc | apply pw_below_drewN | apply below_drew1 | refine below_set ?_ GE196.out | refine below_set ?_ GE213.out) | exact HB.out))))
                have n3_ := Aside0.mk (blk_below (g := gb196) (o := .cells #[.int .i64 t192, .slice Ao21 t193.length co21] 25 (0, 0)) (by (with_reducible repeat (first | refine blk_drewN ?_ _ | refine blk_drew ?_ | refine blk_alloc ?_ _)); exact BK196.out) hb)
                have n4_ := Aside0.mk (blk_below (g := gb213) (o := .cells #[.int .i64 0, .slice none 0 0] 25 (0, 0)) (by (with_reducible repeat (first | refine blk_drewN ?_ _ | refine blk_drew ?_ | refine blk_alloc ?_ _)); exact BK213.out) hb)
                have n5_ := Aside0.mk (below_step (by repeat (first | (with_reducible first | exact HB.out | apply below_alloc | apply pw_below_drewN | apply below_drew1 | refine below_set ?_ GE196.out | refine below_set ?_ GE213.out) | exact HB.out)) hb)
                clear HO195
                clear HO206
                clear BK196
                clear BK213
                clear HB
                have HO195 := n0_
                have HO206 := n1_
                have HO209 := n2_
                have BK196 := n3_
                have BK213 := n4_
                have HB := n5_
                clear n0_ n1_ n2_ n3_ n4_ n5_
                clear hb ho32
                refine hK.out _ _ ⟨(blk_cell BK196.out 0).trans rfl, (blk_cell BK196.out 1).trans rfl⟩ (fun hHeld => ?_)
                clear hK K
                refine norm_ (a' := ?_) ?_ ?_
                rotate_left
                ·
                 show Act.put _ (some 33) _ = _
                 simp only [Act.put, List.setIfInBounds_toArray, List.set_cons_zero, List.set_cons_succ, i64_w, i32_w]
                 rfl
                exact norm_ (by first | (simp only [putAll, Act.put, List.setIfInBounds_toArray, List.set_cons_zero, List.set_cons_succ]; done) | (simp only [putAll, Act.put, List.setIfInBounds_toArray, List.set_cons_zero, List.set_cons_succ]; rfl)) (hJ2_5_7_10 (v202, v205, v208, gb213) _ ⟨hHeld, (by (with_reducible repeat (first | apply Kd.R_alloc | apply Kd.R_drewN | apply Kd.R_drew)); exact HO195.out), (by (with_reducible repeat (first | apply Kd.R_alloc | apply Kd.R_drewN | apply Kd.R_drew)); exact HO206.out), (by (with_reducible repeat (first | apply Kd.R_alloc | apply Kd.R_drewN | apply Kd.R_drew)); exact Kd.R_mono HO209.out (fun _ hk => ⟨hk.1.2, hk.2⟩)), (by (with_reducible repeat (first | refine blk_drewN ?_ _ | refine blk_drew ?_ | refine blk_alloc ?_ _)); exact BK196.out), (by (with_reducible repeat (first | refine blk_drewN ?_ _ | refine blk_drew ?_ | refine blk_alloc ?_ _)); exact BK213.out), GW213.out, GE213.out, NB196_213.out, NB213_196.out, (by repeat (first | (with_reducible first | exact HB.out | apply below_alloc | apply pw_below_drewN | apply below_drew1 | refine below_set ?_ GE196.out | refine below_set ?_ GE213.out) | exact HB.out))⟩)
              ·
               skip
               rintro ⟨v202, v205, v208⟩ w31 ⟨hS_, h0_, h1_, h2_, h3_, h4_⟩
               have n0_ : Aside0 (Kd.R k30 30 w31 w.heap.size (fun k_ => some k_ ≠ (v205 : Value).ownBlock ∧ some k_ ≠ (v208 : Value).ownBlock) (.slice Ao21 t193.length co21) t193) := ⟨h0_⟩
               have n1_ : Aside0 (Kd.R k30 30 w31 w.heap.size (fun k_ => some k_ ≠ (.slice Ao21 t193.length co21 : Value).ownBlock ∧ some k_ ≠ (v208 : Value).ownBlock) v205 y204) := ⟨h1_⟩
               have n2_ : Aside0 (Kd.R k30 30 w31 w.heap.size (fun k_ => some k_ ≠ (.slice Ao21 t193.length co21 : Value).ownBlock ∧ some k_ ≠ (v205 : Value).ownBlock) v208 y207) := ⟨h2_⟩
               have n3_ : Aside0 (w31.heap[gb196]? = some (.cells #[.int .i64 t192, .slice Ao21 t193.length co21] 25 (0, 0))) := ⟨h3_⟩
               have n4_ : Aside0 (Below w.heap.size w w31) := ⟨h4_⟩
               clear HO195
               clear BK196
               clear HB
               clear h0_ h1_ h2_ h3_ h4_
               have HO195 := n0_
               have HO206 := n1_
               have HO209 := n2_
               have BK196 := n3_
               have HB := n4_
               clear n0_ n1_ n2_ n3_ n4_
               have hHeld : w31.cell? ⟨gb196, 0, none⟩ = some (.int .i64 t192) ∧ w31.cell? ⟨gb196, 1, none⟩ = some (.slice Ao21 t193.length co21) := hS_
               obtain ⟨Ao33, co33, eo33⟩ := Kd.R_slice HO209.out
               (first | subst eo33 | (injection eo33 with f1_ f2_ f3_; have f4_ := f1_.symm; have f5_ := f3_.symm; clear f1_ f2_ f3_; subst f4_; subst f5_))
               refine norm_ (a' := ?_) ?_ ?_
               rotate_left
               ·
                simp only [putAll, Act.put, List.setIfInBounds_toArray, List.set_cons_zero, List.set_cons_succ]
                rfl
               refine two_ (i := 8) (j := 10) (Ni := some 34) (Nj := some 5) #[true, true, true, true, true, true, true, true, true, false, false, false] #[true, true, true, true, true, true, true, true, false, false, true, false] rfl rfl rfl rfl (two_of HT_.out (by kernel_rfl)) (by decide) (by decide) (fun K hK => ?_) (fun K hK => ?_)
               ·
                skip
                refine Kd.R_append_rows_step k30 (w0 := w) w.heap.size (by rfl) (.tmp 31) (.tmp 33) 23 30 (.agg #[(.int .i64 0), (.int .i64 0), (.int .i64 0)]) 24 rfl Tryd.underlying23 info30 rfl (by decide) (by omega) v205 y204 y207 _ _ _ (fun k_ => some k_ ≠ (.slice Ao21 t193.length co21 : Value).ownBlock ∧ some k_ ≠ (.slice Ao33 y207.length co33 : Value).ownBlock) (fun _ => False) rfl rfl ?aO ?aR (fun _ _ h => h) (fun _ h => h.elim) ?aF ?aB ?aS ?aL ?_
                (case aR => repeat (first | exact (Kd.R_reads' HO209.out).2.2 | (with_reducible refine Kd.C_alloc ?_ _) | (with_reducible refine Kd.C_drewN ?_ _) | (with_reducible refine Kd.C_drew ?_)))
                (case aB => exact (by repeat (first | (with_reducible first | exact HB.out | apply below_alloc | apply pw_below_drewN | apply below_drew1 | refine below_set ?_ GE196.out) | exact HB.out)))
                (case aF => exact (fun k_ hk => ⟨Kd.fresh' (Kd.R_lt (by (with_reducible repeat (first | apply Kd.R_alloc | apply Kd.R_drewN | apply Kd.R_drew)); exact HO195.out)) k_ hk, Kd.fresh' (Kd.R_lt (by (with_reducible repeat (first | apply Kd.R_alloc | apply Kd.R_drewN | apply Kd.R_drew)); exact HO209.out)) k_ hk⟩))
                (case aO => exact (by (with_reducible repeat (first | apply Kd.R_alloc | apply Kd.R_drewN | apply Kd.R_drew)); exact HO206.out))
                (case aS => exact (below_size (by repeat (first | (with_reducible first | exact HB.out | apply below_alloc | apply pw_below_drewN | apply below_drew1 | refine below_set ?_ GE196.out) | exact HB.out))))
                (case aL => have := LMc9.out; omega)
                intro v211 w32 ho hb hg hat
                rw [← Ny210.out] at ho
                have n0_ := Aside0.mk (Kd.R_after (ok := (fun k_ => some k_ ≠ (.slice Ao33 y207.length co33 : Value).ownBlock)) (by (with_reducible repeat (first | apply Kd.R_alloc | apply Kd.R_drewN | apply Kd.R_drew)); exact Kd.R_mono HO195.out (fun _ hk => ⟨hk.2, hk.1⟩)) hg hat)
                have n1_ := Aside0.mk (blk_grown (g := gb196) (o := .cells #[.int .i64 t192, .slice Ao21 t193.length co21] 25 (0, 0)) (by (with_reducible repeat (first | refine blk_drewN ?_ _ | refine blk_drew ?_ | refine blk_alloc ?_ _)); exact BK196.out) hg (Kd.R_ne HO206.out BK196.out (by decide)))
                have n2_ := Aside0.mk (Kd.R_after (ok := (fun k_ => some k_ ≠ (.slice Ao21 t193.length co21 : Value).ownBlock)) (by (with_reducible repeat (first | apply Kd.R_alloc | apply Kd.R_drewN | apply Kd.R_drew)); exact HO209.out) hg hat)
                have n3_ := Aside0.mk (hb)
                have n4_ := Aside0.mk (ho)
                clear HO195
                clear BK196
                clear HO209
                clear HB
                clear HO206
                have HO195 := n0_
                have BK196 := n1_
                have HO209 := n2_
                have HB := n3_
                have HO212 := n4_
                clear n0_ n1_ n2_ n3_ n4_
                clear ho hb hg hat
                obtain ⟨Ao34, co34, eo34⟩ := Kd.R_slice HO212.out
                (first | subst eo34 | (injection eo34 with f1_ f2_ f3_; have f4_ := f1_.symm; have f5_ := f3_.symm; clear f1_ f2_ f3_; subst f4_; subst f5_))
                refine hK.out _ _ ⟨(blk_cell BK196.out 0).trans rfl, (blk_cell BK196.out 1).trans rfl⟩ (fun hHeld => ?_)
                clear hK K
                refine norm_ (a' := ?_) ?_ ?_
                rotate_left
                ·
                 show Act.put _ (some 34) _ = _
                 simp only [Act.put, List.setIfInBounds_toArray, List.set_cons_zero, List.set_cons_succ, i64_w, i32_w]
                 rfl
                refine pure_ (i := 9) (N := some 35) (v := ?_) (a' := ?_) #[true, true, true, true, true, true, true, true, true, true, false, false] rfl rfl (any_of HT_.out (by kernel_rfl)) (fun _ _ _ h => h) (Or.inl ⟨by rfl, ?_⟩) ?_ ?_
                rotate_left
                ·
                 intro w'
                 go_simp
                 with_reducible rfl
                rotate_left
                ·
                 simp only [Act.put, List.setIfInBounds_toArray, List.set_cons_zero, List.set_cons_succ, i64_w, i32_w]
                 rfl
                exact norm_ (by first | (simp only [putAll, Act.put, List.setIfInBounds_toArray, List.set_cons_zero, List.set_cons_succ]; done) | (simp only [putAll, Act.put, List.setIfInBounds_toArray, List.set_cons_zero, List.set_cons_succ]; rfl)) (hJ2_5_7_8 (v202, v205, .slice Ao33 y207.length co33, .slice Ao34 y210.length co34) _ ⟨hHeld, (by (with_reducible repeat (first | apply Kd.R_alloc | apply Kd.R_drewN | apply Kd.R_drew)); exact HO195.out), (by (with_reducible repeat (first | apply Kd.R_alloc | apply Kd.R_drewN | apply Kd.R_drew)); exact HO209.out), (by (with_reducible repeat (first | apply Kd.R_alloc | apply Kd.R_drewN | apply Kd.R_drew)); exact HO212.out), (by (with_reducible repeat (first | refine blk_drewN ?_ _ | refine blk_drew ?_ | refine blk_alloc ?_ _)); exact BK196.out), (by repeat (first | (with_reducible first | exact HB.out | apply below_alloc | apply pw_below_drewN | apply below_drew1 | refine below_set ?_ GE196.out) | exact HB.out))⟩)
               ·
                skip
                refine box_step ?hg (N := 5) ?hd (cs := #[.int .i64 0, .slice none 0 0]) (t := 25) ?hr ?_; (case hd => rfl); (case hg => rfl); (case hr => first | (go_simp; done) | (go_simp; rfl))
                intro gb213 hg w32 hbox hb
                have n0_ := Aside0.mk (Kd.R_below (by (with_reducible repeat (first | apply Kd.R_alloc | apply Kd.R_drewN | apply Kd.R_drew)); exact HO195.out) hb)
                have n1_ := Aside0.mk (Kd.R_below (by (with_reducible repeat (first | apply Kd.R_alloc | apply Kd.R_drewN | apply Kd.R_drew)); exact HO206.out) hb)
                have n2_ := Aside0.mk (Kd.R_below (by (with_reducible repeat (first | apply Kd.R_alloc | apply Kd.R_drewN | apply Kd.R_drew)); exact HO209.out) hb)
                have n3_ := Aside0.mk (blk_below (g := gb196) (o := .cells #[.int .i64 t192, .slice Ao21 t193.length co21] 25 (0, 0)) (by (with_reducible repeat (first | refine blk_drewN ?_ _ | refine blk_drew ?_ | refine blk_alloc ?_ _)); exact BK196.out) hb)
                have n4_ := Aside0.mk (below_step (by repeat (first | (with_reducible first | exact HB.out | apply below_alloc | apply pw_below_drewN | apply below_drew1 | refine below_set ?_ GE196.out) | exact HB.out)) hb)
                have n5_ := Aside0.mk (hbox)
                have n6_ := Aside0.mk ((by rw [hg]; exact (below_size (by repeat (first | (with_reducible first | exact HB.out | apply below_alloc | apply pw_below_drewN | apply below_drew1 | refine below_set ?_ GE196.out) | exact HB.out))) : w.heap.size ≤ gb213))
                have n7_ := Aside0.mk ((by rw [hg]; exact (below_size (by repeat (first | (with_reducible first | exact HB.out | apply below_alloc | apply pw_below_drewN | apply below_drew1 | refine below_set ?_ GE196.out) | exact HB.out))) : w.heap.size ≤ gb213))
                have n8_ := Aside0.mk ((by rw [hg]; exact Nat.ne_of_lt (blk_lt (g := gb196) (o := .cells #[.int .i64 t192, .slice Ao21 t193.length co21] 25 (0, 0)) (by (with_reducible repeat (first | refine blk_drewN ?_ _ | refine blk_drew ?_ | refine blk_alloc ?_ _)); exact BK196.out)) : gb196 ≠ gb213))
                have n9_ := Aside0.mk ((by rw [hg]; exact Nat.ne_of_gt (blk_lt (g := gb196) (o := .cells #[.int .i64 t192, .slice Ao21 t193.length co21] 25 (0, 0)) (by (with_reducible repeat (first | refine blk_drewN ?_ _ | refine blk_drew ?_ | refine blk_alloc ?_ _)); exact BK196.out)) : gb213 ≠ gb196))
                clear HO195
                clear HO206
                clear HO209
                clear BK196
                clear HB
                have HO195 := n0_
                have HO206 := n1_
                have HO209 := n2_
                have BK196 := n3_
                have HB := n4_
                have BK213 := n5_
                have GW213 := n6_
                have GE213 := n7_
                have NB196_213 := n8_
                have NB213_196 := n9_
                clear n0_ n1_ n2_ n3_ n4_ n5_ n6_ n7_ n8_ n9_
                clear hb hbox hg
                refine hK.out _ _ ⟨(blk_cell BK196.out 0).trans rfl, (blk_cell BK196.out 1).trans rfl⟩ (fun hHeld => ?_)
                clear hK K
                refine norm_ (a' := ?_) ?_ ?_
                rotate_left
                ·
                 show Act.put _ (some 5) _ = _
                 simp only [Act.put, List.setIfInBounds_toArray, List.set_cons_zero, List.set_cons_succ, i64_w, i32_w]
                 rfl
                exact norm_ (by first | (simp only [putAll, Act.put, List.setIfInBounds_toArray, List.set_cons_zero, List.set_cons_succ]; done) | (simp only [putAll, Act.put, List.setIfInBounds_toArray, List.set_cons_zero, List.set_cons_succ]; rfl)) (hJ2_5_7_10 (v202, v205, .slice Ao33 y207.length co33, gb213) _ ⟨hHeld, (by (with_reducible repeat (first | apply Kd.R_alloc | apply Kd.R_drewN | apply Kd.R_drew)); exact HO195.out), (by (with_reducible repeat (first | apply Kd.R_alloc | apply Kd.R_drewN | apply Kd.R_drew)); exact HO206.out), (by (with_reducible repeat (first | apply Kd.R_alloc | apply Kd.R_drewN | apply Kd.R_drew)); exact HO209.out), (by (with_reducible repeat (first | refine blk_drewN ?_ _ | refine blk_drew ?_ | refine blk_alloc ?_ _)); exact BK196.out), (by (with_reducible repeat (first | refine blk_drewN ?_ _ | refine blk_drew ?_ | refine blk_alloc ?_ _)); exact BK213.out), GW213.out, GE213.out, NB196_213.out, NB213_196.out, (by repeat (first | (with_reducible first | exact HB.out | apply below_alloc | apply pw_below_drewN | apply below_drew1 | refine below_set ?_ GE196.out | refine below_set ?_ GE213.out) | exact HB.out))⟩)
             ·
              skip
              rintro ⟨v202, v205, v208, gb213⟩ w32 ⟨hS_, h0_, h1_, h2_, h3_, h4_, h5_, h6_, h7_, h8_, h9_⟩
              have n0_ : Aside0 (Kd.R k30 30 w32 w.heap.size (fun k_ => some k_ ≠ (v205 : Value).ownBlock ∧ some k_ ≠ (v208 : Value).ownBlock) (.slice Ao21 t193.length co21) t193) := ⟨h0_⟩
              have n1_ : Aside0 (Kd.R k30 30 w32 w.heap.size (fun k_ => some k_ ≠ (.slice Ao21 t193.length co21 : Value).ownBlock ∧ some k_ ≠ (v208 : Value).ownBlock) v205 y204) := ⟨h1_⟩
              have n2_ : Aside0 (Kd.R k30 30 w32 w.heap.size (fun k_ => some k_ ≠ (.slice Ao21 t193.length co21 : Value).ownBlock ∧ some k_ ≠ (v205 : Value).ownBlock) v208 y207) := ⟨h2_⟩
              have n3_ : Aside0 (w32.heap[gb196]? = some (.cells #[.int .i64 t192, .slice Ao21 t193.length co21] 25 (0, 0))) := ⟨h3_⟩
              have n4_ : Aside0 (w32.heap[gb213]? = some (.cells #[.int .i64 0, .slice none 0 0] 25 (0, 0))) := ⟨h4_⟩
              have n5_ : Aside0 (w.heap.size ≤ gb213) := ⟨h5_⟩
              have n6_ : Aside0 (w.heap.size ≤ gb213) := ⟨h6_⟩
              have n7_ : Aside0 (gb196 ≠ gb213) := ⟨h7_⟩
              have n8_ : Aside0 (gb213 ≠ gb196) := ⟨h8_⟩
              have n9_ : Aside0 (Below w.heap.size w w32) := ⟨h9_⟩
              clear HO195
              clear BK196
              clear HB
              clear h0_ h1_ h2_ h3_ h4_ h5_ h6_ h7_ h8_ h9_
              have HO195 := n0_
              have HO206 := n1_
              have HO209 := n2_
              have BK196 := n3_
              have BK213 := n4_
              have GW213 := n5_
              have GE213 := n6_
              have NB196_213 := n7_
              have NB213_196 := n8_
              have HB := n9_
              clear n0_ n1_ n2_ n3_ n4_ n5_ n6_ n7_ n8_ n9_
              have hHeld : w32.cell? ⟨gb196, 0, none⟩ = some (.int .i64 t192) ∧ w32.cell? ⟨gb196, 1, none⟩ = some (.slice Ao21 t193.length co21) := hS_
              obtain ⟨Ao34, co34, eo34⟩ := Kd.R_slice HO209.out
              (first | subst eo34 | (injection eo34 with f1_ f2_ f3_; have f4_ := f1_.symm; have f5_ := f3_.symm; clear f1_ f2_ f3_; subst f4_; subst f5_))
              refine norm_ (a' := ?_) ?_ ?_
              rotate_left
              ·
               simp only [putAll, Act.put, List.setIfInBounds_toArray, List.set_cons_zero, List.set_cons_succ]
               rfl
              refine one_ (i := 8) (N := some 34) #[true, true, true, true, true, true, true, true, true, false, true, false] rfl rfl (one_of HT_.out (by kernel_rfl)) (by decide) (fun K hK => ?_)
              refine Kd.R_append_rows_step k30 (w0 := w) w.heap.size (by rfl) (.tmp 31) (.tmp 33) 23 30 (.agg #[(.int .i64 0), (.int .i64 0), (.int .i64 0)]) 24 rfl Tryd.underlying23 info30 rfl (by decide) (by omega) v205 y204 y207 _ _ _ (fun k_ => some k_ ≠ (.slice Ao21 t193.length co21 : Value).ownBlock ∧ some k_ ≠ (.slice Ao34 y207.length co34 : Value).ownBlock) (fun _ => False) rfl rfl ?aO ?aR (fun _ _ h => h) (fun _ h => h.elim) ?aF ?aB ?aS ?aL ?_
              (case aR => repeat (first | exact (Kd.R_reads' HO209.out).2.2 | (with_reducible refine Kd.C_alloc ?_ _) | (with_reducible refine Kd.C_drewN ?_ _) | (with_reducible refine Kd.C_drew ?_)))
              (case aB => exact (by repeat (first | (with_reducible first | exact HB.out | apply below_alloc | apply pw_below_drewN | apply below_drew1 | refine below_set ?_ GE196.out | refine below_set ?_ GE213.out) | exact HB.out)))
              (case aF => exact (fun k_ hk => ⟨Kd.fresh' (Kd.R_lt (by (with_reducible repeat (first | apply Kd.R_alloc | apply Kd.R_drewN | apply Kd.R_drew)); exact HO195.out)) k_ hk, Kd.fresh' (Kd.R_lt (by (with_reducible repeat (first | apply Kd.R_alloc | apply Kd.R_drewN | apply Kd.R_drew)); exact HO209.out)) k_ hk⟩))
              (case aO => exact (by (with_reducible repeat (first | apply Kd.R_alloc | apply Kd.R_drewN | apply Kd.R_drew)); exact HO206.out))
              (case aS => exact (below_size (by repeat (first | (with_reducible first | exact HB.out | apply below_alloc | apply pw_below_drewN | apply below_drew1 | refine below_set ?_ GE196.out | refine below_set ?_ GE213.out) | exact HB.out))))
              (case aL => have := LMc9.out; omega)
              intro v211 w33 ho hb hg hat
              rw [← Ny210.out] at ho
              have n0_ := Aside0.mk (Kd.R_after (ok := (fun k_ => some k_ ≠ (.slice Ao34 y207.length co34 : Value).ownBlock)) (by (with_reducible repeat (first | apply Kd.R_alloc | apply Kd.R_drewN | apply Kd.R_drew)); exact Kd.R_mono HO195.out (fun _ hk => ⟨hk.2, hk.1⟩)) hg hat)
              have n1_ := Aside0.mk (blk_grown (g := gb196) (o := .cells #[.int .i64 t192, .slice Ao21 t193.length co21] 25 (0, 0)) (by (with_reducible repeat (first | refine blk_drewN ?_ _ | refine blk_drew ?_ | refine blk_alloc ?_ _)); exact BK196.out) hg (Kd.R_ne HO206.out BK196.out (by decide)))
              have n2_ := Aside0.mk (Kd.R_after (ok := (fun k_ => some k_ ≠ (.slice Ao21 t193.length co21 : Value).ownBlock)) (by (with_reducible repeat (first | apply Kd.R_alloc | apply Kd.R_drewN | apply Kd.R_drew)); exact HO209.out) hg hat)
              have n3_ := Aside0.mk (blk_grown (g := gb213) (o := .cells #[.int .i64 0, .slice none 0 0] 25 (0, 0)) (by (with_reducible repeat (first | refine blk_drewN ?_ _ | refine blk_drew ?_ | refine blk_alloc ?_ _)); exact BK213.out) hg (Kd.R_ne HO206.out BK213.out (by decide)))
              have n4_ := Aside0.mk (hb)
              have n5_ := Aside0.mk (ho)
              clear HO195
              clear BK196
              clear HO209
              clear BK213
              clear HB
              clear HO206
              have HO195 := n0_
              have BK196 := n1_
              have HO209 := n2_
              have BK213 := n3_
              have HB := n4_
              have HO212 := n5_
              clear n0_ n1_ n2_ n3_ n4_ n5_
              clear ho hb hg hat
              obtain ⟨Ao35, co35, eo35⟩ := Kd.R_slice HO212.out
              (first | subst eo35 | (injection eo35 with f1_ f2_ f3_; have f4_ := f1_.symm; have f5_ := f3_.symm; clear f1_ f2_ f3_; subst f4_; subst f5_))
              refine hK.out _ _ ⟨(blk_cell BK196.out 0).trans rfl, (blk_cell BK196.out 1).trans rfl⟩ (fun hHeld => ?_)
              clear hK K
              refine norm_ (a' := ?_) ?_ ?_
              rotate_left
              ·
               show Act.put _ (some 34) _ = _
               simp only [Act.put, List.setIfInBounds_toArray, List.set_cons_zero, List.set_cons_succ, i64_w, i32_w]
               rfl
              refine pure_ (i := 9) (N := some 35) (v := ?_) (a' := ?_) #[true, true, true, true, true, true, true, true, true, true, true, false] rfl rfl (any_of HT_.out (by kernel_rfl)) (fun _ _ _ h => h) (Or.inl ⟨by rfl, ?_⟩) ?_ ?_
              rotate_left
              ·
               intro w'
               go_simp
               with_reducible rfl
              rotate_left
              ·
               simp only [Act.put, List.setIfInBounds_toArray, List.set_cons_zero, List.set_cons_succ, i64_w, i32_w]
               rfl
              exact norm_ (by first | (simp only [putAll, Act.put, List.setIfInBounds_toArray, List.set_cons_zero, List.set_cons_succ]; done) | (simp only [putAll, Act.put, List.setIfInBounds_toArray, List.set_cons_zero, List.set_cons_succ]; rfl)) (hJ2_5_7_8_10 (v202, v205, .slice Ao34 y207.length co34, .slice Ao35 y210.length co35, gb213) _ ⟨hHeld, (by (with_reducible repeat (first | apply Kd.R_alloc | apply Kd.R_drewN | apply Kd.R_drew)); exact HO195.out), (by (with_reducible repeat (first | apply Kd.R_alloc | apply Kd.R_drewN | apply Kd.R_drew)); exact HO209.out), (by (with_reducible repeat (first | apply Kd.R_alloc | apply Kd.R_drewN | apply Kd.R_drew)); exact HO212.out), (by (with_reducible repeat (first | refine blk_drewN ?_ _ | refine blk_drew ?_ | refine blk_alloc ?_ _)); exact BK196.out), (by (with_reducible repeat (first | refine blk_drewN ?_ _ | refine blk_drew ?_ | refine blk_alloc ?_ _)); exact BK213.out), GW213.out, GE213.out, NB196_213.out, NB213_196.out, (by repeat (first | (with_reducible first | exact HB.out | apply below_alloc | apply pw_below_drewN | apply below_drew1 | refine below_set ?_ GE196.out | refine below_set ?_ GE213.out) | exact HB.out))⟩)
            ·
             skip
             rintro ⟨v202, v205, v208, v211⟩ w34 ⟨hS_, h0_, h1_, h2_, h3_, h4_⟩
             have n0_ : Aside0 (Kd.R k30 30 w34 w.heap.size (fun k_ => some k_ ≠ (v208 : Value).ownBlock ∧ some k_ ≠ (v211 : Value).ownBlock) (.slice Ao21 t193.length co21) t193) := ⟨h0_⟩
             have n1_ : Aside0 (Kd.R k30 30 w34 w.heap.size (fun k_ => some k_ ≠ (.slice Ao21 t193.length co21 : Value).ownBlock ∧ some k_ ≠ (v211 : Value).ownBlock) v208 y207) := ⟨h1_⟩
             have n2_ : Aside0 (Kd.R k30 30 w34 w.heap.size (fun k_ => some k_ ≠ (.slice Ao21 t193.length co21 : Value).ownBlock ∧ some k_ ≠ (v208 : Value).ownBlock) v211 y210) := ⟨h2_⟩
             have n3_ : Aside0 (w34.heap[gb196]? = some (.cells #[.int .i64 t192, .slice Ao21 t193.length co21] 25 (0, 0))) := ⟨h3_⟩
             have n4_ : Aside0 (Below w.heap.size w w34) := ⟨h4_⟩
             clear HO195
             clear BK196
             clear HB
             clear h0_ h1_ h2_ h3_ h4_
             have HO195 := n0_
             have HO209 := n1_
             have HO212 := n2_
             have BK196 := n3_
             have HB := n4_
             clear n0_ n1_ n2_ n3_ n4_
             have hHeld : w34.cell? ⟨gb196, 0, none⟩ = some (.int .i64 t192) ∧ w34.cell? ⟨gb196, 1, none⟩ = some (.slice Ao21 t193.length co21) := hS_
             obtain ⟨Ao35, co35, eo35⟩ := Kd.R_slice HO212.out
             (first | subst eo35 | (injection eo35 with f1_ f2_ f3_; have f4_ := f1_.symm; have f5_ := f3_.symm; clear f1_ f2_ f3_; subst f4_; subst f5_))
             refine norm_ (a' := ?_) ?_ ?_
             rotate_left
             ·
              simp only [putAll, Act.put, List.setIfInBounds_toArray, List.set_cons_zero, List.set_cons_succ]
              rfl
             refine one_ (i := 10) (N := some 5) #[true, true, true, true, true, true, true, true, true, true, true, false] rfl rfl (one_of HT_.out (by kernel_rfl)) (by decide) (fun K hK => ?_)
             refine box_step ?hg (N := 5) ?hd (cs := #[.int .i64 0, .slice none 0 0]) (t := 25) ?hr ?_; (case hd => rfl); (case hg => rfl); (case hr => first | (go_simp; done) | (go_simp; rfl))
             intro gb213 hg w36 hbox hb
             have n0_ := Aside0.mk (Kd.R_below (by (with_reducible repeat (first | apply Kd.R_alloc | apply Kd.R_drewN | apply Kd.R_drew)); exact HO195.out) hb)
             have n1_ := Aside0.mk (Kd.R_below (by (with_reducible repeat (first | apply Kd.R_alloc | apply Kd.R_drewN | apply Kd.R_drew)); exact HO209.out) hb)
             have n2_ := Aside0.mk (Kd.R_below (by (with_reducible repeat (first | apply Kd.R_alloc | apply Kd.R_drewN | apply Kd.R_drew)); exact HO212.out) hb)
             have n3_ := Aside0.mk (blk_below (g := gb196) (o := .cells #[.int .i64 t192, .slice Ao21 t193.length co21] 25 (0, 0)) (by (with_reducible repeat (first | refine blk_drewN ?_ _ | refine blk_drew ?_ | refine blk_alloc ?_ _)); exact BK196.out) hb)
             have n4_ := Aside0.mk (below_step (by repeat (first | (with_reducible first | exact HB.out | apply below_alloc | apply pw_below_drewN | apply below_drew1 | refine below_set ?_ GE196.out) | exact HB.out)) hb)
             have n5_ := Aside0.mk (hbox)
             have n6_ := Aside0.mk ((by rw [hg]; exact (below_size (by repeat (first | (with_reducible first | exact HB.out | apply below_alloc | apply pw_below_drewN | apply below_drew1 | refine below_set ?_ GE196.out) | exact HB.out))) : w.heap.size ≤ gb213))
             have n7_ := Aside0.mk ((by rw [hg]; exact (below_size (by repeat (first | (with_reducible first | exact HB.out | apply below_alloc | apply pw_below_drewN | apply below_drew1 | refine below_set ?_ GE196.out) | exact HB.out))) : w.heap.size ≤ gb213))
             have n8_ := Aside0.mk ((by rw [hg]; exact Nat.ne_of_lt (blk_lt (g := gb196) (o := .cells #[.int .i64 t192, .slice Ao21 t193.length co21] 25 (0, 0)) (by (with_reducible repeat (first | refine blk_drewN ?_ _ | refine blk_drew ?_ | refine blk_alloc ?_ _)); exact BK196.out)) : gb196 ≠ gb213))
             have n9_ := Aside0.mk ((by rw [hg]; exact Nat.ne_of_gt (blk_lt (g := gb196) (o := .cells #[.int .i64 t192, .slice Ao21 t193.length co21] 25 (0, 0)) (by (with_reducible repeat (first | refine blk_drewN ?_ _ | refine blk_drew ?_ | refine blk_alloc ?_ _)); exact BK196.out)) : gb213 ≠ gb196))
             clear HO195
             clear HO209
             clear HO212
             clear BK196
             clear HB
             have HO195 := n0_
             have HO209 := n1_
             have HO212 := n2_
             have BK196 := n3_
             have HB := n4_
             have BK213 := n5_
             have GW213 := n6_
             have GE213 := n7_
             have NB196_213 := n8_
             have NB213_196 := n9_
             clear n0_ n1_ n2_ n3_ n4_ n5_ n6_ n7_ n8_ n9_
             clear hb hbox hg
             refine hK.out _ _ ⟨(blk_cell BK196.out 0).trans rfl, (blk_cell BK196.out 1).trans rfl⟩ (fun hHeld => ?_)
             clear hK K
             refine norm_ (a' := ?_) ?_ ?_
             rotate_left
             ·
              show Act.put _ (some 5) _ = _
              simp only [Act.put, List.setIfInBounds_toArray, List.set_cons_zero, List.set_cons_succ, i64_w, i32_w]
              rfl
             exact norm_ (by first | (simp only [putAll, Act.put, List.setIfInBounds_toArray, List.set_cons_zero, List.set_cons_succ]; done) | (simp only [putAll, Act.put, List.setIfInBounds_toArray, List.set_cons_zero, List.set_cons_succ]; rfl)) (hJ2_5_7_8_10 (v202, v205, v208, .slice Ao35 y210.length co35, gb213) _ ⟨hHeld, (by (with_reducible repeat (first | apply Kd.R_alloc | apply Kd.R_drewN | apply Kd.R_drew)); exact HO195.out), (by (with_reducible repeat (first | apply Kd.R_alloc | apply Kd.R_drewN | apply Kd.R_drew)); exact HO209.out), (by (with_reducible repeat (first | apply Kd.R_alloc | apply Kd.R_drewN | apply Kd.R_drew)); exact HO212.out), (by (with_reducible repeat (first | refine blk_drewN ?_ _ | refine blk_drew ?_ | refine blk_alloc ?_ _)); exact BK196.out), (by (with_reducible repeat (first | refine blk_drewN ?_ _ | refine blk_drew ?_ | refine blk_alloc ?_ _)); exact BK213.out), GW213.out, GE213.out, NB196_213.out, NB213_196.out, (by repeat (first | (with_reducible first | exact HB.out | apply below_alloc | apply pw_below_drewN | apply below_drew1 | refine below_set ?_ GE196.out | refine below_set ?_ GE213.out) | exact HB.out))⟩)
           rintro ⟨v202, v205, v208, v211, gb213⟩ w35 ⟨hS_, h0_, h1_, h2_, h3_, h4_, h5_, h6_, h7_, h8_, h9_⟩
           have n0_ : Aside0 (Kd.R k30 30 w35 w.heap.size (fun k_ => some k_ ≠ (v208 : Value).ownBlock ∧ some k_ ≠ (v211 : Value).ownBlock) (.slice Ao21 t193.length co21) t193) := ⟨h0_⟩
           have n1_ : Aside0 (Kd.R k30 30 w35 w.heap.size (fun k_ => some k_ ≠ (.slice Ao21 t193.length co21 : Value).ownBlock ∧ some k_ ≠ (v211 : Value).ownBlock) v208 y207) := ⟨h1_⟩
           have n2_ : Aside0 (Kd.R k30 30 w35 w.heap.size (fun k_ => some k_ ≠ (.slice Ao21 t193.length co21 : Value).ownBlock ∧ some k_ ≠ (v208 : Value).ownBlock) v211 y210) := ⟨h2_⟩
           have n3_ : Aside0 (w35.heap[gb196]? = some (.cells #[.int .i64 t192, .slice Ao21 t193.length co21] 25 (0, 0))) := ⟨h3_⟩
           have n4_ : Aside0 (w35.heap[gb213]? = some (.cells #[.int .i64 0, .slice none 0 0] 25 (0, 0))) := ⟨h4_⟩
           have n5_ : Aside0 (w.heap.size ≤ gb213) := ⟨h5_⟩
           have n6_ : Aside0 (w.heap.size ≤ gb213) := ⟨h6_⟩
           have n7_ : Aside0 (gb196 ≠ gb213) := ⟨h7_⟩
           have n8_ : Aside0 (gb213 ≠ gb196) := ⟨h8_⟩
           have n9_ : Aside0 (Below w.heap.size w w35) := ⟨h9_⟩
           clear HO195
           clear BK196
           clear HB
           clear h0_ h1_ h2_ h3_ h4_ h5_ h6_ h7_ h8_ h9_
           have HO195 := n0_
           have HO209 := n1_
           have HO212 := n2_
           have BK196 := n3_
           have BK213 := n4_
           have GW213 := n5_
           have GE213 := n6_
           have NB196_213 := n7_
           have NB213_196 := n8_
           have HB := n9_
           clear n0_ n1_ n2_ n3_ n4_ n5_ n6_ n7_ n8_ n9_
           have hHeld : w35.cell? ⟨gb196, 0, none⟩ = some (.int .i64 t192) ∧ w35.cell? ⟨gb196, 1, none⟩ = some (.slice Ao21 t193.length co21) := hS_
           obtain ⟨Ao36, co36, eo36⟩ := Kd.R_slice HO212.out
           (first | subst eo36 | (injection eo36 with f1_ f2_ f3_; have f4_ := f1_.symm; have f5_ := f3_.symm; clear f1_ f2_ f3_; subst f4_; subst f5_))
           refine norm_ (a' := ?_) ?_ ?_
           rotate_left
           ·
            simp only [putAll, Act.put, List.setIfInBounds_toArray, List.set_cons_zero, List.set_cons_succ]
            rfl
           refine one_ (i := 11) (N := none) #[true, true, true, true, true, true, true, true, true, true, true, true] rfl rfl (one_of HT_.out (by kernel_rfl)) (by decide) (fun K hK => ?_)
           have hs37 : w35.cell? ⟨gb213, 0, none⟩ = some (.int .i64 0) := (blk_cell BK213.out 0).trans rfl
           have hfs37 := blk_frozen BK213.out 0
           have hns37_0 := NB196_213.out
           have hms37_0 := NB213_196.out
           have hs38 : w35.cell? ⟨gb213, 1, none⟩ = some (.slice none 0 0) := (blk_cell BK213.out 1).trans rfl
           have hfs38 := blk_frozen BK213.out 1
           have hns38_0 := NB196_213.out
           have hms38_0 := NB213_196.out
           refine skip_ (w1 := ?_) (by rfl) rfl ?_ ?_
           rotate_left
           ·
            go_simp
            rfl
           refine hK.out _ _ ⟨((cell_far (p := ⟨gb213, _, none⟩) NB196_213.out _).trans (((cell_far (p := ⟨gb213, _, none⟩) NB196_213.out _).trans (hHeld.1)))), ((cell_far (p := ⟨gb213, _, none⟩) NB196_213.out _).trans (((cell_far (p := ⟨gb213, _, none⟩) NB196_213.out _).trans (hHeld.2))))⟩ (fun hHeld => ?_)
           clear hK K
           refine done_ (done_of HT_.out (by kernel_rfl)) ?_
           try go_wp2
           have n0_ : Aside0 (Kd.R k30 30 ((w35.setCell ⟨gb213, 0, none⟩ (.int .i64 t192)).setCell ⟨gb213, 1, none⟩ (.slice Ao36 y210.length co36)) w.heap.size (fun k_ => some k_ ≠ (v208 : Value).ownBlock ∧ some k_ ≠ (.slice Ao36 y210.length co36 : Value).ownBlock) (.slice Ao21 t193.length co21) t193) := ⟨by (with_reducible repeat (first | apply Kd.R_alloc | apply Kd.R_drewN | apply Kd.R_drew)); exact Kd.R_mono (Kd.R_far (p := ⟨gb213, 1, none⟩) (Kd.R_far (p := ⟨gb213, 0, none⟩) (Kd.R_types HO195.out BK213.out (by decide)) (fun _ hk => hk.2) (.int .i64 t192)) (fun _ hk => hk.2) (.slice Ao36 y210.length co36)) (fun _ hk => ⟨hk.1.1, hk.1.2⟩)⟩
           have n1_ : Aside0 (Kd.R k30 30 ((w35.setCell ⟨gb213, 0, none⟩ (.int .i64 t192)).setCell ⟨gb213, 1, none⟩ (.slice Ao36 y210.length co36)) w.heap.size (fun k_ => some k_ ≠ (.slice Ao21 t193.length co21 : Value).ownBlock ∧ some k_ ≠ (.slice Ao36 y210.length co36 : Value).ownBlock) v208 y207) := ⟨by (with_reducible repeat (first | apply Kd.R_alloc | apply Kd.R_drewN | apply Kd.R_drew)); exact Kd.R_mono (Kd.R_far (p := ⟨gb213, 1, none⟩) (Kd.R_far (p := ⟨gb213, 0, none⟩) (Kd.R_types HO209.out BK213.out (by decide)) (fun _ hk => hk.2) (.int .i64 t192)) (fun _ hk => hk.2) (.slice Ao36 y210.length co36)) (fun _ hk => ⟨hk.1.1, hk.1.2⟩)⟩
           have n2_ : Aside0 (Kd.R k30 30 ((w35.setCell ⟨gb213, 0, none⟩ (.int .i64 t192)).setCell ⟨gb213, 1, none⟩ (.slice Ao36 y210.length co36)) w.heap.size (fun k_ => some k_ ≠ (.slice Ao21 t193.length co21 : Value).ownBlock ∧ some k_ ≠ (v208 : Value).ownBlock) (.slice Ao36 y210.length co36) y210) := ⟨by (with_reducible repeat (first | apply Kd.R_alloc | apply Kd.R_drewN | apply Kd.R_drew)); exact Kd.R_mono (Kd.R_far (p := ⟨gb213, 1, none⟩) (Kd.R_far (p := ⟨gb213, 0, none⟩) (Kd.R_types HO212.out BK213.out (by decide)) (fun _ hk => hk.2) (.int .i64 t192)) (fun _ hk => hk.2) (.slice Ao36 y210.length co36)) (fun _ hk => ⟨hk.1.1, hk.1.2⟩)⟩
           have n3_ : Aside0 (((w35.setCell ⟨gb213, 0, none⟩ (.int .i64 t192)).setCell ⟨gb213, 1, none⟩ (.slice Ao36 y210.length co36)).heap[gb196]? = some (.cells #[.int .i64 t192, .slice Ao21 t193.length co21] 25 (0, 0))) := ⟨by (with_reducible repeat (first | refine blk_drewN ?_ _ | refine blk_drew ?_ | refine blk_alloc ?_ _)); refine blk_far ?_ NB196_213.out _; (with_reducible repeat (first | refine blk_drewN ?_ _ | refine blk_drew ?_ | refine blk_alloc ?_ _)); refine blk_far ?_ NB196_213.out _; (with_reducible repeat (first | refine blk_drewN ?_ _ | refine blk_drew ?_ | refine blk_alloc ?_ _)); exact BK196.out⟩
           have n4_ : Aside0 (((w35.setCell ⟨gb213, 0, none⟩ (.int .i64 t192)).setCell ⟨gb213, 1, none⟩ (.slice Ao36 y210.length co36)).heap[gb213]? = some (.cells #[.int .i64 t192, .slice Ao36 y210.length co36] 25 (0, 0))) := ⟨by (with_reducible repeat (first | refine blk_drewN ?_ _ | refine blk_drew ?_ | refine blk_alloc ?_ _)); refine blk_put (cs := #[.int .i64 t192, .slice none 0 0]) ?_ 1 _ rfl; (with_reducible repeat (first | refine blk_drewN ?_ _ | refine blk_drew ?_ | refine blk_alloc ?_ _)); refine blk_put (cs := #[.int .i64 0, .slice none 0 0]) ?_ 0 _ rfl; (with_reducible repeat (first | refine blk_drewN ?_ _ | refine blk_drew ?_ | refine blk_alloc ?_ _)); exact BK213.out⟩
           have n5_ : Aside0 (Below w.heap.size w ((w35.setCell ⟨gb213, 0, none⟩ (.int .i64 t192)).setCell ⟨gb213, 1, none⟩ (.slice Ao36 y210.length co36))) := ⟨by repeat (first | (with_reducible first | exact HB.out | apply below_alloc | apply pw_below_drewN | apply below_drew1 | refine below_set ?_ GE196.out | refine below_set ?_ GE213.out) | exact HB.out)⟩
           (try clear HO195)
           (try clear HO209)
           (try clear HO212)
           (try clear BK196)
           (try clear BK213)
           (try clear HB)
           generalize ((w35.setCell ⟨gb213, 0, none⟩ (.int .i64 t192)).setCell ⟨gb213, 1, none⟩ (.slice Ao36 y210.length co36)) = w39 at n0_ n1_ n2_ n3_ n4_ n5_ ⊢
           have HO195 := n0_
           have HO209 := n1_
           have HO212 := n2_
           have BK196 := n3_
           have BK213 := n4_
           have HB := n5_
           clear n0_ n1_ n2_ n3_ n4_ n5_
           have n0_ := Aside0.mk (Kd.R_drew HO195.out)
           have n1_ := Aside0.mk (Kd.R_drew HO209.out)
           have n2_ := Aside0.mk (Kd.R_drew HO212.out)
           have n3_ := Aside0.mk (blk_drew BK196.out)
           have n4_ := Aside0.mk (blk_drew BK213.out)
           have n5_ := Aside0.mk (below_drew1 HB.out)
           clear HO195
           clear HO209
           clear HO212
           clear BK196
           clear BK213
           clear HB
           have HO195 := n0_
           have HO209 := n1_
           have HO212 := n2_
           have BK196 := n3_
           have BK213 := n4_
           have HB := n5_
           clear n0_ n1_ n2_ n3_ n4_ n5_
           refine start_ (n := 9) (S := fun w' => w'.cell? ⟨gb196, 0, none⟩ = some (.int .i64 t192) ∧ w'.cell? ⟨gb196, 1, none⟩ = some (.slice Ao21 t193.length co21)) (ds := []) #[false, false, false, false, false, false, false, false, false] (by kernel_rfl) rfl rfl ⟨(blk_cell BK196.out 0).trans rfl, (blk_cell BK196.out 1).trans rfl⟩ (fun hHeld => ?_); refine with_tabW laws_FnNetValid.tab10 laws_FnNetValid.bits10 (fun HT_ HW_ => ?_)
           generalize w39.drew = w40 at HO195 HO209 HO212 BK196 BK213 HB hHeld ⊢
           refine pure_ (i := 0) (N := some 36) (v := ?_) (a' := ?_) #[true, false, false, false, false, false, false, false, false] rfl rfl (any_of HT_.out (by kernel_rfl)) (fun _ _ _ h => h) (Or.inl ⟨by rfl, ?_⟩) ?_ ?_
           rotate_left
           ·
            intro w'
            go_simp
            with_reducible rfl
           rotate_left
           ·
            simp only [Act.put, List.setIfInBounds_toArray, List.set_cons_zero, List.set_cons_succ, i64_w, i32_w]
            rfl
           refine pure_ (i := 3) (N := some 39) (v := ?_) (a' := ?_) #[true, false, false, true, false, false, false, false, false] rfl rfl (any_of HT_.out (by kernel_rfl)) (fun _ _ _ h => h) (Or.inl ⟨by rfl, ?_⟩) ?_ ?_
           rotate_left
           ·
            intro w'
            go_simp
            with_reducible rfl
           rotate_left
           ·
            simp only [Act.put, List.setIfInBounds_toArray, List.set_cons_zero, List.set_cons_succ, i64_w, i32_w]
            rfl
           refine take_ (i := 1) (N := some 37) (v := ?_) (a' := ?_) #[true, true, false, true, false, false, false, false, false] rfl rfl (take_ofW HT_.out HW_.out (by kernel_rfl)) (fun _ _ _ h => h) (Or.inl ⟨by rfl, ?_⟩) hHeld ?_ ?_
           rotate_left
           ·
            rintro w' ⟨s0, s1⟩
            go_simp
            with_reducible rfl
           rotate_left
           ·
            simp only [Act.put, List.setIfInBounds_toArray, List.set_cons_zero, List.set_cons_succ, i64_w, i32_w]
            rfl
           refine take_ (i := 4) (N := some 40) (v := ?_) (a' := ?_) #[true, true, false, true, true, false, false, false, false] rfl rfl (take_ofW HT_.out HW_.out (by kernel_rfl)) (fun _ _ _ h => h) (Or.inl ⟨by rfl, ?_⟩) hHeld ?_ ?_
           rotate_left
           ·
            rintro w' ⟨s0, s1⟩
            go_simp
            with_reducible rfl
           rotate_left
           ·
            simp only [Act.put, List.setIfInBounds_toArray, List.set_cons_zero, List.set_cons_succ, i64_w, i32_w]
            rfl
           refine join_ (σ := Value × Value × Nat) 1 #[true, true, true, true, true, true, true, true, false] (fun s_ => [(38, s_.1), (41, s_.2.1), (6, .pointer (some ⟨s_.2.2, 0, none⟩)), (42, .agg #[.int .i64 t192, s_.2.1])]) (fun s_ w' => (w'.cell? ⟨gb196, 0, none⟩ = some (.int .i64 t192) ∧ w'.cell? ⟨gb196, 1, none⟩ = some (.slice Ao21 t193.length co21)) ∧ (Kd.R k30 30 w' w.heap.size (fun k_ => some k_ ≠ (v208 : Value).ownBlock ∧ some k_ ≠ (.slice Ao36 y210.length co36 : Value).ownBlock ∧ some k_ ≠ (s_.2.1 : Value).ownBlock) (.slice Ao21 t193.length co21) t193) ∧ (Kd.R k30 30 w' w.heap.size (fun k_ => some k_ ≠ (.slice Ao21 t193.length co21 : Value).ownBlock ∧ some k_ ≠ (.slice Ao36 y210.length co36 : Value).ownBlock ∧ some k_ ≠ (s_.2.1 : Value).ownBlock) v208 y207) ∧ (Kd.R k30 30 w' w.heap.size (fun k_ => some k_ ≠ (.slice Ao21 t193.length co21 : Value).ownBlock ∧ some k_ ≠ (v208 : Value).ownBlock ∧ some k_ ≠ (s_.2.1 : Value).ownBlock) (.slice Ao36 y210.length co36) y210) ∧ (Kd.R k30 30 w' w.heap.size (fun k_ => some k_ ≠ (.slice Ao21 t193.length co21 : Value).ownBlock ∧ some k_ ≠ (v208 : Value).ownBlock ∧ some k_ ≠ (.slice Ao36 y210.length co36 : Value).ownBlock) s_.2.1 y217) ∧ (w'.heap[gb196]? = some (.cells #[.int .i64 t192, .slice Ao21 t193.length co21] 25 (0, 0))) ∧ (w'.heap[gb213]? = some (.cells #[.int .i64 t192, .slice Ao36 y210.length co36] 25 (0, 0))) ∧ (w'.heap[s_.2.2]? = some (.cells #[.int .i64 0, .slice none 0 0] 25 (0, 0))) ∧ (w.heap.size ≤ s_.2.2) ∧ (w.heap.size ≤ s_.2.2) ∧ (gb196 ≠ s_.2.2) ∧ (s_.2.2 ≠ gb196) ∧ (gb213 ≠ s_.2.2) ∧ (s_.2.2 ≠ gb213) ∧ (Below w.heap.size w w')) ?_ ?_
           rotate_left
           ·
            intro hCont
            refine two_ (i := 2) (j := 7) (Ni := some 38) (Nj := some 6) #[true, true, true, true, true, false, false, false, false] #[true, true, false, true, true, false, false, true, false] rfl rfl rfl rfl (two_of HT_.out (by kernel_rfl)) (by decide) (by decide) (fun K hK => ?_) (fun K hK => ?_)
            ·
             skip
             refine Kd.R_lit_step k30 _ 30 ?hg (N := 38) ?hd (xs := ([] : List (S30))) (inner := []) (ok := fun _ => True) (okp := fun _ => True) ?hr ?hp (fun _ hk => hk) trivial (Below.refl _ _) (Nat.le_refl _) (by simp) ?_; (case hd => rfl); (case hg => rfl); (case hr => first | (go_simp; done) | (go_simp; rfl)); (case hp => exact (Reps.none _ _))
             intro v215 w41 ho42 hb hg_ hnew_
             clear hg_ hnew_
             (first | rw [← Ny214.out] at ho42 | (simp only [Int.reduceToNat] at ho42; rw [← Ny214.out] at ho42))
             have n0_ := Aside0.mk (Kd.R_elder' (by (with_reducible repeat (first | apply Kd.R_alloc | apply Kd.R_drewN | apply Kd.R_drew)); exact HO195.out) (Kd.R_base ho42) hb)
             have n1_ := Aside0.mk (Kd.R_elder' (by (with_reducible repeat (first | apply Kd.R_alloc | apply Kd.R_drewN | apply Kd.R_drew)); exact HO209.out) (Kd.R_base ho42) hb)
             have n2_ := Aside0.mk (Kd.R_elder' (by (with_reducible repeat (first | apply Kd.R_alloc | apply Kd.R_drewN | apply Kd.R_drew)); exact HO212.out) (Kd.R_base ho42) hb)
             have n3_ := Aside0.mk (Kd.R_lower (Kd.R_new' (Kd.R_new' (Kd.R_new' ho42 (Kd.R_lt (by (with_reducible repeat (first | apply Kd.R_alloc | apply Kd.R_drewN | apply Kd.R_drew)); exact HO195.out))) (Kd.R_lt (by (with_reducible repeat (first | apply Kd.R_alloc | apply Kd.R_drewN | apply Kd.R_drew)); exact HO209.out))) (Kd.R_lt (by (with_reducible repeat (first | apply Kd.R_alloc | apply Kd.R_drewN | apply Kd.R_drew)); exact HO212.out))) (below_size (by repeat (first | (with_reducible first | exact HB.out | apply below_alloc | apply pw_below_drewN | apply below_drew1 | refine below_set ?_ GE196.out | refine below_set ?_ GE213.out) | exact HB.out))))
             have n4_ := Aside0.mk (blk_below (g := gb196) (o := .cells #[.int .i64 t192, .slice Ao21 t193.length co21] 25 (0, 0)) (by (with_reducible repeat (first | refine blk_drewN ?_ _ | refine blk_drew ?_ | refine blk_alloc ?_ _)); exact BK196.out) hb)
             have n5_ := Aside0.mk (blk_below (g := gb213) (o := .cells #[.int .i64 t192, .slice Ao36 y210.length co36] 25 (0, 0)) (by (with_reducible repeat (first | refine blk_drewN ?_ _ | refine blk_drew ?_ | refine blk_alloc ?_ _)); exact BK213.out) hb)
             have n6_ := Aside0.mk (below_step (by repeat (first | (with_reducible first | exact HB.out | apply below_alloc | apply pw_below_drewN | apply below_drew1 | refine below_set ?_ GE196.out | refine below_set ?_ GE213.out) | exact HB.out)) hb)
             clear HO195
             clear HO209
             clear HO212
             clear BK196
             clear BK213
             clear HB
             have HO195 := n0_
             have HO209 := n1_
             have HO212 := n2_
             have HO216 := n3_
             have BK196 := n4_
             have BK213 := n5_
             have HB := n6_
             clear n0_ n1_ n2_ n3_ n4_ n5_ n6_
             clear hb ho42
             refine hK.out _ _ ⟨(blk_cell BK196.out 0).trans rfl, (blk_cell BK196.out 1).trans rfl⟩ (fun hHeld => ?_)
             clear hK K
             refine norm_ (a' := ?_) ?_ ?_
             rotate_left
             ·
              show Act.put _ (some 38) _ = _
              simp only [Act.put, List.setIfInBounds_toArray, List.set_cons_zero, List.set_cons_succ, i64_w, i32_w]
              rfl
             refine two_ (i := 5) (j := 7) (Ni := some 41) (Nj := some 6) #[true, true, true, true, true, true, false, false, false] #[true, true, true, true, true, false, false, true, false] rfl rfl rfl rfl (two_of HT_.out (by kernel_rfl)) (by decide) (by decide) (fun K hK => ?_) (fun K hK => ?_)
             ·
              skip
              refine Kd.R_append_rows_step k30 (w0 := w) w.heap.size (by rfl) (.tmp 38) (.tmp 40) 23 30 (.agg #[(.int .i64 0), (.int .i64 0), (.int .i64 0)]) 24 rfl Tryd.underlying23 info30 rfl (by decide) (by omega) v215 y214 t193 _ _ _ (fun k_ => some k_ ≠ (.slice Ao21 t193.length co21 : Value).ownBlock ∧ some k_ ≠ (v208 : Value).ownBlock ∧ some k_ ≠ (.slice Ao36 y210.length co36 : Value).ownBlock) (fun _ => False) rfl rfl ?aO ?aR (fun _ _ h => h) (fun _ h => h.elim) ?aF ?aB ?aS ?aL ?_
              (case aR => repeat (first | exact (Kd.R_reads' HO195.out).2.2 | (with_reducible refine Kd.C_alloc ?_ _) | (with_reducible refine Kd.C_drewN ?_ _) | (with_reducible refine Kd.C_drew ?_)))
              (case aB => exact (by repeat (first | (with_reducible first | exact HB.out | apply below_alloc | apply pw_below_drewN | apply below_drew1 | refine below_set ?_ GE196.out | refine below_set ?_ GE213.out) | exact HB.out)))
              (case aF => exact (fun k_ hk => ⟨Kd.fresh' (Kd.R_lt (by (with_reducible repeat (first | apply Kd.R_alloc | apply Kd.R_drewN | apply Kd.R_drew)); exact HO195.out)) k_ hk, Kd.fresh' (Kd.R_lt (by (with_reducible repeat (first | apply Kd.R_alloc | apply Kd.R_drewN | apply Kd.R_drew)); exact HO209.out)) k_ hk, Kd.fresh' (Kd.R_lt (by (with_reducible repeat (first | apply Kd.R_alloc | apply Kd.R_drewN | apply Kd.R_drew)); exact HO212.out)) k_ hk⟩))
              (case aO => exact (by (with_reducible repeat (first | apply Kd.R_alloc | apply Kd.R_drewN | apply Kd.R_drew)); exact Kd.R_mono HO216.out (fun _ hk => ⟨hk.1.1.2, ⟨hk.1.2, hk.2⟩⟩)))
              (case aS => exact (below_size (by repeat (first | (with_reducible first | exact HB.out | apply below_alloc | apply pw_below_drewN | apply below_drew1 | refine below_set ?_ GE196.out | refine below_set ?_ GE213.out) | exact HB.out))))
              (case aL => have := LMc10.out; omega)
              intro v218 w43 ho hb hg hat
              rw [← Ny217.out] at ho
              have n0_ := Aside0.mk (Kd.R_after (ok := (fun k_ => some k_ ≠ (v208 : Value).ownBlock ∧ some k_ ≠ (.slice Ao36 y210.length co36 : Value).ownBlock)) (by (with_reducible repeat (first | apply Kd.R_alloc | apply Kd.R_drewN | apply Kd.R_drew)); exact HO195.out) hg hat)
              have n1_ := Aside0.mk (blk_grown (g := gb196) (o := .cells #[.int .i64 t192, .slice Ao21 t193.length co21] 25 (0, 0)) (by (with_reducible repeat (first | refine blk_drewN ?_ _ | refine blk_drew ?_ | refine blk_alloc ?_ _)); exact BK196.out) hg (Kd.R_ne HO216.out BK196.out (by decide)))
              have n2_ := Aside0.mk (Kd.R_after (ok := (fun k_ => some k_ ≠ (.slice Ao21 t193.length co21 : Value).ownBlock ∧ some k_ ≠ (.slice Ao36 y210.length co36 : Value).ownBlock)) (by (with_reducible repeat (first | apply Kd.R_alloc | apply Kd.R_drewN | apply Kd.R_drew)); exact HO209.out) hg hat)
              have n3_ := Aside0.mk (Kd.R_after (ok := (fun k_ => some k_ ≠ (.slice Ao21 t193.length co21 : Value).ownBlock ∧ some k_ ≠ (v208 : Value).ownBlock)) (by (with_reducible repeat (first | apply Kd.R_alloc | apply Kd.R_drewN | apply Kd.R_drew)); exact HO212.out) hg hat)
              have n4_ := Aside0.mk (blk_grown (g := gb213) (o := .cells #[.int .i64 t192, .slice Ao36 y210.length co36] 25 (0, 0)) (by (with_reducible repeat (first | refine blk_drewN ?_ _ | refine blk_drew ?_ | refine blk_alloc ?_ _)); exact BK213.out) hg (Kd.R_ne HO216.out BK213.out (by decide)))
              have n5_ := Aside0.mk (hb)
              have n6_ := Aside0.mk (ho)
              clear HO195
              clear BK196
              clear HO209
              clear HO212
              clear BK213
              clear HB
              clear HO216
              have HO195 := n0_
              have BK196 := n1_
              have HO209 := n2_
              have HO212 := n3_
              have BK213 := n4_
              have HB := n5_
              have HO219 := n6_
              clear n0_ n1_ n2_ n3_ n4_ n5_ n6_
              clear ho hb hg hat
              obtain ⟨Ao44, co44, eo44⟩ := Kd.R_slice HO219.out
              (first | subst eo44 | (injection eo44 with f1_ f2_ f3_; have f4_ := f1_.symm; have f5_ := f3_.symm; clear f1_ f2_ f3_; subst f4_; subst f5_))
              refine hK.out _ _ ⟨(blk_cell BK196.out 0).trans rfl, (blk_cell BK196.out 1).trans rfl⟩ (fun hHeld => ?_)
              clear hK K
              refine norm_ (a' := ?_) ?_ ?_
              rotate_left
              ·
               show Act.put _ (some 41) _ = _
               simp only [Act.put, List.setIfInBounds_toArray, List.set_cons_zero, List.set_cons_succ, i64_w, i32_w]
               rfl
              refine pure_ (i := 6) (N := some 42) (v := ?_) (a' := ?_) #[true, true, true, true, true, true, true, false, false] rfl rfl (any_of HT_.out (by kernel_rfl)) (fun _ _ _ h => h) (Or.inl ⟨by rfl, ?_⟩) ?_ ?_
              rotate_left
              ·
               intro w'
               go_simp
               with_reducible rfl
              rotate_left
              ·
               simp only [Act.put, List.setIfInBounds_toArray, List.set_cons_zero, List.set_cons_succ, i64_w, i32_w]
               rfl
              refine one_ (i := 7) (N := some 6) #[true, true, true, true, true, true, true, true, false] rfl rfl (one_of HT_.out (by kernel_rfl)) (by decide) (fun K hK => ?_)
              refine box_step ?hg (N := 6) ?hd (cs := #[.int .i64 0, .slice none 0 0]) (t := 25) ?hr ?_; (case hd => rfl); (case hg => rfl); (case hr => first | (go_simp; done) | (go_simp; rfl))
              intro gb220 hg w45 hbox hb
              have n0_ := Aside0.mk (Kd.R_below (by (with_reducible repeat (first | apply Kd.R_alloc | apply Kd.R_drewN | apply Kd.R_drew)); exact HO195.out) hb)
              have n1_ := Aside0.mk (Kd.R_below (by (with_reducible repeat (first | apply Kd.R_alloc | apply Kd.R_drewN | apply Kd.R_drew)); exact HO209.out) hb)
              have n2_ := Aside0.mk (Kd.R_below (by (with_reducible repeat (first | apply Kd.R_alloc | apply Kd.R_drewN | apply Kd.R_drew)); exact HO212.out) hb)
              have n3_ := Aside0.mk (Kd.R_below (by (with_reducible repeat (first | apply Kd.R_alloc | apply Kd.R_drewN | apply Kd.R_drew)); exact HO219.out) hb)
              have n4_ := Aside0.mk (blk_below (g := gb196) (o := .cells #[.int .i64 t192, .slice Ao21 t193.length co21] 25 (0, 0)) (by (with_reducible repeat (first | refine blk_drewN ?_ _ | refine blk_drew ?_ | refine blk_alloc ?_ _)); exact BK196.out) hb)
              have n5_ := Aside0.mk (blk_below (g := gb213) (o := .cells #[.int .i64 t192, .slice Ao36 y210.length co36] 25 (0, 0)) (by (with_reducible repeat (first | refine blk_drewN ?_ _ | refine blk_drew ?_ | refine blk_alloc ?_ _)); exact BK213.out) hb)
              have n6_ := Aside0.mk (below_step (by repeat (first | (with_reducible first | exact HB.out | apply below_alloc | apply pw_below_drewN | apply below_drew1 | refine below_set ?_ GE196.out | refine below_set ?_ GE213.out) | exact HB.out)) hb)
              have n7_ := Aside0.mk (hbox)
              have n8_ := Aside0.mk ((by rw [hg]; exact (below_size (by repeat (first | (with_reducible first | exact HB.out | apply below_alloc | apply pw_below_drewN | apply below_drew1 | refine below_set ?_ GE196.out | refine below_set ?_ GE213.out) | exact HB.out))) : w.heap.size ≤ gb220))
              have n9_ := Aside0.mk ((by rw [hg]; exact (below_size (by repeat (first | (with_reducible first | exact HB.out | apply below_alloc | apply pw_below_drewN | apply below_drew1 | refine below_set ?_ GE196.out | refine below_set ?_ GE213.out) | exact HB.out))) : w.heap.size ≤ gb220))
              have n10_ := Aside0.mk ((by rw [hg]; exact Nat.ne_of_lt (blk_lt (g := gb196) (o := .cells #[.int .i64 t192, .slice Ao21 t193.length co21] 25 (0, 0)) (by (with_reducible repeat (first | refine blk_drewN ?_ _ | refine blk_drew ?_ | refine blk_alloc ?_ _)); exact BK196.out)) : gb196 ≠ gb220))
              have n11_ := Aside0.mk ((by rw [hg]; exact Nat.ne_of_gt (blk_lt (g := gb196) (o := .cells #[.int .i64 t192, .slice Ao21 t193.length co21] 25 (0, 0)) (by (with_reducible repeat (first | refine blk_drewN ?_ _ | refine blk_drew ?_ | refine blk_alloc ?_ _)); exact BK196.out)) : gb220 ≠ gb196))
              have n12_ := Aside0.mk ((by rw [hg]; exact Nat.ne_of_lt (blk_lt (g := gb213) (o := .cells #[.int .i64 t192, .slice Ao36 y210.length co36] 25 (0, 0)) (by (with_reducible repeat (first | refine blk_drewN ?_ _ | refine blk_drew ?_ | refine blk_alloc ?_ _)); exact BK213.out)) : gb213 ≠ gb220))
              have n13_ := Aside0.mk ((by rw [hg]; exact Nat.ne_of_gt (blk_lt (g := gb213) (o := .cells #[.int .i64 t192, .slice Ao36 y210.length co36] 25 (0, 0)) (by (with_reducible repeat (first | refine blk_drewN ?_ _ | refine blk_drew ?_ | refine blk_alloc ?_ _)); exact BK213.out)) : gb220 ≠ gb213))
              clear HO195
              clear HO209
              clear HO212
              clear HO219
              clear BK196
              clear BK213
              clear HB
              have HO195 := n0_
              have HO209 := n1_
              have HO212 := n2_
              have HO219 := n3_
              have BK196 := n4_
              have BK213 := n5_
              have HB := n6_
              have BK220 := n7_
              have GW220 := n8_
              have GE220 := n9_
              have NB196_220 := n10_
              have NB220_196 := n11_
              have NB213_220 := n12_
              have NB220_213 := n13_
              clear n0_ n1_ n2_ n3_ n4_ n5_ n6_ n7_ n8_ n9_ n10_ n11_ n12_ n13_
              clear hb hbox hg
              refine hK.out _ _ ⟨(blk_cell BK196.out 0).trans rfl, (blk_cell BK196.out 1).trans rfl⟩ (fun hHeld => ?_)
              clear hK K
              refine norm_ (a' := ?_) ?_ ?_
              rotate_left
              ·
               show Act.put _ (some 6) _ = _
               simp only [Act.put, List.setIfInBounds_toArray, List.set_cons_zero, List.set_cons_succ, i64_w, i32_w]
               rfl
              exact norm_ (by simp only [putAll, Act.put, List.setIfInBounds_toArray, List.set_cons_zero, List.set_cons_succ]) (hCont (v215, .slice Ao44 y217.length co44, gb220) _ ⟨hHeld, (by (with_reducible repeat (first | apply Kd.R_alloc | apply Kd.R_drewN | apply Kd.R_drew)); exact Kd.R_mono HO195.out (fun _ hk => ⟨hk.1.1, ⟨hk.1.2, hk.2⟩⟩)), (by (with_reducible repeat (first | apply Kd.R_alloc | apply Kd.R_drewN | apply Kd.R_drew)); exact Kd.R_mono HO209.out (fun _ hk => ⟨hk.1.1, ⟨hk.1.2, hk.2⟩⟩)), (by (with_reducible repeat (first | apply Kd.R_alloc | apply Kd.R_drewN | apply Kd.R_drew)); exact Kd.R_mono HO212.out (fun _ hk => ⟨hk.1.1, ⟨hk.1.2, hk.2⟩⟩)), (by (with_reducible repeat (first | apply Kd.R_alloc | apply Kd.R_drewN | apply Kd.R_drew)); exact HO219.out), (by (with_reducible repeat (first | refine blk_drewN ?_ _ | refine blk_drew ?_ | refine blk_alloc ?_ _)); exact BK196.out), (by (with_reducible repeat (first | refine blk_drewN ?_ _ | refine blk_drew ?_ | refine blk_alloc ?_ _)); exact BK213.out), (by (with_reducible repeat (first | refine blk_drewN ?_ _ | refine blk_drew ?_ | refine blk_alloc ?_ _)); exact BK220.out), GW220.out, GE220.out, NB196_220.out, NB220_196.out, NB213_220.out, NB220_213.out, (by repeat (first | (with_reducible first | exact HB.out | apply below_alloc | apply pw_below_drewN | apply below_drew1 | refine below_set ?_ GE196.out | refine below_set ?_ GE213.out | refine below_set ?_ GE220.out) | exact HB.out))⟩)
             ·
              skip
              refine box_step ?hg (N := 6) ?hd (cs := #[.int .i64 0, .slice none 0 0]) (t := 25) ?hr ?_; (case hd => rfl); (case hg => rfl); (case hr => first | (go_simp; done) | (go_simp; rfl))
              intro gb220 hg w43 hbox hb
              have n0_ := Aside0.mk (Kd.R_below (by (with_reducible repeat (first | apply Kd.R_alloc | apply Kd.R_drewN | apply Kd.R_drew)); exact HO195.out) hb)
              have n1_ := Aside0.mk (Kd.R_below (by (with_reducible repeat (first | apply Kd.R_alloc | apply Kd.R_drewN | apply Kd.R_drew)); exact HO209.out) hb)
              have n2_ := Aside0.mk (Kd.R_below (by (with_reducible repeat (first | apply Kd.R_alloc | apply Kd.R_drewN | apply Kd.R_drew)); exact HO212.out) hb)
              have n3_ := Aside0.mk (Kd.R_below (by (with_reducible repeat (first | apply Kd.R_alloc | apply Kd.R_drewN | apply Kd.R_drew)); exact HO216.out) hb)
              have n4_ := Aside0.mk (blk_below (g := gb196) (o := .cells #[.int .i64 t192, .slice Ao21 t193.length co21] 25 (0, 0)) (by (with_reducible repeat (first | refine blk_drewN ?_ _ | refine blk_drew ?_ | refine blk_alloc ?_ _)); exact BK196.out) hb)
              have n5_ := Aside0.mk (blk_below (g := gb213) (o := .cells #[.int .i64 t192, .slice Ao36 y210.length co36] 25 (0, 0)) (by (with_reducible repeat (first | refine blk_drewN ?_ _ | refine blk_drew ?_ | refine blk_alloc ?_ _)); exact BK213.out) hb)
              have n6_ := Aside0.mk (below_step (by repeat (first | (with_reducible first | exact HB.out | apply below_alloc | apply pw_below_drewN | apply below_drew1 | refine below_set ?_ GE196.out | refine below_set ?_ GE213.out) | exact HB.out)) hb)
              have n7_ := Aside0.mk (hbox)
              have n8_ := Aside0.mk ((by rw [hg]; exact (below_size (by repeat (first | (with_reducible first | exact HB.out | apply below_alloc | apply pw_below_drewN | apply below_drew1 | refine below_set ?_ GE196.out | refine below_set ?_ GE213.out) | exact HB.out))) : w.heap.size ≤ gb220))
              have n9_ := Aside0.mk ((by rw [hg]; exact (below_size (by repeat (first | (with_reducible first | exact HB.out | apply below_alloc | apply pw_below_drewN | apply below_drew1 | refine below_set ?_ GE196.out | refine below_set ?_ GE213.out) | exact HB.out))) : w.heap.size ≤ gb220))
              have n10_ := Aside0.mk ((by rw [hg]; exact Nat.ne_of_lt (blk_lt (g := gb196) (o := .cells #[.int .i64 t192, .slice Ao21 t193.length co21] 25 (0, 0)) (by (with_reducible repeat (first | refine blk_drewN ?_ _ | refine blk_drew ?_ | refine blk_alloc ?_ _)); exact BK196.out)) : gb196 ≠ gb220))
              have n11_ := Aside0.mk ((by rw [hg]; exact Nat.ne_of_gt (blk_lt (g := gb196) (o := .cells #[.int .i64 t192, .slice Ao21 t193.length co21] 25 (0, 0)) (by (with_reducible repeat (first | refine blk_drewN ?_ _ | refine blk_drew ?_ | refine blk_alloc ?_ _)); exact BK196.out)) : gb220 ≠ gb196))
              have n12_ := Aside0.mk ((by rw [hg]; exact Nat.ne_of_lt (blk_lt (g := gb213) (o := .cells #[.int .i64 t192, .slice Ao36 y210.length co36] 25 (0, 0)) (by (with_reducible repeat (first | refine blk_drewN ?_ _ | refine blk_drew ?_ | refine blk_alloc ?_ _)); exact BK213.out)) : gb213 ≠ gb220))
              have n13_ := Aside0.mk ((by rw [hg]; exact Nat.ne_of_gt (blk_lt (g := gb213) (o := .cells #[.int .i64 t192, .slice Ao36 y210.length co36] 25 (0, 0)) (by (with_reducible repeat (first | refine blk_drewN ?_ _ | refine blk_drew ?_ | refine blk_alloc ?_ _)); exact BK213.out)) : gb220 ≠ gb213))
              clear HO195
              clear HO209
              clear HO212
              clear HO216
              clear BK196
              clear BK213
              clear HB
              have HO195 := n0_
              have HO209 := n1_
              have HO212 := n2_
              have HO216 := n3_
              have BK196 := n4_
              have BK213 := n5_
              have HB := n6_
              have BK220 := n7_
              have GW220 := n8_
              have GE220 := n9_
              have NB196_220 := n10_
              have NB220_196 := n11_
              have NB213_220 := n12_
              have NB220_213 := n13_
              clear n0_ n1_ n2_ n3_ n4_ n5_ n6_ n7_ n8_ n9_ n10_ n11_ n12_ n13_
              clear hb hbox hg
              refine hK.out _ _ ⟨(blk_cell BK196.out 0).trans rfl, (blk_cell BK196.out 1).trans rfl⟩ (fun hHeld => ?_)
              clear hK K
              refine norm_ (a' := ?_) ?_ ?_
              rotate_left
              ·
               show Act.put _ (some 6) _ = _
               simp only [Act.put, List.setIfInBounds_toArray, List.set_cons_zero, List.set_cons_succ, i64_w, i32_w]
               rfl
              refine one_ (i := 5) (N := some 41) #[true, true, true, true, true, true, false, true, false] rfl rfl (one_of HT_.out (by kernel_rfl)) (by decide) (fun K hK => ?_)
              refine Kd.R_append_rows_step k30 (w0 := w) w.heap.size (by rfl) (.tmp 38) (.tmp 40) 23 30 (.agg #[(.int .i64 0), (.int .i64 0), (.int .i64 0)]) 24 rfl Tryd.underlying23 info30 rfl (by decide) (by omega) v215 y214 t193 _ _ _ (fun k_ => some k_ ≠ (.slice Ao21 t193.length co21 : Value).ownBlock ∧ some k_ ≠ (v208 : Value).ownBlock ∧ some k_ ≠ (.slice Ao36 y210.length co36 : Value).ownBlock) (fun _ => False) rfl rfl ?aO ?aR (fun _ _ h => h) (fun _ h => h.elim) ?aF ?aB ?aS ?aL ?_
              (case aR => repeat (first | exact (Kd.R_reads' HO195.out).2.2 | (with_reducible refine Kd.C_alloc ?_ _) | (with_reducible refine Kd.C_drewN ?_ _) | (with_reducible refine Kd.C_drew ?_)))
              (case aB => exact (by repeat (first | (with_reducible first | exact HB.out | apply below_alloc | apply pw_below_drewN | apply below_drew1 | refine below_set ?_ GE196.out | refine below_set ?_ GE213.out | refine below_set ?_ GE220.out) | exact HB.out)))
              (case aF => exact (fun k_ hk => ⟨Kd.fresh' (Kd.R_lt (by (with_reducible repeat (first | apply Kd.R_alloc | apply Kd.R_drewN | apply Kd.R_drew)); exact HO195.out)) k_ hk, Kd.fresh' (Kd.R_lt (by (with_reducible repeat (first | apply Kd.R_alloc | apply Kd.R_drewN | apply Kd.R_drew)); exact HO209.out)) k_ hk, Kd.fresh' (Kd.R_lt (by (with_reducible repeat (first | apply Kd.R_alloc | apply Kd.R_drewN | apply Kd.R_drew)); exact HO212.out)) k_ hk⟩))
              (case aO => exact (by (with_reducible repeat (first | apply Kd.R_alloc | apply Kd.R_drewN | apply Kd.R_drew)); exact Kd.R_mono HO216.out (fun _ hk => ⟨hk.1.1.2, ⟨hk.1.2, hk.2⟩⟩)))
              (case aS => exact (below_size (by repeat (first | (with_reducible first | exact HB.out | apply below_alloc | apply pw_below_drewN | apply below_drew1 | refine below_set ?_ GE196.out | refine below_set ?_ GE213.out | refine below_set ?_ GE220.out) | exact HB.out))))
              (case aL => have := LMc10.out; omega)
              intro v218 w44 ho hb hg hat
              rw [← Ny217.out] at ho
              have n0_ := Aside0.mk (Kd.R_after (ok := (fun k_ => some k_ ≠ (v208 : Value).ownBlock ∧ some k_ ≠ (.slice Ao36 y210.length co36 : Value).ownBlock)) (by (with_reducible repeat (first | apply Kd.R_alloc | apply Kd.R_drewN | apply Kd.R_drew)); exact HO195.out) hg hat)
              have n1_ := Aside0.mk (blk_grown (g := gb196) (o := .cells #[.int .i64 t192, .slice Ao21 t193.length co21] 25 (0, 0)) (by (with_reducible repeat (first | refine blk_drewN ?_ _ | refine blk_drew ?_ | refine blk_alloc ?_ _)); exact BK196.out) hg (Kd.R_ne HO216.out BK196.out (by decide)))
              have n2_ := Aside0.mk (Kd.R_after (ok := (fun k_ => some k_ ≠ (.slice Ao21 t193.length co21 : Value).ownBlock ∧ some k_ ≠ (.slice Ao36 y210.length co36 : Value).ownBlock)) (by (with_reducible repeat (first | apply Kd.R_alloc | apply Kd.R_drewN | apply Kd.R_drew)); exact HO209.out) hg hat)
              have n3_ := Aside0.mk (Kd.R_after (ok := (fun k_ => some k_ ≠ (.slice Ao21 t193.length co21 : Value).ownBlock ∧ some k_ ≠ (v208 : Value).ownBlock)) (by (with_reducible repeat (first | apply Kd.R_alloc | apply Kd.R_drewN | apply Kd.R_drew)); exact HO212.out) hg hat)
              have n4_ := Aside0.mk (blk_grown (g := gb213) (o := .cells #[.int .i64 t192, .slice Ao36 y210.length co36] 25 (0, 0)) (by (with_reducible repeat (first | refine blk_drewN ?_ _ | refine blk_drew ?_ | refine blk_alloc ?_ _)); exact BK213.out) hg (Kd.R_ne HO216.out BK213.out (by decide)))
              have n5_ := Aside0.mk (blk_grown (g := gb220) (o := .cells #[.int .i64 0, .slice none 0 0] 25 (0, 0)) (by (with_reducible repeat (first | refine blk_drewN ?_ _ | refine blk_drew ?_ | refine blk_alloc ?_ _)); exact BK220.out) hg (Kd.R_ne HO216.out BK220.out (by decide)))
              have n6_ := Aside0.mk (hb)
              have n7_ := Aside0.mk (ho)
              clear HO195
              clear BK196
              clear HO209
              clear HO212
              clear BK213
              clear BK220
              clear HB
              clear HO216
              have HO195 := n0_
              have BK196 := n1_
              have HO209 := n2_
              have HO212 := n3_
              have BK213 := n4_
              have BK220 := n5_
              have HB := n6_
              have HO219 := n7_
              clear n0_ n1_ n2_ n3_ n4_ n5_ n6_ n7_
              clear ho hb hg hat
              obtain ⟨Ao45, co45, eo45⟩ := Kd.R_slice HO219.out
              (first | subst eo45 | (injection eo45 with f1_ f2_ f3_; have f4_ := f1_.symm; have f5_ := f3_.symm; clear f1_ f2_ f3_; subst f4_; subst f5_))
              refine hK.out _ _ ⟨(blk_cell BK196.out 0).trans rfl, (blk_cell BK196.out 1).trans rfl⟩ (fun hHeld => ?_)
              clear hK K
              refine norm_ (a' := ?_) ?_ ?_
              rotate_left
              ·
               show Act.put _ (some 41) _ = _
               simp only [Act.put, List.setIfInBounds_toArray, List.set_cons_zero, List.set_cons_succ, i64_w, i32_w]
               rfl
              refine pure_ (i := 6) (N := some 42) (v := ?_) (a' := ?_) #[true, true, true, true, true, true, true, true, false] rfl rfl (any_of HT_.out (by kernel_rfl)) (fun _ _ _ h => h) (Or.inl ⟨by rfl, ?_⟩) ?_ ?_
              rotate_left
              ·
               intro w'
               go_simp
               with_reducible rfl
              rotate_left
              ·
               simp only [Act.put, List.setIfInBounds_toArray, List.set_cons_zero, List.set_cons_succ, i64_w, i32_w]
               rfl
              exact norm_ (by simp only [putAll, Act.put, List.setIfInBounds_toArray, List.set_cons_zero, List.set_cons_succ]) (hCont (v215, .slice Ao45 y217.length co45, gb220) _ ⟨hHeld, (by (with_reducible repeat (first | apply Kd.R_alloc | apply Kd.R_drewN | apply Kd.R_drew)); exact Kd.R_mono HO195.out (fun _ hk => ⟨hk.1.1, ⟨hk.1.2, hk.2⟩⟩)), (by (with_reducible repeat (first | apply Kd.R_alloc | apply Kd.R_drewN | apply Kd.R_drew)); exact Kd.R_mono HO209.out (fun _ hk => ⟨hk.1.1, ⟨hk.1.2, hk.2⟩⟩)), (by (with_reducible repeat (first | apply Kd.R_alloc | apply Kd.R_drewN | apply Kd.R_drew)); exact Kd.R_mono HO212.out (fun _ hk => ⟨hk.1.1, ⟨hk.1.2, hk.2⟩⟩)), (by (with_reducible repeat (first | apply Kd.R_alloc | apply Kd.R_drewN | apply Kd.R_drew)); exact HO219.out), (by (with_reducible repeat (first | refine blk_drewN ?_ _ | refine blk_drew ?_ | refine blk_alloc ?_ _)); exact BK196.out), (by (with_reducible repeat (first | refine blk_drewN ?_ _ | refine blk_drew ?_ | refine blk_alloc ?_ _)); exact BK213.out), (by (with_reducible repeat (first | refine blk_drewN ?_ _ | refine blk_drew ?_ | refine blk_alloc ?_ _)); exact BK220.out), GW220.out, GE220.out, NB196_220.out, NB220_196.out, NB213_220.out, NB220_213.out, (by repeat (first | (with_reducible first | exact HB.out | apply below_alloc | apply pw_below_drewN | apply below_drew1 | refine below_set ?_ GE196.out | refine below_set ?_ GE213.out | refine below_set ?_ GE220.out) | exact HB.out))⟩)
            ·
             skip
             refine box_step ?hg (N := 6) ?hd (cs := #[.int .i64 0, .slice none 0 0]) (t := 25) ?hr ?_; (case hd => rfl); (case hg => rfl); (case hr => first | (go_simp; done) | (go_simp; rfl))
             intro gb220 hg w41 hbox hb
             have n0_ := Aside0.mk (Kd.R_below (by (with_reducible repeat (first | apply Kd.R_alloc | apply Kd.R_drewN | apply Kd.R_drew)); exact HO195.out) hb)
             have n1_ := Aside0.mk (Kd.R_below (by (with_reducible repeat (first | apply Kd.R_alloc | apply Kd.R_drewN | apply Kd.R_drew)); exact HO209.out) hb)
             have n2_ := Aside0.mk (Kd.R_below (by (with_reducible repeat (first | apply Kd.R_alloc | apply Kd.R_drewN | apply Kd.R_drew)); exact HO212.out) hb)
             have n3_ := Aside0.mk (blk_below (g := gb196) (o := .cells #[.int .i64 t192, .slice Ao21 t193.length co21] 25 (0, 0)) (by (with_reducible repeat (first | refine blk_drewN ?_ _ | refine blk_drew ?_ | refine blk_alloc ?_ _)); exact BK196.out) hb)
             have n4_ := Aside0.mk (blk_below (g := gb213) (o := .cells #[.int .i64 t192, .slice Ao36 y210.length co36] 25 (0, 0)) (by (with_reducible repeat (first | refine blk_drewN ?_ _ | refine blk_drew ?_ | refine blk_alloc ?_ _)); exact BK213.out) hb)
             have n5_ := Aside0.mk (below_step (by repeat (first | (with_reducible first | exact HB.out | apply below_alloc | apply pw_below_drewN | apply below_drew1 | refine below_set ?_ GE196.out | refine below_set ?_ GE213.out) | exact HB.out)) hb)
             have n6_ := Aside0.mk (hbox)
             have n7_ := Aside0.mk ((by rw [hg]; exact (below_size (by repeat (first | (with_reducible first | exact HB.out | apply below_alloc | apply pw_below_drewN | apply below_drew1 | refine below_set ?_ GE196.out | refine below_set ?_ GE213.out) | exact HB.out))) : w.heap.size ≤ gb220))
             have n8_ := Aside0.mk ((by rw [hg]; exact (below_size (by repeat (first | (with_reducible first | exact HB.out | apply below_alloc | apply pw_below_drewN | apply below_drew1 | refine below_set ?_ GE196.out | refine below_set ?_ GE213.out) | exact HB.out))) : w.heap.size ≤ gb220))
             have n9_ := Aside0.mk ((by rw [hg]; exact Nat.ne_of_lt (blk_lt (g := gb196) (o := .cells #[.int .i64 t192, .slice Ao21 t193.length co21] 25 (0, 0)) (by (with_reducible repeat (first | refine blk_drewN ?_ _ | refine blk_drew ?_ | refine blk_alloc ?_ _)); exact BK196.out)) : gb196 ≠ gb220))
             have n10_ := Aside0.mk ((by rw [hg]; exact Nat.ne_of_gt (blk_lt (g := gb196) (o := .cells #[.int .i64 t192, .slice Ao21 t193.length co21] 25 (0, 0)) (by (with_reducible repeat (first | refine blk_drewN ?_ _ | refine blk_drew ?_ | refine blk_alloc ?_ _)); exact BK196.out)) : gb220 ≠ gb196))
             have n11_ := Aside0.mk ((by rw [hg]; exact Nat.ne_of_lt (blk_lt (g := gb213) (o := .cells #[.int .i64 t192, .slice Ao36 y210.length co36] 25 (0, 0)) (by (with_reducible repeat (first | refine blk_drewN ?_ _ | refine blk_drew ?_ | refine blk_alloc ?_ _)); exact BK213.out)) : gb213 ≠ gb220))
             have n12_ := Aside0.mk ((by rw [hg]; exact Nat.ne_of_gt (blk_lt (g := gb213) (o := .cells #[.int .i64 t192, .slice Ao36 y210.length co36] 25 (0, 0)) (by (with_reducible repeat (first | refine blk_drewN ?_ _ | refine blk_drew ?_ | refine blk_alloc ?_ _)); exact BK213.out)) : gb220 ≠ gb213))
             clear HO195
             clear HO209
             clear HO212
             clear BK196
             clear BK213
             clear HB
             have HO195 := n0_
             have HO209 := n1_
             have HO212 := n2_
             have BK196 := n3_
             have BK213 := n4_
             have HB := n5_
             have BK220 := n6_
             have GW220 := n7_
             have GE220 := n8_
             have NB196_220 := n9_
             have NB220_196 := n10_
             have NB213_220 := n11_
             have NB220_213 := n12_
             clear n0_ n1_ n2_ n3_ n4_ n5_ n6_ n7_ n8_ n9_ n10_ n11_ n12_
             clear hb hbox hg
             refine hK.out _ _ ⟨(blk_cell BK196.out 0).trans rfl, (blk_cell BK196.out 1).trans rfl⟩ (fun hHeld => ?_)
             clear hK K
             refine norm_ (a' := ?_) ?_ ?_
             rotate_left
             ·
              show Act.put _ (some 6) _ = _
              simp only [Act.put, List.setIfInBounds_toArray, List.set_cons_zero, List.set_cons_succ, i64_w, i32_w]
              rfl
             refine one_ (i := 2) (N := some 38) #[true, true, true, true, true, false, false, true, false] rfl rfl (one_of HT_.out (by kernel_rfl)) (by decide) (fun K hK => ?_)
             refine Kd.R_lit_step k30 _ 30 ?hg (N := 38) ?hd (xs := ([] : List (S30))) (inner := []) (ok := fun _ => True) (okp := fun _ => True) ?hr ?hp (fun _ hk => hk) trivial (Below.refl _ _) (Nat.le_refl _) (by simp) ?_; (case hd => rfl); (case hg => rfl); (case hr => first | (go_simp; done) | (go_simp; rfl)); (case hp => exact (Reps.none _ _))
             intro v215 w42 ho43 hb hg_ hnew_
             clear hg_ hnew_
             (first | rw [← Ny214.out] at ho43 | (simp only [Int.reduceToNat] at ho43; rw [← Ny214.out] at ho43))
             have n0_ := Aside0.mk (Kd.R_elder' (by (with_reducible repeat (first | apply Kd.R_alloc | apply Kd.R_drewN | apply Kd.R_drew)); exact HO195.out) (Kd.R_base ho43) hb)
             have n1_ := Aside0.mk (Kd.R_elder' (by (with_reducible repeat (first | apply Kd.R_alloc | apply Kd.R_drewN | apply Kd.R_drew)); exact HO209.out) (Kd.R_base ho43) hb)
             have n2_ := Aside0.mk (Kd.R_elder' (by (with_reducible repeat (first | apply Kd.R_alloc | apply Kd.R_drewN | apply Kd.R_drew)); exact HO212.out) (Kd.R_base ho43) hb)
             have n3_ := Aside0.mk (Kd.R_lower (Kd.R_new' (Kd.R_new' (Kd.R_new' ho43 (Kd.R_lt (by (with_reducible repeat (first | apply Kd.R_alloc | apply Kd.R_drewN | apply Kd.R_drew)); exact HO195.out))) (Kd.R_lt (by (with_reducible repeat (first | apply Kd.R_alloc | apply Kd.R_drewN | apply Kd.R_drew)); exact HO209.out))) (Kd.R_lt (by (with_reducible repeat (first | apply Kd.R_alloc | apply Kd.R_drewN | apply Kd.R_drew)); exact HO212.out))) (below_size (by repeat (first | (with_reducible first | exact HB.out | apply below_alloc | apply pw_below_drewN | apply below_drew1 | refine below_set ?_ GE196.out | refine below_set ?_ GE213.out | refine below_set ?_ GE220.out) | exact HB.out))))
             have n4_ := Aside0.mk (blk_below (g := gb196) (o := .cells #[.int .i64 t192, .slice Ao21 t193.length co21] 25 (0, 0)) (by (with_reducible repeat (first | refine blk_drewN ?_ _ | refine blk_drew ?_ | refine blk_alloc ?_ _)); exact BK196.out) hb)
             have n5_ := Aside0.mk (blk_below (g := gb213) (o := .cells #[.int .i64 t192, .slice Ao36 y210.length co36] 25 (0, 0)) (by (with_reducible repeat (first | refine blk_drewN ?_ _ | refine blk_drew ?_ | refine blk_alloc ?_ _)); exact BK213.out) hb)
             have n6_ := Aside0.mk (blk_below (g := gb220) (o := .cells #[.int .i64 0, .slice none 0 0] 25 (0, 0)) (by (with_reducible repeat (first | refine blk_drewN ?_ _ | refine blk_drew ?_ | refine blk_alloc ?_ _)); exact BK220.out) hb)
             have n7_ := Aside0.mk (below_step (by repeat (first | (with_reducible first | exact HB.out | apply below_alloc | apply pw_below_drewN | apply below_drew1 | refine below_set ?_ GE196.out | refine below_set ?_ GE213.out | refine below_set ?_ GE220.out) | exact HB.out)) hb)
             clear HO195
             clear HO209
             clear HO212
             clear BK196
             clear BK213
             clear BK220
             clear HB
             have HO195 := n0_
             have HO209 := n1_
             have HO212 := n2_
             have HO216 := n3_
             have BK196 := n4_
             have BK213 := n5_
             have BK220 := n6_
             have HB := n7_
             clear n0_ n1_ n2_ n3_ n4_ n5_ n6_ n7_
             clear hb ho43
             refine hK.out _ _ ⟨(blk_cell BK196.out 0).trans rfl, (blk_cell BK196.out 1).trans rfl⟩ (fun hHeld => ?_)
             clear hK K
             refine norm_ (a' := ?_) ?_ ?_
             rotate_left
             ·
              show Act.put _ (some 38) _ = _
              simp only [Act.put, List.setIfInBounds_toArray, List.set_cons_zero, List.set_cons_succ, i64_w, i32_w]
              rfl
             refine one_ (i := 5) (N := some 41) #[true, true, true, true, true, true, false, true, false] rfl rfl (one_of HT_.out (by kernel_rfl)) (by decide) (fun K hK => ?_)
             refine Kd.R_append_rows_step k30 (w0 := w) w.heap.size (by rfl) (.tmp 38) (.tmp 40) 23 30 (.agg #[(.int .i64 0), (.int .i64 0), (.int .i64 0)]) 24 rfl Tryd.underlying23 info30 rfl (by decide) (by omega) v215 y214 t193 _ _ _ (fun k_ => some k_ ≠ (.slice Ao21 t193.length co21 : Value).ownBlock ∧ some k_ ≠ (v208 : Value).ownBlock ∧ some k_ ≠ (.slice Ao36 y210.length co36 : Value).ownBlock) (fun _ => False) rfl rfl ?aO ?aR (fun _ _ h => h) (fun _ h => h.elim) ?aF ?aB ?aS ?aL ?_
             (case aR => repeat (first | exact (Kd.R_reads' HO195.out).2.2 | (with_reducible refine Kd.C_alloc ?_ _) | (with_reducible refine Kd.C_drewN ?_ _) | (with_reducible refine Kd.C_drew ?_)))
             (case aB => exact (by repeat (first | (with_reducible first | exact HB.out | apply below_alloc | apply pw_below_drewN | apply below_drew1 | refine below_set ?_ GE196.out | refine below_set ?_ GE213.out | refine below_set ?_ GE220.out) | exact HB.out)))
             (case aF => exact (fun k_ hk => ⟨Kd.fresh' (Kd.R_lt (by (with_reducible repeat (first | apply Kd.R_alloc | apply Kd.R_drewN | apply Kd.R_drew)); exact HO195.out)) k_ hk, Kd.fresh' (Kd.R_lt (by (with_reducible repeat (first | apply Kd.R_alloc | apply Kd.R_drewN | apply Kd.R_drew)); exact HO209.out)) k_ hk, Kd.fresh' (Kd.R_lt (by (with_reducible repeat (first | apply Kd.R_alloc | apply Kd.R_drewN | apply Kd.R_drew)); exact HO212.out)) k_ hk⟩))
             (case aO => exact (by (with_reducible repeat (first | apply Kd.R_alloc | apply Kd.R_drewN | apply Kd.R_drew)); exact Kd.R_mono HO216.out (fun _ hk => ⟨hk.1.1.2, ⟨hk.1.2, hk.2⟩⟩)))
             (case aS => exact (below_size (by repeat (first | (with_reducible first | exact HB.out | apply below_alloc | apply pw_below_drewN | apply below_drew1 | refine below_set ?_ GE196.out | refine below_set ?_ GE213.out | refine below_set ?_ GE220.out) | exact HB.out))))
             (case aL => have := LMc10.out; omega)
             intro v218 w44 ho hb hg hat
             rw [← Ny217.out] at ho
             have n0_ := Aside0.mk (Kd.R_after (ok := (fun k_ => some k_ ≠ (v208 : Value).ownBlock ∧ some k_ ≠ (.slice Ao36 y210.length co36 : Value).ownBlock)) (by (with_reducible repeat (first | apply Kd.R_alloc | apply Kd.R_drewN | apply Kd.R_drew)); exact HO195.out) hg hat)
             have n1_ := Aside0.mk (blk_grown (g := gb196) (o := .cells #[.int .i64 t192, .slice Ao21 t193.length co21] 25 (0, 0)) (by (with_reducible repeat (first | refine blk_drewN ?_ _ | refine blk_drew ?_ | refine blk_alloc ?_ _)); exact BK196.out) hg (Kd.R_ne HO216.out BK196.out (by decide)))
             have n2_ := Aside0.mk (Kd.R_after (ok := (fun k_ => some k_ ≠ (.slice Ao21 t193.length co21 : Value).ownBlock ∧ some k_ ≠ (.slice Ao36 y210.length co36 : Value).ownBlock)) (by (with_reducible repeat (first | apply Kd.R_alloc | apply Kd.R_drewN | apply Kd.R_drew)); exact HO209.out) hg hat)
             have n3_ := Aside0.mk (Kd.R_after (ok := (fun k_ => some k_ ≠ (.slice Ao21 t193.length co21 : Value).ownBlock ∧ some k_ ≠ (v208 : Value).ownBlock)) (by (with_reducible repeat (first | apply Kd.R_alloc | apply Kd.R_drewN | apply Kd.R_drew)); exact HO212.out) hg hat)
             have n4_ := Aside0.mk (blk_grown (g := gb213) (o := .cells #[.int .i64 t192, .slice Ao36 y210.length co36] 25 (0, 0)) (by (with_reducible repeat (first | refine blk_drewN ?_ _ | refine blk_drew ?_ | refine blk_alloc ?_ _)); exact BK213.out) hg (Kd.R_ne HO216.out BK213.out (by decide)))
             have n5_ := Aside0.mk (blk_grown (g := gb220) (o := .cells #[.int .i64 0, .slice none 0 0] 25 (0, 0)) (by (with_reducible repeat (first | refine blk_drewN ?_ _ | refine blk_drew ?_ | refine blk_alloc ?_ _)); exact BK220.out) hg (Kd.R_ne HO216.out BK220.out (by decide)))
             have n6_ := Aside0.mk (hb)
             have n7_ := Aside0.mk (ho)
             clear HO195
             clear BK196
             clear HO209
             clear HO212
             clear BK213
             clear BK220
             clear HB
             clear HO216
             have HO195 := n0_
             have BK196 := n1_
             have HO209 := n2_
             have HO212 := n3_
             have BK213 := n4_
             have BK220 := n5_
             have HB := n6_
             have HO219 := n7_
             clear n0_ n1_ n2_ n3_ n4_ n5_ n6_ n7_
             clear ho hb hg hat
             obtain ⟨Ao45, co45, eo45⟩ := Kd.R_slice HO219.out
             (first | subst eo45 | (injection eo45 with f1_ f2_ f3_; have f4_ := f1_.symm; have f5_ := f3_.symm; clear f1_ f2_ f3_; subst f4_; subst f5_))
             refine hK.out _ _ ⟨(blk_cell BK196.out 0).trans rfl, (blk_cell BK196.out 1).trans rfl⟩ (fun hHeld => ?_)
             clear hK K
             refine norm_ (a' := ?_) ?_ ?_
             rotate_left
             ·
              show Act.put _ (some 41) _ = _
              simp only [Act.put, List.setIfInBounds_toArray, List.set_cons_zero, List.set_cons_succ, i64_w, i32_w]
              rfl
             refine pure_ (i := 6) (N := some 42) (v := ?_) (a' := ?_) #[true, true, true, true, true, true, true, true, false] rfl rfl (any_of HT_.out (by kernel_rfl)) (fun _ _ _ h => h) (Or.inl ⟨by rfl, ?_⟩) ?_ ?_
             rotate_left
             ·
              intro w'
              go_simp
              with_reducible rfl
             rotate_left
             ·
              simp only [Act.put, List.setIfInBounds_toArray, List.set_cons_zero, List.set_cons_succ, i64_w, i32_w]
              rfl
             exact norm_ (by simp only [putAll, Act.put, List.setIfInBounds_toArray, List.set_cons_zero, List.set_cons_succ]) (hCont (v215, .slice Ao45 y217.length co45, gb220) _ ⟨hHeld, (by (with_reducible repeat (first | apply Kd.R_alloc | apply Kd.R_drewN | apply Kd.R_drew)); exact Kd.R_mono HO195.out (fun _ hk => ⟨hk.1.1, ⟨hk.1.2, hk.2⟩⟩)), (by (with_reducible repeat (first | apply Kd.R_alloc | apply Kd.R_drewN | apply Kd.R_drew)); exact Kd.R_mono HO209.out (fun _ hk => ⟨hk.1.1, ⟨hk.1.2, hk.2⟩⟩)), (by (with_reducible repeat (first | apply Kd.R_alloc | apply Kd.R_drewN | apply Kd.R_drew)); exact Kd.R_mono HO212.out (fun _ hk => ⟨hk.1.1, ⟨hk.1.2, hk.2⟩⟩)), (by (with_reducible repeat (first | apply Kd.R_alloc | apply Kd.R_drewN | apply Kd.R_drew)); exact HO219.out), (by (with_reducible repeat (first | refine blk_drewN ?_ _ | refine blk_drew ?_ | refine blk_alloc ?_ _)); exact BK196.out), (by (with_reducible repeat (first | refine blk_drewN ?_ _ | refine blk_drew ?_ | refine blk_alloc ?_ _)); exact BK213.out), (by (with_reducible repeat (first | refine blk_drewN ?_ _ | refine blk_drew ?_ | refine blk_alloc ?_ _)); exact BK220.out), GW220.out, GE220.out, NB196_220.out, NB220_196.out, NB213_220.out, NB220_213.out, (by repeat (first | (with_reducible first | exact HB.out | apply below_alloc | apply pw_below_drewN | apply below_drew1 | refine below_set ?_ GE196.out | refine below_set ?_ GE213.out | refine below_set ?_ GE220.out) | exact HB.out))⟩)
           rintro ⟨v215, v218, gb220⟩ w46 ⟨hS_, h0_, h1_, h2_, h3_, h4_, h5_, h6_, h7_, h8_, h9_, h10_, h11_, h12_, h13_⟩
           have n0_ : Aside0 (Kd.R k30 30 w46 w.heap.size (fun k_ => some k_ ≠ (v208 : Value).ownBlock ∧ some k_ ≠ (.slice Ao36 y210.length co36 : Value).ownBlock ∧ some k_ ≠ (v218 : Value).ownBlock) (.slice Ao21 t193.length co21) t193) := ⟨h0_⟩
           have n1_ : Aside0 (Kd.R k30 30 w46 w.heap.size (fun k_ => some k_ ≠ (.slice Ao21 t193.length co21 : Value).ownBlock ∧ some k_ ≠ (.slice Ao36 y210.length co36 : Value).ownBlock ∧ some k_ ≠ (v218 : Value).ownBlock) v208 y207) := ⟨h1_⟩
           have n2_ : Aside0 (Kd.R k30 30 w46 w.heap.size (fun k_ => some k_ ≠ (.slice Ao21 t193.length co21 : Value).ownBlock ∧ some k_ ≠ (v208 : Value).ownBlock ∧ some k_ ≠ (v218 : Value).ownBlock) (.slice Ao36 y210.length co36) y210) := ⟨h2_⟩
           have n3_ : Aside0 (Kd.R k30 30 w46 w.heap.size (fun k_ => some k_ ≠ (.slice Ao21 t193.length co21 : Value).ownBlock ∧ some k_ ≠ (v208 : Value).ownBlock ∧ some k_ ≠ (.slice Ao36 y210.length co36 : Value).ownBlock) v218 y217) := ⟨h3_⟩
           have n4_ : Aside0 (w46.heap[gb196]? = some (.cells #[.int .i64 t192, .slice Ao21 t193.length co21] 25 (0, 0))) := ⟨h4_⟩
           have n5_ : Aside0 (w46.heap[gb213]? = some (.cells #[.int .i64 t192, .slice Ao36 y210.length co36] 25 (0, 0))) := ⟨h5_⟩
           have n6_ : Aside0 (w46.heap[gb220]? = some (.cells #[.int .i64 0, .slice none 0 0] 25 (0, 0))) := ⟨h6_⟩
           have n7_ : Aside0 (w.heap.size ≤ gb220) := ⟨h7_⟩
           have n8_ : Aside0 (w.heap.size ≤ gb220) := ⟨h8_⟩
           have n9_ : Aside0 (gb196 ≠ gb220) := ⟨h9_⟩
           have n10_ : Aside0 (gb220 ≠ gb196) := ⟨h10_⟩
           have n11_ : Aside0 (gb213 ≠ gb220) := ⟨h11_⟩
           have n12_ : Aside0 (gb220 ≠ gb213) := ⟨h12_⟩
           have n13_ : Aside0 (Below w.heap.size w w46) := ⟨h13_⟩
           clear HO195
           clear HO209
           clear HO212
           clear BK196
           clear BK213
           clear HB
           clear h0_ h1_ h2_ h3_ h4_ h5_ h6_ h7_ h8_ h9_ h10_ h11_ h12_ h13_
           have HO195 := n0_
           have HO209 := n1_
           have HO212 := n2_
           have HO219 := n3_
           have BK196 := n4_
           have BK213 := n5_
           have BK220 := n6_
           have GW220 := n7_
           have GE220 := n8_
           have NB196_220 := n9_
           have NB220_196 := n10_
           have NB213_220 := n11_
           have NB220_213 := n12_
           have HB := n13_
           clear n0_ n1_ n2_ n3_ n4_ n5_ n6_ n7_ n8_ n9_ n10_ n11_ n12_ n13_
           have hHeld : w46.cell? ⟨gb196, 0, none⟩ = some (.int .i64 t192) ∧ w46.cell? ⟨gb196, 1, none⟩ = some (.slice Ao21 t193.length co21) := hS_
           obtain ⟨Ao47, co47, eo47⟩ := Kd.R_slice HO219.out
           (first | subst eo47 | (injection eo47 with f1_ f2_ f3_; have f4_ := f1_.symm; have f5_ := f3_.symm; clear f1_ f2_ f3_; subst f4_; subst f5_))
           refine norm_ (a' := ?_) ?_ ?_
           rotate_left
           ·
            simp only [putAll, Act.put, List.setIfInBounds_toArray, List.set_cons_zero, List.set_cons_succ]
            rfl
           refine one_ (i := 8) (N := none) #[true, true, true, true, true, true, true, true, true] rfl rfl (one_of HT_.out (by kernel_rfl)) (by decide) (fun K hK => ?_)
           have hs48 : w46.cell? ⟨gb220, 0, none⟩ = some (.int .i64 0) := (blk_cell BK220.out 0).trans rfl
           have hfs48 := blk_frozen BK220.out 0
           have hns48_0 := NB196_220.out
           have hns48_1 := NB213_220.out
           have hms48_0 := NB220_196.out
           have hms48_1 := NB220_213.out
           have hs49 : w46.cell? ⟨gb220, 1, none⟩ = some (.slice none 0 0) := (blk_cell BK220.out 1).trans rfl
           have hfs49 := blk_frozen BK220.out 1
           have hns49_0 := NB196_220.out
           have hns49_1 := NB213_220.out
           have hms49_0 := NB220_196.out
           have hms49_1 := NB220_213.out
           refine skip_ (w1 := ?_) (by rfl) rfl ?_ ?_
           rotate_left
           ·
            go_simp
            rfl
           refine hK.out _ _ ⟨((cell_far (p := ⟨gb220, _, none⟩) NB196_220.out _).trans (((cell_far (p := ⟨gb220, _, none⟩) NB196_220.out _).trans (hHeld.1)))), ((cell_far (p := ⟨gb220, _, none⟩) NB196_220.out _).trans (((cell_far (p := ⟨gb220, _, none⟩) NB196_220.out _).trans (hHeld.2))))⟩ (fun hHeld => ?_)
           clear hK K
           refine done_ (done_of HT_.out (by kernel_rfl)) ?_
           have n0_ : Aside0 (Kd.R k30 30 ((w46.setCell ⟨gb220, 0, none⟩ (.int .i64 t192)).setCell ⟨gb220, 1, none⟩ (.slice Ao47 y217.length co47)) w.heap.size (fun k_ => some k_ ≠ (v208 : Value).ownBlock ∧ some k_ ≠ (.slice Ao36 y210.length co36 : Value).ownBlock ∧ some k_ ≠ (.slice Ao47 y217.length co47 : Value).ownBlock) (.slice Ao21 t193.length co21) t193) := ⟨by (with_reducible repeat (first | apply Kd.R_alloc | apply Kd.R_drewN | apply Kd.R_drew)); exact Kd.R_mono (Kd.R_far (p := ⟨gb220, 1, none⟩) (Kd.R_far (p := ⟨gb220, 0, none⟩) (Kd.R_types HO195.out BK220.out (by decide)) (fun _ hk => hk.2) (.int .i64 t192)) (fun _ hk => hk.2) (.slice Ao47 y217.length co47)) (fun _ hk => ⟨hk.1.1, ⟨hk.1.2.1, hk.1.2.2⟩⟩)⟩
           have n1_ : Aside0 (Kd.R k30 30 ((w46.setCell ⟨gb220, 0, none⟩ (.int .i64 t192)).setCell ⟨gb220, 1, none⟩ (.slice Ao47 y217.length co47)) w.heap.size (fun k_ => some k_ ≠ (.slice Ao21 t193.length co21 : Value).ownBlock ∧ some k_ ≠ (.slice Ao36 y210.length co36 : Value).ownBlock ∧ some k_ ≠ (.slice Ao47 y217.length co47 : Value).ownBlock) v208 y207) := ⟨by (with_reducible repeat (first | apply Kd.R_alloc | apply Kd.R_drewN | apply Kd.R_drew)); exact Kd.R_mono (Kd.R_far (p := ⟨gb220, 1, none⟩) (Kd.R_far (p := ⟨gb220, 0, none⟩) (Kd.R_types HO209.out BK220.out (by decide)) (fun _ hk => hk.2) (.int .i64 t192)) (fun _ hk => hk.2) (.slice Ao47 y217.length co47)) (fun _ hk => ⟨hk.1.1, ⟨hk.1.2.1, hk.1.2.2⟩⟩)⟩
           have n2_ : Aside0 (Kd.R k30 30 ((w46.setCell ⟨gb220, 0, none⟩ (.int .i64 t192)).setCell ⟨gb220, 1, none⟩ (.slice Ao47 y217.length co47)) w.heap.size (fun k_ => some k_ ≠ (.slice Ao21 t193.length co21 : Value).ownBlock ∧ some k_ ≠ (v208 : Value).ownBlock ∧ some k_ ≠ (.slice Ao47 y217.length co47 : Value).ownBlock) (.slice Ao36 y210.length co36) y210) := ⟨by (with_reducible repeat (first | apply Kd.R_alloc | apply Kd.R_drewN | apply Kd.R_drew)); exact Kd.R_mono (Kd.R_far (p := ⟨gb220, 1, none⟩) (Kd.R_far (p := ⟨gb220, 0, none⟩) (Kd.R_types HO212.out BK220.out (by decide)) (fun _ hk => hk.2) (.int .i64 t192)) (fun _ hk => hk.2) (.slice Ao47 y217.length co47)) (fun _ hk => ⟨hk.1.1, ⟨hk.1.2.1, hk.1.2.2⟩⟩)⟩
           have n3_ : Aside0 (Kd.R k30 30 ((w46.setCell ⟨gb220, 0, none⟩ (.int .i64 t192)).setCell ⟨gb220, 1, none⟩ (.slice Ao47 y217.length co47)) w.heap.size (fun k_ => some k_ ≠ (.slice Ao21 t193.length co21 : Value).ownBlock ∧ some k_ ≠ (v208 : Value).ownBlock ∧ some k_ ≠ (.slice Ao36 y210.length co36 : Value).ownBlock) (.slice Ao47 y217.length co47) y217) := ⟨by (with_reducible repeat (first | apply Kd.R_alloc | apply Kd.R_drewN | apply Kd.R_drew)); exact Kd.R_mono (Kd.R_far (p := ⟨gb220, 1, none⟩) (Kd.R_far (p := ⟨gb220, 0, none⟩) (Kd.R_types HO219.out BK220.out (by decide)) (fun _ hk => hk.2) (.int .i64 t192)) (fun _ hk => hk.2) (.slice Ao47 y217.length co47)) (fun _ hk => ⟨hk.1.1, ⟨hk.1.2.1, hk.1.2.2⟩⟩)⟩
           have n4_ : Aside0 (((w46.setCell ⟨gb220, 0, none⟩ (.int .i64 t192)).setCell ⟨gb220, 1, none⟩ (.slice Ao47 y217.length co47)).heap[gb196]? = some (.cells #[.int .i64 t192, .slice Ao21 t193.length co21] 25 (0, 0))) := ⟨by (with_reducible repeat (first | refine blk_drewN ?_ _ | refine blk_drew ?_ | refine blk_alloc ?_ _)); refine blk_far ?_ NB196_220.out _; (with_reducible repeat (first | refine blk_drewN ?_ _ | refine blk_drew ?_ | refine blk_alloc ?_ _)); refine blk_far ?_ NB196_220.out _; (with_reducible repeat (first | refine blk_drewN ?_ _ | refine blk_drew ?_ | refine blk_alloc ?_ _)); exact BK196.out⟩
           have n5_ : Aside0 (((w46.setCell ⟨gb220, 0, none⟩ (.int .i64 t192)).setCell ⟨gb220, 1, none⟩ (.slice Ao47 y217.length co47)).heap[gb213]? = some (.cells #[.int .i64 t192, .slice Ao36 y210.length co36] 25 (0, 0))) := ⟨by (with_reducible repeat (first | refine blk_drewN ?_ _ | refine blk_drew ?_ | refine blk_alloc ?_ _)); refine blk_far ?_ NB213_220.out _; (with_reducible repeat (first | refine blk_drewN ?_ _ | refine blk_drew ?_ | refine blk_alloc ?_ _)); refine blk_far ?_ NB213_220.out _; (with_reducible repeat (first | refine blk_drewN ?_ _ | refine blk_drew ?_ | refine blk_alloc ?_ _)); exact BK213.out⟩
           have n6_ : Aside0 (((w46.setCell ⟨gb220, 0, none⟩ (.int .i64 t192)).setCell ⟨gb220, 1, none⟩ (.slice Ao47 y217.length co47)).heap[gb220]? = some (.cells #[.int .i64 t192, .slice Ao47 y217.length co47] 25 (0, 0))) := ⟨by (with_reducible repeat (first | refine blk_drewN ?_ _ | refine blk_drew ?_ | refine blk_alloc ?_ _)); refine blk_put (cs := #[.int .i64 t192, .slice none 0 0]) ?_ 1 _ rfl; (with_reducible repeat (first | refine blk_drewN ?_ _ | refine blk_drew ?_ | refine blk_alloc ?_ _)); refine blk_put (cs := #[.int .i64 0, .slice none 0 0]) ?_ 0 _ rfl; (with_reducible repeat (first | refine blk_drewN ?_ _ | refine blk_drew ?_ | refine blk_alloc ?_ _)); exact BK220.out⟩
           have n7_ : Aside0 (Below w.heap.size w ((w46.setCell ⟨gb220, 0, none⟩ (.int .i64 t192)).setCell ⟨gb220, 1, none⟩ (.slice Ao47 y217.length co47))) := ⟨by repeat (first | (with_reducible first | exact HB.out | apply below_alloc | apply pw_below_drewN | apply below_drew1 | refine below_set ?_ GE196.out | refine below_set ?_ GE213.out | refine below_set ?_ GE220.out) | exact HB.out)⟩
           (try clear HO195)
           (try clear HO209)
           (try clear HO212)
           (try clear HO219)
           (try clear BK196)
           (try clear BK213)
           (try clear BK220)
           (try clear HB)
           generalize ((w46.setCell ⟨gb220, 0, none⟩ (.int .i64 t192)).setCell ⟨gb220, 1, none⟩ (.slice Ao47 y217.length co47)) = w50 at n0_ n1_ n2_ n3_ n4_ n5_ n6_ n7_ ⊢
           have HO195 := n0_
           have HO209 := n1_
           have HO212 := n2_
           have HO219 := n3_
           have BK196 := n4_
           have BK213 := n5_
           have BK220 := n6_
           have HB := n7_
           clear n0_ n1_ n2_ n3_ n4_ n5_ n6_ n7_
           have hnb51 := NB196_213.out
           have hnc51 := NB213_196.out
           have hnb52 := NB196_220.out
           have hnc52 := NB220_196.out
           have hcz53_0 : w50.cell? ⟨gb196, 0, none⟩ = some (.int .i64 t192) := (blk_cell BK196.out 0).trans rfl
           have hcz53_1 : w50.cell? ⟨gb196, 1, none⟩ = some (.slice Ao21 t193.length co21) := (blk_cell BK196.out 1).trans rfl
           have hfz53_0 := blk_frozen BK196.out 0
           have hfz53_1 := blk_frozen BK196.out 1
           have hnb54 := NB220_213.out
           have hnc54 := NB213_220.out
           have hcz55_0 : w50.cell? ⟨gb220, 0, none⟩ = some (.int .i64 t192) := (blk_cell BK220.out 0).trans rfl
           have hcz55_1 : w50.cell? ⟨gb220, 1, none⟩ = some (.slice Ao47 y217.length co47) := (blk_cell BK220.out 1).trans rfl
           have hfz55_0 := blk_frozen BK220.out 0
           have hfz55_1 := blk_frozen BK220.out 1
           have q56 : ((ji12) : Int) ≤ ((y217.length : Int) : Int) := of_decide_eq_true (by first | (with_reducible assumption) | assumption)
           obtain ⟨i056, hi056, _, hsz56, _⟩ := info_parts info30
           have hcut56 := cut_to (P := Tryd.prog) 23 30 .i64 Tryd.underlying23 hi056 Ao47 y217.length co47 (ji12) (of_decide_eq_true (by first | (with_reducible assumption) | assumption)) q56 (Kd.R_reads' HO219.out).2.1
           have hr56 := Kd.R_take (m := ((ji12) : Int).toNat) HO219.out (by omega)
           have hy56 : y221.length = ((ji12) : Int).toNat := (by rw [Ny221.out, List.length_take]; omega)
           rw [← Ny221.out] at hr56
           rw [← hy56] at hr56 hcut56
           clear hy56 hi056 hsz56 HO219
           have HO223 := Aside0.mk hr56
           clear hr56
           replace q56 := eq_true q56
           try go_wp2_with (first | ((with_reducible refine gate_callee (f := 13) rfl ?_); refine goesL_ (some 56) rfl rfl Tryd.func13 (by kernel_rfl) rfl #[.agg #[.int .i64 t192, .slice Ao47 y221.length co47]] rfl (by (try simp only [List.map_toArray, List.map_cons, List.map_nil]); first | done | rfl | (simp only [List.length_drop, List.length_take]; rfl)) ?_; (with_reducible refine (impl_NetValid.calls k t192 _ _ y221 true _ ?side1 ?side2 A15.out).mono ?_); (case side1 => refine (Kd.R_reads' (e := 30) (base := w.heap.size) (ok := fun k_ => (some k_ ≠ (.slice Ao21 t193.length co21 : Value).ownBlock ∧ (some k_ ≠ (v208 : Value).ownBlock ∧ some k_ ≠ (.slice Ao36 y210.length co36 : Value).ownBlock))) (n := y221.length) (c := co47) ?_).2.2; exact (by (with_reducible repeat (first | apply Kd.R_alloc | apply Kd.R_drewN | apply Kd.R_drew)); exact (Kd.R_mono (Kd.R_far (p := ⟨gb220, 1, none⟩) (Kd.R_types HO223.out BK220.out (by decide)) (fun _ hk => hk.2) (.slice Ao47 y221.length co47)) (fun _ h_ => h_.1)))); (case side2 => exact (Kd.R_reads' HO223.out).2.1); rintro e w57 ⟨rfl, hb⟩; refine ⟨_, rfl, ?_⟩; have n0_ := Aside0.mk (Kd.R_below (by (with_reducible repeat (first | apply Kd.R_alloc | apply Kd.R_drewN | apply Kd.R_drew)); exact (Kd.R_mono (Kd.R_far (p := ⟨gb220, 1, none⟩) (Kd.R_types HO195.out BK220.out (by decide)) (fun _ hk => hk.2) (.slice Ao47 y221.length co47)) (fun _ h_ => h_.1))) hb); have n1_ := Aside0.mk (Kd.R_below (by (with_reducible repeat (first | apply Kd.R_alloc | apply Kd.R_drewN | apply Kd.R_drew)); exact (Kd.R_mono (Kd.R_far (p := ⟨gb220, 1, none⟩) (Kd.R_types HO209.out BK220.out (by decide)) (fun _ hk => hk.2) (.slice Ao47 y221.length co47)) (fun _ h_ => h_.1))) hb); have n2_ := Aside0.mk (Kd.R_below (by (with_reducible repeat (first | apply Kd.R_alloc | apply Kd.R_drewN | apply Kd.R_drew)); exact (Kd.R_mono (Kd.R_far (p := ⟨gb220, 1, none⟩) (Kd.R_types HO212.out BK220.out (by decide)) (fun _ hk => hk.2) (.slice Ao47 y221.length co47)) (fun _ h_ => h_.1))) hb); have n3_ := Aside0.mk (Kd.R_below (by (with_reducible repeat (first | apply Kd.R_alloc | apply Kd.R_drewN | apply Kd.R_drew)); exact (Kd.R_mono (Kd.R_far (p := ⟨gb220, 1, none⟩) (Kd.R_types HO223.out BK220.out (by decide)) (fun _ hk => hk.2) (.slice Ao47 y221.length co47)) (fun _ h_ => h_.1))) hb); have n4_ := Aside0.mk (blk_below (g := gb196) (o := .cells #[.int .i64 t192, .slice Ao21 t193.length co21] 25 (0, 0)) (by (with_reducible repeat (first | refine blk_drewN ?_ _ | refine blk_drew ?_ | refine blk_alloc ?_ _)); refine blk_far ?_ NB196_220.out _; (with_reducible repeat (first | refine blk_drewN ?_ _ | refine blk_drew ?_ | refine blk_alloc ?_ _)); exact BK196.out) hb); have n5_ := Aside0.mk (blk_below (g := gb213) (o := .cells #[.int .i64 t192, .slice Ao36 y210.length co36] 25 (0, 0)) (by (with_reducible repeat (first | refine blk_drewN ?_ _ | refine blk_drew ?_ | refine blk_alloc ?_ _)); refine blk_far ?_ NB213_220.out _; (with_reducible repeat (first | refine blk_drewN ?_ _ | refine blk_drew ?_ | refine blk_alloc ?_ _)); exact BK213.out) hb); have n6_ := Aside0.mk (blk_below (g := gb220) (o := .cells #[.int .i64 t192, .slice Ao47 y221.length co47] 25 (0, 0)) (by (with_reducible repeat (first | refine blk_drewN ?_ _ | refine blk_drew ?_ | refine blk_alloc ?_ _)); refine blk_put (cs := #[.int .i64 t192, .slice Ao47 y217.length co47]) ?_ 1 _ rfl; (with_reducible repeat (first | refine blk_drewN ?_ _ | refine blk_drew ?_ | refine blk_alloc ?_ _)); exact BK220.out) hb); have n7_ := Aside0.mk (below_step (by repeat (first | (with_reducible first | exact HB.out | apply below_alloc | apply pw_below_drewN | apply below_drew1 | refine below_set ?_ GE196.out | refine below_set ?_ GE213.out | refine below_set ?_ GE220.out) | exact HB.out)) hb); clear HO195; clear HO209; clear HO212; clear HO223; clear BK196; clear BK213; clear BK220; clear HB; have HO195 := n0_; have HO209 := n1_; have HO212 := n2_; have HO223 := n3_; have BK196 := n4_; have BK213 := n5_; have BK220 := n6_; have HB := n7_; clear n0_ n1_ n2_ n3_ n4_ n5_ n6_ n7_; (try clear hb); (try clear hb2); (try clear hk); (try clear hi); have hcz58_0 : w57.cell? ⟨gb213, 0, none⟩ = some (.int .i64 t192) := (blk_cell BK213.out 0).trans rfl; have hcz58_1 : w57.cell? ⟨gb213, 1, none⟩ = some (.slice Ao36 y210.length co36) := (blk_cell BK213.out 1).trans rfl; have hfz58_0 := blk_frozen BK213.out 0; have hfz58_1 := blk_frozen BK213.out 1) | (go_at_call 13; (with_reducible refine (impl_NetValid.calls k t192 _ _ y210 t225 _ ?side1 ?side2 A17.out).mono ?_); (case side1 => repeat (first | exact (Kd.R_reads' HO212.out).2.2 | (with_reducible refine Kd.C_alloc ?_ _) | (with_reducible refine Kd.C_drewN ?_ _) | (with_reducible refine Kd.C_drew ?_))); (case side2 => exact (Kd.R_reads' HO212.out).2.1); rintro e w59 ⟨rfl, hb⟩; have n0_ := Aside0.mk (Kd.R_below (by (with_reducible repeat (first | apply Kd.R_alloc | apply Kd.R_drewN | apply Kd.R_drew)); exact HO195.out) hb); have n1_ := Aside0.mk (Kd.R_below (by (with_reducible repeat (first | apply Kd.R_alloc | apply Kd.R_drewN | apply Kd.R_drew)); exact HO209.out) hb); have n2_ := Aside0.mk (Kd.R_below (by (with_reducible repeat (first | apply Kd.R_alloc | apply Kd.R_drewN | apply Kd.R_drew)); exact HO212.out) hb); have n3_ := Aside0.mk (Kd.R_below (by (with_reducible repeat (first | apply Kd.R_alloc | apply Kd.R_drewN | apply Kd.R_drew)); exact HO223.out) hb); have n4_ := Aside0.mk (blk_below (g := gb196) (o := .cells #[.int .i64 t192, .slice Ao21 t193.length co21] 25 (0, 0)) (by (with_reducible repeat (first | refine blk_drewN ?_ _ | refine blk_drew ?_ | refine blk_alloc ?_ _)); exact BK196.out) hb); have n5_ := Aside0.mk (blk_below (g := gb213) (o := .cells #[.int .i64 t192, .slice Ao36 y210.length co36] 25 (0, 0)) (by (with_reducible repeat (first | refine blk_drewN ?_ _ | refine blk_drew ?_ | refine blk_alloc ?_ _)); exact BK213.out) hb); have n6_ := Aside0.mk (blk_below (g := gb220) (o := .cells #[.int .i64 t192, .slice Ao47 y221.length co47] 25 (0, 0)) (by (with_reducible repeat (first | refine blk_drewN ?_ _ | refine blk_drew ?_ | refine blk_alloc ?_ _)); exact BK220.out) hb); have n7_ := Aside0.mk (below_step (by repeat (first | (with_reducible first | exact HB.out | apply below_alloc | apply pw_below_drewN | apply below_drew1 | refine below_set ?_ GE196.out | refine below_set ?_ GE213.out | refine below_set ?_ GE220.out) | exact HB.out)) hb); clear HO195; clear HO209; clear HO212; clear HO223; clear BK196; clear BK213; clear BK220; clear HB; have HO195 := n0_; have HO209 := n1_; have HO212 := n2_; have HO223 := n3_; have BK196 := n4_; have BK213 := n5_; have BK220 := n6_; have HB := n7_; clear n0_ n1_ n2_ n3_ n4_ n5_ n6_ n7_; (try clear hb); (try clear hb2); (try clear hk); (try clear hi)))
           go_ret
           exact ⟨by first | rfl | (simp [errW_none, errW_some] <;> rfl) | (simp only [← hji12]; first | rfl | (simp [errW_none, errW_some] <;> rfl)) | (simp [*, errW_none, errW_some] <;> rfl), by repeat (first | (with_reducible first | exact HB.out | apply below_alloc | apply pw_below_drewN | apply below_drew1 | refine below_set ?_ GE196.out | refine below_set ?_ GE213.out | refine below_set ?_ GE220.out) | exact HB.out)⟩
          ·
           replace c16 := Bool.eq_false_iff.mpr c16
           subst c16
           have H1 : (none) = some r := by rw [if_neg (show ¬ (false = true) by decide)] at H; exact H
           clear H
           have H := H1
           clear H1
           exact absurd H (by simp)
         ·
          rw [if_neg c14] at H
          exact absurd H (by simp)
        ·
         rw [if_neg c13] at H
         exact absurd H (by simp)
       · exact absurd (hSp _ A3.out) c11
      ·
       rw [if_neg c10] at H
       exact absurd H (by simp)
     ·
      rw [if_neg c9] at H
      exact absurd H (by simp)
    ·
     rw [if_neg c8] at H
     exact absurd H (by simp)
   ·
    replace c7 := Bool.eq_false_iff.mpr c7
    subst c7
    have H1 : ((impl_NetValid.f k 0 ([] : List (S30))).bind fun t199 => (if t199 = true then (none) else ((laws_alive.f k).bind fun t200 => (some t200)))) = some r := by rw [if_neg (show ¬ (false = true) by decide)] at H; exact H
    clear H
    have H := H1
    clear H1
    replace H := Option.bind_eq_some_iff.mp H
    obtain ⟨t199, A1030, H⟩ := H
    replace H : (if t199 = true then (none) else ((laws_alive.f k).bind fun t200 => (some t200))) = some r := H
    have A103 := Aside0.mk A1030
    clear A1030
    by_cases c104 : t199 = true
    ·
     subst c104
     have H1 : (none) = some r := by rw [if_pos rfl] at H; exact H
     clear H
     have H := H1
     clear H1
     exact absurd H (by simp)
    ·
     replace c104 := Bool.eq_false_iff.mpr c104
     subst c104
     have H1 : ((laws_alive.f k).bind fun t200 => (some t200)) = some r := by rw [if_neg (show ¬ (false = true) by decide)] at H; exact H
     clear H
     have H := H1
     clear H1
     replace H := Option.bind_eq_some_iff.mp H
     obtain ⟨t200, A1050, H⟩ := H
     replace H : (some t200) = some r := H
     have A105 := Aside0.mk A1050
     clear A1050
     obtain rfl := Option.some.inj H
     go_enter Tryd.func3, Tryd.ntmps3
     go_wp2_with (first | ((with_reducible refine gate_callee (f := 12) rfl ?_); refine goesL_ (some 11) rfl rfl Tryd.func12 (by kernel_rfl) rfl #[.slice A0 l0.length c0] rfl (by (try simp only [List.map_toArray, List.map_cons, List.map_nil]); first | done | rfl | (simp only [List.length_drop, List.length_take]; rfl)) ?_; (with_reducible refine (spec_DrawNetValid.calls k _ _ l0 t192 t193 _ ?side1 ?side2 A3.out).mono ?_); (case side1 => repeat (first | exact HR0.out | (with_reducible refine Kd.C_alloc ?_ _) | (with_reducible refine Kd.C_drewN ?_ _) | (with_reducible refine Kd.C_drew ?_))); (case side2 => exact HC0.out); rintro e w106 ⟨v194, rfl, ho0, hb⟩; refine ⟨_, rfl, ?_⟩; have n0_ := Aside0.mk (Kd.R_lower ho0 (below_size (by repeat (first | (with_reducible first | exact HB.out | apply below_alloc | apply pw_below_drewN | apply below_drew1) | exact HB.out)))); have n1_ := Aside0.mk (below_step (by repeat (first | (with_reducible first | exact HB.out | apply below_alloc | apply pw_below_drewN | apply below_drew1) | exact HB.out)) hb); clear HB; have HO195 := n0_; have HB := n1_; clear n0_ n1_; (try clear hb); (try clear hb2); (try clear hk); (try clear hi); (try clear ho0)) | ((with_reducible refine gate_dst (N := 3) rfl ?_); refine box_event ?hg (N := 3) ?hd (cs := #[.int .i64 0, .slice none 0 0]) (t := 25) ?hr ?_; (case hd => rfl); (case hg => rfl); (case hr => first | (go_simp; done) | (go_simp; rfl)); intro gb196 hg w107 hbox hb; have n0_ := Aside0.mk (Kd.R_below (by (with_reducible repeat (first | apply Kd.R_alloc | apply Kd.R_drewN | apply Kd.R_drew)); exact HO195.out) hb); have n1_ := Aside0.mk (below_step (by repeat (first | (with_reducible first | exact HB.out | apply below_alloc | apply pw_below_drewN | apply below_drew1) | exact HB.out)) hb); have n2_ := Aside0.mk (hbox); have n3_ := Aside0.mk ((by rw [hg]; exact (below_size (by repeat (first | (with_reducible first | exact HB.out | apply below_alloc | apply pw_below_drewN | apply below_drew1) | exact HB.out))) : w.heap.size ≤ gb196)); have n4_ := Aside0.mk ((by rw [hg]; exact (below_size (by repeat (first | (with_reducible first | exact HB.out | apply below_alloc | apply pw_below_drewN | apply below_drew1) | exact HB.out))) : w.heap.size ≤ gb196)); clear HO195; clear HB; have HO195 := n0_; have HB := n1_; have BK196 := n2_; have GW196 := n3_; have GE196 := n4_; clear n0_ n1_ n2_ n3_ n4_; clear hb hbox hg; have hcz108_0 : w107.cell? ⟨gb196, 0, none⟩ = some (.int .i64 0) := (blk_cell BK196.out 0).trans rfl; have hcz108_1 : w107.cell? ⟨gb196, 1, none⟩ = some (.slice none 0 0) := (blk_cell BK196.out 1).trans rfl; have hfz108_0 := blk_frozen BK196.out 0; have hfz108_1 := blk_frozen BK196.out 1; obtain ⟨Ao109, co109, eo109⟩ := Kd.R_slice HO195.out; subst eo109) | ((with_reducible refine gate_callee (f := 13) rfl ?_); refine goesL_ (some 13) rfl rfl Tryd.func13 (by kernel_rfl) rfl #[.agg #[.int .i64 t192, .slice Ao109 t193.length co109]] rfl (by (try simp only [List.map_toArray, List.map_cons, List.map_nil]); first | done | rfl | (simp only [List.length_drop, List.length_take]; rfl)) ?_; (with_reducible refine (impl_NetValid.calls k t192 _ _ t193 false _ ?side1 ?side2 A4.out).mono ?_); (case side1 => refine (Kd.R_reads' (e := 30) (base := w.heap.size) (ok := fun k_ => True) (n := t193.length) (c := co109) ?_).2.2; exact (by (with_reducible repeat (first | apply Kd.R_alloc | apply Kd.R_drewN | apply Kd.R_drew)); exact (Kd.R_mono (Kd.R_far (p := ⟨gb196, 1, none⟩) (Kd.R_far (p := ⟨gb196, 0, none⟩) (Kd.R_types HO195.out BK196.out (by decide)) (fun _ hk => hk.2) (.int .i64 t192)) (fun _ hk => hk.2) (.slice Ao109 t193.length co109)) (fun _ h_ => h_.1)))); (case side2 => exact (Kd.R_reads' HO195.out).2.1); rintro e w110 ⟨rfl, hb⟩; refine ⟨_, rfl, ?_⟩; have n0_ := Aside0.mk (Kd.R_below (by (with_reducible repeat (first | apply Kd.R_alloc | apply Kd.R_drewN | apply Kd.R_drew)); exact (Kd.R_mono (Kd.R_far (p := ⟨gb196, 1, none⟩) (Kd.R_far (p := ⟨gb196, 0, none⟩) (Kd.R_types HO195.out BK196.out (by decide)) (fun _ hk => hk.2) (.int .i64 t192)) (fun _ hk => hk.2) (.slice Ao109 t193.length co109)) (fun _ h_ => h_.1))) hb); have n1_ := Aside0.mk (blk_below (g := gb196) (o := .cells #[.int .i64 t192, .slice Ao109 t193.length co109] 25 (0, 0)) (by (with_reducible repeat (first | refine blk_drewN ?_ _ | refine blk_drew ?_ | refine blk_alloc ?_ _)); refine blk_put (cs := #[.int .i64 t192, .slice none 0 0]) ?_ 1 _ rfl; (with_reducible repeat (first | refine blk_drewN ?_ _ | refine blk_drew ?_ | refine blk_alloc ?_ _)); refine blk_put (cs := #[.int .i64 0, .slice none 0 0]) ?_ 0 _ rfl; (with_reducible repeat (first | refine blk_drewN ?_ _ | refine blk_drew ?_ | refine blk_alloc ?_ _)); exact BK196.out) hb); have n2_ := Aside0.mk (below_step (by repeat (first | (with_reducible first | exact HB.out | apply below_alloc | apply pw_below_drewN | apply below_drew1 | refine below_set ?_ GE196.out) | exact HB.out)) hb); clear HO195; clear BK196; clear HB; have HO195 := n0_; have BK196 := n1_; have HB := n2_; clear n0_ n1_ n2_; (try clear hb); (try clear hb2); (try clear hk); (try clear hi); have hcz111_0 : w110.cell? ⟨gb196, 0, none⟩ = some (.int .i64 t192) := (blk_cell BK196.out 0).trans rfl; have hcz111_1 : w110.cell? ⟨gb196, 1, none⟩ = some (.slice Ao109 t193.length co109) := (blk_cell BK196.out 1).trans rfl; have hfz111_0 := blk_frozen BK196.out 0; have hfz111_1 := blk_frozen BK196.out 1) | ((with_reducible refine gate_callee (f := 14) rfl ?_); refine goesL_ (some 16) rfl rfl Tryd.func14 (by kernel_rfl) rfl #[.agg #[.int .i64 t192, .slice Ao109 t193.length co109]] rfl (by (try simp only [List.map_toArray, List.map_cons, List.map_nil]); first | done | rfl | (simp only [List.length_drop, List.length_take]; rfl)) ?_; (with_reducible refine (spec_NetValid.calls k t192 _ _ t193 t198 _ ?side1 ?side2 A5.out).mono ?_); (case side1 => repeat (first | exact (Kd.R_reads' HO195.out).2.2 | (with_reducible refine Kd.C_alloc ?_ _) | (with_reducible refine Kd.C_drewN ?_ _) | (with_reducible refine Kd.C_drew ?_))); (case side2 => exact (Kd.R_reads' HO195.out).2.1); rintro e w112 ⟨rfl, hb⟩; refine ⟨_, rfl, ?_⟩; have n0_ := Aside0.mk (Kd.R_below (by (with_reducible repeat (first | apply Kd.R_alloc | apply Kd.R_drewN | apply Kd.R_drew)); exact HO195.out) hb); have n1_ := Aside0.mk (blk_below (g := gb196) (o := .cells #[.int .i64 t192, .slice Ao109 t193.length co109] 25 (0, 0)) (by (with_reducible repeat (first | refine blk_drewN ?_ _ | refine blk_drew ?_ | refine blk_alloc ?_ _)); exact BK196.out) hb); have n2_ := Aside0.mk (below_step (by repeat (first | (with_reducible first | exact HB.out | apply below_alloc | apply pw_below_drewN | apply below_drew1 | refine below_set ?_ GE196.out) | exact HB.out)) hb); clear HO195; clear BK196; clear HB; have HO195 := n0_; have BK196 := n1_; have HB := n2_; clear n0_ n1_ n2_; (try clear hb); (try clear hb2); (try clear hk); (try clear hi)) | ((with_reducible refine gate_callee (f := 13) rfl ?_); refine goesL_ (some 21) rfl rfl Tryd.func13 (by kernel_rfl) rfl #[.agg #[.int .i64 0, .slice none 0 0]] rfl (by (try simp only [List.map_toArray, List.map_cons, List.map_nil]); first | done | rfl | (simp only [List.length_drop, List.length_take]; rfl)) ?_; (refine (impl_NetValid.calls k 0 _ _ ([] : List (S30)) false _ ?side1 ?side2 A103.out).mono ?_); (case side1 => exact Kd.C_nil _ _); (case side2 => exact Nat.le_refl _); rintro e w113 ⟨rfl, hb⟩; refine ⟨_, rfl, ?_⟩; have n0_ := Aside0.mk (Kd.R_below (by (with_reducible repeat (first | apply Kd.R_alloc | apply Kd.R_drewN | apply Kd.R_drew)); exact HO195.out) hb); have n1_ := Aside0.mk (blk_below (g := gb196) (o := .cells #[.int .i64 t192, .slice Ao109 t193.length co109] 25 (0, 0)) (by (with_reducible repeat (first | refine blk_drewN ?_ _ | refine blk_drew ?_ | refine blk_alloc ?_ _)); exact BK196.out) hb); have n2_ := Aside0.mk (below_step (by repeat (first | (with_reducible first | exact HB.out | apply below_alloc | apply pw_below_drewN | apply below_drew1 | refine below_set ?_ GE196.out) | exact HB.out)) hb); clear HO195; clear BK196; clear HB; have HO195 := n0_; have BK196 := n1_; have HB := n2_; clear n0_ n1_ n2_; (try clear hb); (try clear hb2); (try clear hk); (try clear hi)) | (go_at_call 15; (with_reducible refine (laws_alive.calls k  t200 _ A105.out).mono ?_); rintro e w114 ⟨rfl, hb⟩; have n0_ := Aside0.mk (Kd.R_below (by (with_reducible repeat (first | apply Kd.R_alloc | apply Kd.R_drewN | apply Kd.R_drew)); exact HO195.out) hb); have n1_ := Aside0.mk (blk_below (g := gb196) (o := .cells #[.int .i64 t192, .slice Ao109 t193.length co109] 25 (0, 0)) (by (with_reducible repeat (first | refine blk_drewN ?_ _ | refine blk_drew ?_ | refine blk_alloc ?_ _)); exact BK196.out) hb); have n2_ := Aside0.mk (below_step (by repeat (first | (with_reducible first | exact HB.out | apply below_alloc | apply pw_below_drewN | apply below_drew1 | refine below_set ?_ GE196.out) | exact HB.out)) hb); clear HO195; clear BK196; clear HB; have HO195 := n0_; have BK196 := n1_; have HB := n2_; clear n0_ n1_ n2_; (try clear hb); (try clear hb2); (try clear hk); (try clear hi)))
     go_ret
     exact ⟨by first | rfl | (simp [errW_none, errW_some] <;> rfl) | (simp [*, errW_none, errW_some] <;> rfl), by repeat (first | (with_reducible first | exact HB.out | apply below_alloc | apply pw_below_drewN | apply below_drew1 | refine below_set ?_ GE196.out) | exact HB.out)⟩

end Go.Proofs.YtlahlfjhfmldaaaDoor.P


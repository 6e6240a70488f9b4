/- Contracts of Go functions of this seat's translation, written by this repo's wip/mk.py: it calls the kit's print.py with contracts typed by hand in place of functions that it does not take. Not trusted: Lean checks it. -/
import Derived.Test.YtlahlfjhfmldaaaDoorP0
import Derived.Test.YtlahlfjhfmldaaaDoorP13
namespace Go.Proofs.YtlahlfjhfmldaaaDoor.P
open Go.RowKit Go.Proofs.YtlahlfjhfmldaaaDoorW.PrintWords Go.Proofs.YtlahlfjhfmldaaaDoorW.PrintLast Go.Proofs.YtlahlfjhfmldaaaDoorW.PrintMore
attribute [local go_sem] max2_int min2_int max_two min_two max_three min_three max_four min_four   -- for this text's walks alone
set_option linter.unusedVariables false
set_option linter.unusedSimpArgs false

/-! ### laws_alive: function 15 -/
def laws_alive.f (k : Nat)  : Option (Bool) := (impl_OtherEnd.f k 2 (([(⟨0, 1, 1⟩ : S30)] : List (S30))) 0 0).bind fun t190 => (if t190 = 1 then ((impl_NetText.f k 0 ([] : List (S30))).bind fun t191 => (some (t191.toList == ([] : List UInt8)))) else (some false))
theorem laws_alive.mono : ∀ k, LeO (laws_alive.f k ) (laws_alive.f (k + 1) ) := by
 intro  k
 unfold laws_alive.f
 repeat' first
   | (with_reducible exact impl_NetText.mono _ _ _)
   | (with_reducible exact impl_OtherEnd.mono _ _ _ _ _)
   | (with_reducible exact LeO.refl _)
   | (with_reducible exact LeO.none _)
   | (with_reducible refine LeO.ite ?_ ?_)
   | (with_reducible refine LeO.bind ?_ (fun _ => ?_))
   | exact impl_NetText.mono _ _ _
   | exact impl_OtherEnd.mono _ _ _ _ _
   | exact LeO.none _
   | refine LeO.ite ?_ ?_
   | refine LeO.bind ?_ (fun _ => ?_)
set_option maxHeartbeats 8000000 in
set_option maxRecDepth 100000 in
theorem laws_alive.calls (k : Nat)  (r : Bool) (w : World) (h : laws_alive.f k  = some r) :
  Calls Tryd.prog 15 #[] w fun e w' => e = .returned (.bool r) ∧ Below w.heap.size w w' := by
 have hu30 := Tryd.underlying30
 have hu25 := Tryd.underlying25
 have HB := Aside0.mk (Below.refl w.heap.size w)
 have H : ((impl_OtherEnd.f k 2 (([(⟨0, 1, 1⟩ : S30)] : List (S30))) 0 0).bind fun t190 => (if t190 = 1 then ((impl_NetText.f k 0 ([] : List (S30))).bind fun t191 => (some (t191.toList == ([] : List UInt8)))) else (some false))) = some r := h
 clear h
 obtain ⟨y187, hy187⟩ : ∃ y_ : List (S30), y_ = (([(⟨0, 1, 1⟩ : S30)] : List (S30))) := ⟨_, rfl⟩
 replace H : ((impl_OtherEnd.f k 2 y187 0 0).bind fun t190 => (if t190 = 1 then ((impl_NetText.f k 0 ([] : List (S30))).bind fun t191 => (some (t191.toList == ([] : List UInt8)))) else (some false))) = some r := by first | (rw [hy187]; with_reducible exact H) | (have H2_ := (Option.bind_some _ _).symm.trans H; rw [hy187]; with_reducible exact H2_) | (have H2_ := (Option.bind_some _ _).symm.trans H; with_reducible exact H2_) | with_reducible exact H | (rw [hy187]; exact H) | exact H
 have Ny187 := Aside0.mk hy187
 clear hy187
 replace H := Option.bind_eq_some_iff.mp H
 obtain ⟨t190, A10, H⟩ := H
 replace H : (if t190 = 1 then ((impl_NetText.f k 0 ([] : List (S30))).bind fun t191 => (some (t191.toList == ([] : List UInt8)))) else (some false)) = some r := H
 have A1 := Aside0.mk A10
 clear A10
 by_cases c2 : t190 = 1
 ·
  rw [if_pos c2] at H
  have c2b0 : (t190 == 1) = true := beq_iff_eq.mpr c2
  have c2b1 : (t190 != 1) = false := bne_eq_false_iff_eq.mpr c2
  clear c2
  replace H := Option.bind_eq_some_iff.mp H
  obtain ⟨t191, A30, H⟩ := H
  replace H : (some (t191.toList == ([] : List UInt8))) = some r := H
  have A3 := Aside0.mk A30
  clear A30
  obtain rfl := Option.some.inj H
  go_enter Tryd.func15, Tryd.ntmps15
  go_wp2_with (first | ((with_reducible refine gate_dst (N := 2) rfl ?_); refine Kd.R_lit k30 _ 30 ?hg (N := 2) ?hd (xs := ([(⟨0, 1, 1⟩ : S30)] : List (S30))) (inner := [.int .i64 0, .int .i64 1, .int .i64 1]) (ok := fun _ => True) (okp := fun _ => True) ?hr ?hp (fun _ hk => hk) trivial (Below.refl _ _) (Nat.le_refl _) (by simp) ?_; (case hd => rfl); (case hg => rfl); (case hr => first | (go_simp; done) | (go_simp; rfl)); (case hp => exact (Reps.c3 (show Kd.M k30 _ _ _ (⟨0, 1, 1⟩ : S30) [.int .i64 0, .int .i64 1, .int .i64 1] from (k30_mkM _ _ _ (⟨0, 1, 1⟩ : S30) )) (Reps.none _ _))); intro v188 w4 ho5 hb hg_ hnew_; clear hg_ hnew_; (first | rw [← Ny187.out] at ho5 | (simp only [Int.reduceToNat] at ho5; rw [← Ny187.out] at ho5)); have n0_ := Aside0.mk (Kd.R_lower ho5 (below_size (by repeat (first | (with_reducible first | exact HB.out | apply below_alloc | apply pw_below_drewN | apply below_drew1) | exact HB.out)))); have n1_ := Aside0.mk (below_step (by repeat (first | (with_reducible first | exact HB.out | apply below_alloc | apply pw_below_drewN | apply below_drew1) | exact HB.out)) hb); clear HB; have HO189 := n0_; have HB := n1_; clear n0_ n1_; clear hb ho5; obtain ⟨Ao6, co6, eo6⟩ := Kd.R_slice HO189.out; subst eo6) | ((with_reducible refine gate_callee (f := 32) rfl ?_); refine goesL_ (some 4) rfl rfl Tryd.func32 (by kernel_rfl) rfl #[.agg #[.int .i64 2, .slice Ao6 y187.length co6], .int .i64 0, .int .i64 0] rfl (by (try simp only [List.map_toArray, List.map_cons, List.map_nil]); first | done | rfl | (simp only [List.length_drop, List.length_take]; rfl)) ?_; (with_reducible refine (impl_OtherEnd.calls k 2 _ _ y187 0 0 t190 _ ?side1 ?side2 A1.out).mono ?_); (case side1 => repeat (first | exact (Kd.R_reads' HO189.out).2.2 | (with_reducible refine Kd.C_alloc ?_ _) | (with_reducible refine Kd.C_drewN ?_ _) | (with_reducible refine Kd.C_drew ?_))); (case side2 => exact (Kd.R_reads' HO189.out).2.1); rintro e w7 ⟨rfl, hb⟩; refine ⟨_, rfl, ?_⟩; have n0_ := Aside0.mk (Kd.R_below (by (with_reducible repeat (first | apply Kd.R_alloc | apply Kd.R_drewN | apply Kd.R_drew)); exact HO189.out) hb); have n1_ := Aside0.mk (below_step (by repeat (first | (with_reducible first | exact HB.out | apply below_alloc | apply pw_below_drewN | apply below_drew1) | exact HB.out)) hb); clear HO189; clear HB; have HO189 := n0_; have HB := n1_; clear n0_ n1_; (try clear hb); (try clear hb2); (try clear hk); (try clear hi)) | (go_at_call 24; (refine (impl_NetText.calls k 0 _ _ ([] : List (S30)) t191 _ ?side1 ?side2 A3.out).mono ?_); (case side1 => exact Kd.C_nil _ _); (case side2 => exact Nat.le_refl _); rintro e w8 ⟨rfl, hb⟩; have n0_ := Aside0.mk (Kd.R_below (by (with_reducible repeat (first | apply Kd.R_alloc | apply Kd.R_drewN | apply Kd.R_drew)); exact HO189.out) hb); have n1_ := Aside0.mk (below_step (by repeat (first | (with_reducible first | exact HB.out | apply below_alloc | apply pw_below_drewN | apply below_drew1) | exact HB.out)) hb); clear HO189; clear HB; have HO189 := n0_; have HB := n1_; clear n0_ n1_; (try clear hb); (try clear hb2); (try clear hk); (try clear hi)))
  go_ret
  exact ⟨by first | rfl | (simp [errW_none, errW_some] <;> rfl) | (simp [*, errW_none, errW_some] <;> rfl), by repeat (first | (with_reducible first | exact HB.out | apply below_alloc | apply pw_below_drewN | apply below_drew1) | exact HB.out)⟩
 ·
  rw [if_neg c2] at H
  have c2b0 : (t190 == 1) = false := beq_eq_false_iff_ne.mpr c2
  have c2b1 : (t190 != 1) = true := bne_iff_ne.mpr c2
  obtain rfl := Option.some.inj H
  go_enter Tryd.func15, Tryd.ntmps15
  go_wp2_with (first | ((with_reducible refine gate_dst (N := 2) rfl ?_); refine Kd.R_lit k30 _ 30 ?hg (N := 2) ?hd (xs := ([(⟨0, 1, 1⟩ : S30)] : List (S30))) (inner := [.int .i64 0, .int .i64 1, .int .i64 1]) (ok := fun _ => True) (okp := fun _ => True) ?hr ?hp (fun _ hk => hk) trivial (Below.refl _ _) (Nat.le_refl _) (by simp) ?_; (case hd => rfl); (case hg => rfl); (case hr => first | (go_simp; done) | (go_simp; rfl)); (case hp => exact (Reps.c3 (show Kd.M k30 _ _ _ (⟨0, 1, 1⟩ : S30) [.int .i64 0, .int .i64 1, .int .i64 1] from (k30_mkM _ _ _ (⟨0, 1, 1⟩ : S30) )) (Reps.none _ _))); intro v188 w9 ho10 hb hg_ hnew_; clear hg_ hnew_; (first | rw [← Ny187.out] at ho10 | (simp only [Int.reduceToNat] at ho10; rw [← Ny187.out] at ho10)); have n0_ := Aside0.mk (Kd.R_lower ho10 (below_size (by repeat (first | (with_reducible first | exact HB.out | apply below_alloc | apply pw_below_drewN | apply below_drew1) | exact HB.out)))); have n1_ := Aside0.mk (below_step (by repeat (first | (with_reducible first | exact HB.out | apply below_alloc | apply pw_below_drewN | apply below_drew1) | exact HB.out)) hb); clear HB; have HO189 := n0_; have HB := n1_; clear n0_ n1_; clear hb ho10; obtain ⟨Ao11, co11, eo11⟩ := Kd.R_slice HO189.out; subst eo11) | ((with_reducible refine gate_callee (f := 32) rfl ?_); refine goesL_ (some 4) rfl rfl Tryd.func32 (by kernel_rfl) rfl #[.agg #[.int .i64 2, .slice Ao11 y187.length co11], .int .i64 0, .int .i64 0] rfl (by (try simp only [List.map_toArray, List.map_cons, List.map_nil]); first | done | rfl | (simp only [List.length_drop, List.length_take]; rfl)) ?_; (with_reducible refine (impl_OtherEnd.calls k 2 _ _ y187 0 0 t190 _ ?side1 ?side2 A1.out).mono ?_); (case side1 => repeat (first | exact (Kd.R_reads' HO189.out).2.2 | (with_reducible refine Kd.C_alloc ?_ _) | (with_reducible refine Kd.C_drewN ?_ _) | (with_reducible refine Kd.C_drew ?_))); (case side2 => exact (Kd.R_reads' HO189.out).2.1); rintro e w12 ⟨rfl, hb⟩; refine ⟨_, rfl, ?_⟩; have n0_ := Aside0.mk (Kd.R_below (by (with_reducible repeat (first | apply Kd.R_alloc | apply Kd.R_drewN | apply Kd.R_drew)); exact HO189.out) hb); have n1_ := Aside0.mk (below_step (by repeat (first | (with_reducible first | exact HB.out | apply below_alloc | apply pw_below_drewN | apply below_drew1) | exact HB.out)) hb); clear HO189; clear HB; have HO189 := n0_; have HB := n1_; clear n0_ n1_; (try clear hb); (try clear hb2); (try clear hk); (try clear hi)))
  go_ret
  exact ⟨by first | rfl | (simp [errW_none, errW_some] <;> rfl) | (simp [*, errW_none, errW_some] <;> rfl), by repeat (first | (with_reducible first | exact HB.out | apply below_alloc | apply pw_below_drewN | apply below_drew1) | exact HB.out)⟩

end Go.Proofs.YtlahlfjhfmldaaaDoor.P

/- Contracts of Go functions of this seat's translation, written by this repo's wip/mk.py: it calls the kit's print.py with contracts typed by hand in place of functions that it does not take. Not trusted: Lean checks it. -/
import Derived.Test.YtlahlfjhfmldaaaDoorP0
import Derived.Test.YtlahlfjhfmldaaaDoorP14
import Derived.Test.YtlahlfjhfmldaaaDoorP18
import Derived.Test.YtlahlfjhfmldaaaDoorP21
namespace Go.Proofs.YtlahlfjhfmldaaaDoor.P
open Go.RowKit Go.Proofs.YtlahlfjhfmldaaaDoorW.PrintWords Go.Proofs.YtlahlfjhfmldaaaDoorW.PrintLast Go.Proofs.YtlahlfjhfmldaaaDoorW.PrintMore
attribute [local go_sem] max2_int min2_int max_two min_two max_three min_three max_four min_four   -- for this text's walks alone
set_option linter.unusedVariables false
set_option linter.unusedSimpArgs false

/-! ### laws_FnStateOf: function 4 -/
def laws_FnStateOf.j0 : Nat → Int → Int → List Bool → Bool → Bool → Option (Bool)
  | 0, _, _, _, _, _ => none
  | k + 1, x3, x4, x5, x6, x39 => if x39 = true then (none) else (if x6 = true then (if 0 ≤ x4 then ((impl_StateOf.f k (shl .i64 1 x4) x4).bind fun bt270 => (if (x5.length : Int) = x4 then ((impl_StateNumber.f k x5).bind fun t274 => (if t274 = x3 then (some (!bt270.2)) else (none))) else (none))) else (none)) else (if (x5.length : Int) = 0 then ((laws_alive.f k).bind fun t275 => (some t275)) else (none)))
def laws_FnStateOf.f (k : Nat) (l0 : List Int) : Option (Bool) := if (l0.length : Int) > 1048576 then (some true) else ((spec_DrawStateOf.f k l0).bind fun bt259 => ((impl_StateOf.f k bt259.1 bt259.2).bind fun bt261 => ((spec_StateOf.f k bt259.1 bt259.2).bind fun bt265 => ((laws_sameBools.f k bt261.1 bt265.1).bind fun t269 => (if t269 = true then (laws_FnStateOf.j0 k bt259.1 bt259.2 bt261.1 bt261.2 (bt261.2 != bt265.2)) else (laws_FnStateOf.j0 k bt259.1 bt259.2 bt261.1 bt261.2 true))))))
theorem laws_FnStateOf.mono_l : ∀ k, (∀ y0 y1 y2 y3 y4, LeO (laws_FnStateOf.j0 k y0 y1 y2 y3 y4) (laws_FnStateOf.j0 (k + 1) y0 y1 y2 y3 y4))
  | 0 => fun _ _ _ _ _ r h => by simp [laws_FnStateOf.j0] at h
  | k + 1 => by
    have ih0 := laws_FnStateOf.mono_l k
    · intro y0 y1 y2 y3 y4
      unfold laws_FnStateOf.j0
      repeat' first
      | (with_reducible exact ih0 _ _ _ _ _)
      | (with_reducible exact impl_StateNumber.mono _ _)
      | (with_reducible exact impl_StateOf.mono _ _ _)
      | (with_reducible exact laws_alive.mono _)
      | (with_reducible exact laws_sameBools.mono _ _ _)
      | (with_reducible exact spec_DrawStateOf.mono _ _)
      | (with_reducible exact spec_StateOf.mono _ _ _)
      | (with_reducible exact LeO.refl _)
      | (with_reducible exact LeO.none _)
      | (with_reducible refine LeO.ite ?_ ?_)
      | (with_reducible refine LeO.bind ?_ (fun _ => ?_))
      | exact ih0 _ _ _ _ _
      | exact impl_StateNumber.mono _ _
      | exact impl_StateOf.mono _ _ _
      | exact laws_alive.mono _
      | exact laws_sameBools.mono _ _ _
      | exact spec_DrawStateOf.mono _ _
      | exact spec_StateOf.mono _ _ _
      | exact LeO.none _
      | refine LeO.ite ?_ ?_
      | refine LeO.bind ?_ (fun _ => ?_)
theorem laws_FnStateOf.mono : ∀ a0 k, LeO (laws_FnStateOf.f k a0) (laws_FnStateOf.f (k + 1) a0) := by
  intro a0 k
  have ih0 := laws_FnStateOf.mono_l k
  unfold laws_FnStateOf.f
  repeat' first
      | (with_reducible exact ih0 _ _ _ _ _)
      | (with_reducible exact impl_StateNumber.mono _ _)
      | (with_reducible exact impl_StateOf.mono _ _ _)
      | (with_reducible exact laws_alive.mono _)
      | (with_reducible exact laws_sameBools.mono _ _ _)
      | (with_reducible exact spec_DrawStateOf.mono _ _)
      | (with_reducible exact spec_StateOf.mono _ _ _)
      | (with_reducible exact LeO.refl _)
      | (with_reducible exact LeO.none _)
      | (with_reducible refine LeO.ite ?_ ?_)
      | (with_reducible refine LeO.bind ?_ (fun _ => ?_))
      | exact ih0 _ _ _ _ _
      | exact impl_StateNumber.mono _ _
      | exact impl_StateOf.mono _ _ _
      | exact laws_alive.mono _
      | exact laws_sameBools.mono _ _ _
      | exact spec_DrawStateOf.mono _ _
      | exact spec_StateOf.mono _ _ _
      | exact LeO.none _
      | refine LeO.ite ?_ ?_
      | refine LeO.bind ?_ (fun _ => ?_)
set_option maxHeartbeats 8000000 in
set_option maxRecDepth 100000 in
theorem laws_FnStateOf.calls (k : Nat) (A0 : Option Addr) (c0 : Nat) (l0 : List Int) (r : Bool) (w : World) (hr0 : Kd.C (Kd.int .u8) w A0 l0.length l0) (hc0 : l0.length ≤ c0) (h : laws_FnStateOf.f k l0 = some r) :
    Calls Tryd.prog 4 #[.slice A0 l0.length c0] w fun e w' => e = .returned (.bool r) ∧ Below w.heap.size w w' := by
  have HR0 := Aside0.mk hr0
  have HC0 := Aside0.mk hc0
  clear hr0 hc0
  have HB := Aside0.mk (Below.refl w.heap.size w)
  have H : (if (l0.length : Int) > 1048576 then (some true) else ((spec_DrawStateOf.f k l0).bind fun bt259 => ((impl_StateOf.f k bt259.1 bt259.2).bind fun bt261 => ((spec_StateOf.f k bt259.1 bt259.2).bind fun bt265 => ((laws_sameBools.f k bt261.1 bt265.1).bind fun t269 => (if t269 = true then (laws_FnStateOf.j0 k bt259.1 bt259.2 bt261.1 bt261.2 (bt261.2 != bt265.2)) else (laws_FnStateOf.j0 k bt259.1 bt259.2 bt261.1 bt261.2 true))))))) = some r := h
  clear h
  by_cases c2 : (l0.length : Int) > 1048576
  · rw [if_pos c2] at H
    have c2b0 : decide (1048576 < (l0.length : Int)) = true := decide_eq_true c2
    have c2b1 : decide (1048576 < l0.length) = true := decide_eq_true (by omega)
    clear c2
    obtain rfl := Option.some.inj H
    go_enter Tryd.func4, Tryd.ntmps4
    go_wp2
    go_ret
    exact ⟨by first | rfl | (simp [errW_none, errW_some] <;> rfl) | (simp [*, errW_none, errW_some] <;> rfl), by repeat (first | (with_reducible first | exact HB.out | apply below_alloc | apply pw_below_drewN | apply below_drew1) | exact HB.out)⟩
  · rw [if_neg c2] at H
    have c2b0 : decide (1048576 < (l0.length : Int)) = false := decide_eq_false c2
    have c2b1 : decide (1048576 < l0.length) = false := decide_eq_false (by omega)
    clear c2
    replace H := Option.bind_eq_some_iff.mp H
    obtain ⟨⟨t259, t260⟩, A30, H⟩ := H
    replace H : ((impl_StateOf.f k t259 t260).bind fun bt261 => ((spec_StateOf.f k t259 t260).bind fun bt265 => ((laws_sameBools.f k bt261.1 bt265.1).bind fun t269 => (if t269 = true then (laws_FnStateOf.j0 k t259 t260 bt261.1 bt261.2 (bt261.2 != bt265.2)) else (laws_FnStateOf.j0 k t259 t260 bt261.1 bt261.2 true))))) = some r := H
    have A3 := Aside0.mk A30
    clear A30
    replace H := Option.bind_eq_some_iff.mp H
    obtain ⟨⟨t261, t262⟩, A40, H⟩ := H
    replace H : ((spec_StateOf.f k t259 t260).bind fun bt265 => ((laws_sameBools.f k t261 bt265.1).bind fun t269 => (if t269 = true then (laws_FnStateOf.j0 k t259 t260 t261 t262 (t262 != bt265.2)) else (laws_FnStateOf.j0 k t259 t260 t261 t262 true)))) = some r := H
    have A4 := Aside0.mk A40
    clear A40
    replace H := Option.bind_eq_some_iff.mp H
    obtain ⟨⟨t265, t266⟩, A50, H⟩ := H
    replace H : ((laws_sameBools.f k t261 t265).bind fun t269 => (if t269 = true then (laws_FnStateOf.j0 k t259 t260 t261 t262 (t262 != t266)) else (laws_FnStateOf.j0 k t259 t260 t261 t262 true))) = some r := H
    have A5 := Aside0.mk A50
    clear A50
    have HC6 := Aside0.mk H
    clear H
    go_enter Tryd.func4, Tryd.ntmps4
    go_upto_region 6 with (first | ((with_reducible refine gate_callee (f := 16) rfl ?_); refine goesL_ (some 16) rfl rfl Tryd.func16 (by kernel_rfl) rfl #[.slice A0 l0.length c0] rfl (by (try simp only [List.map_toArray, List.map_cons, List.map_nil]); first | done | rfl | (simp only [List.length_drop, List.length_take]; rfl)) ?_; (with_reducible refine (spec_DrawStateOf.calls k _ _ l0 t259 t260 _ ?side1 ?side2 A3.out).mono ?_); (case side1 => repeat (first | exact HR0.out | (with_reducible refine Kd.C_alloc ?_ _) | (with_reducible refine Kd.C_drewN ?_ _) | (with_reducible refine Kd.C_drew ?_))); (case side2 => exact HC0.out); rintro e w7 ⟨rfl, hb⟩; refine ⟨_, rfl, ?_⟩; have n0_ := Aside0.mk (below_step (by repeat (first | (with_reducible first | exact HB.out | apply below_alloc | apply pw_below_drewN | apply below_drew1) | exact HB.out)) hb); clear HB; have HB := n0_; clear n0_; (try clear hb); (try clear hb2); (try clear hk); (try clear hi)) | ((with_reducible refine gate_callee (f := 17) rfl ?_); refine goesL_ (some 22) rfl rfl Tryd.func17 (by kernel_rfl) rfl #[.int .i64 t259, .int .i64 t260] rfl (by (try simp only [List.map_toArray, List.map_cons, List.map_nil]); first | done | rfl | (simp only [List.length_drop, List.length_take]; rfl)) ?_; (with_reducible refine (impl_StateOf.calls k t259 t260 t261 t262 _ A4.out).mono ?_); rintro e w8 ⟨v263, rfl, ho0, hb⟩; refine ⟨_, rfl, ?_⟩; have n0_ := Aside0.mk (Kd.R_lower ho0 (below_size (by repeat (first | (with_reducible first | exact HB.out | apply below_alloc | apply pw_below_drewN | apply below_drew1) | exact HB.out)))); have n1_ := Aside0.mk (below_step (by repeat (first | (with_reducible first | exact HB.out | apply below_alloc | apply pw_below_drewN | apply below_drew1) | exact HB.out)) hb); clear HB; have HO264 := n0_; have HB := n1_; clear n0_ n1_; (try clear hb); (try clear hb2); (try clear hk); (try clear hi); (try clear ho0)) | ((with_reducible refine gate_callee (f := 18) rfl ?_); refine goesL_ (some 28) rfl rfl Tryd.func18 (by kernel_rfl) rfl #[.int .i64 t259, .int .i64 t260] rfl (by (try simp only [List.map_toArray, List.map_cons, List.map_nil]); first | done | rfl | (simp only [List.length_drop, List.length_take]; rfl)) ?_; (with_reducible refine (spec_StateOf.calls k t259 t260 t265 t266 _ A5.out).mono ?_); rintro e w9 ⟨v267, rfl, ho0, hb⟩; refine ⟨_, rfl, ?_⟩; have n0_ := Aside0.mk (Kd.R_elder' (by (with_reducible repeat (first | apply Kd.R_alloc | apply Kd.R_drewN | apply Kd.R_drew)); exact HO264.out) (Kd.R_base ho0) hb); have n1_ := Aside0.mk (Kd.R_lower (Kd.R_new' ho0 (Kd.R_lt (by (with_reducible repeat (first | apply Kd.R_alloc | apply Kd.R_drewN | apply Kd.R_drew)); exact HO264.out))) (below_size (by repeat (first | (with_reducible first | exact HB.out | apply below_alloc | apply pw_below_drewN | apply below_drew1) | exact HB.out)))); have n2_ := Aside0.mk (below_step (by repeat (first | (with_reducible first | exact HB.out | apply below_alloc | apply pw_below_drewN | apply below_drew1) | exact HB.out)) hb); clear HO264; clear HB; have HO264 := n0_; have HO268 := n1_; have HB := n2_; clear n0_ n1_ n2_; (try clear hb); (try clear hb2); (try clear hk); (try clear hi); (try clear ho0)))
    (try simp only [Act.put, List.setIfInBounds_toArray, List.set_cons_zero, List.set_cons_succ])
    go_cut [39] (fun v39 wc => ∃ (kq : Nat) (x39_5 : Bool), v39 = .bool x39_5 ∧ Aside0 (laws_FnStateOf.j0 kq t259 t260 t261 t262 x39_5 = some r) ∧ Aside0 (kq ≤ k) ∧ Aside0 (Kd.R Kd.bool 4 wc w.heap.size (fun _ => True) v263 t261) ∧ Aside0 (Below w.heap.size w wc))
    case first =>
      have H := HC6.out
      clear HC6
      replace H := Option.bind_eq_some_iff.mp H
      obtain ⟨t269, A100, H⟩ := H
      replace H : (if t269 = true then (laws_FnStateOf.j0 k t259 t260 t261 t262 (t262 != t266)) else (laws_FnStateOf.j0 k t259 t260 t261 t262 true)) = some r := H
      have A10 := Aside0.mk A100
      clear A100
      by_cases c11 : t269 = true
      · subst c11
        have H1 : (laws_FnStateOf.j0 k t259 t260 t261 t262 (t262 != t266)) = some r := by rw [if_pos rfl] at H; exact H
        clear H
        have H := H1
        clear H1
        have H' := Aside0.mk H
        clear H
        obtain ⟨Ao12, co12, eo12⟩ := Kd.R_slice HO264.out
        subst eo12
        obtain ⟨Ao13, co13, eo13⟩ := Kd.R_slice HO268.out
        subst eo13
        go_wp2_with (first | ((with_reducible refine gate_callee (f := 19) rfl ?_); refine goesL_ (some 33) rfl rfl Tryd.func19 (by kernel_rfl) rfl #[.slice Ao12 t261.length co12, .slice Ao13 t265.length co13] rfl (by (try simp only [List.map_toArray, List.map_cons, List.map_nil]); first | done | rfl | (simp only [List.length_drop, List.length_take]; rfl)) ?_; (with_reducible refine (laws_sameBools.calls k _ _ t261 _ _ t265 true _ ?side1 ?side2 ?side3 ?side4 A10.out).mono ?_); (case side1 => repeat (first | exact (Kd.R_reads' HO264.out).2.2 | (with_reducible refine Kd.C_alloc ?_ _) | (with_reducible refine Kd.C_drewN ?_ _) | (with_reducible refine Kd.C_drew ?_))); (case side2 => exact (Kd.R_reads' HO264.out).2.1); (case side3 => repeat (first | exact (Kd.R_reads' HO268.out).2.2 | (with_reducible refine Kd.C_alloc ?_ _) | (with_reducible refine Kd.C_drewN ?_ _) | (with_reducible refine Kd.C_drew ?_))); (case side4 => exact (Kd.R_reads' HO268.out).2.1); rintro e w' ⟨rfl, ⟨nd, rfl⟩⟩; refine ⟨_, rfl, ?_⟩))
        go_meet
        case rel => exact ⟨_, ((t262 != t266)), (by first | rfl | (simp; done) | (simp [*]; done)), H', ⟨by first | omega | exact Nat.le_refl _⟩, ⟨by (with_reducible repeat (first | apply Kd.R_alloc | apply Kd.R_drewN | apply Kd.R_drew)); exact Kd.R_mono HO264.out (fun _ hk => trivial)⟩, ⟨by repeat (first | (with_reducible first | exact HB.out | apply below_alloc | apply pw_below_drewN | apply below_drew1) | exact HB.out)⟩⟩
      · replace c11 := Bool.eq_false_iff.mpr c11
        subst c11
        have H1 : (laws_FnStateOf.j0 k t259 t260 t261 t262 true) = some r := by rw [if_neg (show ¬ (false = true) by decide)] at H; exact H
        clear H
        have H := H1
        clear H1
        have H' := Aside0.mk H
        clear H
        obtain ⟨Ao14, co14, eo14⟩ := Kd.R_slice HO264.out
        subst eo14
        obtain ⟨Ao15, co15, eo15⟩ := Kd.R_slice HO268.out
        subst eo15
        go_wp2_with (first | ((with_reducible refine gate_callee (f := 19) rfl ?_); refine goesL_ (some 33) rfl rfl Tryd.func19 (by kernel_rfl) rfl #[.slice Ao14 t261.length co14, .slice Ao15 t265.length co15] rfl (by (try simp only [List.map_toArray, List.map_cons, List.map_nil]); first | done | rfl | (simp only [List.length_drop, List.length_take]; rfl)) ?_; (with_reducible refine (laws_sameBools.calls k _ _ t261 _ _ t265 false _ ?side1 ?side2 ?side3 ?side4 A10.out).mono ?_); (case side1 => repeat (first | exact (Kd.R_reads' HO264.out).2.2 | (with_reducible refine Kd.C_alloc ?_ _) | (with_reducible refine Kd.C_drewN ?_ _) | (with_reducible refine Kd.C_drew ?_))); (case side2 => exact (Kd.R_reads' HO264.out).2.1); (case side3 => repeat (first | exact (Kd.R_reads' HO268.out).2.2 | (with_reducible refine Kd.C_alloc ?_ _) | (with_reducible refine Kd.C_drewN ?_ _) | (with_reducible refine Kd.C_drew ?_))); (case side4 => exact (Kd.R_reads' HO268.out).2.1); rintro e w' ⟨rfl, ⟨nd, rfl⟩⟩; refine ⟨_, rfl, ?_⟩))
        go_meet
        case rel => exact ⟨_, (true), (by first | rfl | (simp; done) | (simp [*]; done)), H', ⟨by first | omega | exact Nat.le_refl _⟩, ⟨by (with_reducible repeat (first | apply Kd.R_alloc | apply Kd.R_drewN | apply Kd.R_drew)); exact Kd.R_mono HO264.out (fun _ hk => trivial)⟩, ⟨by repeat (first | (with_reducible first | exact HB.out | apply below_alloc | apply pw_below_drewN | apply below_drew1) | exact HB.out)⟩⟩
    case rest =>
      clear HC6
      try clear c1
      try clear c2
      try clear c2b0
      try clear c2b1
      try clear p2
      try clear c4
      try clear c11
      obtain ⟨kq, x39_5, rfl, HA, HJ5, HO_5, HB⟩ := hcut
      cases kq with
      | zero => exact absurd HA.out (by simp [laws_FnStateOf.j0])
      | succ kj5 =>
        have H := HA.out
        clear HA
        simp only [laws_FnStateOf.j0] at H
        by_cases c16 : x39_5 = true
        · subst c16
          have H1 : (none) = some r := by rw [if_pos rfl] at H; exact H
          clear H
          have H := H1
          clear H1
          exact absurd H (by simp)
        · replace c16 := Bool.eq_false_iff.mpr c16
          subst c16
          have H1 : (if t262 = true then (if 0 ≤ t260 then ((impl_StateOf.f kj5 (shl .i64 1 t260) t260).bind fun bt270 => (if (t261.length : Int) = t260 then ((impl_StateNumber.f kj5 t261).bind fun t274 => (if t274 = t259 then (some (!bt270.2)) else (none))) else (none))) else (none)) else (if (t261.length : Int) = 0 then ((laws_alive.f kj5).bind fun t275 => (some t275)) else (none))) = some r := by rw [if_neg (show ¬ (false = true) by decide)] at H; exact H
          clear H
          have H := H1
          clear H1
          by_cases c17 : t262 = true
          · subst c17
            have H1 : (if 0 ≤ t260 then ((impl_StateOf.f kj5 (shl .i64 1 t260) t260).bind fun bt270 => (if (t261.length : Int) = t260 then ((impl_StateNumber.f kj5 t261).bind fun t274 => (if t274 = t259 then (some (!bt270.2)) else (none))) else (none))) else (none)) = some r := by rw [if_pos rfl] at H; exact H
            clear H
            have H := H1
            clear H1
            by_cases c18 : 0 ≤ t260
            · rw [if_pos c18] at H
              have c18b0 := eq_true c18
              have c18b1 : decide (0 ≤ t260) = true := decide_eq_true c18
              clear c18
              obtain ⟨ji19, hji19⟩ : ∃ j_ : Int, (shl .i64 1 t260) = j_ := ⟨_, rfl⟩
              replace H : ((impl_StateOf.f kj5 (ji19) t260).bind fun bt270 => (if (t261.length : Int) = t260 then ((impl_StateNumber.f kj5 t261).bind fun t274 => (if t274 = t259 then (some (!bt270.2)) else (none))) else (none))) = some r := by first | (rw [hji19] at H; exact H) | (simp only [hji19] at H ⊢; exact H)
              have hji19_ : (IntKind.i64.wrap (1 * 2 ^ min t260.toNat 64)) = ji19 := hji19
              have hji19z : t260 ≤ 64 → (IntKind.i64.wrap (1 * 2 ^ t260.toNat)) = ji19 := shl_small hji19
              have hji19u : (IntKind.i64.wrap (2 ^ min t260.toNat 64)) = ji19 := by have h_ := hji19_; rw [Int.one_mul] at h_; exact h_
              have hji19v : t260 ≤ 64 → (IntKind.i64.wrap (2 ^ t260.toNat)) = ji19 := fun hle_ => by have h_ := hji19z hle_; rw [Int.one_mul] at h_; exact h_
              have hji19y : (wrap64 (1 * 2 ^ min t260.toNat 64)) = ji19 := (i64_w _).symm.trans hji19_
              have hji19x : t260 ≤ 64 → (wrap64 (1 * 2 ^ t260.toNat)) = ji19 := fun h_ => (i64_w _).symm.trans (hji19z h_)
              replace H := Option.bind_eq_some_iff.mp H
              obtain ⟨⟨t270, t271⟩, A200, H⟩ := H
              replace H : (if (t261.length : Int) = t260 then ((impl_StateNumber.f kj5 t261).bind fun t274 => (if t274 = t259 then (some (!t271)) else (none))) else (none)) = some r := H
              have A20 := Aside0.mk A200
              clear A200
              by_cases c21 : (t261.length : Int) = t260
              · rw [if_pos c21] at H
                have c21b0 : ((t261.length : Int) == t260) = true := beq_iff_eq.mpr c21
                have c21b1 : ((t261.length : Int) != t260) = false := bne_eq_false_iff_eq.mpr c21
                clear c21
                replace H := Option.bind_eq_some_iff.mp H
                obtain ⟨t274, A220, H⟩ := H
                replace H : (if t274 = t259 then (some (!t271)) else (none)) = some r := H
                have A22 := Aside0.mk A220
                clear A220
                by_cases c23 : t274 = t259
                · rw [if_pos c23] at H
                  have c23b0 : (t274 == t259) = true := beq_iff_eq.mpr c23
                  have c23b1 : (t274 != t259) = false := bne_eq_false_iff_eq.mpr c23
                  clear c23
                  obtain rfl := Option.some.inj H
                  go_wp2_with (first | ((with_reducible refine gate_callee (f := 17) rfl ?_); refine goesL_ (some 52) rfl rfl Tryd.func17 (by kernel_rfl) rfl #[.int .i64 ji19, .int .i64 t260] rfl (by (try simp only [List.map_toArray, List.map_cons, List.map_nil]); first | done | (simp only [hji19]; rfl) | rfl | (simp only [List.length_drop, List.length_take]; rfl)) ?_; (with_reducible refine (impl_StateOf.calls kj5 ji19 t260 t270 t271 _ A20.out).mono ?_); rintro e w24 ⟨v272, rfl, ho0, hb⟩; refine ⟨_, rfl, ?_⟩; have n0_ := Aside0.mk (Kd.R_elder' (by (with_reducible repeat (first | apply Kd.R_alloc | apply Kd.R_drewN | apply Kd.R_drew)); exact HO_5.out) (Kd.R_base ho0) hb); have n1_ := Aside0.mk (Kd.R_lower (Kd.R_new' ho0 (Kd.R_lt (by (with_reducible repeat (first | apply Kd.R_alloc | apply Kd.R_drewN | apply Kd.R_drew)); exact HO_5.out))) (below_size (by repeat (first | (with_reducible first | exact HB.out | apply below_alloc | apply pw_below_drewN | apply below_drew1) | exact HB.out)))); have n2_ := Aside0.mk (below_step (by repeat (first | (with_reducible first | exact HB.out | apply below_alloc | apply pw_below_drewN | apply below_drew1) | exact HB.out)) hb); clear HO_5; clear HB; have HO_5 := n0_; have HO273 := n1_; have HB := n2_; clear n0_ n1_ n2_; (try clear hb); (try clear hb2); (try clear hk); (try clear hi); (try clear ho0); obtain ⟨Ao25, co25, eo25⟩ := Kd.R_slice HO_5.out; subst eo25) | (go_at_call 20; (with_reducible refine (impl_StateNumber.calls kj5 _ _ t261 t274 _ ?side1 ?side2 A22.out).mono ?_); (case side1 => repeat (first | exact (Kd.R_reads' HO_5.out).2.2 | (with_reducible refine Kd.C_alloc ?_ _) | (with_reducible refine Kd.C_drewN ?_ _) | (with_reducible refine Kd.C_drew ?_))); (case side2 => exact (Kd.R_reads' HO_5.out).2.1); rintro e w' ⟨rfl, ⟨nd, rfl⟩⟩))
                  go_ret
                  exact ⟨by first | rfl | (simp [errW_none, errW_some] <;> rfl) | (simp only [← hji19]; first | rfl | (simp [errW_none, errW_some] <;> rfl)) | (simp [*, errW_none, errW_some] <;> rfl), by repeat (first | (with_reducible first | exact HB.out | apply below_alloc | apply pw_below_drewN | apply below_drew1) | exact HB.out)⟩
                · rw [if_neg c23] at H
                  exact absurd H (by simp)
              · rw [if_neg c21] at H
                exact absurd H (by simp)
            · rw [if_neg c18] at H
              exact absurd H (by simp)
          · replace c17 := Bool.eq_false_iff.mpr c17
            subst c17
            have H1 : (if (t261.length : Int) = 0 then ((laws_alive.f kj5).bind fun t275 => (some t275)) else (none)) = some r := by rw [if_neg (show ¬ (false = true) by decide)] at H; exact H
            clear H
            have H := H1
            clear H1
            by_cases c26 : (t261.length : Int) = 0
            · rw [if_pos c26] at H
              have c26b0 : ((t261.length : Int) == 0) = true := beq_iff_eq.mpr c26
              have c26b1 : ((t261.length : Int) != 0) = false := bne_eq_false_iff_eq.mpr c26
              clear c26
              replace H := Option.bind_eq_some_iff.mp H
              obtain ⟨t275, A270, H⟩ := H
              replace H : (some t275) = some r := H
              have A27 := Aside0.mk A270
              clear A270
              obtain rfl := Option.some.inj H
              obtain ⟨Ao28, co28, eo28⟩ := Kd.R_slice HO_5.out
              subst eo28
              go_wp2_with (first | (go_at_call 15; (with_reducible refine (laws_alive.calls kj5  t275 _ A27.out).mono ?_); rintro e w29 ⟨rfl, hb⟩; have n0_ := Aside0.mk (Kd.R_below (by (with_reducible repeat (first | apply Kd.R_alloc | apply Kd.R_drewN | apply Kd.R_drew)); exact HO_5.out) hb); have n1_ := Aside0.mk (below_step (by repeat (first | (with_reducible first | exact HB.out | apply below_alloc | apply pw_below_drewN | apply below_drew1) | exact HB.out)) hb); clear HO_5; clear HB; have HO_5 := n0_; have HB := n1_; clear n0_ n1_; (try clear hb); (try clear hb2); (try clear hk); (try clear hi)))
              go_ret
              exact ⟨by first | rfl | (simp [errW_none, errW_some] <;> rfl) | (simp [*, errW_none, errW_some] <;> rfl), by repeat (first | (with_reducible first | exact HB.out | apply below_alloc | apply pw_below_drewN | apply below_drew1) | exact HB.out)⟩
            · rw [if_neg c26] at H
              exact absurd H (by simp)

end Go.Proofs.YtlahlfjhfmldaaaDoor.P
namespace Go.Proofs.YtlahlfjhfmldaaaDoor.P
open Go.RowKit Go.Proofs.YtlahlfjhfmldaaaDoorW.PrintWords Go.Proofs.YtlahlfjhfmldaaaDoorW.PrintLast Go.Proofs.YtlahlfjhfmldaaaDoorW.PrintMore
attribute [local go_sem] max2_int min2_int max_two min_two max_three min_three max_four min_four   -- for this text's walks alone
set_option linter.unusedVariables false
set_option linter.unusedSimpArgs false

/-! ### laws_szLineS: function 52 -/
def laws_szLineS.f (l0 : List (S91)) (a1 : Int) : Option (Int) := if (wrap64 (a1 - (l0.length : Int))) < 0 then (some (-1)) else (some (wrap64 (a1 - (l0.length : Int))))
set_option maxHeartbeats 8000000 in
set_option maxRecDepth 100000 in
theorem laws_szLineS.calls (A0 : Option Addr) (c0 : Nat) (l0 : List (S91)) (a1 : Int) (r : Int) (w : World) (hr0 : Kd.C k91 w A0 l0.length l0) (hc0 : l0.length ≤ c0) (h : laws_szLineS.f l0 a1 = some r) :
    Calls Tryd.prog 52 #[.slice A0 l0.length c0, .int .i64 a1] w fun e w' => e = .returned (.int .i64 r) ∧ Drawn0 w w' := by
  have HR0 := Aside0.mk hr0
  have HC0 := Aside0.mk hc0
  clear hr0 hc0
  have H : (if (wrap64 (a1 - (l0.length : Int))) < 0 then (some (-1)) else (some (wrap64 (a1 - (l0.length : Int))))) = some r := h
  clear h
  by_cases c3 : (wrap64 (a1 - (l0.length : Int))) < 0
  · rw [if_pos c3] at H
    have c3b0 : decide ((wrap64 (a1 - (l0.length : Int))) < 0) = true := decide_eq_true c3
    clear c3
    obtain rfl := Option.some.inj H
    go_enter Tryd.func52, Tryd.ntmps52
    go_wp2
    go_ret
    exact ⟨by first | rfl | (simp; done) | (simp [*]; done), by repeat (first | exact Drawn0.refl _ | apply Drawn0.step)⟩
  · rw [if_neg c3] at H
    have c3b0 : decide ((wrap64 (a1 - (l0.length : Int))) < 0) = false := decide_eq_false c3
    clear c3
    obtain rfl := Option.some.inj H
    go_enter Tryd.func52, Tryd.ntmps52
    go_wp2
    go_ret
    exact ⟨by first | rfl | (simp; done) | (simp [*]; done), by repeat (first | exact Drawn0.refl _ | apply Drawn0.step)⟩

end Go.Proofs.YtlahlfjhfmldaaaDoor.P
namespace Go.Proofs.YtlahlfjhfmldaaaDoor.P
open Go.RowKit Go.Proofs.YtlahlfjhfmldaaaDoorW.PrintWords Go.Proofs.YtlahlfjhfmldaaaDoorW.PrintLast Go.Proofs.YtlahlfjhfmldaaaDoorW.PrintMore
attribute [local go_sem] max2_int min2_int max_two min_two max_three min_three max_four min_four   -- for this text's walks alone
set_option linter.unusedVariables false
set_option linter.unusedSimpArgs false

/-! ### laws_szNet: function 21 -/
def laws_szNet.f (a0_0 : Int) (l0_1 : List (S91)) (a1 : Int) : Option (Int) := (laws_szLineS.f l0_1 a1).bind fun t277 => (if t277 < 0 then (some (-1)) else (some t277))
set_option maxHeartbeats 8000000 in
set_option maxRecDepth 100000 in
theorem laws_szNet.calls (a0_0 : Int) (A0_1 : Option Addr) (c0_1 : Nat) (l0_1 : List (S91)) (a1 : Int) (r : Int) (w : World) (hr0_1 : Kd.C k91 w A0_1 l0_1.length l0_1) (hc0_1 : l0_1.length ≤ c0_1) (h : laws_szNet.f a0_0 l0_1 a1 = some r) :
    Calls Tryd.prog 21 #[.agg #[.int .i64 a0_0, .slice A0_1 l0_1.length c0_1], .int .i64 a1] w fun e w' => e = .returned (.int .i64 r) ∧ Below w.heap.size w w' := by
  have hu41 := Tryd.underlying41
  have HR0_1 := Aside0.mk hr0_1
  have HC0_1 := Aside0.mk hc0_1
  clear hr0_1 hc0_1
  have HB := Aside0.mk (Below.refl w.heap.size w)
  have H : ((laws_szLineS.f l0_1 a1).bind fun t277 => (if t277 < 0 then (some (-1)) else (some t277))) = some r := h
  clear h
  replace H := Option.bind_eq_some_iff.mp H
  obtain ⟨t277, A30, H⟩ := H
  replace H : (if t277 < 0 then (some (-1)) else (some t277)) = some r := H
  have A3 := Aside0.mk A30
  clear A30
  by_cases c4 : t277 < 0
  · rw [if_pos c4] at H
    have c4b0 : decide (t277 < 0) = true := decide_eq_true c4
    clear c4
    obtain rfl := Option.some.inj H
    go_enter Tryd.func21, Tryd.ntmps21
    go_wp2_with (first | ((with_reducible refine gate_dst (N := 2) rfl ?_); refine box_event ?hg (N := 2) ?hd (cs := #[.int .i64 a0_0, .slice A0_1 l0_1.length c0_1]) (t := 41) ?hr ?_; (case hd => rfl); (case hg => rfl); (case hr => first | (go_simp; done) | (go_simp; rfl)); intro gb276 hg w5 hbox hb; have n0_ := Aside0.mk (below_step (by repeat (first | (with_reducible first | exact HB.out | apply below_alloc | apply pw_below_drewN | apply below_drew1) | exact HB.out)) hb); have n1_ := Aside0.mk (hbox); have n2_ := Aside0.mk ((by rw [hg]; exact (below_size (by repeat (first | (with_reducible first | exact HB.out | apply below_alloc | apply pw_below_drewN | apply below_drew1) | exact HB.out))) : w.heap.size ≤ gb276)); have n3_ := Aside0.mk ((by rw [hg]; exact (below_size (by repeat (first | (with_reducible first | exact HB.out | apply below_alloc | apply pw_below_drewN | apply below_drew1) | exact HB.out))) : w.heap.size ≤ gb276)); clear HB; have HB := n0_; have BK276 := n1_; have GW276 := n2_; have GE276 := n3_; clear n0_ n1_ n2_ n3_; clear hb hbox hg; have hcz6_0 : w5.cell? ⟨gb276, 0, none⟩ = some (.int .i64 a0_0) := (blk_cell BK276.out 0).trans rfl; have hcz6_1 : w5.cell? ⟨gb276, 1, none⟩ = some (.slice A0_1 l0_1.length c0_1) := (blk_cell BK276.out 1).trans rfl; have hfz6_0 := blk_frozen BK276.out 0; have hfz6_1 := blk_frozen BK276.out 1) | ((with_reducible refine gate_callee (f := 52) rfl ?_); refine goesL_ (some 8) rfl rfl Tryd.func52 (by kernel_rfl) rfl #[.slice A0_1 l0_1.length c0_1, .int .i64 a1] rfl (by (try simp only [List.map_toArray, List.map_cons, List.map_nil]); first | done | rfl | (simp only [List.length_drop, List.length_take]; rfl)) ?_; (with_reducible refine (laws_szLineS.calls _ _ l0_1 a1 t277 _ ?side1 ?side2 A3.out).mono ?_); (case side1 => repeat (first | exact (Kd.C_below HR0_1.out HB.out) | (with_reducible refine Kd.C_alloc ?_ _) | (with_reducible refine Kd.C_drewN ?_ _) | (with_reducible refine Kd.C_drew ?_))); (case side2 => exact HC0_1.out); rintro e w' ⟨rfl, ⟨nd, rfl⟩⟩; refine ⟨_, rfl, ?_⟩))
    go_ret
    exact ⟨by first | rfl | (simp [errW_none, errW_some] <;> rfl) | (simp [*, errW_none, errW_some] <;> rfl), by repeat (first | (with_reducible first | exact HB.out | apply below_alloc | apply pw_below_drewN | apply below_drew1 | refine below_set ?_ GE276.out) | exact HB.out)⟩
  · rw [if_neg c4] at H
    have c4b0 : decide (t277 < 0) = false := decide_eq_false c4
    clear c4
    obtain rfl := Option.some.inj H
    go_enter Tryd.func21, Tryd.ntmps21
    go_wp2_with (first | ((with_reducible refine gate_dst (N := 2) rfl ?_); refine box_event ?hg (N := 2) ?hd (cs := #[.int .i64 a0_0, .slice A0_1 l0_1.length c0_1]) (t := 41) ?hr ?_; (case hd => rfl); (case hg => rfl); (case hr => first | (go_simp; done) | (go_simp; rfl)); intro gb276 hg w7 hbox hb; have n0_ := Aside0.mk (below_step (by repeat (first | (with_reducible first | exact HB.out | apply below_alloc | apply pw_below_drewN | apply below_drew1) | exact HB.out)) hb); have n1_ := Aside0.mk (hbox); have n2_ := Aside0.mk ((by rw [hg]; exact (below_size (by repeat (first | (with_reducible first | exact HB.out | apply below_alloc | apply pw_below_drewN | apply below_drew1) | exact HB.out))) : w.heap.size ≤ gb276)); have n3_ := Aside0.mk ((by rw [hg]; exact (below_size (by repeat (first | (with_reducible first | exact HB.out | apply below_alloc | apply pw_below_drewN | apply below_drew1) | exact HB.out))) : w.heap.size ≤ gb276)); clear HB; have HB := n0_; have BK276 := n1_; have GW276 := n2_; have GE276 := n3_; clear n0_ n1_ n2_ n3_; clear hb hbox hg; have hcz8_0 : w7.cell? ⟨gb276, 0, none⟩ = some (.int .i64 a0_0) := (blk_cell BK276.out 0).trans rfl; have hcz8_1 : w7.cell? ⟨gb276, 1, none⟩ = some (.slice A0_1 l0_1.length c0_1) := (blk_cell BK276.out 1).trans rfl; have hfz8_0 := blk_frozen BK276.out 0; have hfz8_1 := blk_frozen BK276.out 1) | ((with_reducible refine gate_callee (f := 52) rfl ?_); refine goesL_ (some 8) rfl rfl Tryd.func52 (by kernel_rfl) rfl #[.slice A0_1 l0_1.length c0_1, .int .i64 a1] rfl (by (try simp only [List.map_toArray, List.map_cons, List.map_nil]); first | done | rfl | (simp only [List.length_drop, List.length_take]; rfl)) ?_; (with_reducible refine (laws_szLineS.calls _ _ l0_1 a1 t277 _ ?side1 ?side2 A3.out).mono ?_); (case side1 => repeat (first | exact (Kd.C_below HR0_1.out HB.out) | (with_reducible refine Kd.C_alloc ?_ _) | (with_reducible refine Kd.C_drewN ?_ _) | (with_reducible refine Kd.C_drew ?_))); (case side2 => exact HC0_1.out); rintro e w' ⟨rfl, ⟨nd, rfl⟩⟩; refine ⟨_, rfl, ?_⟩))
    go_ret
    exact ⟨by first | rfl | (simp [errW_none, errW_some] <;> rfl) | (simp [*, errW_none, errW_some] <;> rfl), by repeat (first | (with_reducible first | exact HB.out | apply below_alloc | apply pw_below_drewN | apply below_drew1 | refine below_set ?_ GE276.out) | exact HB.out)⟩

end Go.Proofs.YtlahlfjhfmldaaaDoor.P

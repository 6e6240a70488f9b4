/- Contracts of Go functions of this seat's translation, written by this repo's wip/mk.py: it calls the kit's print.py with contracts typed by hand in place of functions that it does not take. Not trusted: Lean checks it. -/
import Derived.Test.YtpgjgbjkfgbpaaaDoorP0
import Derived.Test.YtpgjgbjkfgbpaaaDoorP5
import Derived.Test.YtpgjgbjkfgbpaaaDoorP16
import Derived.Test.YtpgjgbjkfgbpaaaDoorP21
import Derived.Test.YtpgjgbjkfgbpaaaDoorP22
import Derived.Test.YtpgjgbjkfgbpaaaDoorP23
namespace Go.Proofs.YtpgjgbjkfgbpaaaDoor.P
open Go.RowKit Go.Proofs.YtpgjgbjkfgbpaaaDoorW.PrintWords Go.Proofs.YtpgjgbjkfgbpaaaDoorW.PrintLast Go.Proofs.YtpgjgbjkfgbpaaaDoorW.PrintMore
attribute [local go_sem] max2_int min2_int max_two min_two max_three min_three max_four min_four   -- for this text's walks alone
set_option linter.unusedVariables false
set_option linter.unusedSimpArgs false

/-! ### impl_IslandFeed: function 15 -/

def impl_IslandFeed.f (k : Nat) (a0_0 : Int) (l0_1 : List S79) (l1 : List Bool) (l2 : List S33) (a3 : Int) : Option Int := (impl_fedValid.f k a0_0 l0_1 l1 l2).bind fun t => (if t = true then ((impl_Net_hasBus.f a0_0 l0_1 a3).bind fun t2 => (if t2 = true then ((impl_sumsOf.f k a0_0 l0_1 l1 l2).bind fun s => ((impl_unionOf.f k a0_0 l0_1 l1).bind fun u => ((impl_union_find.f k u a3).bind fun ru => (if 0 ≤ ru.1 then (if ru.1 < 8 then some (sAt s (ru.1.toNat)) else none) else none)))) else some (-1))) else some (-1))
theorem impl_IslandFeed.mono : ∀ a0 a1 a2 a3 a4 k, LeO (impl_IslandFeed.f k a0 a1 a2 a3 a4) (impl_IslandFeed.f (k + 1) a0 a1 a2 a3 a4) := by
 intro a0 a1 a2 a3 a4 k
 unfold impl_IslandFeed.f
 exact LeO.bind (impl_fedValid.mono _ _ _ _ _) fun _ => LeO.ite (LeO.bind (LeO.refl _) fun _ => LeO.ite (LeO.bind (impl_sumsOf.mono _ _ _ _ _) fun _ => LeO.bind (impl_unionOf.mono _ _ _ _) fun _ => LeO.bind (impl_union_find.mono _ _ _) fun _ => LeO.refl _) (LeO.refl _)) (LeO.refl _)
def impl_IslandFeed.T3 : Bool × List (List Nat × List Nat) := (true, [([], []), ([], []), ([], []), ([0, 1, 2], [0, 1, 2]), ([3], [3]), ([], []), ([], []), ([5, 6, 3], [5, 6]), ([], []), ([7, 8, 7], [7, 8]), ([4, 9], [4, 9]), ([10, 9, 0, 1, 2, 3, 4, 5, 6, 7, 8, 9, 10], [10])])
def impl_IslandFeed.B3 : List Nat := [0, 0, 0, 7, 15, 0, 0, 111, 0, 495, 1023, 2047]
theorem impl_IslandFeed.tab3 : rtab .any (opsOf Tryd.f15 3) = impl_IslandFeed.T3 := by kernel_rfl
theorem impl_IslandFeed.bits3 : waitsOk impl_IslandFeed.T3.2 impl_IslandFeed.B3 = true := by kernel_rfl
set_option maxHeartbeats 8000000 in
set_option maxRecDepth 100000 in
theorem impl_IslandFeed.calls (k : Nat) (a0_0 : Int) (A0_1 : Option Addr) (c0_1 : Nat) (l0_1 : List S79) (A1 : Option Addr) (c1 : Nat) (l1 : List Bool) (A2 : Option Addr) (c2 : Nat) (l2 : List S33) (a3 : Int) (r : Int) (w : World) (hr0_1 : Kd.C k79 w A0_1 l0_1.length l0_1) (hc0_1 : l0_1.length ≤ c0_1) (hr1 : Kd.C Kd.bool w A1 l1.length l1) (hc1 : l1.length ≤ c1) (hr2 : Kd.C k33 w A2 l2.length l2) (hc2 : l2.length ≤ c2) (h : impl_IslandFeed.f k a0_0 l0_1 l1 l2 a3 = some r) :
  Calls Tryd.prog 15 #[.agg #[.int .i64 a0_0, .slice A0_1 l0_1.length c0_1], .slice A1 l1.length c1, .slice A2 l2.length c2, .int .i64 a3] w fun e w' => e = .returned (.int .i64 r) ∧ Below w.heap.size w w' := by
 have HR0 := Aside0.mk hr0_1
 have HC0 := Aside0.mk hc0_1
 have HR1 := Aside0.mk hr1
 have HC1 := Aside0.mk hc1
 have HR2 := Aside0.mk hr2
 have HC2 := Aside0.mk hc2
 clear hr0_1 hc0_1 hr1 hc1 hr2 hc2
 obtain ⟨t, A50, H⟩ := Option.bind_eq_some_iff.mp h
 have A5 := Aside0.mk A50
 clear A50 h
 have HB := aM (Below.refl w.heap.size w)
 by_cases ht : t = true
 rotate_left
 ·
  replace ht := Bool.eq_false_iff.mpr ht
  subst ht
  rw [if_neg (by decide)] at H
  obtain rfl := Option.some.inj H
  clear H
  go_enter Tryd.func15, Tryd.ntmps15
  go_wp2_with (first | ((with_reducible refine gate_dst (N := 4) rfl ?_); refine box_event ?hg (N := 4) ?hd (cs := #[.int .i64 a0_0, .slice A0_1 l0_1.length c0_1]) (t := 25) ?hr ?_; (case hd => rfl); (case hg => rfl); (case hr => exact hR); intro gb hg w5 hbox hb; have n0_ := aM (below_step HB.out hb); clear HB; have HB := n0_; have BN := Aside0.mk hbox; clear n0_ hb hbox hg; have hcz0 : w5.cell? ⟨gb, 0, none⟩ = some (.int .i64 a0_0) := (blk_cell BN.out 0).trans rfl; have hcz1 : w5.cell? ⟨gb, 1, none⟩ = some (.slice A0_1 l0_1.length c0_1) := (blk_cell BN.out 1).trans rfl) | ((with_reducible refine gate_callee (f := 69) rfl ?_); refine goesL_ (some 12) rfl rfl Tryd.func69 (by kernel_rfl) rfl #[.agg #[.int .i64 a0_0, .slice A0_1 l0_1.length c0_1], .slice A1 l1.length c1, .slice A2 l2.length c2] rfl (by (try simp only [List.map_toArray, List.map_cons, List.map_nil]); first | done | rfl) ?_; (with_reducible refine (impl_fedValid.calls k a0_0 _ _ l0_1 _ _ l1 _ _ l2 false _ ?side1 HC0.out ?side2 HC1.out ?side3 HC2.out A5.out).mono ?_); (case side1 => exact Kd.C_below HR0.out HB.out); (case side2 => exact Kd.C_below HR1.out HB.out); (case side3 => exact Kd.C_below HR2.out HB.out); rintro e w7 ⟨rfl, hb⟩; refine ⟨_, rfl, ?_⟩; have n0_ := aM (below_step HB.out hb); have n1_ := aM (blk_below BN.out hb); clear HB BN hcz0 hcz1; have HB := n0_; have BN := n1_; clear n0_ n1_ hb; have hcz0 : w7.cell? ⟨gb, 0, none⟩ = some (.int .i64 a0_0) := (blk_cell BN.out 0).trans rfl; have hcz1 : w7.cell? ⟨gb, 1, none⟩ = some (.slice A0_1 l0_1.length c0_1) := (blk_cell BN.out 1).trans rfl))
  go_ret
  exact ⟨rfl, HB.out⟩
 subst ht
 rw [if_pos rfl] at H
 obtain ⟨t2, A60, H⟩ := Option.bind_eq_some_iff.mp H
 have A6 := Aside0.mk A60
 clear A60
 by_cases ht : t2 = true
 rotate_left
 ·
  replace ht := Bool.eq_false_iff.mpr ht
  subst ht
  rw [if_neg (by decide)] at H
  obtain rfl := Option.some.inj H
  clear H
  go_enter Tryd.func15, Tryd.ntmps15
  go_wp2_with (first | ((with_reducible refine gate_dst (N := 4) rfl ?_); refine box_event ?hg (N := 4) ?hd (cs := #[.int .i64 a0_0, .slice A0_1 l0_1.length c0_1]) (t := 25) ?hr ?_; (case hd => rfl); (case hg => rfl); (case hr => exact hR); intro gb hg w5 hbox hb; have n0_ := aM (below_step HB.out hb); clear HB; have HB := n0_; have BN := Aside0.mk hbox; clear n0_ hb hbox hg; have hcz0 : w5.cell? ⟨gb, 0, none⟩ = some (.int .i64 a0_0) := (blk_cell BN.out 0).trans rfl; have hcz1 : w5.cell? ⟨gb, 1, none⟩ = some (.slice A0_1 l0_1.length c0_1) := (blk_cell BN.out 1).trans rfl) | ((with_reducible refine gate_callee (f := 69) rfl ?_); refine goesL_ (some 12) rfl rfl Tryd.func69 (by kernel_rfl) rfl #[.agg #[.int .i64 a0_0, .slice A0_1 l0_1.length c0_1], .slice A1 l1.length c1, .slice A2 l2.length c2] rfl (by (try simp only [List.map_toArray, List.map_cons, List.map_nil]); first | done | rfl) ?_; (with_reducible refine (impl_fedValid.calls k a0_0 _ _ l0_1 _ _ l1 _ _ l2 true _ ?side1 HC0.out ?side2 HC1.out ?side3 HC2.out A5.out).mono ?_); (case side1 => exact Kd.C_below HR0.out HB.out); (case side2 => exact Kd.C_below HR1.out HB.out); (case side3 => exact Kd.C_below HR2.out HB.out); rintro e w7 ⟨rfl, hb⟩; refine ⟨_, rfl, ?_⟩; have n0_ := aM (below_step HB.out hb); have n1_ := aM (blk_below BN.out hb); clear HB BN hcz0 hcz1; have HB := n0_; have BN := n1_; clear n0_ n1_ hb; have hcz0 : w7.cell? ⟨gb, 0, none⟩ = some (.int .i64 a0_0) := (blk_cell BN.out 0).trans rfl; have hcz1 : w7.cell? ⟨gb, 1, none⟩ = some (.slice A0_1 l0_1.length c0_1) := (blk_cell BN.out 1).trans rfl) | (go_at_call 70; (with_reducible refine (impl_Net_hasBus.calls a0_0 _ _ l0_1 a3 false _ ?side1 HC0.out A6.out).mono ?_); (case side1 => exact Kd.C_below HR0.out HB.out); rintro e w8 ⟨rfl, hb⟩; have n0_ := aM (below_step HB.out hb); have n1_ := aM (blk_below BN.out hb); clear HB BN hcz0 hcz1; have HB := n0_; have BN := n1_; clear n0_ n1_ hb))
  go_ret
  exact ⟨rfl, HB.out⟩
 subst ht
 rw [if_pos rfl] at H
 obtain ⟨s, A70, H⟩ := Option.bind_eq_some_iff.mp H
 obtain ⟨u, A80, H⟩ := Option.bind_eq_some_iff.mp H
 obtain ⟨⟨r1, u1⟩, A90, H⟩ := Option.bind_eq_some_iff.mp H
 have A17 := Aside0.mk A70
 have A18 := Aside0.mk A80
 have A19 := Aside0.mk A90
 clear A70 A80 A90
 by_cases c0 : 0 ≤ r1
 rotate_left
 ·
  rw [if_neg c0] at H
  exact absurd H (by simp)
 rw [if_pos c0] at H
 by_cases c1' : r1 < 8
 rotate_left
 ·
  rw [if_neg c1'] at H
  exact absurd H (by simp)
 rw [if_pos c1'] at H
 obtain rfl := Option.some.inj H
 have C0 := Aside0.mk c0
 have C1 := Aside0.mk c1'
 clear H c0 c1'
 go_enter Tryd.func15, Tryd.ntmps15
 go_wp2_with (first | ((with_reducible refine gate_dst (N := 4) rfl ?_); refine box_event ?hg (N := 4) ?hd (cs := #[.int .i64 a0_0, .slice A0_1 l0_1.length c0_1]) (t := 25) ?hr ?_; (case hd => rfl); (case hg => rfl); (case hr => exact hR); intro gb hg w5 hbox hb; have n0_ := aM (below_step HB.out hb); clear HB; have HB := n0_; have BN := Aside0.mk hbox; clear n0_ hb hbox hg; have hcz0 : w5.cell? ⟨gb, 0, none⟩ = some (.int .i64 a0_0) := (blk_cell BN.out 0).trans rfl; have hcz1 : w5.cell? ⟨gb, 1, none⟩ = some (.slice A0_1 l0_1.length c0_1) := (blk_cell BN.out 1).trans rfl) | ((with_reducible refine gate_callee (f := 69) rfl ?_); refine goesL_ (some 12) rfl rfl Tryd.func69 (by kernel_rfl) rfl #[.agg #[.int .i64 a0_0, .slice A0_1 l0_1.length c0_1], .slice A1 l1.length c1, .slice A2 l2.length c2] rfl (by (try simp only [List.map_toArray, List.map_cons, List.map_nil]); first | done | rfl) ?_; (with_reducible refine (impl_fedValid.calls k a0_0 _ _ l0_1 _ _ l1 _ _ l2 true _ ?side1 HC0.out ?side2 HC1.out ?side3 HC2.out A5.out).mono ?_); (case side1 => exact Kd.C_below HR0.out HB.out); (case side2 => exact Kd.C_below HR1.out HB.out); (case side3 => exact Kd.C_below HR2.out HB.out); rintro e w7 ⟨rfl, hb⟩; refine ⟨_, rfl, ?_⟩; have n0_ := aM (below_step HB.out hb); have n1_ := aM (blk_below BN.out hb); clear HB BN hcz0 hcz1; have HB := n0_; have BN := n1_; clear n0_ n1_ hb; have hcz0 : w7.cell? ⟨gb, 0, none⟩ = some (.int .i64 a0_0) := (blk_cell BN.out 0).trans rfl; have hcz1 : w7.cell? ⟨gb, 1, none⟩ = some (.slice A0_1 l0_1.length c0_1) := (blk_cell BN.out 1).trans rfl) | (go_at_call 70; (with_reducible refine (impl_Net_hasBus.calls a0_0 _ _ l0_1 a3 true _ ?side1 HC0.out A6.out).mono ?_); (case side1 => exact Kd.C_below HR0.out HB.out); rintro e w8 ⟨rfl, hb⟩; have n0_ := aM (below_step HB.out hb); have n1_ := aM (blk_below BN.out hb); clear HB BN hcz0 hcz1; have HB := n0_; have BN := n1_; clear n0_ n1_ hb))
 have n0_ := aM (blk_drew BN.out)
 have n1_ := aM (below_drew1 HB.out)
 clear BN HB
 have BN := n0_
 have HB := n1_
 clear n0_ n1_
 try clear hcz0 hcz1
 refine start_ (n := 12) (S := fun w' => w'.cell? ⟨gb, 0, none⟩ = some (.int .i64 a0_0) ∧ w'.cell? ⟨gb, 1, none⟩ = some (.slice A0_1 l0_1.length c0_1)) (ds := []) #[false, false, false, false, false, false, false, false, false, false, false, false] (by kernel_rfl) rfl rfl ⟨(blk_cell BN.out 0).trans rfl, (blk_cell BN.out 1).trans rfl⟩ (fun hHeld => ?_); refine with_tabW impl_IslandFeed.tab3 impl_IslandFeed.bits3 (fun HT_ HW_ => ?_)
 generalize w8.drew = w24 at BN HB hHeld ⊢
 refine pure_ (i := 1) (N := some 21) (v := ?_) (a' := ?_) #[false, true, false, false, false, false, false, false, false, false, false, false] rfl rfl (any_of HT_.out (by kernel_rfl)) (fun _ _ _ h => h) (Or.inl ⟨by rfl, ?_⟩) ?_ ?_
 rotate_left
 ·
  intro w'
  go_simp
  with_reducible rfl
 rotate_left
 ·
  simp only [Act.put, List.setIfInBounds_toArray, List.set_cons_zero, List.set_cons_succ, i64_w, i32_w]
  rfl
 refine pure_ (i := 2) (N := some 22) (v := ?_) (a' := ?_) #[false, true, true, false, false, false, false, false, false, false, false, false] rfl rfl (any_of HT_.out (by kernel_rfl)) (fun _ _ _ h => h) (Or.inl ⟨by rfl, ?_⟩) ?_ ?_
 rotate_left
 ·
  intro w'
  go_simp
  with_reducible rfl
 rotate_left
 ·
  simp only [Act.put, List.setIfInBounds_toArray, List.set_cons_zero, List.set_cons_succ, i64_w, i32_w]
  rfl
 refine pure_ (i := 6) (N := some 26) (v := ?_) (a' := ?_) #[false, true, true, false, false, false, true, false, false, false, false, false] rfl rfl (any_of HT_.out (by kernel_rfl)) (fun _ _ _ h => h) (Or.inl ⟨by rfl, ?_⟩) ?_ ?_
 rotate_left
 ·
  intro w'
  go_simp
  with_reducible rfl
 rotate_left
 ·
  simp only [Act.put, List.setIfInBounds_toArray, List.set_cons_zero, List.set_cons_succ, i64_w, i32_w]
  rfl
 refine pure_ (i := 8) (N := some 28) (v := ?_) (a' := ?_) #[false, true, true, false, false, false, true, false, true, false, false, false] rfl rfl (any_of HT_.out (by kernel_rfl)) (fun _ _ _ h => h) (Or.inl ⟨by rfl, ?_⟩) ?_ ?_
 rotate_left
 ·
  intro w'
  go_simp
  with_reducible rfl
 rotate_left
 ·
  simp only [Act.put, List.setIfInBounds_toArray, List.set_cons_zero, List.set_cons_succ, i64_w, i32_w]
  rfl
 refine take_ (i := 0) (N := some 20) (v := ?_) (a' := ?_) #[true, true, true, false, false, false, true, false, true, false, false, false] rfl rfl (take_ofW HT_.out HW_.out (by kernel_rfl)) (fun _ _ _ h => h) (Or.inl ⟨by rfl, ?_⟩) hHeld ?_ ?_
 rotate_left
 ·
  rintro w' ⟨s0, s1⟩
  go_simp
  with_reducible rfl
 rotate_left
 ·
  simp only [Act.put, List.setIfInBounds_toArray, List.set_cons_zero, List.set_cons_succ, i64_w, i32_w]
  rfl
 refine take_ (i := 5) (N := some 25) (v := ?_) (a' := ?_) #[true, true, true, false, false, true, true, false, true, false, false, false] rfl rfl (take_ofW HT_.out HW_.out (by kernel_rfl)) (fun _ _ _ h => h) (Or.inl ⟨by rfl, ?_⟩) hHeld ?_ ?_
 rotate_left
 ·
  rintro w' ⟨s0, s1⟩
  go_simp
  with_reducible rfl
 rotate_left
 ·
  simp only [Act.put, List.setIfInBounds_toArray, List.set_cons_zero, List.set_cons_succ, i64_w, i32_w]
  rfl
 refine one_ (i := 3) (N := some 23) #[true, true, true, true, false, true, true, false, true, false, false, false] rfl rfl (one_of HT_.out (by kernel_rfl)) (by decide) (fun K hK => ?_)
 refine goes_ Tryd.func71 (by kernel_rfl) rfl #[.agg #[.int .i64 a0_0, .slice A0_1 l0_1.length c0_1], .slice A1 l1.length c1, .slice A2 l2.length c2] (by rfl) rfl rfl (by (try simp only [List.map_toArray, List.map_cons, List.map_nil]); first | done | rfl) ?_
 with_reducible refine (impl_sumsOf.calls k a0_0 _ _ l0_1 _ _ l1 _ _ l2 s _ ?side1 HC0.out ?side3 HC1.out ?side5 HC2.out A17.out).mono ?_
 case side1 => exact Kd.C_below HR0.out HB.out
 case side3 => exact Kd.C_below HR1.out HB.out
 case side5 => exact Kd.C_below HR2.out HB.out
 rintro e w25 ⟨rfl, hb⟩
 refine ⟨_, rfl, ?_⟩
 have hff := sums_fieldF s
 have n0_ := aM (blk_below BN.out hb)
 have n1_ := aM (below_step HB.out hb)
 clear BN HB hb
 have BN := n0_
 have HB := n1_
 clear n0_ n1_
 refine hK.out _ _ ⟨(blk_cell BN.out 0).trans rfl, (blk_cell BN.out 1).trans rfl⟩ (fun hHeld => ?_)
 clear hK K
 refine norm_ (a' := ?_) ?_ ?_
 rotate_left
 ·
  show Act.put _ (some 23) _ = _
  simp only [Act.put, List.setIfInBounds_toArray, List.set_cons_zero, List.set_cons_succ, i64_w, i32_w]
  rfl
 refine pure_ (i := 4) (N := some 24) (v := ?_) (a' := ?_) #[true, true, true, true, true, true, true, false, true, false, false, false] rfl rfl (any_of HT_.out (by kernel_rfl)) (fun _ _ _ h => h) (Or.inl ⟨by rfl, ?_⟩) ?_ ?_
 rotate_left
 ·
  intro w'
  go_simp
  with_reducible rfl
 rotate_left
 ·
  simp only [Act.put, List.setIfInBounds_toArray, List.set_cons_zero, List.set_cons_succ, i64_w, i32_w]
  rfl
 clear hff
 refine one_ (i := 7) (N := some 27) #[true, true, true, true, true, true, true, true, true, false, false, false] rfl rfl (one_of HT_.out (by kernel_rfl)) (by decide) (fun K hK => ?_)
 refine goes_ Tryd.func72 (by kernel_rfl) rfl #[.agg #[.int .i64 a0_0, .slice A0_1 l0_1.length c0_1], .slice A1 l1.length c1] (by rfl) rfl rfl (by (try simp only [List.map_toArray, List.map_cons, List.map_nil]); first | done | rfl) ?_
 with_reducible refine (impl_unionOf.calls k a0_0 _ _ l0_1 _ _ l1 u _ ?side1 HC0.out ?side3 HC1.out A18.out).mono ?_
 case side1 => exact Kd.C_below HR0.out HB.out
 case side3 => exact Kd.C_below HR1.out HB.out
 rintro e w26 ⟨vu, rfl, ho0, hb⟩
 refine ⟨_, rfl, ?_⟩
 have NU := aM (show some gb = vu.ownBlock → False from fun e_ => by have h1 := Kd.R_base ho0 gb e_.symm; have h2 := blk_lt BN.out; omega)
 have HO := aM (Kd.R_lower ho0 HB.out.size)
 have n0_ := aM (blk_below BN.out hb)
 have n1_ := aM (below_step HB.out hb)
 clear BN HB hb ho0
 have BN := n0_
 have HB := n1_
 clear n0_ n1_
 refine hK.out _ _ ⟨(blk_cell BN.out 0).trans rfl, (blk_cell BN.out 1).trans rfl⟩ (fun hHeld => ?_)
 clear hK K
 refine norm_ (a' := ?_) ?_ ?_
 rotate_left
 ·
  show Act.put _ (some 27) _ = _
  simp only [Act.put, List.setIfInBounds_toArray, List.set_cons_zero, List.set_cons_succ, i64_w, i32_w]
  rfl
 refine one_ (i := 9) (N := some 29) #[true, true, true, true, true, true, true, true, true, true, false, false] rfl rfl (one_of HT_.out (by kernel_rfl)) (by decide) (fun K hK => ?_)
 refine goes_ Tryd.func73 (by kernel_rfl) rfl #[vu, .int .i64 a3] (by rfl) rfl rfl (by (try simp only [List.map_toArray, List.map_cons, List.map_nil]); first | done | rfl) ?_
 with_reducible refine (impl_union_find.calls k (ownS vu) vu u a3 r1 u1 w _ ?side1 ?side2 A19.out).mono ?_
 case side1 => exact HB.out
 case side2 => exact Kd.R_tight rfl HO.out
 rintro e w28 ⟨rfl, hy0, hb, hkp⟩
 refine ⟨_, rfl, ?_⟩
 have n0_ := aM (blk_kept BN.out hkp (fun e_ => (NU.out e_).elim))
 clear BN HB HO
 have BN := n0_
 have HB := Aside0.mk hb
 clear n0_ hb hkp hy0
 have hx23 := sums_feed s r1 C0.out C1.out
 refine hK.out _ _ ⟨(blk_cell BN.out 0).trans rfl, (blk_cell BN.out 1).trans rfl⟩ (fun hHeld => ?_)
 clear hK K
 refine norm_ (a' := ?_) ?_ ?_
 rotate_left
 ·
  show Act.put _ (some 29) _ = _
  simp only [Act.put, List.setIfInBounds_toArray, List.set_cons_zero, List.set_cons_succ, i64_w, i32_w]
  rfl
 refine take_ (i := 10) (N := some 30) (v := ?_) (a' := ?_) #[true, true, true, true, true, true, true, true, true, true, true, false] rfl rfl (take_ofW HT_.out HW_.out (by kernel_rfl)) (fun _ _ _ h => h) (Or.inl ⟨by rfl, ?_⟩) hHeld ?_ ?_
 rotate_left
 ·
  rintro w' ⟨s0, s1⟩
  go_simp
  with_reducible rfl
 rotate_left
 ·
  simp only [Act.put, List.setIfInBounds_toArray, List.set_cons_zero, List.set_cons_succ, i64_w, i32_w]
  rfl
 refine pure_ (i := 11) (N := some 8) (v := ?_) (a' := ?_) #[true, true, true, true, true, true, true, true, true, true, true, true] rfl rfl (any_of HT_.out (by kernel_rfl)) (fun _ _ _ h => h) (Or.inl ⟨by rfl, ?_⟩) ?_ ?_
 rotate_left
 ·
  intro w'
  go_simp
  with_reducible rfl
 rotate_left
 ·
  simp only [Act.put, List.setIfInBounds_toArray, List.set_cons_zero, List.set_cons_succ, i64_w, i32_w]
  rfl
 refine done_ (done_of HT_.out (by kernel_rfl)) ?_
 try go_wp2
 go_ret
 exact ⟨rfl, HB.out⟩

end Go.Proofs.YtpgjgbjkfgbpaaaDoor.P
namespace Go.Proofs.YtpgjgbjkfgbpaaaDoor.P
open Go.RowKit Go.Proofs.YtpgjgbjkfgbpaaaDoorW.PrintWords Go.Proofs.YtpgjgbjkfgbpaaaDoorW.PrintLast Go.Proofs.YtpgjgbjkfgbpaaaDoorW.PrintMore
attribute [local go_sem] max2_int min2_int max_two min_two max_three min_three max_four min_four   -- for this text's walks alone
set_option linter.unusedVariables false
set_option linter.unusedSimpArgs false

/-! ### spec_l1In: function 75 -/
def spec_l1In.f (a0 : Int) (a1 : Int) (a2 : Int) : Option (Bool) := if a0 ≥ a1 then (some (decide (a0 ≤ a2))) else (some false)
set_option maxHeartbeats 8000000 in
set_option maxRecDepth 100000 in
theorem spec_l1In.calls (a0 : Int) (a1 : Int) (a2 : Int) (r : Bool) (w : World) (h : spec_l1In.f a0 a1 a2 = some r) :
  Calls Tryd.prog 75 #[.int .i64 a0, .int .i64 a1, .int .i64 a2] w fun e w' => e = .returned (.bool r) ∧ Drawn0 w w' := by
 have H : (if a0 ≥ a1 then (some (decide (a0 ≤ a2))) else (some false)) = some r := h
 clear h
 by_cases c4 : a0 ≥ a1
 ·
  rw [if_pos c4] at H
  have c4b0 : decide (a1 ≤ a0) = true := decide_eq_true c4
  clear c4
  obtain rfl := Option.some.inj H
  go_enter Tryd.func75, Tryd.ntmps75
  go_wp2
  go_ret
  exact ⟨by first | rfl | (simp; done) | (simp [*]; done), by repeat (first | exact Drawn0.refl _ | apply Drawn0.step)⟩
 rw [if_neg c4] at H
 have c4b0 : decide (a1 ≤ a0) = false := decide_eq_false c4
 clear c4
 obtain rfl := Option.some.inj H
 go_enter Tryd.func75, Tryd.ntmps75
 go_wp2
 go_ret
 exact ⟨by first | rfl | (simp; done) | (simp [*]; done), by repeat (first | exact Drawn0.refl _ | apply Drawn0.step)⟩

end Go.Proofs.YtpgjgbjkfgbpaaaDoor.P

/- Contracts of Go functions of this seat's translation, written by this repo's wip/mk.py: it calls the kit's print.py with contracts typed by hand in place of functions that it does not take. Not trusted: Lean checks it. -/
import Derived.Test.YtlahlfjhfmldaaaP0
import Derived.Test.YtlahlfjhfmldaaaP26
import Derived.Test.YtlahlfjhfmldaaaP28
import Derived.Test.YtlahlfjhfmldaaaP29
namespace Go.Proofs.Ytlahlfjhfmldaaa.P
open Go.RowKit Go.Proofs.YtlahlfjhfmldaaaW.PrintWords Go.Proofs.YtlahlfjhfmldaaaW.PrintLast Go.Proofs.YtlahlfjhfmldaaaW.PrintMore
attribute [local go_sem] max2_int min2_int max_two min_two max_three min_three max_four min_four   -- for this text's walks alone
set_option linter.unusedVariables false
set_option linter.unusedSimpArgs false

/-! ### impl_AliveBuses: function 12 -/
def impl_AliveBuses.l0 : Nat → List S53 → List Int → List Int → List Int → Int → Option (List Int)
 | 0, _, _, _, _, _ => none
 | k + 1, bs, s, u, acc, i => if i < (bs.length : Int) then ((impl_union_find.f k u i).bind fun ru => (if 0 ≤ ru.1 then (if ru.1 < 8 then (if 0 < sAt s ru.1.toNat then (if acc.length < 17592186044416 then (impl_AliveBuses.l0 k bs s ru.2 (acc ++ [i]) (wrap64 (i + 1))) else none) else (impl_AliveBuses.l0 k bs s ru.2 acc (wrap64 (i + 1)))) else none) else none)) else some acc
def impl_AliveBuses.f (k : Nat) (a0_0 : Int) (l0_1 : List S77) (l1 : List Bool) (l2 : List S53) : Option (List Int) := (impl_fedValid.f k a0_0 l0_1 l1 l2).bind fun t => (if t = true then ((impl_unionOf.f k a0_0 l0_1 l1).bind fun u => ((impl_sumsOf.f k a0_0 l0_1 l1 l2).bind fun s => (impl_AliveBuses.l0 k l2 s u [] 0))) else some [])
theorem impl_AliveBuses.mono_l : ∀ k bs s u acc i, LeO (impl_AliveBuses.l0 k bs s u acc i) (impl_AliveBuses.l0 (k + 1) bs s u acc i)
 | 0, _, _, _, _, _ => LeO.none _
 | k + 1, bs, s, u, acc, i => by
  rw [impl_AliveBuses.l0, impl_AliveBuses.l0]
  exact LeO.ite (LeO.bind (impl_union_find.mono _ _ _) fun _ => LeO.ite (LeO.ite (LeO.ite (LeO.ite (impl_AliveBuses.mono_l k _ _ _ _ _) (LeO.refl _)) (impl_AliveBuses.mono_l k _ _ _ _ _)) (LeO.refl _)) (LeO.refl _)) (LeO.refl _)
theorem impl_AliveBuses.mono : ∀ a0 a1 a2 a3 k, LeO (impl_AliveBuses.f k a0 a1 a2 a3) (impl_AliveBuses.f (k + 1) a0 a1 a2 a3) := by
 intro a0 a1 a2 a3 k
 unfold impl_AliveBuses.f
 exact LeO.bind (impl_fedValid.mono _ _ _ _ _) fun _ => LeO.ite (LeO.bind (impl_unionOf.mono _ _ _ _) fun _ => LeO.bind (impl_sumsOf.mono _ _ _ _ _) fun _ => impl_AliveBuses.mono_l k _ _ _ _ _) (LeO.refl _)
def impl_AliveBuses.T3 : Bool × List (List Nat × List Nat) := (true, [([], []), ([], []), ([0, 1], [0, 1]), ([], []), ([], []), ([], []), ([3, 4, 5, 2], [3, 4, 5]), ([], []), ([2, 6, 0, 1, 2, 7], [2]), ([7, 6, 8, 0, 1, 2, 3, 4, 5, 6, 7, 8], [6, 7])])
def impl_AliveBuses.B3 : List Nat := [0, 0, 3, 0, 0, 0, 63, 0, 255, 511]
theorem impl_AliveBuses.tab3 : rtab .any (opsOf Try.f12 3) = impl_AliveBuses.T3 := by kernel_rfl
theorem impl_AliveBuses.bits3 : waitsOk impl_AliveBuses.T3.2 impl_AliveBuses.B3 = true := by kernel_rfl
set_option maxHeartbeats 16000000 in
set_option maxRecDepth 100000 in
theorem impl_AliveBuses.calls (k : Nat) (a0_0 : Int) (A0_1 : Option Addr) (c0_1 : Nat) (l0_1 : List S77) (A1 : Option Addr) (c1 : Nat) (l1 : List Bool) (A2 : Option Addr) (c2 : Nat) (l2 : List S53) (r : List Int) (w : World) (hr0_1 : Kd.C k77 w A0_1 l0_1.length l0_1) (hc0_1 : l0_1.length ≤ c0_1) (hr1 : Kd.C Kd.bool w A1 l1.length l1) (hc1 : l1.length ≤ c1) (hr2 : Kd.C k53 w A2 l2.length l2) (hc2 : l2.length ≤ c2) (h : impl_AliveBuses.f k a0_0 l0_1 l1 l2 = some r) :
  Calls Try.prog 12 #[.agg #[.int .i64 a0_0, .slice A0_1 l0_1.length c0_1], .slice A1 l1.length c1, .slice A2 l2.length c2] w fun e w' => ∃ v0_ : Value, e = .returned (v0_) ∧ Kd.R (Kd.int .i64) 3 w' w.heap.size (fun _ => True) v0_ r ∧ Below w.heap.size w w' := by
 have HR0 := Aside0.mk hr0_1
 have HC0 := Aside0.mk hc0_1
 have HR1 := Aside0.mk hr1
 have HC1 := Aside0.mk hc1
 have HR2 := Aside0.mk hr2
 have HC2 := Aside0.mk hc2
 clear hr0_1 hc0_1 hr1 hc1 hr2 hc2
 obtain ⟨t, A50, H⟩ := Option.bind_eq_some_iff.mp h
 have A5 := Aside0.mk A50
 clear A50 h
 have HB := Aside0.mk (Below.refl w.heap.size w)
 by_cases ht : t = true
 rotate_left
 ·
  replace ht := Bool.eq_false_iff.mpr ht
  subst ht
  rw [if_neg (by decide)] at H
  obtain rfl := Option.some.inj H
  clear H
  go_enter Try.func12, Try.ntmps12
  go_wp2_with (first | ((with_reducible refine gate_dst (N := 3) rfl ?_); refine box_event ?hg (N := 3) ?hd (cs := #[.int .i64 a0_0, .slice A0_1 l0_1.length c0_1]) (t := 33) ?hr ?_; (case hd => rfl); (case hg => rfl); (case hr => first | (go_simp; done) | (go_simp; rfl)); intro gb hg w5 hbox hb; have n0_ := Aside0.mk (below_step HB.out hb); clear HB; have HB := n0_; have BN := Aside0.mk hbox; clear n0_ hb hbox hg; have hcz0 : w5.cell? ⟨gb, 0, none⟩ = some (.int .i64 a0_0) := (blk_cell BN.out 0).trans rfl; have hcz1 : w5.cell? ⟨gb, 1, none⟩ = some (.slice A0_1 l0_1.length c0_1) := (blk_cell BN.out 1).trans rfl) | ((with_reducible refine gate_callee (f := 31) rfl ?_); refine goesL_ (some 14) rfl rfl Try.func31 (by kernel_rfl) rfl #[.agg #[.int .i64 a0_0, .slice A0_1 l0_1.length c0_1], .slice A1 l1.length c1, .slice A2 l2.length c2] rfl (by (try simp only [List.map_toArray, List.map_cons, List.map_nil]); first | done | rfl) ?_; (with_reducible refine (impl_fedValid.calls k a0_0 _ _ l0_1 _ _ l1 _ _ l2 false _ ?side1 HC0.out ?side2 HC1.out ?side3 HC2.out A5.out).mono ?_); (case side1 => exact Kd.C_below HR0.out HB.out); (case side2 => exact Kd.C_below HR1.out HB.out); (case side3 => exact Kd.C_below HR2.out HB.out); rintro e w7 ⟨rfl, hb⟩; refine ⟨_, rfl, ?_⟩; have n0_ := Aside0.mk (below_step HB.out hb); have n1_ := Aside0.mk (blk_below BN.out hb); clear HB BN hcz0 hcz1; have HB := n0_; have BN := n1_; clear n0_ n1_ hb))
  go_ret
  exact ⟨_, rfl, Kd.R_nil _ _ _ _ _, HB.out⟩
 subst ht
 rw [if_pos rfl] at H
 obtain ⟨u, A60, H⟩ := Option.bind_eq_some_iff.mp H
 obtain ⟨s, A70, H⟩ := Option.bind_eq_some_iff.mp H
 have A6 := Aside0.mk A60
 have A7 := Aside0.mk A70
 have H' := Aside0.mk H
 clear A60 A70 H
 go_enter Try.func12, Try.ntmps12
 go_wp2_with (first | ((with_reducible refine gate_dst (N := 3) rfl ?_); refine box_event ?hg (N := 3) ?hd (cs := #[.int .i64 a0_0, .slice A0_1 l0_1.length c0_1]) (t := 33) ?hr ?_; (case hd => rfl); (case hg => rfl); (case hr => first | (go_simp; done) | (go_simp; rfl)); intro gb hg w5 hbox hb; have n0_ := Aside0.mk (below_step HB.out hb); clear HB; have HB := n0_; have BN := Aside0.mk hbox; clear n0_ hb hbox hg; have hcz0 : w5.cell? ⟨gb, 0, none⟩ = some (.int .i64 a0_0) := (blk_cell BN.out 0).trans rfl; have hcz1 : w5.cell? ⟨gb, 1, none⟩ = some (.slice A0_1 l0_1.length c0_1) := (blk_cell BN.out 1).trans rfl) | ((with_reducible refine gate_callee (f := 31) rfl ?_); refine goesL_ (some 14) rfl rfl Try.func31 (by kernel_rfl) rfl #[.agg #[.int .i64 a0_0, .slice A0_1 l0_1.length c0_1], .slice A1 l1.length c1, .slice A2 l2.length c2] rfl (by (try simp only [List.map_toArray, List.map_cons, List.map_nil]); first | done | rfl) ?_; (with_reducible refine (impl_fedValid.calls k a0_0 _ _ l0_1 _ _ l1 _ _ l2 true _ ?side1 HC0.out ?side2 HC1.out ?side3 HC2.out A5.out).mono ?_); (case side1 => exact Kd.C_below HR0.out HB.out); (case side2 => exact Kd.C_below HR1.out HB.out); (case side3 => exact Kd.C_below HR2.out HB.out); rintro e w7 ⟨rfl, hb⟩; refine ⟨_, rfl, ?_⟩; have n0_ := Aside0.mk (below_step HB.out hb); have n1_ := Aside0.mk (blk_below BN.out hb); clear HB BN hcz0 hcz1; have HB := n0_; have BN := n1_; clear n0_ n1_ hb))
 have n0_ := Aside0.mk (blk_drew BN.out)
 have n1_ := Aside0.mk (below_drew1 HB.out)
 clear BN HB
 have BN := n0_
 have HB := n1_
 clear n0_ n1_
 refine start_ (n := 10) (S := fun w' => True) (ds := []) #[false, false, false, false, false, false, false, false, false, false] (by kernel_rfl) rfl rfl trivial (fun hHeld => ?_)
 refine with_tabW impl_AliveBuses.tab3 impl_AliveBuses.bits3 (fun HT_ HW_ => ?_)
 generalize w7.drew = wd at BN HB ⊢
 refine pure_ (i := 1) (N := some 17) (v := ?_) (a' := ?_) #[false, true, false, false, false, false, false, false, false, false] rfl rfl (by kernel_rfl) (fun _ _ _ h => h) (Or.inl ⟨by rfl, ?_⟩) ?_ ?_
 rotate_left
 ·
  intro w'
  go_simp
  with_reducible rfl
 rotate_left
 ·
  simp only [Act.put, List.setIfInBounds_toArray, List.set_cons_zero, List.set_cons_succ, i64_w, i32_w]
  rfl
 refine pure_ (i := 4) (N := some 20) (v := ?_) (a' := ?_) #[false, true, false, false, true, false, false, false, false, false] rfl rfl (by kernel_rfl) (fun _ _ _ h => h) (Or.inl ⟨by rfl, ?_⟩) ?_ ?_
 rotate_left
 ·
  intro w'
  go_simp
  with_reducible rfl
 rotate_left
 ·
  simp only [Act.put, List.setIfInBounds_toArray, List.set_cons_zero, List.set_cons_succ, i64_w, i32_w]
  rfl
 refine pure_ (i := 5) (N := some 21) (v := ?_) (a' := ?_) #[false, true, false, false, true, true, false, false, false, false] rfl rfl (by kernel_rfl) (fun _ _ _ h => h) (Or.inl ⟨by rfl, ?_⟩) ?_ ?_
 rotate_left
 ·
  intro w'
  go_simp
  with_reducible rfl
 rotate_left
 ·
  simp only [Act.put, List.setIfInBounds_toArray, List.set_cons_zero, List.set_cons_succ, i64_w, i32_w]
  rfl
 refine inv_at [0, 2, 3, 6, 7, 8, 9] (fun a0_ b a w' => ∃ (Au : Option Addr) (cu : Nat) (gs : Nat) (m2_ : Value) (m7_ : Value) (m8_ : Value), a = putSel a0_ b [(0, 16, .agg #[.int .i64 a0_0, .slice A0_1 l0_1.length c0_1]), (2, 18, m2_), (3, 19, .agg #[.int .i64 a0_0, .slice A0_1 l0_1.length c0_1]), (6, 22, .agg #[.int .i64 (sAt s 0), .int .i64 (sAt s 1), .int .i64 (sAt s 2), .int .i64 (sAt s 3), .int .i64 (sAt s 4), .int .i64 (sAt s 5), .int .i64 (sAt s 6), .int .i64 (sAt s 7), .int .i64 (sAt s 8), .int .i64 (sAt s 9), .int .i64 (sAt s 10), .int .i64 (sAt s 11), .int .i64 (sAt s 12), .int .i64 (sAt s 13), .int .i64 (sAt s 14), .int .i64 (sAt s 15)]), (7, 8, m7_), (8, 7, m8_)] ∧ (w'.heap[gb]? = some (.cells #[.int .i64 a0_0, .slice A0_1 l0_1.length c0_1] 33 (0, 0))) ∧ (Below w.heap.size w w') ∧ (b 2 = true → Kd.R (Kd.int .i64) 3 w' w.heap.size (fun _ => True) (.slice Au u.length cu) u) ∧ (b 7 = true → w.heap.size ≤ gs) ∧ (b 7 = true → b 9 = false → w'.heap[gs]? = some (.cells #[.int .i64 0, .int .i64 0, .int .i64 0, .int .i64 0, .int .i64 0, .int .i64 0, .int .i64 0, .int .i64 0, .int .i64 0, .int .i64 0, .int .i64 0, .int .i64 0, .int .i64 0, .int .i64 0, .int .i64 0, .int .i64 0] 60 (0, 0))) ∧ (b 9 = true → w'.heap[gs]? = some (.cells (sumsC [sAt s 0, sAt s 1, sAt s 2, sAt s 3, sAt s 4, sAt s 5, sAt s 6, sAt s 7, sAt s 8, sAt s 9, sAt s 10, sAt s 11, sAt s 12, sAt s 13, sAt s 14, sAt s 15]) 60 (0, 0))) ∧ (b 2 = true → (m2_ : Value) = .slice Au u.length cu) ∧ (b 7 = true → (m7_ : Value) = .pointer (some ⟨gs, 0, none⟩)) ∧ (b 8 = true → (m8_ : Value) = .slice Au u.length cu)) HT_.out HW_.out (by kernel_rfl) (by kernel_rfl) ?_ ?_ ?_
 ·
  exact ⟨none, 0, 0, .bool false, .bool false, .bool false, by simp only [putSel, Bool.false_eq_true, if_false], BN.out, HB.out, fun h_ => absurd h_ (by decide), fun h_ => absurd h_ (by decide), fun h_ => absurd h_ (by decide), fun h_ => absurd h_ (by decide), fun h_ => absurd h_ (by decide), fun h_ => absurd h_ (by decide), fun h_ => absurd h_ (by decide)⟩
 ·
  skip
  clear BN HB
  refine steps_cons ?_ ?_
  ·
   rintro b a w' ⟨Au, cu, gs, m2_, m7_, m8_, ha, Q_BN, Q_HB, Q_HU, Q_GT, Q_T1, Q_T2, Q_X2_, Q_X7_, Q_X8_⟩ hb_ hon hoff
   refine ⟨_, rfl, fun K hK => ?_⟩
   have e3 : a.tmps[3]? = some (.pointer (some ⟨gb, 0, none⟩)) := by rw [ha]; exact (putSel_off rfl).trans rfl
   replace ha := Aside0.mk ha
   have BN := Aside0.mk Q_BN
   have HB := Aside0.mk Q_HB
   have hs0_ : w'.cell? ⟨gb, 0, none⟩ = some (.int .i64 a0_0) := (blk_cell BN.out 0).trans rfl
   have hs1_ : w'.cell? ⟨gb, 1, none⟩ = some (.slice A0_1 l0_1.length c0_1) := (blk_cell BN.out 1).trans rfl
   refine value_ (w1 := w') (v := .agg #[.int .i64 a0_0, .slice A0_1 l0_1.length c0_1]) (by rfl) rfl ?_ ?_
   ·
    go_simp
    (try simp only [i64_w])
    try rfl
   refine hK.out _ _ ⟨Au, cu, gs, m2_, m7_, m8_, (by rw [ha.out]; exact putSel_upk 0 hb_ rfl rfl rfl), Q_BN, Q_HB, fun h0_ => absurd ((hoff 2 (by kernel_rfl)).symm.trans h0_) (by decide), Q_GT, Q_T1, fun h0_ => absurd ((hoff 9 (by kernel_rfl)).symm.trans h0_) (by decide), fun h0_ => absurd ((hoff 2 (by kernel_rfl)).symm.trans h0_) (by decide), Q_X7_, fun h0_ => absurd ((hoff 8 (by kernel_rfl)).symm.trans h0_) (by decide)⟩
  refine steps_cons ?_ ?_
  ·
   rintro b a w' ⟨Au, cu, gs, m2_, m7_, m8_, ha, Q_BN, Q_HB, Q_HU, Q_GT, Q_T1, Q_T2, Q_X2_, Q_X7_, Q_X8_⟩ hb_ hon hoff
   refine ⟨_, rfl, fun K hK => ?_⟩
   have e16 : a.tmps[16]? = some (.agg #[.int .i64 a0_0, .slice A0_1 l0_1.length c0_1]) := by rw [ha]; exact putSel_on (e := (0, 16, .agg #[.int .i64 a0_0, .slice A0_1 l0_1.length c0_1])) 0 rfl rfl (hon 0 (by kernel_rfl)) rfl
   have e17 : a.tmps[17]? = some (.slice A1 l1.length c1) := by rw [ha]; exact (putSel_off rfl).trans rfl
   replace ha := Aside0.mk ha
   have BN := Aside0.mk Q_BN
   have HB := Aside0.mk Q_HB
   refine goes_ Try.func32 (by kernel_rfl) rfl #[.agg #[.int .i64 a0_0, .slice A0_1 l0_1.length c0_1], .slice A1 l1.length c1] (by rfl) rfl rfl (by first | (simp only [List.map_toArray, List.map_cons, List.map_nil, Act.eval, Array.getD_eq_getD_getElem?, Option.getD_some, e16, e17]; done) | (simp only [List.map_toArray, List.map_cons, List.map_nil, Act.eval, Array.getD_eq_getD_getElem?, Option.getD_some, e16, e17]; rfl)) ?_
   with_reducible refine (impl_unionOf.calls k a0_0 _ _ l0_1 _ _ l1 u _ (Kd.C_below HR0.out HB.out) HC0.out (Kd.C_below HR1.out HB.out) HC1.out A6.out).mono ?_
   rintro e w4 ⟨v1, rfl, ho, hb⟩
   refine ⟨_, rfl, ?_⟩
   obtain ⟨Au_, cu_, e_⟩ := Kd.R_slice ho
   subst e_
   refine hK.out _ _ ⟨Au_, cu_, gs, (.slice Au_ u.length cu_), m7_, m8_, (by rw [ha.out]; exact putSel_upk 1 hb_ rfl rfl rfl), blk_below BN.out hb, HB.out.trans (hb.mono HB.out.size), fun _ => Kd.R_lower ho HB.out.size, fun h0_ => (Q_GT h0_), fun h0_ h1_ => blk_below (Q_T1 h0_ h1_) hb, fun h0_ => absurd ((hoff 9 (by kernel_rfl)).symm.trans h0_) (by decide), fun _ => rfl, Q_X7_, fun h0_ => absurd ((hoff 8 (by kernel_rfl)).symm.trans h0_) (by decide)⟩
  refine steps_cons ?_ ?_
  ·
   rintro b a w' ⟨Au, cu, gs, m2_, m7_, m8_, ha, Q_BN, Q_HB, Q_HU, Q_GT, Q_T1, Q_T2, Q_X2_, Q_X7_, Q_X8_⟩ hb_ hon hoff
   refine ⟨_, rfl, fun K hK => ?_⟩
   have e3 : a.tmps[3]? = some (.pointer (some ⟨gb, 0, none⟩)) := by rw [ha]; exact (putSel_off rfl).trans rfl
   replace ha := Aside0.mk ha
   have BN := Aside0.mk Q_BN
   have HB := Aside0.mk Q_HB
   have hs0_ : w'.cell? ⟨gb, 0, none⟩ = some (.int .i64 a0_0) := (blk_cell BN.out 0).trans rfl
   have hs1_ : w'.cell? ⟨gb, 1, none⟩ = some (.slice A0_1 l0_1.length c0_1) := (blk_cell BN.out 1).trans rfl
   refine value_ (w1 := w') (v := .agg #[.int .i64 a0_0, .slice A0_1 l0_1.length c0_1]) (by rfl) rfl ?_ ?_
   ·
    go_simp
    (try simp only [i64_w])
    try rfl
   refine hK.out _ _ ⟨Au, cu, gs, m2_, m7_, m8_, (by rw [ha.out]; exact putSel_upk 2 hb_ rfl rfl rfl), Q_BN, Q_HB, Q_HU, Q_GT, Q_T1, fun h0_ => absurd ((hoff 9 (by kernel_rfl)).symm.trans h0_) (by decide), Q_X2_, Q_X7_, fun h0_ => absurd ((hoff 8 (by kernel_rfl)).symm.trans h0_) (by decide)⟩
  refine steps_cons ?_ ?_
  ·
   rintro b a w' ⟨Au, cu, gs, m2_, m7_, m8_, ha, Q_BN, Q_HB, Q_HU, Q_GT, Q_T1, Q_T2, Q_X2_, Q_X7_, Q_X8_⟩ hb_ hon hoff
   refine ⟨_, rfl, fun K hK => ?_⟩
   have e19 : a.tmps[19]? = some (.agg #[.int .i64 a0_0, .slice A0_1 l0_1.length c0_1]) := by rw [ha]; exact putSel_on (e := (3, 19, .agg #[.int .i64 a0_0, .slice A0_1 l0_1.length c0_1])) 2 rfl rfl (hon 3 (by kernel_rfl)) rfl
   have e20 : a.tmps[20]? = some (.slice A1 l1.length c1) := by rw [ha]; exact (putSel_off rfl).trans rfl
   have e21 : a.tmps[21]? = some (.slice A2 l2.length c2) := by rw [ha]; exact (putSel_off rfl).trans rfl
   replace ha := Aside0.mk ha
   have BN := Aside0.mk Q_BN
   have HB := Aside0.mk Q_HB
   have HU := Aside0.mk (Q_HU (hon 2 (by kernel_rfl)))
   refine goes_ Try.func33 (by kernel_rfl) rfl #[.agg #[.int .i64 a0_0, .slice A0_1 l0_1.length c0_1], .slice A1 l1.length c1, .slice A2 l2.length c2] (by rfl) rfl rfl (by first | (simp only [List.map_toArray, List.map_cons, List.map_nil, Act.eval, Array.getD_eq_getD_getElem?, Option.getD_some, e19, e20, e21]; done) | (simp only [List.map_toArray, List.map_cons, List.map_nil, Act.eval, Array.getD_eq_getD_getElem?, Option.getD_some, e19, e20, e21]; rfl)) ?_
   with_reducible refine (impl_sumsOf.calls k a0_0 _ _ l0_1 _ _ l1 _ _ l2 s _ (Kd.C_below HR0.out HB.out) HC0.out (Kd.C_below HR1.out HB.out) HC1.out (Kd.C_below HR2.out HB.out) HC2.out A7.out).mono ?_
   rintro e w4 ⟨rfl, hb⟩
   refine ⟨_, rfl, ?_⟩
   refine hK.out _ _ ⟨Au, cu, gs, m2_, m7_, m8_, (by rw [ha.out]; exact putSel_upk 3 hb_ rfl rfl rfl), blk_below BN.out hb, HB.out.trans (hb.mono HB.out.size), fun _ => Kd.R_below HU.out hb, fun h0_ => (Q_GT h0_), fun h0_ h1_ => blk_below (Q_T1 h0_ h1_) hb, fun h0_ => absurd ((hoff 9 (by kernel_rfl)).symm.trans h0_) (by decide), Q_X2_, Q_X7_, fun h0_ => absurd ((hoff 8 (by kernel_rfl)).symm.trans h0_) (by decide)⟩
  refine steps_cons ?_ ?_
  ·
   rintro b a w' ⟨Au, cu, gs, m2_, m7_, m8_, ha, Q_BN, Q_HB, Q_HU, Q_GT, Q_T1, Q_T2, Q_X2_, Q_X7_, Q_X8_⟩ hb_ hon hoff
   refine ⟨_, rfl, fun K hK => ?_⟩
   replace ha := Aside0.mk ha
   have BN := Aside0.mk Q_BN
   have HB := Aside0.mk Q_HB
   refine box_step (by rfl) (N := 8) rfl (cs := #[.int .i64 0, .int .i64 0, .int .i64 0, .int .i64 0, .int .i64 0, .int .i64 0, .int .i64 0, .int .i64 0, .int .i64 0, .int .i64 0, .int .i64 0, .int .i64 0, .int .i64 0, .int .i64 0, .int .i64 0, .int .i64 0]) (t := 60) ?hr8 ?_
   (case hr8 => first | (go_simp; done) | (go_simp; rfl))
   intro g_ hg w5 hbox hb
   refine hK.out _ _ ⟨Au, cu, g_, m2_, (.pointer (some ⟨g_, 0, none⟩)), m8_, (by rw [ha.out]; exact putSel_upk 4 hb_ rfl rfl rfl), blk_below BN.out hb, HB.out.trans (hb.mono HB.out.size), fun h0_ => Kd.R_below (Q_HU h0_) hb, fun _ => by rw [hg]; exact HB.out.size, fun _ _ => hbox, fun h0_ => absurd ((hoff 9 (by kernel_rfl)).symm.trans h0_) (by decide), Q_X2_, fun _ => rfl, fun h0_ => absurd ((hoff 8 (by kernel_rfl)).symm.trans h0_) (by decide)⟩
  refine steps_cons ?_ ?_
  ·
   rintro b a w' ⟨Au, cu, gs, m2_, m7_, m8_, ha, Q_BN, Q_HB, Q_HU, Q_GT, Q_T1, Q_T2, Q_X2_, Q_X7_, Q_X8_⟩ hb_ hon hoff
   refine ⟨_, rfl, fun K hK => ?_⟩
   have e18 : a.tmps[18]? = some (m2_) := by rw [ha]; exact putSel_on (e := (2, 18, m2_)) 1 rfl rfl (hon 2 (by kernel_rfl)) rfl
   rw [Q_X2_ (hon 2 (by kernel_rfl))] at e18
   replace ha := Aside0.mk ha
   have BN := Aside0.mk Q_BN
   have HB := Aside0.mk Q_HB
   have HU := Aside0.mk (Q_HU (hon 2 (by kernel_rfl)))
   have GT := Aside0.mk (Q_GT (hon 7 (by kernel_rfl)))
   have T1 := Aside0.mk (Q_T1 (hon 7 (by kernel_rfl)) (hoff 9 (by kernel_rfl)))
   refine value_ (w1 := w') (v := .slice Au u.length cu) (by rfl) rfl ?_ ?_
   ·
    go_simp
    (try simp only [i64_w])
    try rfl
   refine hK.out _ _ ⟨Au, cu, gs, m2_, m7_, (.slice Au u.length cu), (by rw [ha.out]; exact putSel_upk 5 hb_ rfl rfl rfl), Q_BN, Q_HB, Q_HU, Q_GT, Q_T1, fun h0_ => absurd ((hoff 9 (by kernel_rfl)).symm.trans h0_) (by decide), Q_X2_, Q_X7_, fun _ => rfl⟩
  refine steps_cons ?_ ?_
  ·
   rintro b a w' ⟨Au, cu, gs, m2_, m7_, m8_, ha, Q_BN, Q_HB, Q_HU, Q_GT, Q_T1, Q_T2, Q_X2_, Q_X7_, Q_X8_⟩ hb_ hon hoff
   refine ⟨_, rfl, fun K hK => ?_⟩
   have e8 : a.tmps[8]? = some (m7_) := by rw [ha]; exact putSel_on (e := (7, 8, m7_)) 4 rfl rfl (hon 7 (by kernel_rfl)) rfl
   rw [Q_X7_ (hon 7 (by kernel_rfl))] at e8
   have e22 : a.tmps[22]? = some (.agg #[.int .i64 (sAt s 0), .int .i64 (sAt s 1), .int .i64 (sAt s 2), .int .i64 (sAt s 3), .int .i64 (sAt s 4), .int .i64 (sAt s 5), .int .i64 (sAt s 6), .int .i64 (sAt s 7), .int .i64 (sAt s 8), .int .i64 (sAt s 9), .int .i64 (sAt s 10), .int .i64 (sAt s 11), .int .i64 (sAt s 12), .int .i64 (sAt s 13), .int .i64 (sAt s 14), .int .i64 (sAt s 15)]) := by rw [ha]; exact putSel_on (e := (6, 22, .agg #[.int .i64 (sAt s 0), .int .i64 (sAt s 1), .int .i64 (sAt s 2), .int .i64 (sAt s 3), .int .i64 (sAt s 4), .int .i64 (sAt s 5), .int .i64 (sAt s 6), .int .i64 (sAt s 7), .int .i64 (sAt s 8), .int .i64 (sAt s 9), .int .i64 (sAt s 10), .int .i64 (sAt s 11), .int .i64 (sAt s 12), .int .i64 (sAt s 13), .int .i64 (sAt s 14), .int .i64 (sAt s 15)])) 3 rfl rfl (hon 6 (by kernel_rfl)) rfl
   replace ha := Aside0.mk ha
   have BN := Aside0.mk Q_BN
   have HB := Aside0.mk Q_HB
   have HU := Aside0.mk (Q_HU (hon 2 (by kernel_rfl)))
   have GT := Aside0.mk (Q_GT (hon 7 (by kernel_rfl)))
   have T1 := Aside0.mk (Q_T1 (hon 7 (by kernel_rfl)) hb_)
   have hv0_ : w'.cell? ⟨gs, 0, none⟩ = some (.int .i64 0) := (blk_cell T1.out 0).trans rfl
   have hv1_ : w'.cell? ⟨gs, 1, none⟩ = some (.int .i64 0) := (blk_cell T1.out 1).trans rfl
   have hv2_ : w'.cell? ⟨gs, 2, none⟩ = some (.int .i64 0) := (blk_cell T1.out 2).trans rfl
   have hv3_ : w'.cell? ⟨gs, 3, none⟩ = some (.int .i64 0) := (blk_cell T1.out 3).trans rfl
   have hv4_ : w'.cell? ⟨gs, 4, none⟩ = some (.int .i64 0) := (blk_cell T1.out 4).trans rfl
   have hv5_ : w'.cell? ⟨gs, 5, none⟩ = some (.int .i64 0) := (blk_cell T1.out 5).trans rfl
   have hv6_ : w'.cell? ⟨gs, 6, none⟩ = some (.int .i64 0) := (blk_cell T1.out 6).trans rfl
   have hv7_ : w'.cell? ⟨gs, 7, none⟩ = some (.int .i64 0) := (blk_cell T1.out 7).trans rfl
   have hv8_ : w'.cell? ⟨gs, 8, none⟩ = some (.int .i64 0) := (blk_cell T1.out 8).trans rfl
   have hv9_ : w'.cell? ⟨gs, 9, none⟩ = some (.int .i64 0) := (blk_cell T1.out 9).trans rfl
   have hv10_ : w'.cell? ⟨gs, 10, none⟩ = some (.int .i64 0) := (blk_cell T1.out 10).trans rfl
   have hv11_ : w'.cell? ⟨gs, 11, none⟩ = some (.int .i64 0) := (blk_cell T1.out 11).trans rfl
   have hv12_ : w'.cell? ⟨gs, 12, none⟩ = some (.int .i64 0) := (blk_cell T1.out 12).trans rfl
   have hv13_ : w'.cell? ⟨gs, 13, none⟩ = some (.int .i64 0) := (blk_cell T1.out 13).trans rfl
   have hv14_ : w'.cell? ⟨gs, 14, none⟩ = some (.int .i64 0) := (blk_cell T1.out 14).trans rfl
   have hv15_ : w'.cell? ⟨gs, 15, none⟩ = some (.int .i64 0) := (blk_cell T1.out 15).trans rfl
   have hf0_ := blk_frozen T1.out 0
   have hf1_ := blk_frozen T1.out 1
   have hf2_ := blk_frozen T1.out 2
   have hf3_ := blk_frozen T1.out 3
   have hf4_ := blk_frozen T1.out 4
   have hf5_ := blk_frozen T1.out 5
   have hf6_ := blk_frozen T1.out 6
   have hf7_ := blk_frozen T1.out 7
   have hf8_ := blk_frozen T1.out 8
   have hf9_ := blk_frozen T1.out 9
   have hf10_ := blk_frozen T1.out 10
   have hf11_ := blk_frozen T1.out 11
   have hf12_ := blk_frozen T1.out 12
   have hf13_ := blk_frozen T1.out 13
   have hf14_ := blk_frozen T1.out 14
   have hf15_ := blk_frozen T1.out 15
   refine skip_ (w1 := ((((((((((((((((w'.setCell ⟨gs, 0, none⟩ (.int .i64 (sAt s 0))).setCell ⟨gs, 1, none⟩ (.int .i64 (sAt s 1))).setCell ⟨gs, 2, none⟩ (.int .i64 (sAt s 2))).setCell ⟨gs, 3, none⟩ (.int .i64 (sAt s 3))).setCell ⟨gs, 4, none⟩ (.int .i64 (sAt s 4))).setCell ⟨gs, 5, none⟩ (.int .i64 (sAt s 5))).setCell ⟨gs, 6, none⟩ (.int .i64 (sAt s 6))).setCell ⟨gs, 7, none⟩ (.int .i64 (sAt s 7))).setCell ⟨gs, 8, none⟩ (.int .i64 (sAt s 8))).setCell ⟨gs, 9, none⟩ (.int .i64 (sAt s 9))).setCell ⟨gs, 10, none⟩ (.int .i64 (sAt s 10))).setCell ⟨gs, 11, none⟩ (.int .i64 (sAt s 11))).setCell ⟨gs, 12, none⟩ (.int .i64 (sAt s 12))).setCell ⟨gs, 13, none⟩ (.int .i64 (sAt s 13))).setCell ⟨gs, 14, none⟩ (.int .i64 (sAt s 14))).setCell ⟨gs, 15, none⟩ (.int .i64 (sAt s 15)))) (by rfl) rfl ?_ ?_
   ·
    go_simp
    try rfl
   have hk_ : Kept w' (((((((((((((((((w'.setCell ⟨gs, 0, none⟩ (.int .i64 (sAt s 0))).setCell ⟨gs, 1, none⟩ (.int .i64 (sAt s 1))).setCell ⟨gs, 2, none⟩ (.int .i64 (sAt s 2))).setCell ⟨gs, 3, none⟩ (.int .i64 (sAt s 3))).setCell ⟨gs, 4, none⟩ (.int .i64 (sAt s 4))).setCell ⟨gs, 5, none⟩ (.int .i64 (sAt s 5))).setCell ⟨gs, 6, none⟩ (.int .i64 (sAt s 6))).setCell ⟨gs, 7, none⟩ (.int .i64 (sAt s 7))).setCell ⟨gs, 8, none⟩ (.int .i64 (sAt s 8))).setCell ⟨gs, 9, none⟩ (.int .i64 (sAt s 9))).setCell ⟨gs, 10, none⟩ (.int .i64 (sAt s 10))).setCell ⟨gs, 11, none⟩ (.int .i64 (sAt s 11))).setCell ⟨gs, 12, none⟩ (.int .i64 (sAt s 12))).setCell ⟨gs, 13, none⟩ (.int .i64 (sAt s 13))).setCell ⟨gs, 14, none⟩ (.int .i64 (sAt s 14))).setCell ⟨gs, 15, none⟩ (.int .i64 (sAt s 15)))) (fun k_ => k_ = gs) := Kept.setCell (Kept.setCell (Kept.setCell (Kept.setCell (Kept.setCell (Kept.setCell (Kept.setCell (Kept.setCell (Kept.setCell (Kept.setCell (Kept.setCell (Kept.setCell (Kept.setCell (Kept.setCell (Kept.setCell (Kept.setCell (Kept.refl w' (fun k_ => k_ = gs)) (p := ⟨gs, 0, none⟩) (.inl rfl) _) (p := ⟨gs, 1, none⟩) (.inl rfl) _) (p := ⟨gs, 2, none⟩) (.inl rfl) _) (p := ⟨gs, 3, none⟩) (.inl rfl) _) (p := ⟨gs, 4, none⟩) (.inl rfl) _) (p := ⟨gs, 5, none⟩) (.inl rfl) _) (p := ⟨gs, 6, none⟩) (.inl rfl) _) (p := ⟨gs, 7, none⟩) (.inl rfl) _) (p := ⟨gs, 8, none⟩) (.inl rfl) _) (p := ⟨gs, 9, none⟩) (.inl rfl) _) (p := ⟨gs, 10, none⟩) (.inl rfl) _) (p := ⟨gs, 11, none⟩) (.inl rfl) _) (p := ⟨gs, 12, none⟩) (.inl rfl) _) (p := ⟨gs, 13, none⟩) (.inl rfl) _) (p := ⟨gs, 14, none⟩) (.inl rfl) _) (p := ⟨gs, 15, none⟩) (.inl rfl) _
   refine hK.out _ _ ⟨Au, cu, gs, m2_, m7_, m8_, (by rw [ha.out]; exact putSel_none (v := undef) rfl), blk_kept BN.out hk_ (fun e_ => by have h1_ := BN.out; rw [show gb = gs from e_, T1.out] at h1_; simp at h1_), (below_set (below_set (below_set (below_set (below_set (below_set (below_set (below_set (below_set (below_set (below_set (below_set (below_set (below_set (below_set (below_set HB.out GT.out) GT.out) GT.out) GT.out) GT.out) GT.out) GT.out) GT.out) GT.out) GT.out) GT.out) GT.out) GT.out) GT.out) GT.out) GT.out), fun _ => Kd.R_mono (Kd.R_kept (Kd.R_types HU.out T1.out (by decide)) hk_ (fun k_ h_ e_ => h_.2 e_)) (fun _ _ => trivial), fun _ => GT.out, fun _ h1_ => absurd ((up_self b 9).symm.trans h1_) (by decide), fun _ => (blk_put (blk_put (blk_put (blk_put (blk_put (blk_put (blk_put (blk_put (blk_put (blk_put (blk_put (blk_put (blk_put (blk_put (blk_put (blk_put (show w'.heap[gs]? = some (.cells (sumsC (List.replicate 16 0)) 60 (0, 0)) from T1.out) 0 _ (sumsC_set _ 0 _)) 1 _ (sumsC_set _ 1 _)) 2 _ (sumsC_set _ 2 _)) 3 _ (sumsC_set _ 3 _)) 4 _ (sumsC_set _ 4 _)) 5 _ (sumsC_set _ 5 _)) 6 _ (sumsC_set _ 6 _)) 7 _ (sumsC_set _ 7 _)) 8 _ (sumsC_set _ 8 _)) 9 _ (sumsC_set _ 9 _)) 10 _ (sumsC_set _ 10 _)) 11 _ (sumsC_set _ 11 _)) 12 _ (sumsC_set _ 12 _)) 13 _ (sumsC_set _ 13 _)) 14 _ (sumsC_set _ 14 _)) 15 _ (sumsC_set _ 15 _)), Q_X2_, Q_X7_, Q_X8_⟩
  exact steps_nil
 rintro b a wt hall ⟨Au, cu, gs, m2_, m7_, m8_, ha, Q_BN, Q_HB, Q_HU, Q_GT, Q_T1, Q_T2, Q_X2_, Q_X7_, Q_X8_⟩
 clear BN HB
 have hb0_ := hall 0 (by kernel_rfl)
 have hb2_ := hall 2 (by kernel_rfl)
 have hb3_ := hall 3 (by kernel_rfl)
 have hb6_ := hall 6 (by kernel_rfl)
 have hb7_ := hall 7 (by kernel_rfl)
 have hb8_ := hall 8 (by kernel_rfl)
 have hb9_ := hall 9 (by kernel_rfl)
 subst ha
 obtain rfl := Q_X2_ hb2_
 obtain rfl := Q_X7_ hb7_
 obtain rfl := Q_X8_ hb8_
 simp only [putSel, hb0_, hb2_, hb3_, hb6_, hb7_, hb8_, hb9_, if_true, Act.put, List.setIfInBounds_toArray, List.set_cons_zero, List.set_cons_succ]
 have BN := Aside0.mk Q_BN
 clear Q_BN
 have HB := Aside0.mk Q_HB
 clear Q_HB
 have HU := Aside0.mk (Q_HU hb2_)
 clear Q_HU
 have GT := Aside0.mk (Q_GT hb7_)
 clear Q_GT
 clear Q_T1
 have T2 := Aside0.mk (Q_T2 hb9_)
 clear Q_T2
 clear hall hb0_ hb2_ hb3_ hb6_ hb7_ hb8_ hb9_
 clear BN GT A5 A6 A7
 obtain ⟨vu, hvu, hU⟩ : ∃ vu, vu = (.slice Au u.length cu) ∧ Kd.R (Kd.int .i64) 3 wt w.heap.size (ownS vu) vu u := ⟨_, rfl, Kd.R_tight rfl HU.out⟩
 have HU := Aside0.mk hU
 have BS := T2
 clear hU T2
 rw [← hvu]
 clear hvu
 go_wp2
 go_loopg [9, 25] k (fun kq v9 v25 W => ∃ (u x9 : List Int) (i : Int), v25 = .int .i64 i ∧ Aside0 (impl_AliveBuses.l0 kq l2 s u x9 i = some r) ∧ Aside0 (kq ≤ k) ∧ Aside0 (Kd.R (Kd.int .i64) 3 W w.heap.size (ownS vu) vu u) ∧ Aside0 (Kd.R (Kd.int .i64) 3 W w.heap.size (fun k_ => ¬ ownS vu k_) v9 x9) ∧ Aside0 (W.heap[gs]? = some (.cells (sumsC [sAt s 0, sAt s 1, sAt s 2, sAt s 3, sAt s 4, sAt s 5, sAt s 6, sAt s 7, sAt s 8, sAt s 9, sAt s 10, sAt s 11, sAt s 12, sAt s 13, sAt s 14, sAt s 15]) 60 (0, 0))) ∧ Aside0 (Below w.heap.size w W))
 case atStart => exact ⟨u, [], 0, rfl, H', ⟨Nat.le_refl _⟩, HU, ⟨Kd.R_nil _ _ _ _ _⟩, BS, HB⟩
 case round =>
  clear H' HU BS HB
  obtain ⟨u, x9, i, rfl, HA, HK1, HU, HV, BS, HB⟩ := hrel
  cases gk with
  | zero => exact absurd HA.out (by simp [impl_AliveBuses.l0])
  | succ k1 =>
   have H := HA.out
   clear HA
   simp only [impl_AliveBuses.l0] at H
   by_cases c4 : i < (l2.length : Int)
   rotate_left
   ·
    rw [if_neg c4] at H
    have c4b : decide (i < (l2.length : Int)) = false := decide_eq_false c4
    clear c4
    obtain rfl := Option.some.inj H
    go_wp2
    go_ret
    exact ⟨_, rfl, Kd.R_mono HV.out (fun _ _ => trivial), HB.out⟩
   rw [if_pos c4] at H
   have c4b : decide (i < (l2.length : Int)) = true := decide_eq_true c4
   clear c4
   obtain ⟨⟨r1, u1⟩, A80, H⟩ := Option.bind_eq_some_iff.mp H
   have A8 := Aside0.mk A80
   clear A80
   by_cases c5 : 0 ≤ r1
   rotate_left
   ·
    rw [if_neg c5] at H
    exact absurd H (by simp)
   rw [if_pos c5] at H
   by_cases c6 : r1 < 8
   rotate_left
   ·
    rw [if_neg c6] at H
    exact absurd H (by simp)
   rw [if_pos c6] at H
   have SL := Aside0.mk (show sAt [sAt s 0, sAt s 1, sAt s 2, sAt s 3, sAt s 4, sAt s 5, sAt s 6, sAt s 7, sAt s 8, sAt s 9, sAt s 10, sAt s 11, sAt s 12, sAt s 13, sAt s 14, sAt s 15] r1.toNat = sAt s r1.toNat from by
    have h : r1 = 0 ∨ r1 = 1 ∨ r1 = 2 ∨ r1 = 3 ∨ r1 = 4 ∨ r1 = 5 ∨ r1 = 6 ∨ r1 = 7 := by omega
    rcases h with h | h | h | h | h | h | h | h <;> (subst h; rfl))
   have P0 := Aside0.mk c5
   have P1 := Aside0.mk c6
   clear c5 c6
   by_cases c7 : 0 < sAt s r1.toNat
   ·
    rw [if_pos c7] at H
    have c7b : decide (0 < sAt s r1.toNat) = true := decide_eq_true c7
    clear c7
    by_cases c8 : x9.length < 17592186044416
    rotate_left
    ·
     rw [if_neg c8] at H
     exact absurd H (by simp)
    rw [if_pos c8] at H
    have LM := Aside0.mk c8
    have H' := Aside0.mk H
    clear c8 H
    go_wp2_with (first | ((with_reducible refine gate_callee (f := 34) rfl ?_); refine goesL_ (some 30) rfl rfl Try.func34 (by kernel_rfl) rfl #[vu, .int .i64 i] rfl (by (try simp only [List.map_toArray, List.map_cons, List.map_nil]); first | done | rfl) ?_; (with_reducible refine (impl_union_find.calls k1 (ownS vu) vu u i r1 u1 w _ ?side1 ?side2 A8.out).mono ?_); (case side1 => exact HB.out); (case side2 => exact HU.out); rintro e w11 ⟨rfl, hy, hb, hk⟩; refine ⟨_, rfl, ?_⟩; have n0_ := Aside0.mk (blk_kept BS.out hk (fun e_ => (Kd.R_ne HU.out BS.out (by decide) e_).elim)); have n1_ := Aside0.mk (Kd.R_kept HV.out hk (fun k_ e_ => e_)); have n2_ := Aside0.mk (show Kd.R (Kd.int .i64) 3 w11 w.heap.size (ownS vu) vu u1 from Kd.R_reok rfl hy (fun k_ e_ => e_.symm)); clear HB BS HU HV; have HB := Aside0.mk hb; have BS := n0_; have HV := n1_; have HU := n2_; clear n0_ n1_ n2_ hb hy hk; have hs0 : w11.cell? ⟨gs, r1.toNat, none⟩ = some (.int .i64 (sAt [sAt s 0, sAt s 1, sAt s 2, sAt s 3, sAt s 4, sAt s 5, sAt s 6, sAt s 7, sAt s 8, sAt s 9, sAt s 10, sAt s 11, sAt s 12, sAt s 13, sAt s 14, sAt s 15] r1.toNat)) := (blk_cell BS.out r1.toNat).trans (sumsC_at _ _ (by have := P0.out; have := P1.out; simp; omega)); rw [SL.out] at hs0; have p0 := eq_true P0.out; have p1 := eq_true P1.out) | ((with_reducible refine gate_builtin (b := .append) (xs := #[.tmp 35, .tmp 37]) rfl ?_); at_builtin; refine Kd.R_append (Kd.int .i64) (w0 := w) w.heap.size rfl (.tmp 35) (.tmp 37) 29 3 (.int .i64 0) 8 rfl Try.underlying29 info3 rfl (by decide) (by omega) u9 x9 i [.int .i64 i] (fun k_ => ¬ ownS vu k_) (fun _ => False) rfl rfl ?aP (fun _ hk => hk.elim) ?aF ?aO ?aB ?aS ?aL ?_; (case aP => exact rfl); (case aF => exact fun k_ hk_ e_ => by have h1_ := Kd.R_lt HU.out k_ e_.symm; (try simp at hk_); omega); (case aO => exact (by (with_reducible repeat (first | apply Kd.R_alloc | apply Kd.R_drewN | apply Kd.R_drew)); exact HV.out)); (case aB => exact (by repeat (first | (with_reducible first | exact HB.out | apply below_alloc | apply pw_below_drewN | apply below_drew1) | exact HB.out))); (case aS => exact (below_size (by repeat (first | (with_reducible first | exact HB.out | apply below_alloc | apply pw_below_drewN | apply below_drew1) | exact HB.out)))); (case aL => have := LM.out; omega); intro v12 w12 ho hb hg hat; have n0_ := Aside0.mk ((hg.block gs (blk_lt BS.out) (fun e_ => Kd.R_ne HV.out BS.out (by decide) e_)).trans BS.out); have n1_ := Aside0.mk (Kd.R_step HU.out (fun k_ e_ hl_ => hg.block k_ hl_ (fun h_ => HV.out.1 k_ h_.symm e_))); clear HB BS HU HV; have HB := Aside0.mk hb; have BS := n0_; have HU := n1_; have HV := Aside0.mk ho; clear n0_ n1_ ho hb hg hat))
    go_roundg k1
    case measure => have := HK1.out; omega
    case rel => exact ⟨u1, _, wrap64 (i + 1), rfl, H', ⟨by have := HK1.out; omega⟩, HU, HV, BS, HB⟩
   rw [if_neg c7] at H
   have c7b : decide (0 < sAt s r1.toNat) = false := decide_eq_false c7
   clear c7
   have H' := Aside0.mk H
   clear H
   go_wp2_with ((with_reducible refine gate_callee (f := 34) rfl ?_); refine goesL_ (some 30) rfl rfl Try.func34 (by kernel_rfl) rfl #[vu, .int .i64 i] rfl (by (try simp only [List.map_toArray, List.map_cons, List.map_nil]); first | done | rfl) ?_; (with_reducible refine (impl_union_find.calls k1 (ownS vu) vu u i r1 u1 w _ ?side1 ?side2 A8.out).mono ?_); (case side1 => exact HB.out); (case side2 => exact HU.out); rintro e w11 ⟨rfl, hy, hb, hk⟩; refine ⟨_, rfl, ?_⟩; have n0_ := Aside0.mk (blk_kept BS.out hk (fun e_ => (Kd.R_ne HU.out BS.out (by decide) e_).elim)); have n1_ := Aside0.mk (Kd.R_kept HV.out hk (fun k_ e_ => e_)); have n2_ := Aside0.mk (show Kd.R (Kd.int .i64) 3 w11 w.heap.size (ownS vu) vu u1 from Kd.R_reok rfl hy (fun k_ e_ => e_.symm)); clear HB BS HU HV; have HB := Aside0.mk hb; have BS := n0_; have HV := n1_; have HU := n2_; clear n0_ n1_ n2_ hb hy hk; have hs0 : w11.cell? ⟨gs, r1.toNat, none⟩ = some (.int .i64 (sAt [sAt s 0, sAt s 1, sAt s 2, sAt s 3, sAt s 4, sAt s 5, sAt s 6, sAt s 7, sAt s 8, sAt s 9, sAt s 10, sAt s 11, sAt s 12, sAt s 13, sAt s 14, sAt s 15] r1.toNat)) := (blk_cell BS.out r1.toNat).trans (sumsC_at _ _ (by have := P0.out; have := P1.out; simp; omega)); rw [SL.out] at hs0; have p0 := eq_true P0.out; have p1 := eq_true P1.out)
   go_roundg k1
   case measure => have := HK1.out; omega
   case rel => exact ⟨u1, _, wrap64 (i + 1), rfl, H', ⟨by have := HK1.out; omega⟩, HU, HV, BS, HB⟩

end Go.Proofs.Ytlahlfjhfmldaaa.P
namespace Go.Proofs.Ytlahlfjhfmldaaa.P
open Go.RowKit Go.Proofs.YtlahlfjhfmldaaaW.PrintWords Go.Proofs.YtlahlfjhfmldaaaW.PrintLast Go.Proofs.YtlahlfjhfmldaaaW.PrintMore
attribute [local go_sem] max2_int min2_int max_two min_two max_three min_three max_four min_four   -- for this text's walks alone
set_option linter.unusedVariables false
set_option linter.unusedSimpArgs false

/-! ### laws_eqIntS: function 13 -/
def laws_eqIntS.l0 : Nat → List Int → List Int → Int → Option (Bool)
 | 0, _, _, _ => none
 | k + 1, x0, x1, x5 => if x5 < (x0.length : Int) then (if 0 ≤ x5 then (if x5 < (x1.length : Int) then (if (rd x0 x5) = (rd x1 x5) then (laws_eqIntS.l0 k x0 x1 (wrap64 (x5 + 1))) else (some false)) else (none)) else (none)) else (some true)
def laws_eqIntS.f (k : Nat) (l0 : List Int) (l1 : List Int) : Option (Bool) := if (l0.length : Int) = (l1.length : Int) then (laws_eqIntS.l0 k l0 l1 0) else (some false)
theorem laws_eqIntS.mono_l : ∀ k, (∀ y0 y1 y2, LeO (laws_eqIntS.l0 k y0 y1 y2) (laws_eqIntS.l0 (k + 1) y0 y1 y2))
 | 0 => fun _ _ _ r h => by simp [laws_eqIntS.l0] at h
 | k + 1 => by
  have ih0 := laws_eqIntS.mono_l k
  ·
   intro y0 y1 y2
   unfold laws_eqIntS.l0
   repeat' first
   | (with_reducible exact ih0 _ _ _)
   | (with_reducible exact LeO.refl _)
   | (with_reducible exact LeO.none _)
   | (with_reducible refine LeO.ite ?_ ?_)
   | (with_reducible refine LeO.bind ?_ (fun _ => ?_))
   | exact ih0 _ _ _
   | exact LeO.none _
   | refine LeO.ite ?_ ?_
   | refine LeO.bind ?_ (fun _ => ?_)
theorem laws_eqIntS.mono : ∀ a0 a1 k, LeO (laws_eqIntS.f k a0 a1) (laws_eqIntS.f (k + 1) a0 a1) := by
 intro a0 a1 k
 have ih0 := laws_eqIntS.mono_l k
 unfold laws_eqIntS.f
 repeat' first
   | (with_reducible exact ih0 _ _ _)
   | (with_reducible exact LeO.refl _)
   | (with_reducible exact LeO.none _)
   | (with_reducible refine LeO.ite ?_ ?_)
   | (with_reducible refine LeO.bind ?_ (fun _ => ?_))
   | exact ih0 _ _ _
   | exact LeO.none _
   | refine LeO.ite ?_ ?_
   | refine LeO.bind ?_ (fun _ => ?_)
set_option maxHeartbeats 8000000 in
set_option maxRecDepth 100000 in
theorem laws_eqIntS.calls (k : Nat) (A0 : Option Addr) (c0 : Nat) (l0 : List Int) (A1 : Option Addr) (c1 : Nat) (l1 : List Int) (r : Bool) (w : World) (hr0 : Kd.C (Kd.int .i64) w A0 l0.length l0) (hc0 : l0.length ≤ c0) (hr1 : Kd.C (Kd.int .i64) w A1 l1.length l1) (hc1 : l1.length ≤ c1) (h : laws_eqIntS.f k l0 l1 = some r) :
  Calls Try.prog 13 #[.slice A0 l0.length c0, .slice A1 l1.length c1] w fun e w' => e = .returned (.bool r) ∧ Drawn0 w w' := by
 have HR0 := Aside0.mk hr0
 have HC0 := Aside0.mk hc0
 clear hr0 hc0
 have HR1 := Aside0.mk hr1
 have HC1 := Aside0.mk hc1
 clear hr1 hc1
 have H : (if (l0.length : Int) = (l1.length : Int) then (laws_eqIntS.l0 k l0 l1 0) else (some false)) = some r := h
 clear h
 by_cases c3 : (l0.length : Int) = (l1.length : Int)
 rotate_left
 ·
  rw [if_neg c3] at H
  have c3b0 : ((l0.length : Int) == (l1.length : Int)) = false := beq_eq_false_iff_ne.mpr c3
  have c3b1 : ((l0.length : Int) != (l1.length : Int)) = true := bne_iff_ne.mpr c3
  have c3b2 : (l0.length == l1.length) = false := by first | simpa using c3 | (simp at c3 ⊢; omega)
  obtain rfl := Option.some.inj H
  go_enter Try.func13, Try.ntmps13
  go_wp2
  repeat (go_quiet (fail); try go_wp2)
  go_ret
  exact ⟨by first | rfl | (simp; done) | (simp [*]; done), by repeat (first | exact Drawn0.refl _ | apply Drawn0.step)⟩
 rw [if_pos c3] at H
 have c3b0 : ((l0.length : Int) == (l1.length : Int)) = true := beq_iff_eq.mpr c3
 have c3b1 : ((l0.length : Int) != (l1.length : Int)) = false := bne_eq_false_iff_eq.mpr c3
 have c3b2 : (l0.length == l1.length) = true := by first | simpa using c3 | (simp at c3 ⊢; omega)
 clear c3
 have H' := Aside0.mk H
 clear H
 go_enter Try.func13, Try.ntmps13
 go_wp2
 repeat (go_quiet (fail); try go_wp2)
 go_loopg [5] k (fun kq v5 w' => ∃ (x5_1 : Int), v5 = .int .i64 x5_1 ∧ Aside0 (laws_eqIntS.l0 kq l0 l1 x5_1 = some r) ∧ Aside0 (kq ≤ k) ∧ Drawn0 w w')
 case atStart => exact ⟨(0), (by first | rfl | (simp; done) | (simp [*]; done)), H', ⟨Nat.le_refl _⟩, by repeat (first | exact Drawn0.refl _ | apply Drawn0.step)⟩
 case round =>
  clear H'
  try clear c1
  try clear p2
  try clear c3
  try clear c3b0
  try clear c3b1
  try clear c3b2
  obtain ⟨x5_1, rfl, HA, HK1, ⟨m1, rfl⟩⟩ := hrel
  cases gk with
  | zero => exact absurd HA.out (by simp [laws_eqIntS.l0])
  | succ k1 =>
   have H := HA.out
   clear HA
   simp only [laws_eqIntS.l0] at H
   by_cases c4 : x5_1 < (l0.length : Int)
   rotate_left
   ·
    rw [if_neg c4] at H
    have c4b0 : decide (x5_1 < (l0.length : Int)) = false := decide_eq_false c4
    clear c4
    obtain rfl := Option.some.inj H
    go_wp2
    repeat (go_quiet (fail); try go_wp2)
    go_ret
    exact ⟨by first | rfl | (simp; done) | (simp [*]; done), by repeat (first | exact Drawn0.refl _ | apply Drawn0.step)⟩
   rw [if_pos c4] at H
   have c4b0 : decide (x5_1 < (l0.length : Int)) = true := decide_eq_true c4
   clear c4
   by_cases c5 : 0 ≤ x5_1
   rotate_left
   ·
    rw [if_neg c5] at H
    exact absurd H (by simp)
   rw [if_pos c5] at H
   have c5b0 : decide (0 ≤ x5_1) = true := decide_eq_true c5
   clear c5
   by_cases c6 : x5_1 < (l1.length : Int)
   rotate_left
   ·
    rw [if_neg c6] at H
    exact absurd H (by simp)
   rw [if_pos c6] at H
   have c6b0 : decide (x5_1 < (l1.length : Int)) = true := decide_eq_true c6
   clear c6
   by_cases c7 : (rd l0 x5_1) = (rd l1 x5_1)
   rotate_left
   ·
    rw [if_neg c7] at H
    have c7b0 : ((rd l0 x5_1) == (rd l1 x5_1)) = false := beq_eq_false_iff_ne.mpr c7
    have c7b1 : ((rd l0 x5_1) != (rd l1 x5_1)) = true := bne_iff_ne.mpr c7
    obtain rfl := Option.some.inj H
    have p236 : 0 ≤ (x5_1 : Int) := of_decide_eq_true (by first | (with_reducible assumption) | assumption)
    have q236 : x5_1 < (l0.length : Int) := of_decide_eq_true (by first | (with_reducible assumption) | assumption)
    obtain ⟨ad236, e236, hx236_0⟩ := Kd.at_int HR0.out x5_1 p236 q236
    cases e236
    replace p236 := eq_true p236
    replace q236 := eq_true q236
    have p237 : 0 ≤ (x5_1 : Int) := of_decide_eq_true (by first | (with_reducible assumption) | assumption)
    have q237 : x5_1 < (l1.length : Int) := of_decide_eq_true (by first | (with_reducible assumption) | assumption)
    obtain ⟨ad237, e237, hx237_0⟩ := Kd.at_int HR1.out x5_1 p237 q237
    cases e237
    replace p237 := eq_true p237
    replace q237 := eq_true q237
    go_wp2
    repeat (go_quiet (fail); try go_wp2)
    go_ret
    exact ⟨by first | rfl | (simp; done) | (simp [*]; done), by repeat (first | exact Drawn0.refl _ | apply Drawn0.step)⟩
   rw [if_pos c7] at H
   have c7b0 : ((rd l0 x5_1) == (rd l1 x5_1)) = true := beq_iff_eq.mpr c7
   have c7b1 : ((rd l0 x5_1) != (rd l1 x5_1)) = false := bne_eq_false_iff_eq.mpr c7
   clear c7
   have H' := Aside0.mk H
   clear H
   have p236 : 0 ≤ (x5_1 : Int) := of_decide_eq_true (by first | (with_reducible assumption) | assumption)
   have q236 : x5_1 < (l0.length : Int) := of_decide_eq_true (by first | (with_reducible assumption) | assumption)
   obtain ⟨ad236, e236, hx236_0⟩ := Kd.at_int HR0.out x5_1 p236 q236
   cases e236
   replace p236 := eq_true p236
   replace q236 := eq_true q236
   have p237 : 0 ≤ (x5_1 : Int) := of_decide_eq_true (by first | (with_reducible assumption) | assumption)
   have q237 : x5_1 < (l1.length : Int) := of_decide_eq_true (by first | (with_reducible assumption) | assumption)
   obtain ⟨ad237, e237, hx237_0⟩ := Kd.at_int HR1.out x5_1 p237 q237
   cases e237
   replace p237 := eq_true p237
   replace q237 := eq_true q237
   go_wp2
   repeat (go_quiet (fail); try go_wp2)
   go_roundg k1
   case measure => have := HK1.out; omega
   case rel => exact ⟨(wrap64 (x5_1 + 1)), (by first | rfl | (simp; done) | (simp [*]; done)), H', ⟨by have := HK1.out; omega⟩, by repeat (first | exact Drawn0.refl _ | apply Drawn0.step)⟩

end Go.Proofs.Ytlahlfjhfmldaaa.P

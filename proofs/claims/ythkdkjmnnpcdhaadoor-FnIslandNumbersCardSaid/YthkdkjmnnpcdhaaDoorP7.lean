/- Contracts of Go functions of this seat's translation, written by this repo's wip/mk.py: it calls the kit's print.py with contracts typed by hand in place of functions that it does not take. Not trusted: Lean checks it. -/
import Derived.Test.YthkdkjmnnpcdhaaDoorP0
import Derived.Test.YthkdkjmnnpcdhaaDoorP3
import Derived.Test.YthkdkjmnnpcdhaaDoorP4
import Derived.Test.YthkdkjmnnpcdhaaDoorP5
namespace Go.Proofs.YthkdkjmnnpcdhaaDoor.P
open Go.RowKit Go.Proofs.YthkdkjmnnpcdhaaDoorW.PrintWords Go.Proofs.YthkdkjmnnpcdhaaDoorW.PrintLast Go.Proofs.YthkdkjmnnpcdhaaDoorW.PrintMore
attribute [local go_sem] max2_int min2_int max_two min_two max_three min_three max_four min_four   -- for this text's walks alone
set_option linter.unusedVariables false
set_option linter.unusedSimpArgs false

/-! ### spec_DrawChangeAll: function 11 -/
mutual
def spec_DrawChangeAll.l0 : Nat → List Bool → List Int → Int → List Int → Int → Option (List Bool × List Int)
 | 0, _, _, _, _, _ => none
 | k + 1, x5, x6, x7, x175000, x175001 => if x7 > 0 then ((spec_l20Rd_pick.f k x175000 x175001 (wrap64 ((x5.length : Int) + 1))).bind fun bt189 => ((spec_l20Rd_pick.f k x175000 bt189.2 12).bind fun bt191 => (if x6.length < 17592186044416 then (spec_DrawChangeAll.l0 k x5 (x6 ++ [wrap64 (bt189.1 - (wrap64 (Int.tdiv bt191.1 11)))]) (wrap64 (x7 - 1)) x175000 bt191.2) else (none)))) else (if (x5.length : Int) > 0 then ((spec_l20Rd_pick.f k x175000 x175001 2).bind fun bt196 => (spec_DrawChangeAll.j1 k x5 x6 (bt196.1 == 0))) else (spec_DrawChangeAll.j1 k x5 x6 false))
def spec_DrawChangeAll.j1 : Nat → List Bool → List Int → Bool → Option (List Bool × List Int)
 | 0, _, _, _ => none
 | k + 1, x5, x6, x41 => if x41 = true then (spec_DrawChangeAll.l1 k x5 x6 0) else (some (x5, x6))
def spec_DrawChangeAll.l1 : Nat → List Bool → List Int → Int → Option (List Bool × List Int)
 | 0, _, _, _ => none
 | k + 1, x5, x6, x8 => if x8 < (x6.length : Int) then (if 0 ≤ x8 then (if (x5.length : Int) = 0 then (none) else (spec_DrawChangeAll.l1 k x5 (x6.set (x8 : Int).toNat (Int.tmod (wrap64 ((rd x6 x8) + (x5.length : Int))) (x5.length : Int))) (wrap64 (x8 + 1)))) else (none)) else (some (x5, x6))
end
def spec_DrawChangeAll.f (k : Nat) (l0 : List Int) : Option (List Bool × List Int) := (spec_l20Open.f l0).bind fun bt172 => ((spec_l20Net.f k bt172.1 bt172.2 0).bind fun bt175 => ((spec_l20State.f k bt172.1 bt175.2.2 bt175.1 bt175.2.1 0).bind fun bt180 => ((spec_l20Rd_pick.f k bt172.1 bt180.2 6).bind fun bt187 => (spec_DrawChangeAll.l0 k bt180.1 (([] : List Int)) bt187.1 bt172.1 bt187.2))))
theorem spec_DrawChangeAll.mono_l : ∀ k, (∀ y0 y1 y2 y3 y4, LeO (spec_DrawChangeAll.l0 k y0 y1 y2 y3 y4) (spec_DrawChangeAll.l0 (k + 1) y0 y1 y2 y3 y4)) ∧ (∀ y0 y1 y2, LeO (spec_DrawChangeAll.j1 k y0 y1 y2) (spec_DrawChangeAll.j1 (k + 1) y0 y1 y2)) ∧ (∀ y0 y1 y2, LeO (spec_DrawChangeAll.l1 k y0 y1 y2) (spec_DrawChangeAll.l1 (k + 1) y0 y1 y2))
 | 0 => ⟨fun _ _ _ _ _ r h => by simp [spec_DrawChangeAll.l0] at h, fun _ _ _ r h => by simp [spec_DrawChangeAll.j1] at h, fun _ _ _ r h => by simp [spec_DrawChangeAll.l1] at h⟩
 | k + 1 => by
  obtain ⟨ih0, ih1, ih2⟩ := spec_DrawChangeAll.mono_l k
  refine ⟨?_, ?_, ?_⟩
  ·
   intro y0 y1 y2 y3 y4
   unfold spec_DrawChangeAll.l0
   repeat' first
   | (with_reducible exact ih0 _ _ _ _ _)
   | (with_reducible exact ih1 _ _ _)
   | (with_reducible exact ih2 _ _ _)
   | (with_reducible exact spec_l20Net.mono _ _ _ _)
   | (with_reducible exact spec_l20Rd_pick.mono _ _ _ _)
   | (with_reducible exact spec_l20State.mono _ _ _ _ _ _)
   | (with_reducible exact LeO.refl _)
   | (with_reducible exact LeO.none _)
   | (with_reducible refine LeO.ite ?_ ?_)
   | (with_reducible refine LeO.bind ?_ (fun _ => ?_))
   | exact ih0 _ _ _ _ _
   | exact ih1 _ _ _
   | exact ih2 _ _ _
   | exact spec_l20Net.mono _ _ _ _
   | exact spec_l20Rd_pick.mono _ _ _ _
   | exact spec_l20State.mono _ _ _ _ _ _
   | exact LeO.none _
   | refine LeO.ite ?_ ?_
   | refine LeO.bind ?_ (fun _ => ?_)
  ·
   intro y0 y1 y2
   unfold spec_DrawChangeAll.j1
   repeat' first
   | (with_reducible exact ih0 _ _ _ _ _)
   | (with_reducible exact ih1 _ _ _)
   | (with_reducible exact ih2 _ _ _)
   | (with_reducible exact spec_l20Net.mono _ _ _ _)
   | (with_reducible exact spec_l20Rd_pick.mono _ _ _ _)
   | (with_reducible exact spec_l20State.mono _ _ _ _ _ _)
   | (with_reducible exact LeO.refl _)
   | (with_reducible exact LeO.none _)
   | (with_reducible refine LeO.ite ?_ ?_)
   | (with_reducible refine LeO.bind ?_ (fun _ => ?_))
   | exact ih0 _ _ _ _ _
   | exact ih1 _ _ _
   | exact ih2 _ _ _
   | exact spec_l20Net.mono _ _ _ _
   | exact spec_l20Rd_pick.mono _ _ _ _
   | exact spec_l20State.mono _ _ _ _ _ _
   | exact LeO.none _
   | refine LeO.ite ?_ ?_
   | refine LeO.bind ?_ (fun _ => ?_)
  ·
   intro y0 y1 y2
   unfold spec_DrawChangeAll.l1
   repeat' first
   | (with_reducible exact ih0 _ _ _ _ _)
   | (with_reducible exact ih1 _ _ _)
   | (with_reducible exact ih2 _ _ _)
   | (with_reducible exact spec_l20Net.mono _ _ _ _)
   | (with_reducible exact spec_l20Rd_pick.mono _ _ _ _)
   | (with_reducible exact spec_l20State.mono _ _ _ _ _ _)
   | (with_reducible exact LeO.refl _)
   | (with_reducible exact LeO.none _)
   | (with_reducible refine LeO.ite ?_ ?_)
   | (with_reducible refine LeO.bind ?_ (fun _ => ?_))
   | exact ih0 _ _ _ _ _
   | exact ih1 _ _ _
   | exact ih2 _ _ _
   | exact spec_l20Net.mono _ _ _ _
   | exact spec_l20Rd_pick.mono _ _ _ _
   | exact spec_l20State.mono _ _ _ _ _ _
   | exact LeO.none _
   | refine LeO.ite ?_ ?_
   | refine LeO.bind ?_ (fun _ => ?_)
theorem spec_DrawChangeAll.mono : ∀ a0 k, LeO (spec_DrawChangeAll.f k a0) (spec_DrawChangeAll.f (k + 1) a0) := by
 intro a0 k
 obtain ⟨ih0, ih1, ih2⟩ := spec_DrawChangeAll.mono_l k
 unfold spec_DrawChangeAll.f
 repeat' first
   | (with_reducible exact ih0 _ _ _ _ _)
   | (with_reducible exact ih1 _ _ _)
   | (with_reducible exact ih2 _ _ _)
   | (with_reducible exact spec_l20Net.mono _ _ _ _)
   | (with_reducible exact spec_l20Rd_pick.mono _ _ _ _)
   | (with_reducible exact spec_l20State.mono _ _ _ _ _ _)
   | (with_reducible exact LeO.refl _)
   | (with_reducible exact LeO.none _)
   | (with_reducible refine LeO.ite ?_ ?_)
   | (with_reducible refine LeO.bind ?_ (fun _ => ?_))
   | exact ih0 _ _ _ _ _
   | exact ih1 _ _ _
   | exact ih2 _ _ _
   | exact spec_l20Net.mono _ _ _ _
   | exact spec_l20Rd_pick.mono _ _ _ _
   | exact spec_l20State.mono _ _ _ _ _ _
   | exact LeO.none _
   | refine LeO.ite ?_ ?_
   | refine LeO.bind ?_ (fun _ => ?_)
set_option maxHeartbeats 8000000 in
set_option maxRecDepth 100000 in
theorem spec_DrawChangeAll.calls (k : Nat) (A0 : Option Addr) (c0 : Nat) (l0 : List Int) (r1 : List Bool) (r2 : List Int) (w : World) (hr0 : Kd.C (Kd.int .u8) w A0 l0.length l0) (hc0 : l0.length ≤ c0) (h : spec_DrawChangeAll.f k l0 = some (r1, r2)) :
  Calls Tryd.prog 11 #[.slice A0 l0.length c0] w fun e w' => ∃ v0_ v1_ : Value, e = .returned (.tuple #[v0_, v1_]) ∧ Kd.R Kd.bool 4 w' w.heap.size (fun _ => True) v0_ r1 ∧ Kd.R (Kd.int .i64) 3 w' w.heap.size (fun _ => True) v1_ r2 ∧ Below w.heap.size w w' := by
 have HR0 := Aside0.mk hr0
 have HC0 := Aside0.mk hc0
 clear hr0 hc0
 have HB := Aside0.mk (Below.refl w.heap.size w)
 have H : ((spec_l20Open.f l0).bind fun bt172 => ((spec_l20Net.f k bt172.1 bt172.2 0).bind fun bt175 => ((spec_l20State.f k bt172.1 bt175.2.2 bt175.1 bt175.2.1 0).bind fun bt180 => ((spec_l20Rd_pick.f k bt172.1 bt180.2 6).bind fun bt187 => (spec_DrawChangeAll.l0 k bt180.1 (([] : List Int)) bt187.1 bt172.1 bt187.2))))) = some (r1, r2) := h
 clear h
 replace H := Option.bind_eq_some_iff.mp H
 obtain ⟨⟨t172, t173⟩, A20, H⟩ := H
 replace H : ((spec_l20Net.f k t172 t173 0).bind fun bt175 => ((spec_l20State.f k t172 bt175.2.2 bt175.1 bt175.2.1 0).bind fun bt180 => ((spec_l20Rd_pick.f k t172 bt180.2 6).bind fun bt187 => (spec_DrawChangeAll.l0 k bt180.1 (([] : List Int)) bt187.1 t172 bt187.2)))) = some (r1, r2) := H
 have A2 := Aside0.mk A20
 clear A20
 replace H := Option.bind_eq_some_iff.mp H
 obtain ⟨⟨t175, t176, t179⟩, A30, H⟩ := H
 replace H : ((spec_l20State.f k t172 t179 t175 t176 0).bind fun bt180 => ((spec_l20Rd_pick.f k t172 bt180.2 6).bind fun bt187 => (spec_DrawChangeAll.l0 k bt180.1 (([] : List Int)) bt187.1 t172 bt187.2))) = some (r1, r2) := H
 have A3 := Aside0.mk A30
 clear A30
 replace H := Option.bind_eq_some_iff.mp H
 obtain ⟨⟨t180, t183⟩, A40, H⟩ := H
 replace H : ((spec_l20Rd_pick.f k t172 t183 6).bind fun bt187 => (spec_DrawChangeAll.l0 k t180 (([] : List Int)) bt187.1 t172 bt187.2)) = some (r1, r2) := H
 have A4 := Aside0.mk A40
 clear A40
 obtain ⟨y184, hy184⟩ : ∃ y_ : List Int, y_ = (([] : List Int)) := ⟨_, rfl⟩
 replace H : ((spec_l20Rd_pick.f k t172 t183 6).bind fun bt187 => (spec_DrawChangeAll.l0 k t180 y184 bt187.1 t172 bt187.2)) = some (r1, r2) := by first | (rw [hy184]; with_reducible exact H) | (have H2_ := (Option.bind_some _ _).symm.trans H; rw [hy184]; with_reducible exact H2_) | (have H2_ := (Option.bind_some _ _).symm.trans H; with_reducible exact H2_) | with_reducible exact H | (rw [hy184]; exact H) | exact H
 have Ny184 := Aside0.mk hy184
 clear hy184
 replace H := Option.bind_eq_some_iff.mp H
 obtain ⟨⟨t187, t188⟩, A50, H⟩ := H
 replace H : (spec_DrawChangeAll.l0 k t180 y184 t187 t172 t188) = some (r1, r2) := H
 have A5 := Aside0.mk A50
 clear A50
 have H' := Aside0.mk H
 clear H
 go_enter Tryd.func11, Tryd.ntmps11
 go_wp2_with (first | ((with_reducible refine gate_callee (f := 45) rfl ?_); refine goesL_ (some 10) rfl rfl Tryd.func45 (by kernel_rfl) rfl #[.slice A0 l0.length c0] rfl mP ?_; (with_reducible refine (spec_l20Open.calls _ _ l0 t172 t173 w _ ?side1 ?side2 ?side3 A2.out).mono ?_); (case side1 => repeat (first | (with_reducible first | exact HB.out | apply below_alloc | apply pw_below_drewN | apply below_drew1) | exact HB.out)); (case side2 => exact HR0.out); (case side3 => exact HC0.out); rintro e w6 ⟨g174, rfl, hi, hb, hb2⟩; refine ⟨_, rfl, ?_⟩; have n0_ := Aside0.mk (hb); have n1_ := Aside0.mk (hi); clear HB; have HB := n0_; have HI174 := n1_; clear n0_ n1_; (try clear hb); (try clear hb2); (try clear hk); (try clear hi)) | ((with_reducible refine gate_callee (f := 47) rfl ?_); refine goesL_ (some 13) rfl rfl Tryd.func47 (by kernel_rfl) rfl #[.pointer (some ⟨g174, 0, none⟩), .int .i64 0] rfl mP ?_; (with_reducible refine (spec_l20Net.calls k g174 t172 t173 0 t175 t176 t179 w _ ?side1 ?side2 A3.out).mono ?_); (case side1 => repeat (first | (with_reducible first | exact HI174.out | apply IsS80.alloc | apply IsS80.drewN | apply IsS80.drew | apply IsS80.set_1) | exact HI174.out)); (case side2 => repeat (first | (with_reducible first | exact HB.out | apply below_alloc | apply pw_below_drewN | apply below_drew1 | refine below_set ?_ (IsS80.ge HI174.out)) | exact HB.out)); rintro e w7 ⟨v177, rfl, ho0, hi, hb, hk⟩; refine ⟨_, rfl, ?_⟩; have n0_ := Aside0.mk (Kd.R_lower ho0 (below_size (by repeat (first | (with_reducible first | exact HB.out | apply below_alloc | apply pw_below_drewN | apply below_drew1 | refine below_set ?_ (IsS80.ge HI174.out)) | exact HB.out)))); have n1_ := Aside0.mk (hb); have n2_ := Aside0.mk (hi); clear HB; clear HI174; have HO178 := n0_; have HB := n1_; have HI174 := n2_; clear n0_ n1_ n2_; (try clear hb); (try clear hb2); (try clear hk); (try clear hi); (try clear ho0); obtain ⟨Ao8, co8, eo8⟩ := Kd.R_slice HO178.out; subst eo8) | ((with_reducible refine gate_callee (f := 46) rfl ?_); refine goesL_ (some 14) rfl rfl Tryd.func46 (by kernel_rfl) rfl #[.pointer (some ⟨g174, 0, none⟩), .agg #[.int .i64 t175, .slice Ao8 t176.length co8], .int .i64 0] rfl mP ?_; (with_reducible refine (spec_l20State.calls k g174 t172 t179 t175 _ _ t176 0 t180 t183 w _ ?side1 ?side2 ?side3 ?side4 A4.out).mono ?_); (case side1 => repeat (first | (with_reducible first | exact HI174.out | apply IsS80.alloc | apply IsS80.drewN | apply IsS80.drew | apply IsS80.set_1) | exact HI174.out)); (case side2 => repeat (first | (with_reducible first | exact HB.out | apply below_alloc | apply pw_below_drewN | apply below_drew1 | refine below_set ?_ (IsS80.ge HI174.out)) | exact HB.out)); (case side3 => exact Kd.C_foot_own (IsS80.apart (show IsS80 w _ g174 t172 t179 from by repeat (first | (with_reducible first | exact HI174.out | apply IsS80.alloc | apply IsS80.drewN | apply IsS80.drew | apply IsS80.set_1) | exact HI174.out)) (gR (HO178.out)) (by decide)) (fun _ h_ => h_.2)); (case side4 => exact (Kd.R_reads' HO178.out).2.1); rintro e w9 ⟨v181, rfl, ho0, hi, hb, hk⟩; refine ⟨_, rfl, ?_⟩; have n0_ := Aside0.mk (Kd.R_mono (Kd.R_keep (IsS80.apart (show IsS80 w _ g174 t172 t179 from by repeat (first | (with_reducible first | exact HI174.out | apply IsS80.alloc | apply IsS80.drewN | apply IsS80.drew | apply IsS80.set_1) | exact HI174.out)) (gR (HO178.out)) (by decide)) hk (fun _ h => h.2)) (fun _ h => h.1)); have n1_ := Aside0.mk (Kd.R_lower ho0 (below_size (by repeat (first | (with_reducible first | exact HB.out | apply below_alloc | apply pw_below_drewN | apply below_drew1 | refine below_set ?_ (IsS80.ge HI174.out)) | exact HB.out)))); have n2_ := Aside0.mk (hb); have n3_ := Aside0.mk (hi); clear HO178; clear HB; clear HI174; have HO178 := n0_; have HO182 := n1_; have HB := n2_; have HI174 := n3_; clear n0_ n1_ n2_ n3_; (try clear hb); (try clear hb2); (try clear hk); (try clear hi); (try clear ho0)) | ((with_reducible refine gate_dst (N := 15) rfl ?_); refine Kd.R_lit (Kd.int .i64) _ 3 ?hg (N := 15) ?hd (xs := ([] : List Int)) (inner := []) (ok := fun _ => True) (okp := fun _ => True) ?hr ?hp (fun _ hk => hk) trivial (Below.refl _ _) (Nat.le_refl _) (by simp) ?_; (case hd => rfl); (case hg => rfl); (case hr => exact hR); (case hp => exact (Reps.none _ _)); intro v185 w10 ho11 hb hg_ hnew_; clear hg_ hnew_; (first | rw [← Ny184.out] at ho11 | (simp only [Int.reduceToNat] at ho11; rw [← Ny184.out] at ho11)); have n0_ := Aside0.mk (Kd.R_below (gR (HO178.out)) hb); have n1_ := Aside0.mk (Kd.R_below (gR (HO182.out)) hb); have n2_ := Aside0.mk (Kd.R_lower ho11 (below_size (by repeat (first | (with_reducible first | exact HB.out | apply below_alloc | apply pw_below_drewN | apply below_drew1 | refine below_set ?_ (IsS80.ge HI174.out)) | exact HB.out)))); have n3_ := Aside0.mk (IsS80.below (by repeat (first | (with_reducible first | exact HI174.out | apply IsS80.alloc | apply IsS80.drewN | apply IsS80.drew | apply IsS80.set_1) | exact HI174.out)) hb); have n4_ := Aside0.mk (below_step (by repeat (first | (with_reducible first | exact HB.out | apply below_alloc | apply pw_below_drewN | apply below_drew1 | refine below_set ?_ (IsS80.ge HI174.out)) | exact HB.out)) hb); clear HO178; clear HO182; clear HI174; clear HB; have HO178 := n0_; have HO182 := n1_; have HO186 := n2_; have HI174 := n3_; have HB := n4_; clear n0_ n1_ n2_ n3_ n4_; clear hb ho11) | ((with_reducible refine gate_callee (f := 48) rfl ?_); refine goesL_ (some 17) rfl rfl Tryd.func48 (by kernel_rfl) rfl #[.pointer (some ⟨g174, 0, none⟩), .int .i64 6] rfl mP ?_; (with_reducible refine (spec_l20Rd_pick.calls k g174 t172 t183 6 t187 t188 w _ ?side1 ?side2 A5.out).mono ?_); (case side1 => repeat (first | (with_reducible first | exact HI174.out | apply IsS80.alloc | apply IsS80.drewN | apply IsS80.drew | apply IsS80.set_1) | exact HI174.out)); (case side2 => repeat (first | (with_reducible first | exact HB.out | apply below_alloc | apply pw_below_drewN | apply below_drew1 | refine below_set ?_ (IsS80.ge HI174.out)) | exact HB.out)); rintro e w12 ⟨rfl, hi, hb, hk⟩; refine ⟨_, rfl, ?_⟩; have n0_ := Aside0.mk (Kd.R_mono (Kd.R_keep (IsS80.apart (show IsS80 w _ g174 t172 t183 from by repeat (first | (with_reducible first | exact HI174.out | apply IsS80.alloc | apply IsS80.drewN | apply IsS80.drew | apply IsS80.set_1) | exact HI174.out)) (gR (HO178.out)) (by decide)) hk (fun _ h => h.2)) (fun _ h => h.1)); have n1_ := Aside0.mk (Kd.R_mono (Kd.R_keep (IsS80.apart (show IsS80 w _ g174 t172 t183 from by repeat (first | (with_reducible first | exact HI174.out | apply IsS80.alloc | apply IsS80.drewN | apply IsS80.drew | apply IsS80.set_1) | exact HI174.out)) (gR (HO182.out)) (by decide)) hk (fun _ h => h.2)) (fun _ h => h.1)); have n2_ := Aside0.mk (Kd.R_mono (Kd.R_keep (IsS80.apart (show IsS80 w _ g174 t172 t183 from by repeat (first | (with_reducible first | exact HI174.out | apply IsS80.alloc | apply IsS80.drewN | apply IsS80.drew | apply IsS80.set_1) | exact HI174.out)) (gR (HO186.out)) (by decide)) hk (fun _ h => h.2)) (fun _ h => h.1)); have n3_ := Aside0.mk (hb); have n4_ := Aside0.mk (hi); clear HO178; clear HO182; clear HO186; clear HB; clear HI174; have HO178 := n0_; have HO182 := n1_; have HO186 := n2_; have HB := n3_; have HI174 := n4_; clear n0_ n1_ n2_ n3_ n4_; (try clear hb); (try clear hb2); (try clear hk); (try clear hi)))
 go_loopg [6, 7] k (fun kq v6 v7 w' => ∃ (x6_1 : List Int) (x7_1 : Int) (x175001_1 : Int), v7 = .int .i64 x7_1 ∧ Aside0 (spec_DrawChangeAll.l0 kq t180 x6_1 x7_1 t172 x175001_1 = some (r1, r2)) ∧ Aside0 (kq ≤ k) ∧ Aside0 (Kd.R Kd.bool 4 w' w.heap.size (fun _ => True) v181 t180) ∧ Aside0 (Kd.R (Kd.int .i64) 3 w' w.heap.size (fun _ => True) v6 x6_1) ∧ Aside0 (IsS80 w w' g174 t172 x175001_1) ∧ Aside0 (Below w.heap.size w w'))
 case atStart => exact ⟨(y184), (t187), (t188), fS, H', ⟨Nat.le_refl _⟩, ⟨gR (HO182.out)⟩, ⟨gR (HO186.out)⟩, ⟨by repeat (first | (with_reducible first | exact HI174.out | apply IsS80.alloc | apply IsS80.drewN | apply IsS80.drew | apply IsS80.set_1) | exact HI174.out)⟩, ⟨by repeat (first | (with_reducible first | exact HB.out | apply below_alloc | apply pw_below_drewN | apply below_drew1 | refine below_set ?_ (IsS80.ge HI174.out)) | exact HB.out)⟩⟩
 case round =>
  clear H'
  try clear c1
  try clear p2
  try clear c4
  try clear c11
  obtain ⟨x6_1, x7_1, x175001_1, rfl, HA, HK1, HO_5, HO_6, HI174, HB⟩ := hrel
  cases gk with
  | zero => exact absurd HA.out (by simp [spec_DrawChangeAll.l0])
  | succ k1 =>
   have H := HA.out
   clear HA
   simp only [spec_DrawChangeAll.l0] at H
   by_cases c13 : x7_1 > 0
   ·
    rw [if_pos c13] at H
    have c13b0 : decide (0 < x7_1) = true := decide_eq_true c13
    clear c13
    replace H := Option.bind_eq_some_iff.mp H
    obtain ⟨⟨t189, t190⟩, A140, H⟩ := H
    replace H : ((spec_l20Rd_pick.f k1 t172 t190 12).bind fun bt191 => (if x6_1.length < 17592186044416 then (spec_DrawChangeAll.l0 k1 t180 (x6_1 ++ [wrap64 (t189 - (wrap64 (Int.tdiv bt191.1 11)))]) (wrap64 (x7_1 - 1)) t172 bt191.2) else (none))) = some (r1, r2) := H
    have A14 := Aside0.mk A140
    clear A140
    replace H := Option.bind_eq_some_iff.mp H
    obtain ⟨⟨t191, t192⟩, A150, H⟩ := H
    replace H : (if x6_1.length < 17592186044416 then (spec_DrawChangeAll.l0 k1 t180 (x6_1 ++ [wrap64 (t189 - (wrap64 (Int.tdiv t191 11)))]) (wrap64 (x7_1 - 1)) t172 t192) else (none)) = some (r1, r2) := H
    have A15 := Aside0.mk A150
    clear A150
    by_cases c16 : x6_1.length < 17592186044416
    rotate_left
    ·
     rw [if_neg c16] at H
     exact absurd H (by simp)
    rw [if_pos c16] at H
    have LMc16 := Aside0.mk c16
    clear c16
    obtain ⟨y193, hy193⟩ : ∃ y_ : List Int, y_ = (x6_1 ++ [wrap64 (t189 - (wrap64 (Int.tdiv t191 11)))]) := ⟨_, rfl⟩
    replace H : (spec_DrawChangeAll.l0 k1 t180 y193 (wrap64 (x7_1 - 1)) t172 t192) = some (r1, r2) := by first | (rw [hy193]; with_reducible exact H) | (have H2_ := (Option.bind_some _ _).symm.trans H; rw [hy193]; with_reducible exact H2_) | (have H2_ := (Option.bind_some _ _).symm.trans H; with_reducible exact H2_) | with_reducible exact H | (rw [hy193]; exact H) | exact H
    have Ny193 := Aside0.mk hy193
    clear hy193
    have H' := Aside0.mk H
    clear H
    obtain ⟨Ao17, co17, eo17⟩ := Kd.R_slice HO_5.out
    subst eo17
    go_wp2_with (first | ((with_reducible refine gate_callee (f := 48) rfl ?_); refine goesL_ (some 27) rfl rfl Tryd.func48 (by kernel_rfl) rfl #[.pointer (some ⟨g174, 0, none⟩), .int .i64 (wrap64 ((t180.length : Int) + 1))] rfl mP ?_; (with_reducible refine (spec_l20Rd_pick.calls k1 g174 t172 x175001_1 (wrap64 ((t180.length : Int) + 1)) t189 t190 w _ ?side1 ?side2 A14.out).mono ?_); (case side1 => repeat (first | (with_reducible first | exact HI174.out | apply IsS80.alloc | apply IsS80.drewN | apply IsS80.drew | apply IsS80.set_1) | exact HI174.out)); (case side2 => repeat (first | (with_reducible first | exact HB.out | apply below_alloc | apply pw_below_drewN | apply below_drew1 | refine below_set ?_ (IsS80.ge HI174.out)) | exact HB.out)); rintro e w18 ⟨rfl, hi, hb, hk⟩; refine ⟨_, rfl, ?_⟩; have n0_ := Aside0.mk (Kd.R_mono (Kd.R_keep (IsS80.apart (show IsS80 w _ g174 t172 x175001_1 from by repeat (first | (with_reducible first | exact HI174.out | apply IsS80.alloc | apply IsS80.drewN | apply IsS80.drew | apply IsS80.set_1) | exact HI174.out)) (gR (HO_5.out)) (by decide)) hk (fun _ h => h.2)) (fun _ h => h.1)); have n1_ := Aside0.mk (Kd.R_mono (Kd.R_keep (IsS80.apart (show IsS80 w _ g174 t172 x175001_1 from by repeat (first | (with_reducible first | exact HI174.out | apply IsS80.alloc | apply IsS80.drewN | apply IsS80.drew | apply IsS80.set_1) | exact HI174.out)) (gR (HO_6.out)) (by decide)) hk (fun _ h => h.2)) (fun _ h => h.1)); have n2_ := Aside0.mk (hb); have n3_ := Aside0.mk (hi); clear HO_5; clear HO_6; clear HB; clear HI174; have HO_5 := n0_; have HO_6 := n1_; have HB := n2_; have HI174 := n3_; clear n0_ n1_ n2_ n3_; (try clear hb); (try clear hb2); (try clear hk); (try clear hi)) | ((with_reducible refine gate_callee (f := 48) rfl ?_); refine goesL_ (some 29) rfl rfl Tryd.func48 (by kernel_rfl) rfl #[.pointer (some ⟨g174, 0, none⟩), .int .i64 12] rfl mP ?_; (with_reducible refine (spec_l20Rd_pick.calls k1 g174 t172 t190 12 t191 t192 w _ ?side1 ?side2 A15.out).mono ?_); (case side1 => repeat (first | (with_reducible first | exact HI174.out | apply IsS80.alloc | apply IsS80.drewN | apply IsS80.drew | apply IsS80.set_1) | exact HI174.out)); (case side2 => repeat (first | (with_reducible first | exact HB.out | apply below_alloc | apply pw_below_drewN | apply below_drew1 | refine below_set ?_ (IsS80.ge HI174.out)) | exact HB.out)); rintro e w19 ⟨rfl, hi, hb, hk⟩; refine ⟨_, rfl, ?_⟩; have n0_ := Aside0.mk (Kd.R_mono (Kd.R_keep (IsS80.apart (show IsS80 w _ g174 t172 t190 from by repeat (first | (with_reducible first | exact HI174.out | apply IsS80.alloc | apply IsS80.drewN | apply IsS80.drew | apply IsS80.set_1) | exact HI174.out)) (gR (HO_5.out)) (by decide)) hk (fun _ h => h.2)) (fun _ h => h.1)); have n1_ := Aside0.mk (Kd.R_mono (Kd.R_keep (IsS80.apart (show IsS80 w _ g174 t172 t190 from by repeat (first | (with_reducible first | exact HI174.out | apply IsS80.alloc | apply IsS80.drewN | apply IsS80.drew | apply IsS80.set_1) | exact HI174.out)) (gR (HO_6.out)) (by decide)) hk (fun _ h => h.2)) (fun _ h => h.1)); have n2_ := Aside0.mk (hb); have n3_ := Aside0.mk (hi); clear HO_5; clear HO_6; clear HB; clear HI174; have HO_5 := n0_; have HO_6 := n1_; have HB := n2_; have HI174 := n3_; clear n0_ n1_ n2_ n3_; (try clear hb); (try clear hb2); (try clear hk); (try clear hi)) | ((with_reducible refine gate_builtin (b := .append) (xs := #[.tmp 22, .tmp 32]) rfl ?_); at_builtin; refine Kd.R_append (Kd.int .i64) (w0 := w) w.heap.size rfl (.tmp 22) (.tmp 32) 24 3 (.int .i64 0) 8 rfl Tryd.underlying24 info3 rfl (by decide) (by omega) u6 x6_1 (wrap64 (t189 - (wrap64 (Int.tdiv t191 11)))) [.int .i64 (wrap64 (t189 - (wrap64 (Int.tdiv t191 11))))] (fun _ => True) (fun _ => False) rfl rfl ?aP (fun _ hk => hk.elim) ?aF ?aO ?aB ?aS ?aL ?_; (case aP => exact rfl); (case aB => exact (by repeat (first | (with_reducible first | exact HB.out | apply below_alloc | apply pw_below_drewN | apply below_drew1 | refine below_set ?_ (IsS80.ge HI174.out)) | exact HB.out))); (case aF => exact (fun _ _ => trivial)); (case aO => exact (gR (HO_6.out))); (case aS => exact (below_size (by repeat (first | (with_reducible first | exact HB.out | apply below_alloc | apply pw_below_drewN | apply below_drew1 | refine below_set ?_ (IsS80.ge HI174.out)) | exact HB.out)))); (case aL => have := LMc16.out; omega); intro v194 w20 ho hb hg hat; rw [← Ny193.out] at ho; have n0_ := Aside0.mk (Kd.R_over' (gR (HO_5.out)) (Kd.R_typed (gR (HO_6.out))) (by decide) hg); have n1_ := Aside0.mk (IsS80.grown (by first | exact IsS80.like HI174.out (by repeat (first | (with_reducible first | exact HI174.out | apply IsS80.alloc | apply IsS80.drewN | apply IsS80.drew | apply IsS80.set_1) | exact HI174.out)) | (repeat (first | (with_reducible first | exact HI174.out | apply IsS80.alloc | apply IsS80.drewN | apply IsS80.drew | apply IsS80.set_1) | exact HI174.out))) hg (IsS80.own_ne HI174.out HO_6.out (by decide))); have n2_ := Aside0.mk (hb); have n3_ := Aside0.mk (ho); clear HO_5; clear HI174; clear HB; clear HO_6; have HO_5 := n0_; have HI174 := n1_; have HB := n2_; have HO195 := n3_; clear n0_ n1_ n2_ n3_; clear ho hb hg hat))
    go_roundg k1
    case measure => have := HK1.out; omega
    case rel => exact ⟨(y193), (wrap64 (x7_1 - 1)), (t192), fS, H', ⟨by have := HK1.out; omega⟩, ⟨gR (HO_5.out)⟩, ⟨gR (HO195.out)⟩, ⟨by repeat (first | (with_reducible first | exact HI174.out | apply IsS80.alloc | apply IsS80.drewN | apply IsS80.drew | apply IsS80.set_1) | exact HI174.out)⟩, ⟨by repeat (first | (with_reducible first | exact HB.out | apply below_alloc | apply pw_below_drewN | apply below_drew1 | refine below_set ?_ (IsS80.ge HI174.out)) | exact HB.out)⟩⟩
   rw [if_neg c13] at H
   have c13b0 : decide (0 < x7_1) = false := decide_eq_false c13
   clear c13
   have HC21 := Aside0.mk H
   clear H
   go_upto_region 8 with (fail)
   go_cut [41] (fun v41 wc => ∃ (kq : Nat) (x41_20 : Bool), v41 = .bool x41_20 ∧ Aside0 (spec_DrawChangeAll.j1 kq t180 x6_1 x41_20 = some (r1, r2)) ∧ Aside0 (kq ≤ k1) ∧ Aside0 (Kd.R Kd.bool 4 wc w.heap.size (fun _ => True) v181 t180) ∧ Aside0 (Kd.R (Kd.int .i64) 3 wc w.heap.size (fun _ => True) u6 x6_1) ∧ Aside0 (Below w.heap.size w wc))
   case first =>
    have H := HC21.out
    clear HC21
    by_cases c22 : (t180.length : Int) > 0
    rotate_left
    ·
     rw [if_neg c22] at H
     have c22b0 : decide (0 < (t180.length : Int)) = false := decide_eq_false c22
     have c22b1 : decide (0 < t180.length) = false := decide_eq_false (by omega)
     clear c22
     (first | rw [c22b0] | (simp only [i64_w, i32_w]; rw [c22b0]) | skip)
     have H' := Aside0.mk H
     clear H
     obtain ⟨Ao26, co26, eo26⟩ := Kd.R_slice HO_5.out
     subst eo26
     go_wp2
     go_meet
     case rel => exact ⟨_, (false), fS, H', ⟨by have := HK1.out; first | omega | exact Nat.le_refl _⟩, ⟨gR (HO_5.out)⟩, ⟨gR (HO_6.out)⟩, ⟨by repeat (first | (with_reducible first | exact HB.out | apply below_alloc | apply pw_below_drewN | apply below_drew1 | refine below_set ?_ (IsS80.ge HI174.out)) | exact HB.out)⟩⟩
    rw [if_pos c22] at H
    have c22b0 : decide (0 < (t180.length : Int)) = true := decide_eq_true c22
    have c22b1 : decide (0 < t180.length) = true := decide_eq_true (by omega)
    clear c22
    (first | rw [c22b0] | (simp only [i64_w, i32_w]; rw [c22b0]) | skip)
    replace H := Option.bind_eq_some_iff.mp H
    obtain ⟨⟨t196, t197⟩, A230, H⟩ := H
    replace H : (spec_DrawChangeAll.j1 k1 t180 x6_1 (t196 == 0)) = some (r1, r2) := H
    have A23 := Aside0.mk A230
    clear A230
    have H' := Aside0.mk H
    clear H
    obtain ⟨Ao24, co24, eo24⟩ := Kd.R_slice HO_5.out
    subst eo24
    go_wp2_with (first | (go_at_call 48; (with_reducible refine (spec_l20Rd_pick.calls k1 g174 t172 x175001_1 2 t196 t197 w _ ?side1 ?side2 A23.out).mono ?_); (case side1 => repeat (first | (with_reducible first | exact HI174.out | apply IsS80.alloc | apply IsS80.drewN | apply IsS80.drew | apply IsS80.set_1) | exact HI174.out)); (case side2 => repeat (first | (with_reducible first | exact HB.out | apply below_alloc | apply pw_below_drewN | apply below_drew1 | refine below_set ?_ (IsS80.ge HI174.out)) | exact HB.out)); rintro e w25 ⟨rfl, hi, hb, hk⟩; have n0_ := Aside0.mk (Kd.R_mono (Kd.R_keep (IsS80.apart (show IsS80 w _ g174 t172 x175001_1 from by repeat (first | (with_reducible first | exact HI174.out | apply IsS80.alloc | apply IsS80.drewN | apply IsS80.drew | apply IsS80.set_1) | exact HI174.out)) (gR (HO_5.out)) (by decide)) hk (fun _ h => h.2)) (fun _ h => h.1)); have n1_ := Aside0.mk (Kd.R_mono (Kd.R_keep (IsS80.apart (show IsS80 w _ g174 t172 x175001_1 from by repeat (first | (with_reducible first | exact HI174.out | apply IsS80.alloc | apply IsS80.drewN | apply IsS80.drew | apply IsS80.set_1) | exact HI174.out)) (gR (HO_6.out)) (by decide)) hk (fun _ h => h.2)) (fun _ h => h.1)); have n2_ := Aside0.mk (hb); have n3_ := Aside0.mk (hi); clear HO_5; clear HO_6; clear HB; clear HI174; have HO_5 := n0_; have HO_6 := n1_; have HB := n2_; have HI174 := n3_; clear n0_ n1_ n2_ n3_; (try clear hb); (try clear hb2); (try clear hk); (try clear hi)))
    go_meet
    case rel => exact ⟨_, ((t196 == 0)), fS, H', ⟨by have := HK1.out; first | omega | exact Nat.le_refl _⟩, ⟨gR (HO_5.out)⟩, ⟨gR (HO_6.out)⟩, ⟨by repeat (first | (with_reducible first | exact HB.out | apply below_alloc | apply pw_below_drewN | apply below_drew1 | refine below_set ?_ (IsS80.ge HI174.out)) | exact HB.out)⟩⟩
   case rest =>
    clear HC21
    try clear c1
    try clear c2
    try clear p2
    try clear c4
    try clear p6
    try clear c11
    try clear c13
    try clear c13b0
    try clear c16
    try clear c22
    try clear c22b0
    try clear c22b1
    try clear p2
    obtain ⟨kq, x41_20, rfl, HA, HJ20, HO_5, HO_6, HB⟩ := hcut
    cases kq with
    | zero => exact absurd HA.out (by simp [spec_DrawChangeAll.j1])
    | succ kj20 =>
     have H := HA.out
     clear HA
     simp only [spec_DrawChangeAll.j1] at H
     by_cases c27 : x41_20 = true
     rotate_left
     ·
      replace c27 := Bool.eq_false_iff.mpr c27
      subst c27
      have H1 : (some (t180, x6_1)) = some (r1, r2) := by rw [if_neg (show ¬ (false = true) by decide)] at H; exact H
      clear H
      have H := H1
      clear H1
      simp only [Option.some.injEq, Prod.mk.injEq] at H
      obtain ⟨rfl, rfl⟩ := H
      go_wp2
      go_ret2
      exact ⟨_, _, fR, gR (HO_5.out), gR (HO_6.out), bl0 HB⟩
     subst c27
     have H1 : (spec_DrawChangeAll.l1 kj20 t180 x6_1 0) = some (r1, r2) := by rw [if_pos rfl] at H; exact H
     clear H
     have H := H1
     clear H1
     have H' := Aside0.mk H
     clear H
     go_wp2
     go_loopg [8] kj20 (fun kq v8 w' => ∃ (x6_3 : List Int) (x8_3 : Int), v8 = .int .i64 x8_3 ∧ Aside0 (spec_DrawChangeAll.l1 kq t180 x6_3 x8_3 = some (r1, r2)) ∧ Aside0 (kq ≤ kj20) ∧ Aside0 (Kd.R Kd.bool 4 w' w.heap.size (fun _ => True) v181 t180) ∧ Aside0 (Kd.R (Kd.int .i64) 3 w' w.heap.size (fun _ => True) u6 x6_3) ∧ Aside0 (Below w.heap.size w w'))
     case atStart => exact ⟨(x6_1), (0), fS, H', ⟨Nat.le_refl _⟩, ⟨gR (HO_5.out)⟩, ⟨gR (HO_6.out)⟩, ⟨bl0 HB⟩⟩
     case round =>
      clear H'
      try clear c1
      try clear c2
      try clear p2
      try clear c4
      try clear p6
      try clear c11
      try clear c13
      try clear c13b0
      try clear c16
      try clear c22
      try clear c22b0
      try clear c22b1
      try clear c27
      try clear p2
      try clear p6
      obtain ⟨x6_3, x8_3, rfl, HA, HK3, HO_5, HO_6, HB⟩ := hrel
      cases gk with
      | zero => exact absurd HA.out (by simp [spec_DrawChangeAll.l1])
      | succ k3 =>
       have H := HA.out
       clear HA
       simp only [spec_DrawChangeAll.l1] at H
       by_cases c28 : x8_3 < (x6_3.length : Int)
       rotate_left
       ·
        rw [if_neg c28] at H
        have c28b0 : decide (x8_3 < (x6_3.length : Int)) = false := decide_eq_false c28
        clear c28
        simp only [Option.some.injEq, Prod.mk.injEq] at H
        obtain ⟨rfl, rfl⟩ := H
        obtain ⟨Ao36, co36, eo36⟩ := Kd.R_slice HO_6.out
        subst eo36
        go_wp2
        go_ret2
        exact ⟨_, _, fR, gR (HO_5.out), gR (HO_6.out), bl0 HB⟩
       rw [if_pos c28] at H
       have c28b0 : decide (x8_3 < (x6_3.length : Int)) = true := decide_eq_true c28
       clear c28
       by_cases c29 : 0 ≤ x8_3
       rotate_left
       ·
        rw [if_neg c29] at H
        exact absurd H (by simp)
       rw [if_pos c29] at H
       have c29b0 : decide (0 ≤ x8_3) = true := decide_eq_true c29
       clear c29
       by_cases c30 : (t180.length : Int) = 0
       ·
        rw [if_pos c30] at H
        exact absurd H (by simp)
       rw [if_neg c30] at H
       have c30b0 : ((t180.length : Int) == 0) = false := beq_eq_false_iff_ne.mpr c30
       have c30b1 : ((t180.length : Int) != 0) = true := bne_iff_ne.mpr c30
       have c30b2 : ¬ (t180 = []) := fun h_ => c30 (by rw [h_]; rfl)
       obtain ⟨y199, hy199⟩ : ∃ y_ : List Int, y_ = (x6_3.set (x8_3 : Int).toNat (Int.tmod (wrap64 ((rd x6_3 x8_3) + (t180.length : Int))) (t180.length : Int))) := ⟨_, rfl⟩
       replace H : (spec_DrawChangeAll.l1 k3 t180 y199 (wrap64 (x8_3 + 1))) = some (r1, r2) := by first | (rw [hy199]; with_reducible exact H) | (have H2_ := (Option.bind_some _ _).symm.trans H; rw [hy199]; with_reducible exact H2_) | (have H2_ := (Option.bind_some _ _).symm.trans H; with_reducible exact H2_) | with_reducible exact H | (rw [hy199]; exact H) | exact H
       have Ny199 := Aside0.mk hy199
       clear hy199
       have H' := Aside0.mk H
       clear H
       obtain ⟨Ao32, co32, eo32⟩ := Kd.R_slice HO_6.out
       subst eo32
       have p198 : 0 ≤ (x8_3 : Int) := oD
       have q198 : x8_3 < (x6_3.length : Int) := oD
       obtain ⟨ad198, e198, hx198_0⟩ := Kd.at_int (Kd.R_reads' HO_6.out).2.2 x8_3 p198 q198
       cases e198
       replace p198 := eq_true p198
       replace q198 := eq_true q198
       obtain ⟨Ao33, co33, eo33⟩ := Kd.R_slice HO_5.out
       subst eo33
       have p31 : 0 ≤ (x8_3 : Int) := oD
       have q31 : (x8_3 : Int) < ((x6_3.length : Int) : Int) := oD
       obtain ⟨go31, co31, eo31, gb31, gl31, cl31, HG31⟩ := Kd.R_form HO_6.out (by first | omega | (obtain ⟨_, _, e_⟩ := Kd.R_slice HO_6.out; injection e_ with _ e_ _; omega))
       (first | cases eo31 | (injection eo31 with ea_ en_ ec_; (first | subst ea_ | (injection ea_ with ea_; subst ea_)); subst ec_; clear en_))
       have GB31 := Aside0.mk gb31
       have GG31 := Aside0.mk HG31
       clear gb31 gl31 HG31
       (first | simp only [add_plain] at hx198_0 | skip)
       obtain ⟨hx31_0, hf31_0⟩ := Kd.R_celln 0 HO_6.out (x8_3 : Int) p31 q31
       replace p31 := eq_true p31
       replace q31 := eq_true q31
       have HP34 := Kd.R_putg HO_6.out (x8_3 : Int) (Int.tmod (wrap64 ((rd x6_3 x8_3) + (t180.length : Int))) (t180.length : Int))
       go_wp2_with (first | ((with_reducible refine gate_store (t := 3) (p := 60) rfl ?_); refine store_event (t := 3) (p := 60) (v := ?vo_w35) (w1 := (wr.setCell ⟨go31, (x8_3 : Int).toNat, none⟩ (.int .i64 (Int.tmod (wrap64 ((rd x6_3 x8_3) + (t180.length : Int))) (t180.length : Int))))) ?hg ?ho ?hn ?hr ?_; (case ho => rfl); (case hg => rfl); (case hn => rfl); (case hr => exact hR); intro w35 hw; have hg : wr.grownBy w35 (some go31) := (by rw [hw]; exact HP34.2); have hp_ : Kd.R (Kd.int .i64) 3 w35 w.heap.size (fun _ => True) (.slice (some ⟨go31, 0, none⟩) x6_3.length co32) y199 := (by rw [hw, Ny199.out]; exact HP34.1); clear HP34; have n0_ := Aside0.mk (Kd.R_over' (v := (.slice (some ⟨go31, 0, none⟩) x6_3.length co32)) (gR (HO_5.out)) (Kd.R_typed HO_6.out) (by decide) hg); have n1_ := Aside0.mk (hp_); have n2_ := Aside0.mk ((by rw [hw]; exact below_set (HB.out) GB31.out : Below w.heap.size w w35)); clear HO_5; clear HO_6; clear HB; have HO_5 := n0_; have HO_6 := n1_; have HB := n2_; clear n0_ n1_ n2_; clear hg hw hp_))
       go_roundg k3
       case measure => have := HK1.out; have := HJ20.out; have := HK3.out; omega
       case rel => exact ⟨(y199), (wrap64 (x8_3 + 1)), fS, H', ⟨by have := HK1.out; have := HJ20.out; have := HK3.out; omega⟩, ⟨gR (HO_5.out)⟩, ⟨gR (HO_6.out)⟩, ⟨bl0 HB⟩⟩

end Go.Proofs.YthkdkjmnnpcdhaaDoor.P
namespace Go.Proofs.YthkdkjmnnpcdhaaDoor.P
open Go.RowKit Go.Proofs.YthkdkjmnnpcdhaaDoorW.PrintWords Go.Proofs.YthkdkjmnnpcdhaaDoorW.PrintLast Go.Proofs.YthkdkjmnnpcdhaaDoorW.PrintMore
attribute [local go_sem] max2_int min2_int max_two min_two max_three min_three max_four min_four   -- for this text's walks alone
set_option linter.unusedVariables false
set_option linter.unusedSimpArgs false

/-! ### slices_Clone_bool_bool: function 49 -/
def slices_Clone_bool_bool.f (l0 : List Bool) : Option (List Bool) := if l0.length < 140737488355328 then (some l0) else (none)
set_option maxHeartbeats 8000000 in
set_option maxRecDepth 100000 in
theorem slices_Clone_bool_bool.calls (A0 : Option Addr) (c0 : Nat) (l0 : List Bool) (r : List Bool) (w : World) (hr0 : Kd.C Kd.bool w A0 l0.length l0) (hc0 : l0.length ≤ c0) (h : slices_Clone_bool_bool.f l0 = some r) :
  Calls Tryd.prog 49 #[.slice A0 l0.length c0] w fun e w' => ∃ v0_ : Value, e = .returned (v0_) ∧ Kd.R Kd.bool 4 w' w.heap.size (fun _ => True) v0_ r ∧ Below w.heap.size w w' := by
 have H : (if l0.length < 140737488355328 then (some l0) else (none)) = some r := h
 clear h
 by_cases c2 : l0.length < 140737488355328
 rotate_left
 ·
  rw [if_neg c2] at H
  exact absurd H (by simp)
 rw [if_pos c2] at H
 have LMc2 := Aside0.mk c2
 clear c2
 have HE := Aside0.mk (Option.some.inj H)
 clear H
 cases A0 with
 | none =>
  have h0 : l0 = [] := by
   cases hl : l0 with
   | nil => rfl
   | cons a l =>
    obtain ⟨ad, e, _⟩ := hr0.2.2 (by rw [hl]; simp)
    cases e
  have HE' := HE.out
  subst h0
  subst HE'
  clear HE hr0 hc0
  have hnil := fun (W : World) => Lib.run_eql_slice_nil (P := Tryd.prog) W 23 4 none 0 c0 0 0 Tryd.underlying23
  go_enter Tryd.func49, Tryd.ntmps49
  go_wp2
  go_ret
  exact ⟨_, rfl, Kd.R_nil _ _ _ _ _, Below.refl _ _⟩
 | some ad =>
  have HR0 := Aside0.mk hr0
  have HC0 := Aside0.mk hc0
  clear hr0 hc0
  have HB := Aside0.mk (Below.refl w.heap.size w)
  obtain ⟨y152, hy152⟩ : ∃ y_ : List Bool, y_ = (([] : List Bool)) := ⟨_, rfl⟩
  have Ny152 := Aside0.mk hy152
  clear hy152
  have hnil := fun (W : World) => Lib.run_eql_slice_nil (P := Tryd.prog) W 23 4 (some ad) l0.length c0 0 0 Tryd.underlying23
  simp only [Option.isNone_some] at hnil
  go_enter Tryd.func49, Tryd.ntmps49
  go_wp2_with (first | ((with_reducible refine gate_dst (N := 5) rfl ?_); refine Kd.R_lit Kd.bool _ 4 ?hg (N := 5) ?hd (xs := ([] : List Bool)) (inner := []) (ok := fun _ => True) (okp := fun _ => True) ?hr ?hp (fun _ hk => hk) trivial (Below.refl _ _) (Nat.le_refl _) (by simp) ?_; (case hd => rfl); (case hg => rfl); (case hr => exact hR); (case hp => exact (Reps.none _ _)); intro v153 w3 ho4 hb hg_ hnew_; clear hg_ hnew_; (first | rw [← Ny152.out] at ho4 | (simp only [Int.reduceToNat] at ho4; rw [← Ny152.out] at ho4)); have n0_ := Aside0.mk (Kd.R_lower ho4 (below_size (bl0 HB))); have n1_ := Aside0.mk (below_step (bl0 HB) hb); clear HB; have HO154 := n0_; have HB := n1_; clear n0_ n1_; clear hb ho4) | ((with_reducible refine gate_builtin (b := .append) (xs := #[.tmp 5, .tmp 6]) rfl ?_); at_builtin; refine Kd.R_append_rows Kd.bool (w0 := w) w.heap.size rfl (.tmp 5) (.tmp 6) 23 4 (.bool false) 1 rfl Tryd.underlying23 info4 rfl (by decide) (by omega) v153 y152 l0 _ _ _ (fun _ => True) (fun _ => False) rfl rfl ?aO ?aR (fun _ _ h => h) (fun _ h => h.elim) ?aF ?aB ?aS ?aL ?_; (case aR => repeat (first | exact (Kd.C_below HR0.out HB.out) | (with_reducible refine Kd.C_alloc ?_ _) | (with_reducible refine Kd.C_drewN ?_ _) | (with_reducible refine Kd.C_drew ?_))); (case aB => exact (bl0 HB)); (case aF => exact (fun _ _ => trivial)); (case aO => exact (gR (HO154.out))); (case aS => exact (below_size (bl0 HB))); (case aL => have := LMc2.out; have e_ : y152.length = 0 := (by rw [Ny152.out]; rfl); omega); intro v156 w5 ho hb hg hat; have n0_ := Aside0.mk (hb); have n1_ := Aside0.mk (ho); clear HB; clear HO154; have HB := n0_; have HO157 := n1_; clear n0_ n1_; clear ho hb hg hat))
  go_ret
  have hr := HO157.out
  rw [Ny152.out, HE.out] at hr
  exact ⟨_, rfl, hr, HB.out⟩

end Go.Proofs.YthkdkjmnnpcdhaaDoor.P

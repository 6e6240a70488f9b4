/- Contracts of Go functions of this seat's translation, written by this repo's wip/mk.py: it calls the kit's print.py with contracts typed by hand in place of functions that it does not take. Not trusted: Lean checks it. -/
import Derived.Test.YtlahlfjhfmldaaaP0
import Derived.Test.YtlahlfjhfmldaaaP26
namespace Go.Proofs.Ytlahlfjhfmldaaa.P
open Go.RowKit Go.Proofs.YtlahlfjhfmldaaaW.PrintWords Go.Proofs.YtlahlfjhfmldaaaW.PrintLast Go.Proofs.YtlahlfjhfmldaaaW.PrintMore
attribute [local go_sem] max2_int min2_int max_two min_two max_three min_three max_four min_four   -- for this text's walks alone
set_option linter.unusedVariables false
set_option linter.unusedSimpArgs false

/-! ### impl_union_join: function 50 -/
def impl_union_join.f (k : Nat) (l0 : List Int) (a1 : Int) (a2 : Int) : Option (List Int) := (impl_union_find.f k l0 a1).bind fun bt223 => ((impl_union_find.f k bt223.2 a2).bind fun bt225 => (if 0 ≤ (mx bt223.1 bt225.1) then (if (mx bt223.1 bt225.1) < (l0.length : Int) then (some (bt225.2.set ((mx bt223.1 bt225.1) : Int).toNat (mn bt223.1 bt225.1))) else (none)) else (none)))
theorem impl_union_join.mono : ∀ a0 a1 a2 k, LeO (impl_union_join.f k a0 a1 a2) (impl_union_join.f (k + 1) a0 a1 a2) := by
 intro a0 a1 a2 k
 unfold impl_union_join.f
 repeat' first
   | (with_reducible exact impl_union_find.mono _ _ _)
   | (with_reducible exact LeO.refl _)
   | (with_reducible exact LeO.none _)
   | (with_reducible refine LeO.ite ?_ ?_)
   | (with_reducible refine LeO.bind ?_ (fun _ => ?_))
   | exact impl_union_find.mono _ _ _
   | exact LeO.none _
   | refine LeO.ite ?_ ?_
   | refine LeO.bind ?_ (fun _ => ?_)
set_option maxHeartbeats 8000000 in
set_option maxRecDepth 100000 in
theorem impl_union_join.calls (k : Nat) (P0_ : Nat → Prop) (u9000_ : Value) (l0 : List Int) (a1 : Int) (a2 : Int) (r : List Int) (w0 w : World) (hB : Below w0.heap.size w0 w) (ho0 : Kd.R (Kd.int .i64) 3 w w0.heap.size P0_ u9000_ l0) (h : impl_union_join.f k l0 a1 a2 = some r) :
  Calls Try.prog 50 #[u9000_, .int .i64 a1, .int .i64 a2] w fun e w' => e = .returned (.tuple #[]) ∧ Kd.R (Kd.int .i64) 3 w' w0.heap.size (fun k_ => (P0_ k_ ∨ w.heap.size ≤ k_)) u9000_ r ∧ Below w0.heap.size w0 w' ∧ Kept w w' (fun k_ => P0_ k_) := by
 have HO0 := Aside0.mk (show Kd.R (Kd.int .i64) 3 w w0.heap.size (fun k_ => (P0_ k_ ∨ w.heap.size ≤ k_)) u9000_ l0 from Kd.R_mono ho0 (fun k_ hk => (.inl hk)))
 have HK := Aside0.mk (Kept.refl w (fun k_ => P0_ k_))
 have HW0 := Aside0.mk hB.size
 have HB := Aside0.mk hB
 clear hB
 have H : ((impl_union_find.f k l0 a1).bind fun bt223 => ((impl_union_find.f k bt223.2 a2).bind fun bt225 => (if 0 ≤ (mx bt223.1 bt225.1) then (if (mx bt223.1 bt225.1) < (l0.length : Int) then (some (bt225.2.set ((mx bt223.1 bt225.1) : Int).toNat (mn bt223.1 bt225.1))) else (none)) else (none)))) = some r := h
 clear h
 replace H := Option.bind_eq_some_iff.mp H
 obtain ⟨⟨t223, t224⟩, A40, H⟩ := H
 replace H : ((impl_union_find.f k t224 a2).bind fun bt225 => (if 0 ≤ (mx t223 bt225.1) then (if (mx t223 bt225.1) < (l0.length : Int) then (some (bt225.2.set ((mx t223 bt225.1) : Int).toNat (mn t223 bt225.1))) else (none)) else (none))) = some r := H
 have A4 := Aside0.mk A40
 clear A40
 replace H := Option.bind_eq_some_iff.mp H
 obtain ⟨⟨t225, t226⟩, A50, H⟩ := H
 replace H : (if 0 ≤ (mx t223 t225) then (if (mx t223 t225) < (l0.length : Int) then (some (t226.set ((mx t223 t225) : Int).toNat (mn t223 t225))) else (none)) else (none)) = some r := H
 have A5 := Aside0.mk A50
 clear A50
 obtain ⟨ji6, hji6⟩ : ∃ j_ : Int, (mx t223 t225) = j_ := ⟨_, rfl⟩
 replace H : (if 0 ≤ (ji6) then (if (ji6) < (l0.length : Int) then (some (t226.set ((ji6) : Int).toNat (mn t223 t225))) else (none)) else (none)) = some r := by first | (rw [hji6] at H; exact H) | (simp only [hji6] at H ⊢; exact H)
 (try rw [hji6] at A4)
 (try rw [hji6] at A5)
 have hji6_ : (if t223 < t225 then t225 else t223) = ji6 := hji6
 obtain ⟨ji7, hji7⟩ : ∃ j_ : Int, (mn t223 t225) = j_ := ⟨_, rfl⟩
 replace H : (if 0 ≤ (ji6) then (if (ji6) < (l0.length : Int) then (some (t226.set ((ji6) : Int).toNat (ji7))) else (none)) else (none)) = some r := by first | (rw [hji7] at H; exact H) | (simp only [hji7] at H ⊢; exact H)
 (try rw [hji7] at A4)
 (try rw [hji7] at A5)
 have hji7_ : (if t225 < t223 then t225 else t223) = ji7 := hji7
 by_cases c8 : 0 ≤ (ji6)
 rotate_left
 ·
  rw [if_neg c8] at H
  exact absurd H (by simp)
 rw [if_pos c8] at H
 have c8b0 : decide (0 ≤ (ji6)) = true := decide_eq_true c8
 clear c8
 by_cases c9 : (ji6) < (l0.length : Int)
 rotate_left
 ·
  rw [if_neg c9] at H
  exact absurd H (by simp)
 rw [if_pos c9] at H
 have c9b0 : decide ((ji6) < (l0.length : Int)) = true := decide_eq_true c9
 clear c9
 obtain ⟨y227, hy227⟩ : ∃ y_ : List Int, y_ = (t226.set ((ji6) : Int).toNat (ji7)) := ⟨_, rfl⟩
 replace H : (some y227) = some r := by first | (rw [hy227]; with_reducible exact H) | (have H2_ := (Option.bind_some _ _).symm.trans H; rw [hy227]; with_reducible exact H2_) | (have H2_ := (Option.bind_some _ _).symm.trans H; with_reducible exact H2_) | with_reducible exact H | (rw [hy227]; exact H) | exact H
 have Ny227 := Aside0.mk hy227
 clear hy227
 obtain rfl := Option.some.inj H
 obtain ⟨Ao11, co11, eo11⟩ := Kd.R_slice HO0.out
 subst eo11
 go_enter Try.func50, Try.ntmps50
 go_wp2_with (first | ((with_reducible refine gate_callee (f := 34) rfl ?_); refine goesL_ (some 8) rfl rfl Try.func34 (by kernel_rfl) rfl #[.slice Ao11 l0.length co11, .int .i64 a1] rfl (by (try simp only [List.map_toArray, List.map_cons, List.map_nil]); first | done | rfl | (simp only [List.length_drop, List.length_take]; rfl)) ?_; (with_reducible refine (impl_union_find.calls k (fun k_ => some k_ = (.slice Ao11 l0.length co11 : Value).ownBlock) (.slice Ao11 l0.length co11) l0 a1 t223 t224 w0 _ ?side1 ?side2 A4.out).mono ?_); (case side1 => repeat (first | (with_reducible first | exact HB.out | apply below_alloc | apply pw_below_drewN | apply below_drew1) | exact HB.out)); (case side2 => exact Kd.R_tight rfl HO0.out); rintro e w12 ⟨rfl, hy0, hb, hkp⟩; refine ⟨_, rfl, ?_⟩; have n0_ := Aside0.mk (Kd.R_reok rfl hy0 (fun k_ e_ => HO0.out.1 k_ e_)); have n1_ := Aside0.mk (Kept.then_ (S := (fun k_ => P0_ k_)) (by repeat (first | (with_reducible first | exact HK.out | apply Kept.alloc | apply Kept.drewN | apply Kept.drew) | exact HK.out)) hkp (fun k_ hs_ => (fun e_ => (HO0.out.1 k_ e_.symm)) hs_)); have n2_ := Aside0.mk (hb); clear HO0; clear HK; clear HB; have HO0 := n0_; have HK := n1_; have HB := n2_; clear n0_ n1_ n2_; (try clear hb); (try clear hkp); (try clear hy0)) | ((with_reducible refine gate_callee (f := 34) rfl ?_); refine goesL_ (some 11) rfl rfl Try.func34 (by kernel_rfl) rfl #[.slice Ao11 l0.length co11, .int .i64 a2] rfl (by (try simp only [List.map_toArray, List.map_cons, List.map_nil]); first | done | rfl | (simp only [List.length_drop, List.length_take]; rfl)) ?_; (with_reducible refine (impl_union_find.calls k (fun k_ => some k_ = (.slice Ao11 l0.length co11 : Value).ownBlock) (.slice Ao11 l0.length co11) t224 a2 t225 t226 w0 _ ?side1 ?side2 A5.out).mono ?_); (case side1 => repeat (first | (with_reducible first | exact HB.out | apply below_alloc | apply pw_below_drewN | apply below_drew1) | exact HB.out)); (case side2 => exact Kd.R_tight rfl HO0.out); rintro e w13 ⟨rfl, hy0, hb, hkp⟩; refine ⟨_, rfl, ?_⟩; have n0_ := Aside0.mk (Kd.R_reok rfl hy0 (fun k_ e_ => HO0.out.1 k_ e_)); have n1_ := Aside0.mk (Kept.then_ (S := (fun k_ => P0_ k_)) (by repeat (first | (with_reducible first | exact HK.out | apply Kept.alloc | apply Kept.drewN | apply Kept.drew) | exact HK.out)) hkp (fun k_ hs_ => (fun e_ => (HO0.out.1 k_ e_.symm)) hs_)); have n2_ := Aside0.mk (hb); clear HO0; clear HK; clear HB; have HO0 := n0_; have HK := n1_; have HB := n2_; clear n0_ n1_ n2_; (try clear hb); (try clear hkp); (try clear hy0); have p10 : 0 ≤ ((ji6) : Int) := of_decide_eq_true (by first | (with_reducible assumption) | assumption); have q10 : ((ji6) : Int) < ((l0.length : Int) : Int) := of_decide_eq_true (by first | (with_reducible assumption) | assumption); obtain ⟨go10, co10, eo10, gb10, gl10, cl10, HG10⟩ := Kd.R_form HO0.out (by first | omega | (obtain ⟨_, _, e_⟩ := Kd.R_slice HO0.out; injection e_ with _ e_ _; omega)); (first | cases eo10 | (injection eo10 with ea_ en_ ec_; (first | subst ea_ | (injection ea_ with ea_; subst ea_)); subst ec_; clear en_)); have GB10 := Aside0.mk gb10; have GG10 := Aside0.mk HG10; clear gb10 gl10 HG10; have HMgo10 := Aside0.mk (show (P0_ go10 ∨ w.heap.size ≤ go10) from (HO0.out.1 _ rfl)); obtain ⟨hx10_0, hf10_0⟩ := Kd.R_celln 0 HO0.out ((ji6) : Int) p10 q10; replace p10 := eq_true p10; replace q10 := eq_true q10; obtain ⟨hy14_, hz14_⟩ := Kd.R_celln 0 HO0.out ((ji6) : Int) (of_decide_eq_true (by first | (with_reducible assumption) | assumption)) (of_decide_eq_true (by first | (with_reducible assumption) | assumption)); have HP14 := Kd.R_putg HO0.out ((ji6) : Int) ji7) | ((with_reducible refine gate_store (t := 3) (p := 19) rfl ?_); refine store_event (t := 3) (p := 19) (v := ?vo_w15) (w1 := (w13.setCell ⟨go10, ((ji6) : Int).toNat, none⟩ (.int .i64 ji7))) ?hg ?ho ?hn ?hr ?_; (case ho => rfl); (case hg => rfl); (case hn => rfl); (case hr => first | (go_simp; done) | (go_simp; rfl)); intro w15 hw; have hg : w13.grownBy w15 (some go10) := (by rw [hw]; exact HP14.2); have hp_ : Kd.R (Kd.int .i64) 3 w15 w0.heap.size (fun k_ => (P0_ k_ ∨ w.heap.size ≤ k_)) (.slice (some ⟨go10, 0, none⟩) l0.length co11) y227 := (by rw [hw, Ny227.out]; exact HP14.1); clear HP14; have n0_ := Aside0.mk (hp_); have n1_ := Aside0.mk ((by rw [hw]; exact below_set (HB.out) GB10.out : Below w0.heap.size w0 w15)); have n2_ := Aside0.mk (Kept.of_grown (S := (fun k_ => P0_ k_)) hg (by repeat (first | (with_reducible first | exact HK.out | apply Kept.alloc | apply Kept.drewN | apply Kept.drew) | exact HK.out)) (fun k_ e_ => (HO0.out.1 k_ e_))); clear HO0; clear HB; clear HK; have HO0 := n0_; have HB := n1_; have HK := n2_; clear n0_ n1_ n2_; clear hg hw hp_))
 first | go_end0 | ((try simp only [Exit.inBlock, Exit.then]); refine bodyPost_ret (results_none rfl _ _ _) rfl ?_)
 exact ⟨by first | rfl | (simp [errW_none, errW_some] <;> rfl) | (simp only [← hji6, ← hji7]; first | rfl | (simp [errW_none, errW_some] <;> rfl)) | (simp [*, errW_none, errW_some] <;> rfl), by (with_reducible repeat (first | apply Kd.R_alloc | apply Kd.R_drewN | apply Kd.R_drew)); exact HO0.out, by repeat (first | (with_reducible first | exact HB.out | apply below_alloc | apply pw_below_drewN | apply below_drew1) | exact HB.out), by repeat (first | (with_reducible first | exact HK.out | apply Kept.alloc | apply Kept.drewN | apply Kept.drew) | exact HK.out)⟩

end Go.Proofs.Ytlahlfjhfmldaaa.P
namespace Go.Proofs.Ytlahlfjhfmldaaa.P
open Go.RowKit Go.Proofs.YtlahlfjhfmldaaaW.PrintWords Go.Proofs.YtlahlfjhfmldaaaW.PrintLast Go.Proofs.YtlahlfjhfmldaaaW.PrintMore
attribute [local go_sem] max2_int min2_int max_two min_two max_three min_three max_four min_four   -- for this text's walks alone
set_option linter.unusedVariables false
set_option linter.unusedSimpArgs false

/-! ### impl_unionOf: function 32 -/
def impl_unionOf.l0 : Nat → List Bool → List Int → List (S77) → Int → Int → Option (List Int)
 | 0, _, _, _, _, _ => none
 | k + 1, x1, x5, x12, x13, x14 => if x14 < x13 then (if 0 ≤ x14 then (if x14 < (x12.length : Int) then (if x14 < (x1.length : Int) then (if rdOf false x1 x14 = true then ((impl_union_join.f k x5 ((rd_T77 x12 x14).f0) ((rd_T77 x12 x14).f1)).bind fun t235 => (impl_unionOf.l0 k x1 t235 x12 x13 (wrap64 (x14 + 1)))) else (impl_unionOf.l0 k x1 x5 x12 x13 (wrap64 (x14 + 1)))) else (none)) else (none)) else (none)) else (some x5)
def impl_unionOf.f (k : Nat) (a0_0 : Int) (l0_1 : List (S77)) (l1 : List Bool) : Option (List Int) := (impl_newUnion.f k a0_0).bind fun t229 => (impl_unionOf.l0 k l1 t229 l0_1 (l0_1.length : Int) 0)
theorem impl_unionOf.mono_l : ∀ k, (∀ y0 y1 y2 y3 y4, LeO (impl_unionOf.l0 k y0 y1 y2 y3 y4) (impl_unionOf.l0 (k + 1) y0 y1 y2 y3 y4))
 | 0 => fun _ _ _ _ _ r h => by simp [impl_unionOf.l0] at h
 | k + 1 => by
  have ih0 := impl_unionOf.mono_l k
  ·
   intro y0 y1 y2 y3 y4
   unfold impl_unionOf.l0
   repeat' first
   | (with_reducible exact ih0 _ _ _ _ _)
   | (with_reducible exact impl_newUnion.mono _ _)
   | (with_reducible exact impl_union_join.mono _ _ _ _)
   | (with_reducible exact LeO.refl _)
   | (with_reducible exact LeO.none _)
   | (with_reducible refine LeO.ite ?_ ?_)
   | (with_reducible refine LeO.bind ?_ (fun _ => ?_))
   | exact ih0 _ _ _ _ _
   | exact impl_newUnion.mono _ _
   | exact impl_union_join.mono _ _ _ _
   | exact LeO.none _
   | refine LeO.ite ?_ ?_
   | refine LeO.bind ?_ (fun _ => ?_)
theorem impl_unionOf.mono : ∀ a0 a1 a2 k, LeO (impl_unionOf.f k a0 a1 a2) (impl_unionOf.f (k + 1) a0 a1 a2) := by
 intro a0 a1 a2 k
 have ih0 := impl_unionOf.mono_l k
 unfold impl_unionOf.f
 repeat' first
   | (with_reducible exact ih0 _ _ _ _ _)
   | (with_reducible exact impl_newUnion.mono _ _)
   | (with_reducible exact impl_union_join.mono _ _ _ _)
   | (with_reducible exact LeO.refl _)
   | (with_reducible exact LeO.none _)
   | (with_reducible refine LeO.ite ?_ ?_)
   | (with_reducible refine LeO.bind ?_ (fun _ => ?_))
   | exact ih0 _ _ _ _ _
   | exact impl_newUnion.mono _ _
   | exact impl_union_join.mono _ _ _ _
   | exact LeO.none _
   | refine LeO.ite ?_ ?_
   | refine LeO.bind ?_ (fun _ => ?_)
set_option maxHeartbeats 8000000 in
set_option maxRecDepth 100000 in
theorem impl_unionOf.calls (k : Nat) (a0_0 : Int) (A0_1 : Option Addr) (c0_1 : Nat) (l0_1 : List (S77)) (A1 : Option Addr) (c1 : Nat) (l1 : List Bool) (r : List Int) (w : World) (hr0_1 : Kd.C k77 w A0_1 l0_1.length l0_1) (hc0_1 : l0_1.length ≤ c0_1) (hr1 : Kd.C Kd.bool w A1 l1.length l1) (hc1 : l1.length ≤ c1) (h : impl_unionOf.f k a0_0 l0_1 l1 = some r) :
  Calls Try.prog 32 #[.agg #[.int .i64 a0_0, .slice A0_1 l0_1.length c0_1], .slice A1 l1.length c1] w fun e w' => ∃ v0_ : Value, e = .returned (v0_) ∧ Kd.R (Kd.int .i64) 3 w' w.heap.size (fun _ => True) v0_ r ∧ Below w.heap.size w w' := by
 have hu33 := Try.underlying33
 have hu77 := Try.underlying77
 have HR0_1 := Aside0.mk hr0_1
 have HC0_1 := Aside0.mk hc0_1
 clear hr0_1 hc0_1
 have HR1 := Aside0.mk hr1
 have HC1 := Aside0.mk hc1
 clear hr1 hc1
 have HB := Aside0.mk (Below.refl w.heap.size w)
 have H : ((impl_newUnion.f k a0_0).bind fun t229 => (impl_unionOf.l0 k l1 t229 l0_1 (l0_1.length : Int) 0)) = some r := h
 clear h
 replace H := Option.bind_eq_some_iff.mp H
 obtain ⟨t229, A30, H⟩ := H
 replace H : (impl_unionOf.l0 k l1 t229 l0_1 (l0_1.length : Int) 0) = some r := H
 have A3 := Aside0.mk A30
 clear A30
 have H' := Aside0.mk H
 clear H
 go_enter Try.func32, Try.ntmps32
 go_wp2_with (first | ((with_reducible refine gate_dst (N := 2) rfl ?_); refine box_event ?hg (N := 2) ?hd (cs := #[.int .i64 a0_0, .slice A0_1 l0_1.length c0_1]) (t := 33) ?hr ?_; (case hd => rfl); (case hg => rfl); (case hr => first | (go_simp; done) | (go_simp; rfl)); intro gb228 hg w4 hbox hb; have n0_ := Aside0.mk (below_step (by repeat (first | (with_reducible first | exact HB.out | apply below_alloc | apply pw_below_drewN | apply below_drew1) | exact HB.out)) hb); have n1_ := Aside0.mk (hbox); have n2_ := Aside0.mk ((by rw [hg]; exact (below_size (by repeat (first | (with_reducible first | exact HB.out | apply below_alloc | apply pw_below_drewN | apply below_drew1) | exact HB.out))) : w.heap.size ≤ gb228)); have n3_ := Aside0.mk ((by rw [hg]; exact (below_size (by repeat (first | (with_reducible first | exact HB.out | apply below_alloc | apply pw_below_drewN | apply below_drew1) | exact HB.out))) : w.heap.size ≤ gb228)); clear HB; have HB := n0_; have BK228 := n1_; have GW228 := n2_; have GE228 := n3_; clear n0_ n1_ n2_ n3_; clear hb hbox hg; have hcz5_0 : w4.cell? ⟨gb228, 0, none⟩ = some (.int .i64 a0_0) := (blk_cell BK228.out 0).trans rfl; have hcz5_1 : w4.cell? ⟨gb228, 1, none⟩ = some (.slice A0_1 l0_1.length c0_1) := (blk_cell BK228.out 1).trans rfl; have hfz5_0 := blk_frozen BK228.out 0; have hfz5_1 := blk_frozen BK228.out 1) | ((with_reducible refine gate_callee (f := 49) rfl ?_); refine goesL_ (some 10) rfl rfl Try.func49 (by kernel_rfl) rfl #[.int .i64 a0_0] rfl (by (try simp only [List.map_toArray, List.map_cons, List.map_nil]); first | done | rfl | (simp only [List.length_drop, List.length_take]; rfl)) ?_; (with_reducible refine (impl_newUnion.calls k a0_0 t229 _ A3.out).mono ?_); rintro e w6 ⟨v230, rfl, ho0, hb⟩; refine ⟨_, rfl, ?_⟩; have n0_ := Aside0.mk (Kd.R_lower ho0 (below_size (by repeat (first | (with_reducible first | exact HB.out | apply below_alloc | apply pw_below_drewN | apply below_drew1 | refine below_set ?_ GE228.out) | exact HB.out)))); have n1_ := Aside0.mk (blk_below (g := gb228) (o := .cells #[.int .i64 a0_0, .slice A0_1 l0_1.length c0_1] 33 (0, 0)) (by (with_reducible repeat (first | refine blk_drewN ?_ _ | refine blk_drew ?_ | refine blk_alloc ?_ _)); exact BK228.out) hb); have n2_ := Aside0.mk (below_step (by repeat (first | (with_reducible first | exact HB.out | apply below_alloc | apply pw_below_drewN | apply below_drew1 | refine below_set ?_ GE228.out) | exact HB.out)) hb); clear BK228; clear HB; have HO231 := n0_; have BK228 := n1_; have HB := n2_; clear n0_ n1_ n2_; (try clear hb); (try clear hb2); (try clear hk); (try clear hi); (try clear ho0); have hcz7_0 : w6.cell? ⟨gb228, 0, none⟩ = some (.int .i64 a0_0) := (blk_cell BK228.out 0).trans rfl; have hcz7_1 : w6.cell? ⟨gb228, 1, none⟩ = some (.slice A0_1 l0_1.length c0_1) := (blk_cell BK228.out 1).trans rfl; have hfz7_0 := blk_frozen BK228.out 0; have hfz7_1 := blk_frozen BK228.out 1))
 go_loopg [14] k (fun kq v14 w' => ∃ (x5_1 : List Int) (x14_1 : Int), v14 = .int .i64 x14_1 ∧ Aside0 (impl_unionOf.l0 kq l1 x5_1 l0_1 (l0_1.length : Int) x14_1 = some r) ∧ Aside0 (kq ≤ k) ∧ Aside0 (Kd.R (Kd.int .i64) 3 w' w.heap.size (fun _ => True) v230 x5_1) ∧ Aside0 (w'.heap[gb228]? = some (.cells #[.int .i64 a0_0, (.slice A0_1 l0_1.length c0_1)] 33 (0, 0))) ∧ Aside0 (Below w.heap.size w w'))
 case atStart => exact ⟨(t229), (0), (by first | rfl | (simp; done) | (simp [*]; done)), H', ⟨Nat.le_refl _⟩, ⟨by (with_reducible repeat (first | apply Kd.R_alloc | apply Kd.R_drewN | apply Kd.R_drew)); exact HO231.out⟩, ⟨by (with_reducible repeat (first | refine blk_drewN ?_ _ | refine blk_drew ?_ | refine blk_alloc ?_ _)); exact BK228.out⟩, ⟨by repeat (first | (with_reducible first | exact HB.out | apply below_alloc | apply pw_below_drewN | apply below_drew1 | refine below_set ?_ GE228.out) | exact HB.out)⟩⟩
 case round =>
  clear H'
  try clear c1
  try clear p2
  try clear c3
  try clear c4
  try clear hcz5_0
  try clear hcz5_1
  try clear hcz7_0
  try clear hcz7_1
  try clear hfz5_0
  try clear hfz5_1
  try clear hfz7_0
  try clear hfz7_1
  obtain ⟨x5_1, x14_1, rfl, HA, HK1, HO_5, BK228, HB⟩ := hrel
  cases gk with
  | zero => exact absurd HA.out (by simp [impl_unionOf.l0])
  | succ k1 =>
   have H := HA.out
   clear HA
   simp only [impl_unionOf.l0] at H
   by_cases c8 : x14_1 < (l0_1.length : Int)
   rotate_left
   ·
    rw [if_neg c8] at H
    have c8b0 : decide (x14_1 < (l0_1.length : Int)) = false := decide_eq_false c8
    clear c8
    obtain rfl := Option.some.inj H
    go_wp2
    go_ret
    exact ⟨_, by first | rfl | (simp [errW_none, errW_some] <;> rfl) | (simp [*, errW_none, errW_some] <;> rfl), by (with_reducible repeat (first | apply Kd.R_alloc | apply Kd.R_drewN | apply Kd.R_drew)); exact HO_5.out, by repeat (first | (with_reducible first | exact HB.out | apply below_alloc | apply pw_below_drewN | apply below_drew1 | refine below_set ?_ GE228.out) | exact HB.out)⟩
   rw [if_pos c8] at H
   have c8b0 : decide (x14_1 < (l0_1.length : Int)) = true := decide_eq_true c8
   clear c8
   by_cases c9 : 0 ≤ x14_1
   rotate_left
   ·
    rw [if_neg c9] at H
    exact absurd H (by simp)
   rw [if_pos c9] at H
   have c9b0 : decide (0 ≤ x14_1) = true := decide_eq_true c9
   clear c9
   by_cases c10 : x14_1 < (l0_1.length : Int)
   rotate_left
   ·
    rw [if_neg c10] at H
    exact absurd H (by simp)
   rw [if_pos c10] at H
   have c10b0 : decide (x14_1 < (l0_1.length : Int)) = true := decide_eq_true c10
   clear c10
   by_cases c11 : x14_1 < (l1.length : Int)
   rotate_left
   ·
    rw [if_neg c11] at H
    exact absurd H (by simp)
   rw [if_pos c11] at H
   have c11b0 : decide (x14_1 < (l1.length : Int)) = true := decide_eq_true c11
   clear c11
   obtain ⟨bq12, hbq12⟩ : ∃ b_ : Bool, b_ = (rdOf false l1 x14_1) := ⟨_, rfl⟩
   replace H : (if bq12 = true then ((impl_union_join.f k1 x5_1 ((rd_T77 l0_1 x14_1).f0) ((rd_T77 l0_1 x14_1).f1)).bind fun t235 => (impl_unionOf.l0 k1 l1 t235 l0_1 (l0_1.length : Int) (wrap64 (x14_1 + 1)))) else (impl_unionOf.l0 k1 l1 x5_1 l0_1 (l0_1.length : Int) (wrap64 (x14_1 + 1)))) = some r := by rw [← hbq12] at H; exact H
   have Nbq12 := Aside0.mk hbq12
   clear hbq12
   by_cases c13 : bq12 = true
   rotate_left
   ·
    replace c13 := Bool.eq_false_iff.mpr c13
    subst c13
    have H1 : (impl_unionOf.l0 k1 l1 x5_1 l0_1 (l0_1.length : Int) (wrap64 (x14_1 + 1))) = some r := by rw [if_neg (show ¬ (false = true) by decide)] at H; exact H
    clear H
    have H := H1
    clear H1
    have H' := Aside0.mk H
    clear H
    have p232 : 0 ≤ (x14_1 : Int) := of_decide_eq_true (by first | (with_reducible assumption) | assumption)
    have q232 : x14_1 < (l0_1.length : Int) := of_decide_eq_true (by first | (with_reducible assumption) | assumption)
    obtain ⟨ad232, e232, hx232_0, hx232_1, hx232_2⟩ := at_T77 HR0_1.out x14_1 p232 q232
    cases e232
    replace hx232_0 := (HB.out.cell (World.block_lt_of_cell? w _ hx232_0)).trans hx232_0
    replace hx232_1 := (HB.out.cell (World.block_lt_of_cell? w _ hx232_1)).trans hx232_1
    replace hx232_2 := (HB.out.cell (World.block_lt_of_cell? w _ hx232_2)).trans hx232_2
    replace p232 := eq_true p232
    replace q232 := eq_true q232
    go_wp2_with (first | ((with_reducible refine gate_dst (N := 7) rfl ?_); refine box_event ?hg (N := 7) ?hd (cs := #[.int .i64 0, .int .i64 0, .int .i64 0]) (t := 77) ?hr ?_; (case hd => rfl); (case hg => rfl); (case hr => first | (go_simp; done) | (go_simp; rfl)); intro gb233 hg w22 hbox hb; have n0_ := Aside0.mk (Kd.R_below (by (with_reducible repeat (first | apply Kd.R_alloc | apply Kd.R_drewN | apply Kd.R_drew)); exact HO_5.out) hb); have n1_ := Aside0.mk (blk_below (g := gb228) (o := .cells #[.int .i64 a0_0, .slice (some ad232) l0_1.length c0_1] 33 (0, 0)) (by (with_reducible repeat (first | refine blk_drewN ?_ _ | refine blk_drew ?_ | refine blk_alloc ?_ _)); exact BK228.out) hb); have n2_ := Aside0.mk (below_step (by repeat (first | (with_reducible first | exact HB.out | apply below_alloc | apply pw_below_drewN | apply below_drew1 | refine below_set ?_ GE228.out) | exact HB.out)) hb); have n3_ := Aside0.mk (hbox); have n4_ := Aside0.mk ((by rw [hg]; exact (below_size (by repeat (first | (with_reducible first | exact HB.out | apply below_alloc | apply pw_below_drewN | apply below_drew1 | refine below_set ?_ GE228.out) | exact HB.out))) : w.heap.size ≤ gb233)); have n5_ := Aside0.mk ((by rw [hg]; exact (below_size (by repeat (first | (with_reducible first | exact HB.out | apply below_alloc | apply pw_below_drewN | apply below_drew1 | refine below_set ?_ GE228.out) | exact HB.out))) : w.heap.size ≤ gb233)); have n6_ := Aside0.mk ((by rw [hg]; exact Nat.ne_of_lt (blk_lt (g := gb228) (o := .cells #[.int .i64 a0_0, .slice (some ad232) l0_1.length c0_1] 33 (0, 0)) (by (with_reducible repeat (first | refine blk_drewN ?_ _ | refine blk_drew ?_ | refine blk_alloc ?_ _)); exact BK228.out)) : gb228 ≠ gb233)); have n7_ := Aside0.mk ((by rw [hg]; exact Nat.ne_of_gt (blk_lt (g := gb228) (o := .cells #[.int .i64 a0_0, .slice (some ad232) l0_1.length c0_1] 33 (0, 0)) (by (with_reducible repeat (first | refine blk_drewN ?_ _ | refine blk_drew ?_ | refine blk_alloc ?_ _)); exact BK228.out)) : gb233 ≠ gb228)); clear HO_5; clear BK228; clear HB; have HO_5 := n0_; have BK228 := n1_; have HB := n2_; have BK233 := n3_; have GW233 := n4_; have GE233 := n5_; have NB228_233 := n6_; have NB233_228 := n7_; clear n0_ n1_ n2_ n3_ n4_ n5_ n6_ n7_; clear hb hbox hg; have hnb23 := NB233_228.out; have hnc23 := NB228_233.out; have hcz24_0 : w22.cell? ⟨gb233, 0, none⟩ = some (.int .i64 0) := (blk_cell BK233.out 0).trans rfl; have hcz24_1 : w22.cell? ⟨gb233, 1, none⟩ = some (.int .i64 0) := (blk_cell BK233.out 1).trans rfl; have hcz24_2 : w22.cell? ⟨gb233, 2, none⟩ = some (.int .i64 0) := (blk_cell BK233.out 2).trans rfl; have hfz24_0 := blk_frozen BK233.out 0; have hfz24_1 := blk_frozen BK233.out 1; have hfz24_2 := blk_frozen BK233.out 2; have p234 : 0 ≤ (x14_1 : Int) := of_decide_eq_true (by first | (with_reducible assumption) | assumption); have q234 : x14_1 < (l1.length : Int) := of_decide_eq_true (by first | (with_reducible assumption) | assumption); obtain ⟨ad234, e234, hx234_0⟩ := Kd.at_bool HR1.out x14_1 p234 q234; (try rw [← Nbq12.out] at hx234_0); cases e234; have hn234_0 : ad234.block ≠ gb233 := Nat.ne_of_lt (Nat.lt_of_lt_of_le (by have := World.block_lt_of_cell? _ _ hx234_0; first | rwa [add_block] at this | exact this) GW233.out); have hn234_1 : ad234.block ≠ gb233 := Nat.ne_of_lt (Nat.lt_of_lt_of_le (by have := World.block_lt_of_cell? _ _ hx234_0; first | rwa [add_block] at this | exact this) GW233.out); have hn234_2 : ad234.block ≠ gb233 := Nat.ne_of_lt (Nat.lt_of_lt_of_le (by have := World.block_lt_of_cell? _ _ hx234_0; first | rwa [add_block] at this | exact this) GW233.out); replace hx234_0 := (HB.out.cell (World.block_lt_of_cell? w _ hx234_0)).trans hx234_0; replace hx234_0 := (cell_far (p := ⟨gb233, 0, none⟩) (by first | (rw [add_block]; exact hn234_0) | (show (Addr.add _ _).block ≠ _; rw [add_block]; exact hn234_0) | exact hn234_0) (.int .i64 ((rd_T77 l0_1 x14_1).f0))).trans hx234_0; replace hx234_0 := (cell_far (p := ⟨gb233, 1, none⟩) (by first | (rw [add_block]; exact hn234_1) | (show (Addr.add _ _).block ≠ _; rw [add_block]; exact hn234_1) | exact hn234_1) (.int .i64 ((rd_T77 l0_1 x14_1).f1))).trans hx234_0; replace hx234_0 := (cell_far (p := ⟨gb233, 2, none⟩) (by first | (rw [add_block]; exact hn234_2) | (show (Addr.add _ _).block ≠ _; rw [add_block]; exact hn234_2) | exact hn234_2) (.int .i64 ((rd_T77 l0_1 x14_1).f2))).trans hx234_0; clear hn234_0; clear hn234_1; clear hn234_2; replace p234 := eq_true p234; replace q234 := eq_true q234))
    go_roundg k1
    case measure => have := HK1.out; omega
    case rel => exact ⟨(x5_1), (wrap64 (x14_1 + 1)), (by first | rfl | (simp; done) | (simp [*]; done)), H', ⟨by have := HK1.out; omega⟩, ⟨by (with_reducible repeat (first | apply Kd.R_alloc | apply Kd.R_drewN | apply Kd.R_drew)); exact Kd.R_mono (Kd.R_far (p := ⟨gb233, 2, none⟩) (Kd.R_far (p := ⟨gb233, 1, none⟩) (Kd.R_far (p := ⟨gb233, 0, none⟩) (Kd.R_types HO_5.out BK233.out (by decide)) (fun _ hk => hk.2) (.int .i64 ((rd_T77 l0_1 x14_1).f0))) (fun _ hk => hk.2) (.int .i64 ((rd_T77 l0_1 x14_1).f1))) (fun _ hk => hk.2) (.int .i64 ((rd_T77 l0_1 x14_1).f2))) (fun _ hk => trivial)⟩, ⟨by (with_reducible repeat (first | refine blk_drewN ?_ _ | refine blk_drew ?_ | refine blk_alloc ?_ _)); refine blk_far ?_ NB228_233.out _; (with_reducible repeat (first | refine blk_drewN ?_ _ | refine blk_drew ?_ | refine blk_alloc ?_ _)); refine blk_far ?_ NB228_233.out _; (with_reducible repeat (first | refine blk_drewN ?_ _ | refine blk_drew ?_ | refine blk_alloc ?_ _)); refine blk_far ?_ NB228_233.out _; (with_reducible repeat (first | refine blk_drewN ?_ _ | refine blk_drew ?_ | refine blk_alloc ?_ _)); exact BK228.out⟩, ⟨by repeat (first | (with_reducible first | exact HB.out | apply below_alloc | apply pw_below_drewN | apply below_drew1 | refine below_set ?_ GE228.out | refine below_set ?_ GE233.out) | exact HB.out)⟩⟩
   subst c13
   have H1 : ((impl_union_join.f k1 x5_1 ((rd_T77 l0_1 x14_1).f0) ((rd_T77 l0_1 x14_1).f1)).bind fun t235 => (impl_unionOf.l0 k1 l1 t235 l0_1 (l0_1.length : Int) (wrap64 (x14_1 + 1)))) = some r := by rw [if_pos rfl] at H; exact H
   clear H
   have H := H1
   clear H1
   replace H := Option.bind_eq_some_iff.mp H
   obtain ⟨t235, A140, H⟩ := H
   replace H : (impl_unionOf.l0 k1 l1 t235 l0_1 (l0_1.length : Int) (wrap64 (x14_1 + 1))) = some r := H
   have A14 := Aside0.mk A140
   clear A140
   have H' := Aside0.mk H
   clear H
   have p232 : 0 ≤ (x14_1 : Int) := of_decide_eq_true (by first | (with_reducible assumption) | assumption)
   have q232 : x14_1 < (l0_1.length : Int) := of_decide_eq_true (by first | (with_reducible assumption) | assumption)
   obtain ⟨ad232, e232, hx232_0, hx232_1, hx232_2⟩ := at_T77 HR0_1.out x14_1 p232 q232
   cases e232
   replace hx232_0 := (HB.out.cell (World.block_lt_of_cell? w _ hx232_0)).trans hx232_0
   replace hx232_1 := (HB.out.cell (World.block_lt_of_cell? w _ hx232_1)).trans hx232_1
   replace hx232_2 := (HB.out.cell (World.block_lt_of_cell? w _ hx232_2)).trans hx232_2
   replace p232 := eq_true p232
   replace q232 := eq_true q232
   go_wp2_with (first | ((with_reducible refine gate_dst (N := 7) rfl ?_); refine box_event ?hg (N := 7) ?hd (cs := #[.int .i64 0, .int .i64 0, .int .i64 0]) (t := 77) ?hr ?_; (case hd => rfl); (case hg => rfl); (case hr => first | (go_simp; done) | (go_simp; rfl)); intro gb233 hg w15 hbox hb; have n0_ := Aside0.mk (Kd.R_below (by (with_reducible repeat (first | apply Kd.R_alloc | apply Kd.R_drewN | apply Kd.R_drew)); exact HO_5.out) hb); have n1_ := Aside0.mk (blk_below (g := gb228) (o := .cells #[.int .i64 a0_0, .slice (some ad232) l0_1.length c0_1] 33 (0, 0)) (by (with_reducible repeat (first | refine blk_drewN ?_ _ | refine blk_drew ?_ | refine blk_alloc ?_ _)); exact BK228.out) hb); have n2_ := Aside0.mk (below_step (by repeat (first | (with_reducible first | exact HB.out | apply below_alloc | apply pw_below_drewN | apply below_drew1 | refine below_set ?_ GE228.out) | exact HB.out)) hb); have n3_ := Aside0.mk (hbox); have n4_ := Aside0.mk ((by rw [hg]; exact (below_size (by repeat (first | (with_reducible first | exact HB.out | apply below_alloc | apply pw_below_drewN | apply below_drew1 | refine below_set ?_ GE228.out) | exact HB.out))) : w.heap.size ≤ gb233)); have n5_ := Aside0.mk ((by rw [hg]; exact (below_size (by repeat (first | (with_reducible first | exact HB.out | apply below_alloc | apply pw_below_drewN | apply below_drew1 | refine below_set ?_ GE228.out) | exact HB.out))) : w.heap.size ≤ gb233)); have n6_ := Aside0.mk ((by rw [hg]; exact Nat.ne_of_lt (blk_lt (g := gb228) (o := .cells #[.int .i64 a0_0, .slice (some ad232) l0_1.length c0_1] 33 (0, 0)) (by (with_reducible repeat (first | refine blk_drewN ?_ _ | refine blk_drew ?_ | refine blk_alloc ?_ _)); exact BK228.out)) : gb228 ≠ gb233)); have n7_ := Aside0.mk ((by rw [hg]; exact Nat.ne_of_gt (blk_lt (g := gb228) (o := .cells #[.int .i64 a0_0, .slice (some ad232) l0_1.length c0_1] 33 (0, 0)) (by (with_reducible repeat (first | refine blk_drewN ?_ _ | refine blk_drew ?_ | refine blk_alloc ?_ _)); exact BK228.out)) : gb233 ≠ gb228)); clear HO_5; clear BK228; clear HB; have HO_5 := n0_; have BK228 := n1_; have HB := n2_; have BK233 := n3_; have GW233 := n4_; have GE233 := n5_; have NB228_233 := n6_; have NB233_228 := n7_; clear n0_ n1_ n2_ n3_ n4_ n5_ n6_ n7_; clear hb hbox hg; have hnb16 := NB233_228.out; have hnc16 := NB228_233.out; have hcz17_0 : w15.cell? ⟨gb233, 0, none⟩ = some (.int .i64 0) := (blk_cell BK233.out 0).trans rfl; have hcz17_1 : w15.cell? ⟨gb233, 1, none⟩ = some (.int .i64 0) := (blk_cell BK233.out 1).trans rfl; have hcz17_2 : w15.cell? ⟨gb233, 2, none⟩ = some (.int .i64 0) := (blk_cell BK233.out 2).trans rfl; have hfz17_0 := blk_frozen BK233.out 0; have hfz17_1 := blk_frozen BK233.out 1; have hfz17_2 := blk_frozen BK233.out 2) | ((with_reducible refine gate_store (t := 77) (p := 7) rfl ?_); refine store_event (t := 77) (p := 7) (v := ?vo_w18) (w1 := (((w15.setCell ⟨gb233, 0, none⟩ (.int .i64 ((rd_T77 l0_1 x14_1).f0))).setCell ⟨gb233, 1, none⟩ (.int .i64 ((rd_T77 l0_1 x14_1).f1))).setCell ⟨gb233, 2, none⟩ (.int .i64 ((rd_T77 l0_1 x14_1).f2)))) ?hg ?ho ?hn ?hr ?_; (case ho => rfl); (case hg => rfl); (case hn => rfl); (case hr => first | (go_simp; done) | (go_simp; rfl)); intro w18 hw; have n0_ : Aside0 (Kd.R (Kd.int .i64) 3 w18 w.heap.size (fun _ => True) v230 x5_1) := ⟨(by rw [hw]; exact (by (with_reducible repeat (first | apply Kd.R_alloc | apply Kd.R_drewN | apply Kd.R_drew)); exact Kd.R_mono (Kd.R_far (p := ⟨gb233, 2, none⟩) (Kd.R_far (p := ⟨gb233, 1, none⟩) (Kd.R_far (p := ⟨gb233, 0, none⟩) (Kd.R_types HO_5.out BK233.out (by decide)) (fun _ hk => hk.2) (.int .i64 ((rd_T77 l0_1 x14_1).f0))) (fun _ hk => hk.2) (.int .i64 ((rd_T77 l0_1 x14_1).f1))) (fun _ hk => hk.2) (.int .i64 ((rd_T77 l0_1 x14_1).f2))) (fun _ hk => trivial)))⟩; have n1_ : Aside0 (w18.heap[gb228]? = some (.cells #[.int .i64 a0_0, .slice (some ad232) l0_1.length c0_1] 33 (0, 0))) := ⟨(by rw [hw]; exact (by (with_reducible repeat (first | refine blk_drewN ?_ _ | refine blk_drew ?_ | refine blk_alloc ?_ _)); refine blk_far ?_ NB228_233.out _; (with_reducible repeat (first | refine blk_drewN ?_ _ | refine blk_drew ?_ | refine blk_alloc ?_ _)); refine blk_far ?_ NB228_233.out _; (with_reducible repeat (first | refine blk_drewN ?_ _ | refine blk_drew ?_ | refine blk_alloc ?_ _)); refine blk_far ?_ NB228_233.out _; (with_reducible repeat (first | refine blk_drewN ?_ _ | refine blk_drew ?_ | refine blk_alloc ?_ _)); exact BK228.out))⟩; have n2_ : Aside0 (w18.heap[gb233]? = some (.cells #[.int .i64 ((rd_T77 l0_1 x14_1).f0), .int .i64 ((rd_T77 l0_1 x14_1).f1), .int .i64 ((rd_T77 l0_1 x14_1).f2)] 77 (0, 0))) := ⟨(by rw [hw]; exact (by (with_reducible repeat (first | refine blk_drewN ?_ _ | refine blk_drew ?_ | refine blk_alloc ?_ _)); refine blk_put (cs := #[.int .i64 ((rd_T77 l0_1 x14_1).f0), .int .i64 ((rd_T77 l0_1 x14_1).f1), .int .i64 0]) ?_ 2 _ rfl; (with_reducible repeat (first | refine blk_drewN ?_ _ | refine blk_drew ?_ | refine blk_alloc ?_ _)); refine blk_put (cs := #[.int .i64 ((rd_T77 l0_1 x14_1).f0), .int .i64 0, .int .i64 0]) ?_ 1 _ rfl; (with_reducible repeat (first | refine blk_drewN ?_ _ | refine blk_drew ?_ | refine blk_alloc ?_ _)); refine blk_put (cs := #[.int .i64 0, .int .i64 0, .int .i64 0]) ?_ 0 _ rfl; (with_reducible repeat (first | refine blk_drewN ?_ _ | refine blk_drew ?_ | refine blk_alloc ?_ _)); exact BK233.out))⟩; have n3_ : Aside0 (Below w.heap.size w w18) := ⟨(by rw [hw]; exact (by repeat (first | (with_reducible first | exact HB.out | apply below_alloc | apply pw_below_drewN | apply below_drew1 | refine below_set ?_ GE228.out | refine below_set ?_ GE233.out) | exact HB.out)))⟩; clear hw; clear HO_5; clear BK228; clear BK233; clear HB; have HO_5 := n0_; have BK228 := n1_; have BK233 := n2_; have HB := n3_; clear n0_ n1_ n2_ n3_; have p234 : 0 ≤ (x14_1 : Int) := of_decide_eq_true (by first | (with_reducible assumption) | assumption); have q234 : x14_1 < (l1.length : Int) := of_decide_eq_true (by first | (with_reducible assumption) | assumption); obtain ⟨ad234, e234, hx234_0⟩ := Kd.at_bool HR1.out x14_1 p234 q234; (try rw [← Nbq12.out] at hx234_0); cases e234; replace hx234_0 := (HB.out.cell (World.block_lt_of_cell? w _ hx234_0)).trans hx234_0; replace p234 := eq_true p234; replace q234 := eq_true q234; have hcz19_0 : w18.cell? ⟨gb233, 0, none⟩ = some (.int .i64 ((rd_T77 l0_1 x14_1).f0)) := (blk_cell BK233.out 0).trans rfl; have hcz19_1 : w18.cell? ⟨gb233, 1, none⟩ = some (.int .i64 ((rd_T77 l0_1 x14_1).f1)) := (blk_cell BK233.out 1).trans rfl; have hcz19_2 : w18.cell? ⟨gb233, 2, none⟩ = some (.int .i64 ((rd_T77 l0_1 x14_1).f2)) := (blk_cell BK233.out 2).trans rfl; have hfz19_0 := blk_frozen BK233.out 0; have hfz19_1 := blk_frozen BK233.out 1; have hfz19_2 := blk_frozen BK233.out 2; obtain ⟨Ao20, co20, eo20⟩ := Kd.R_slice HO_5.out; subst eo20) | ((with_reducible refine gate_callee (f := 50) rfl ?_); refine goesL_ (some 28) rfl rfl Try.func50 (by kernel_rfl) rfl #[.slice Ao20 x5_1.length co20, .int .i64 ((rd_T77 l0_1 x14_1).f0), .int .i64 ((rd_T77 l0_1 x14_1).f1)] rfl (by (try simp only [List.map_toArray, List.map_cons, List.map_nil]); first | done | rfl | (simp only [List.length_drop, List.length_take]; rfl)) ?_; (with_reducible refine (impl_union_join.calls k1 (fun k_ => some k_ = (.slice Ao20 x5_1.length co20 : Value).ownBlock) (.slice Ao20 x5_1.length co20) x5_1 ((rd_T77 l0_1 x14_1).f0) ((rd_T77 l0_1 x14_1).f1) t235 w _ ?side1 ?side2 A14.out).mono ?_); (case side1 => repeat (first | (with_reducible first | exact HB.out | apply below_alloc | apply pw_below_drewN | apply below_drew1 | refine below_set ?_ GE228.out | refine below_set ?_ GE233.out) | exact HB.out)); (case side2 => exact Kd.R_tight rfl HO_5.out); rintro e w21 ⟨rfl, hy0, hb, hkp⟩; refine ⟨_, rfl, ?_⟩; have n0_ := Aside0.mk (Kd.R_reok rfl hy0 (fun k_ e_ => HO_5.out.1 k_ e_)); have n1_ := Aside0.mk (blk_kept (by (with_reducible repeat (first | refine blk_drewN ?_ _ | refine blk_drew ?_ | refine blk_alloc ?_ _)); exact BK228.out) hkp (fun hs_ => (fun e_ => (Kd.R_ne HO_5.out BK228.out (by decide)) e_) hs_)); have n2_ := Aside0.mk (blk_kept (by (with_reducible repeat (first | refine blk_drewN ?_ _ | refine blk_drew ?_ | refine blk_alloc ?_ _)); exact BK233.out) hkp (fun hs_ => (fun e_ => (Kd.R_ne HO_5.out BK233.out (by decide)) e_) hs_)); have n3_ := Aside0.mk (hb); clear HO_5; clear BK228; clear BK233; clear HB; have HO_5 := n0_; have BK228 := n1_; have BK233 := n2_; have HB := n3_; clear n0_ n1_ n2_ n3_; (try clear hb); (try clear hkp); (try clear hy0)))
   go_roundg k1
   case measure => have := HK1.out; omega
   case rel => exact ⟨(t235), (wrap64 (x14_1 + 1)), (by first | rfl | (simp; done) | (simp [*]; done)), H', ⟨by have := HK1.out; omega⟩, ⟨by (with_reducible repeat (first | apply Kd.R_alloc | apply Kd.R_drewN | apply Kd.R_drew)); exact HO_5.out⟩, ⟨by (with_reducible repeat (first | refine blk_drewN ?_ _ | refine blk_drew ?_ | refine blk_alloc ?_ _)); exact BK228.out⟩, ⟨by repeat (first | (with_reducible first | exact HB.out | apply below_alloc | apply pw_below_drewN | apply below_drew1 | refine below_set ?_ GE228.out | refine below_set ?_ GE233.out) | exact HB.out)⟩⟩

end Go.Proofs.Ytlahlfjhfmldaaa.P

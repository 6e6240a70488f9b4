/- Contracts of Go functions of this seat's translation, written by this repo's wip/mk.py: it calls the kit's print.py with contracts typed by hand in place of functions that it does not take. Not trusted: Lean checks it. -/
import Derived.Test.YtknddipjabkfbaaP0
import Derived.Test.YtknddipjabkfbaaP5
import Derived.Test.YtknddipjabkfbaaP22
import Derived.Test.YtknddipjabkfbaaP50
namespace Go.Proofs.Ytknddipjabkfbaa.P
open Go.RowKit Go.Proofs.YtknddipjabkfbaaW.PrintWords Go.Proofs.YtknddipjabkfbaaW.PrintLast Go.Proofs.YtknddipjabkfbaaW.PrintMore
attribute [local go_sem] max2_int min2_int max_two min_two max_three min_three max_four min_four   -- for this text's walks alone
set_option linter.unusedVariables false
set_option linter.unusedSimpArgs false

/-! ### impl_CycleLines: function 42 -/
def impl_CycleLines_1.f (k : Nat) (x : Int) (a0 : Int) (l0 : List S73) (l1 : List Bool) : Option Bool := if 0 ≤ x then (if x < (l1.length : Int) then (if rdOf false l1 x = true then ((impl_onCycle.f k a0 l0 l1 x).map fun b => b) else some false) else none) else none
set_option maxHeartbeats 8000000 in
set_option maxRecDepth 100000 in
theorem impl_CycleLines_1.calls (k : Nat) (gb gu : Nat) (x : Int) (a0_0 : Int) (A0_1 : Option Addr) (c0_1 : Nat) (l0_1 : List S73) (A1 : Option Addr) (c1 : Nat) (l1 : List Bool) (r : Bool) (w : World) (hn : w.heap[gb]? = some (.cells #[.int .i64 a0_0, .slice A0_1 l0_1.length c0_1] 30 (0, 0))) (ho : w.heap[gu]? = some (.cells #[.slice A1 l1.length c1] 25 (0, 0)))
  (hr0_1 : Kd.C k73 w A0_1 l0_1.length l0_1) (hc0_1 : l0_1.length ≤ c0_1) (hr1 : Kd.C Kd.bool w A1 l1.length l1) (hc1 : l1.length ≤ c1) (h : impl_CycleLines_1.f k x a0_0 l0_1 l1 = some r) :
  Calls Try.prog 77 #[.int .i64 x, .pointer (some ⟨gu, 0, none⟩), .pointer (some ⟨gb, 0, none⟩)] w fun e w' => e = .returned (.bool r) ∧ Below w.heap.size w w' := by
 unfold impl_CycleLines_1.f at h
 by_cases p : 0 ≤ x
 rotate_left
 ·
  rw [if_neg p] at h
  exact absurd h (by simp)
 rw [if_pos p] at h
 by_cases q : x < (l1.length : Int)
 rotate_left
 ·
  rw [if_neg q] at h
  exact absurd h (by simp)
 rw [if_pos q] at h
 obtain ⟨ad, eA, hx⟩ := Kd.at_bool hr1 x p q
 subst eA
 have HR0 := Aside0.mk hr0_1
 have HC0 := Aside0.mk hc0_1
 have HR1 := Aside0.mk hr1
 have HC1 := Aside0.mk hc1
 clear hr0_1 hc0_1 hr1 hc1
 have hcz0 : w.cell? ⟨gb, 0, none⟩ = some (.int .i64 a0_0) := (blk_cell hn 0).trans rfl
 have hcz1 : w.cell? ⟨gb, 1, none⟩ = some (.slice A0_1 l0_1.length c0_1) := (blk_cell hn 1).trans rfl
 have hco0 : w.cell? ⟨gu, 0, none⟩ = some (.slice (some ad) l1.length c1) := (blk_cell ho 0).trans rfl
 clear hn ho
 replace p := eq_true p
 replace q := eq_true q
 by_cases b : rdOf false l1 x = true
 rotate_left
 ·
  rw [if_neg b] at h
  rw [Bool.eq_false_iff.mpr b] at hx
  clear b
  obtain rfl := Option.some.inj h
  clear h
  go_enter Try.func77, Try.ntmps77
  go_wp2
  go_ret
  exact ⟨rfl, Below.refl _ _⟩
 rw [if_pos b] at h
 rw [b] at hx
 clear b
 obtain ⟨b, A50, h⟩ := Option.map_eq_some_iff.mp h
 subst h
 have A5 := Aside0.mk A50
 clear A50
 go_enter Try.func77, Try.ntmps77
 go_wp2_with (first | (go_at_call 78; (with_reducible refine (impl_onCycle.calls k a0_0 _ _ l0_1 _ _ l1 x b _ ?side1 HC0.out ?side2 HC1.out A5.out).mono ?_); (case side1 => exact HR0.out); (case side2 => exact HR1.out); rintro e w8 ⟨rfl, hb⟩; have HB := Aside0.mk hb; clear hb hx hcz0 hcz1 hco0 p q))
 go_ret
 exact ⟨rfl, HB.out⟩
def impl_CycleLines.f (k : Nat) (a0_0 : Int) (l0_1 : List S73) (l1 : List Bool) : Option (List Int) := (impl_StateValid.f k a0_0 l0_1 l1).bind fun t => (if t = true then ((impl_linesWhere.l (fun (_ : Unit) i => (impl_CycleLines_1.f k i a0_0 l0_1 l1).map fun b => (b, ())) k () [] (l0_1.length : Int) 0).map fun x => x.1) else some [])
theorem impl_CycleLines.mono : ∀ a0 a1 a2 k, LeO (impl_CycleLines.f k a0 a1 a2) (impl_CycleLines.f (k + 1) a0 a1 a2) := by
 intro a0 a1 a2 k
 unfold impl_CycleLines.f
 refine LeO.bind (impl_StateValid.mono _ _ _ _) (fun t => LeO.ite ?_ (LeO.refl _))
 refine leO_map _ (impl_linesWhere.mono (fun s i => leO_map _ ?_) k _ _ _ _)
 unfold impl_CycleLines_1.f
 exact LeO.ite (LeO.ite (LeO.ite (leO_map _ (impl_onCycle.mono _ _ _ _ _)) (LeO.refl _)) (LeO.refl _)) (LeO.refl _)
set_option maxHeartbeats 8000000 in
set_option maxRecDepth 100000 in
theorem impl_CycleLines.calls (k : Nat) (a0_0 : Int) (A0_1 : Option Addr) (c0_1 : Nat) (l0_1 : List S73) (A1 : Option Addr) (c1 : Nat) (l1 : List Bool) (r : List Int) (w : World) (hr0_1 : Kd.C k73 w A0_1 l0_1.length l0_1) (hc0_1 : l0_1.length ≤ c0_1) (hr1 : Kd.C Kd.bool w A1 l1.length l1) (hc1 : l1.length ≤ c1) (h : impl_CycleLines.f k a0_0 l0_1 l1 = some r) :
  Calls Try.prog 42 #[.agg #[.int .i64 a0_0, .slice A0_1 l0_1.length c0_1], .slice A1 l1.length c1] w fun e w' => ∃ v0_ : Value, e = .returned (v0_) ∧ Kd.R (Kd.int .i64) 3 w' w.heap.size (fun _ => True) v0_ r ∧ Below w.heap.size w w' := by
 have HR0 := Aside0.mk hr0_1
 have HC0 := Aside0.mk hc0_1
 have HR1 := Aside0.mk hr1
 have HC1 := Aside0.mk hc1
 clear hr0_1 hc0_1 hr1 hc1
 obtain ⟨t, A50, H⟩ := Option.bind_eq_some_iff.mp h
 have A5 := Aside0.mk A50
 clear A50 h
 have HB := Aside0.mk (Below.refl w.heap.size w)
 by_cases ht : t = true
 rotate_left
 ·
  replace ht := Bool.eq_false_iff.mpr ht
  subst ht
  rw [if_neg (by decide)] at H
  obtain rfl := Option.some.inj H
  clear H
  go_enter Try.func42, Try.ntmps42
  go_wp2_with (first | ((with_reducible refine gate_dst (N := 2) rfl ?_); refine box_event ?hg (N := 2) ?hd (cs := #[.int .i64 a0_0, .slice A0_1 l0_1.length c0_1]) (t := 30) ?hr ?_; (case hd => rfl); (case hg => rfl); (case hr => first | (go_simp; done) | (go_simp; rfl)); intro gb hg w5 hbox hb; have n0_ := Aside0.mk (below_step HB.out hb); clear HB; have HB := n0_; have BN := Aside0.mk hbox; clear n0_ hb hbox hg) | ((with_reducible refine gate_dst (N := 3) rfl ?_); refine box_event ?hg (N := 3) ?hd (cs := #[.slice A1 l1.length c1]) (t := 25) ?hr ?_; (case hd => rfl); (case hg => rfl); (case hr => first | (go_simp; done) | (go_simp; rfl)); intro gu hg w6 hbox hb; have n0_ := Aside0.mk (below_step HB.out hb); have n1_ := Aside0.mk (blk_below BN.out hb); clear HB BN; have HB := n0_; have BN := n1_; have BO := Aside0.mk hbox; clear n0_ n1_ hb hbox hg; have hcz0 : w6.cell? ⟨gb, 0, none⟩ = some (.int .i64 a0_0) := (blk_cell BN.out 0).trans rfl; have hcz1 : w6.cell? ⟨gb, 1, none⟩ = some (.slice A0_1 l0_1.length c0_1) := (blk_cell BN.out 1).trans rfl; have hco0 : w6.cell? ⟨gu, 0, none⟩ = some (.slice A1 l1.length c1) := (blk_cell BO.out 0).trans rfl) | ((with_reducible refine gate_callee (f := 55) rfl ?_); refine goesL_ (some 7) rfl rfl Try.func55 (by kernel_rfl) rfl #[.agg #[.int .i64 a0_0, .slice A0_1 l0_1.length c0_1], .slice A1 l1.length c1] rfl (by (try simp only [List.map_toArray, List.map_cons, List.map_nil]); first | done | rfl) ?_; (with_reducible refine (impl_StateValid.calls k a0_0 _ _ l0_1 _ _ l1 false _ ?side1 HC0.out ?side2 HC1.out A5.out).mono ?_); (case side1 => exact Kd.C_below HR0.out HB.out); (case side2 => exact Kd.C_below HR1.out HB.out); rintro e w7 ⟨rfl, hb⟩; refine ⟨_, rfl, ?_⟩; have n0_ := Aside0.mk (below_step HB.out hb); have n1_ := Aside0.mk (blk_below BN.out hb); have n2_ := Aside0.mk (blk_below BO.out hb); clear HB BN BO hcz0 hcz1 hco0; have HB := n0_; have BN := n1_; have BO := n2_; clear n0_ n1_ n2_ hb; have hcz0 : w7.cell? ⟨gb, 0, none⟩ = some (.int .i64 a0_0) := (blk_cell BN.out 0).trans rfl; have hcz1 : w7.cell? ⟨gb, 1, none⟩ = some (.slice A0_1 l0_1.length c0_1) := (blk_cell BN.out 1).trans rfl; have hco0 : w7.cell? ⟨gu, 0, none⟩ = some (.slice A1 l1.length c1) := (blk_cell BO.out 0).trans rfl))
  go_ret
  exact ⟨_, rfl, Kd.R_nil _ _ _ _ _, HB.out⟩
 subst ht
 rw [if_pos rfl] at H
 obtain ⟨⟨r', u⟩, A60, H⟩ := Option.map_eq_some_iff.mp H
 subst H
 have A6 := Aside0.mk A60
 clear A60
 go_enter Try.func42, Try.ntmps42
 go_wp2_with (first | ((with_reducible refine gate_dst (N := 2) rfl ?_); refine box_event ?hg (N := 2) ?hd (cs := #[.int .i64 a0_0, .slice A0_1 l0_1.length c0_1]) (t := 30) ?hr ?_; (case hd => rfl); (case hg => rfl); (case hr => first | (go_simp; done) | (go_simp; rfl)); intro gb hg w5 hbox hb; have n0_ := Aside0.mk (below_step HB.out hb); clear HB; have HB := n0_; have BN := Aside0.mk hbox; clear n0_ hb hbox hg) | ((with_reducible refine gate_dst (N := 3) rfl ?_); refine box_event ?hg (N := 3) ?hd (cs := #[.slice A1 l1.length c1]) (t := 25) ?hr ?_; (case hd => rfl); (case hg => rfl); (case hr => first | (go_simp; done) | (go_simp; rfl)); intro gu hg w6 hbox hb; have n0_ := Aside0.mk (below_step HB.out hb); have n1_ := Aside0.mk (blk_below BN.out hb); clear HB BN; have HB := n0_; have BN := n1_; have BO := Aside0.mk hbox; clear n0_ n1_ hb hbox hg; have hcz0 : w6.cell? ⟨gb, 0, none⟩ = some (.int .i64 a0_0) := (blk_cell BN.out 0).trans rfl; have hcz1 : w6.cell? ⟨gb, 1, none⟩ = some (.slice A0_1 l0_1.length c0_1) := (blk_cell BN.out 1).trans rfl; have hco0 : w6.cell? ⟨gu, 0, none⟩ = some (.slice A1 l1.length c1) := (blk_cell BO.out 0).trans rfl) | ((with_reducible refine gate_callee (f := 55) rfl ?_); refine goesL_ (some 7) rfl rfl Try.func55 (by kernel_rfl) rfl #[.agg #[.int .i64 a0_0, .slice A0_1 l0_1.length c0_1], .slice A1 l1.length c1] rfl (by (try simp only [List.map_toArray, List.map_cons, List.map_nil]); first | done | rfl) ?_; (with_reducible refine (impl_StateValid.calls k a0_0 _ _ l0_1 _ _ l1 true _ ?side1 HC0.out ?side2 HC1.out A5.out).mono ?_); (case side1 => exact Kd.C_below HR0.out HB.out); (case side2 => exact Kd.C_below HR1.out HB.out); rintro e w7 ⟨rfl, hb⟩; refine ⟨_, rfl, ?_⟩; have n0_ := Aside0.mk (below_step HB.out hb); have n1_ := Aside0.mk (blk_below BN.out hb); have n2_ := Aside0.mk (blk_below BO.out hb); clear HB BN BO hcz0 hcz1 hco0; have HB := n0_; have BN := n1_; have BO := n2_; clear n0_ n1_ n2_ hb; have hcz0 : w7.cell? ⟨gb, 0, none⟩ = some (.int .i64 a0_0) := (blk_cell BN.out 0).trans rfl; have hcz1 : w7.cell? ⟨gb, 1, none⟩ = some (.slice A0_1 l0_1.length c0_1) := (blk_cell BN.out 1).trans rfl; have hco0 : w7.cell? ⟨gu, 0, none⟩ = some (.slice A1 l1.length c1) := (blk_cell BO.out 0).trans rfl) | ((with_reducible refine gate_callee (f := 68) rfl ?_); refine goesL_ (some 11) rfl rfl Try.func68 (by kernel_rfl) rfl #[.agg #[.int .i64 a0_0, .slice A0_1 l0_1.length c0_1], .func (.func 77) #[] #[.pointer (some ⟨gu, 0, none⟩), .pointer (some ⟨gb, 0, none⟩)]] rfl (by (try simp only [List.map_toArray, List.map_cons, List.map_nil]); first | done | rfl) ?_; refine (impl_linesWhere.calls (fun (_ : Unit) i => (impl_CycleLines_1.f k i a0_0 l0_1 l1).map fun b => (b, ())) (fun _ W => W.heap[gb]? = some (.cells #[.int .i64 a0_0, .slice A0_1 l0_1.length c0_1] 30 (0, 0)) ∧ W.heap[gu]? = some (.cells #[.slice A1 l1.length c1] 25 (0, 0)) ∧ Below w.heap.size w W) 77 _ #[.pointer (some ⟨gu, 0, none⟩), .pointer (some ⟨gb, 0, none⟩)] k a0_0 A0_1 l0_1.length c0_1 () u r' _ Try.func77 (by kernel_rfl) rfl ⟨BN.out, BO.out, HB.out⟩ ?hst ?hcl A6.out).mono ?_; (case hst => exact fun _ W W' hI hb => ⟨(hb.block _ (blk_lt BN.out)).trans hI.1, (hb.block _ (blk_lt BO.out)).trans hI.2.1, hI.2.2.trans (hb.mono HB.out.size)⟩); (case hcl => intro s s' x b W hle hI hp; obtain ⟨b', hb', e_⟩ := Option.map_eq_some_iff.mp hp; obtain ⟨rfl, rfl⟩ := Prod.mk.injEq _ _ _ _ ▸ e_; exact (impl_CycleLines_1.calls k gb gu x a0_0 _ _ l0_1 _ _ l1 _ W hI.1 hI.2.1 (Kd.C_below HR0.out hI.2.2) HC0.out (Kd.C_below HR1.out hI.2.2) HC1.out hb').mono (fun e W' hh => ⟨hh.1, ⟨blk_below hI.1 hh.2, blk_below hI.2.1 hh.2, below_step hI.2.2 hh.2⟩, hh.2.size, fun i _ hi => hh.2.block i hi⟩)); rintro e w9 ⟨v, rfl, hr, hi⟩; refine ⟨_, rfl, ?_⟩; have HO := Aside0.mk (Kd.R_lower hr HB.out.size); clear HB; have HB := Aside0.mk hi.2.2; clear hi hr BN BO))
 go_ret
 exact ⟨_, rfl, HO.out, HB.out⟩




end Go.Proofs.Ytknddipjabkfbaa.P

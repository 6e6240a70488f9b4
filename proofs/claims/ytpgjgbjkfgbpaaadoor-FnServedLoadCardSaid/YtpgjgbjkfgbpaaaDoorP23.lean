/- Contracts of Go functions of this seat's translation, written by this repo's wip/mk.py: it calls the kit's print.py with contracts typed by hand in place of functions that it does not take. Not trusted: Lean checks it. -/
import Derived.Test.YtpgjgbjkfgbpaaaDoorP0
import Derived.Test.YtpgjgbjkfgbpaaaDoorP5
import Derived.Test.YtpgjgbjkfgbpaaaDoorP22
namespace Go.Proofs.YtpgjgbjkfgbpaaaDoor.P
open Go.RowKit Go.Proofs.YtpgjgbjkfgbpaaaDoorW.PrintWords Go.Proofs.YtpgjgbjkfgbpaaaDoorW.PrintLast Go.Proofs.YtpgjgbjkfgbpaaaDoorW.PrintMore
attribute [local go_sem] max2_int min2_int max_two min_two max_three min_three max_four min_four   -- for this text's walks alone
set_option linter.unusedVariables false
set_option linter.unusedSimpArgs false

/-! ### impl_sumsOf: function 71 -/
def ownS (v : Value) (k : Nat) : Prop := some k = v.ownBlock
def sAt (s : List Int) (j : Nat) : Int := s.getD j 0
def sumsC (s : List Int) : Array Value := (s.map (Value.int .i64)).toArray
theorem sumsC_at (s : List Int) (j : Nat) (h : j < s.length) : (sumsC s)[j]? = some (.int .i64 (sAt s j)) := by simp [sumsC, sAt, h, List.getD_eq_getElem?_getD]
theorem sumsC_set (s : List Int) (j : Nat) (v : Int) : (sumsC s).setIfInBounds j (.int .i64 v) = sumsC (s.set j v) := by
 simp [sumsC, List.setIfInBounds_toArray, List.map_set]
theorem getD_ne (s : List Int) {i j : Nat} (h : i ≠ j) {v : Int} : sAt (s.set j v) i = sAt s i := by simp [sAt, List.getD_eq_getElem?_getD, List.getElem?_set, Ne.symm h]
/-- What is told of a value that holds sums. -/
def sumsV (s : List Int) : Value := .agg #[.int .i64 (sAt s 0), .int .i64 (sAt s 1), .int .i64 (sAt s 2), .int .i64 (sAt s 3), .int .i64 (sAt s 4), .int .i64 (sAt s 5), .int .i64 (sAt s 6), .int .i64 (sAt s 7), .int .i64 (sAt s 8), .int .i64 (sAt s 9), .int .i64 (sAt s 10), .int .i64 (sAt s 11), .int .i64 (sAt s 12), .int .i64 (sAt s 13), .int .i64 (sAt s 14), .int .i64 (sAt s 15)]
def impl_sumsOf.l0 : Nat → List Int → List S33 → List Int → Int → Option (List Int)
 | 0, _, _, _, _ => none
 | k + 1, u, bs, s, i => if i < (bs.length : Int) then (if 0 ≤ i then ((impl_union_find.f k u i).bind fun ru => (if 0 ≤ ru.1 then (if ru.1 < 8 then (impl_sumsOf.l0 k ru.2 bs ((s.set ru.1.toNat (wrap64 (sAt s ru.1.toNat + (rd_T33 bs i).f0))).set (8 + ru.1.toNat) (wrap64 (sAt s (8 + ru.1.toNat) + (rd_T33 bs i).f1))) (wrap64 (i + 1))) else none) else none)) else none) else some s
def impl_sumsOf.f (k : Nat) (a0_0 : Int) (l0_1 : List S79) (l1 : List Bool) (l2 : List S33) : Option (List Int) := (impl_unionOf.f k a0_0 l0_1 l1).bind fun u => impl_sumsOf.l0 k u l2 (List.replicate 16 0) 0
theorem impl_sumsOf.mono_l : ∀ k u bs s i, LeO (impl_sumsOf.l0 k u bs s i) (impl_sumsOf.l0 (k + 1) u bs s i)
 | 0, _, _, _, _ => LeO.none _
 | k + 1, u, bs, s, i => by
  rw [impl_sumsOf.l0, impl_sumsOf.l0]
  exact LeO.ite (LeO.ite (LeO.bind (impl_union_find.mono _ _ _) fun _ => LeO.ite (LeO.ite (impl_sumsOf.mono_l k _ _ _ _) (LeO.refl _)) (LeO.refl _)) (LeO.refl _)) (LeO.refl _)
theorem impl_sumsOf.mono : ∀ a0 a1 a2 a3 k, LeO (impl_sumsOf.f k a0 a1 a2 a3) (impl_sumsOf.f (k + 1) a0 a1 a2 a3) := by
 intro a0 a1 a2 a3 k
 unfold impl_sumsOf.f
 exact LeO.bind (impl_unionOf.mono _ _ _ _) fun _ => impl_sumsOf.mono_l k _ _ _ _
theorem impl_sumsOf.len : ∀ k u bs s i r, s.length = 16 → impl_sumsOf.l0 k u bs s i = some r → r.length = 16
 | 0, _, _, _, _, _, _, h => by simp [impl_sumsOf.l0] at h
 | k + 1, u, bs, s, i, r, hs, h => by
  rw [impl_sumsOf.l0] at h
  split at h
  ·
   split at h
   ·
    obtain ⟨ru, _, h⟩ := Option.bind_eq_some_iff.mp h
    split at h
    ·
     split at h
     ·
      exact impl_sumsOf.len k _ _ _ _ _ (by simp [hs]) h
     ·
      simp at h
    ·
     simp at h
   ·
    simp at h
  ·
   cases h; exact hs
set_option maxHeartbeats 8000000 in
set_option maxRecDepth 100000 in
theorem impl_sumsOf.calls (k : Nat) (a0_0 : Int) (A0_1 : Option Addr) (c0_1 : Nat) (l0_1 : List S79) (A1 : Option Addr) (c1 : Nat) (l1 : List Bool) (A2 : Option Addr) (c2 : Nat) (l2 : List S33) (r : List Int) (w : World) (hr0_1 : Kd.C k79 w A0_1 l0_1.length l0_1) (hc0_1 : l0_1.length ≤ c0_1) (hr1 : Kd.C Kd.bool w A1 l1.length l1) (hc1 : l1.length ≤ c1) (hr2 : Kd.C k33 w A2 l2.length l2) (hc2 : l2.length ≤ c2) (h : impl_sumsOf.f k a0_0 l0_1 l1 l2 = some r) :
  Calls Tryd.prog 71 #[.agg #[.int .i64 a0_0, .slice A0_1 l0_1.length c0_1], .slice A1 l1.length c1, .slice A2 l2.length c2] w fun e w' => e = .returned (sumsV r) ∧ Below w.heap.size w w' := by
 have HR0 := Aside0.mk hr0_1
 have HC0 := Aside0.mk hc0_1
 have HR1 := Aside0.mk hr1
 have HC1 := Aside0.mk hc1
 have HR2 := Aside0.mk hr2
 clear hr0_1 hc0_1 hr1 hc1 hr2 hc2
 obtain ⟨u0, A50, H⟩ := Option.bind_eq_some_iff.mp h
 have A5 := Aside0.mk A50
 have H' := Aside0.mk H
 clear A50 h H
 have HB := aM (Below.refl w.heap.size w)
 go_enter Tryd.func71, Tryd.ntmps71
 go_wp2_with (first | ((with_reducible refine gate_dst (N := 3) rfl ?_); refine box_event ?hg (N := 3) ?hd (cs := #[.int .i64 a0_0, .slice A0_1 l0_1.length c0_1]) (t := 25) ?hr ?_; (case hd => rfl); (case hg => rfl); (case hr => exact hR); intro gb hg w5 hbox hb; have n0_ := aM (below_step HB.out hb); clear HB; have HB := n0_; have BN := Aside0.mk hbox; clear n0_ hb hbox hg) | ((with_reducible refine gate_dst (N := 6) rfl ?_); refine box_event ?hg (N := 6) ?hd (cs := #[.int .i64 0, .int .i64 0, .int .i64 0, .int .i64 0, .int .i64 0, .int .i64 0, .int .i64 0, .int .i64 0, .int .i64 0, .int .i64 0, .int .i64 0, .int .i64 0, .int .i64 0, .int .i64 0, .int .i64 0, .int .i64 0]) (t := 72) ?hr ?_; (case hd => rfl); (case hg => rfl); (case hr => exact hR); intro gr hg w6 hbox hb; have n0_ := aM (below_step HB.out hb); have n1_ := aM (blk_below BN.out hb); have GR := aM (show w.heap.size ≤ gr from by rw [hg]; exact HB.out.size); clear HB BN; have HB := n0_; have BN := n1_; have BR := Aside0.mk hbox; clear n0_ n1_ hb hbox hg) | ((with_reducible refine gate_dst (N := 7) rfl ?_); refine box_event ?hg (N := 7) ?hd (cs := #[.int .i64 0, .int .i64 0, .int .i64 0, .int .i64 0, .int .i64 0, .int .i64 0, .int .i64 0, .int .i64 0, .int .i64 0, .int .i64 0, .int .i64 0, .int .i64 0, .int .i64 0, .int .i64 0, .int .i64 0, .int .i64 0]) (t := 72) ?hr ?_; (case hd => rfl); (case hg => rfl); (case hr => exact hR); intro gs hg w7 hbox hb; have n0_ := aM (below_step HB.out hb); have n1_ := aM (blk_below BN.out hb); have n2_ := aM (blk_below BR.out hb); have GS := aM (show w.heap.size ≤ gs from by rw [hg]; exact HB.out.size); have NS := aM (show gr ≠ gs from by rw [hg]; exact Nat.ne_of_lt (blk_lt BR.out)); clear HB BN BR; have HB := n0_; have BN := n1_; have BR := n2_; have BS := Aside0.mk hbox; clear n0_ n1_ n2_ hb hbox hg; have hcz0 : w7.cell? ⟨gb, 0, none⟩ = some (.int .i64 a0_0) := (blk_cell BN.out 0).trans rfl; have hcz1 : w7.cell? ⟨gb, 1, none⟩ = some (.slice A0_1 l0_1.length c0_1) := (blk_cell BN.out 1).trans rfl) | ((with_reducible refine gate_callee (f := 72) rfl ?_); refine goesL_ (some 14) rfl rfl Tryd.func72 (by kernel_rfl) rfl #[.agg #[.int .i64 a0_0, .slice A0_1 l0_1.length c0_1], .slice A1 l1.length c1] rfl (by (try simp only [List.map_toArray, List.map_cons, List.map_nil]); first | done | rfl) ?_; (with_reducible refine (impl_unionOf.calls k a0_0 _ _ l0_1 _ _ l1 u0 _ ?side1 HC0.out ?side2 HC1.out A5.out).mono ?_); (case side1 => exact Kd.C_below HR0.out HB.out); (case side2 => exact Kd.C_below HR1.out HB.out); rintro e w8 ⟨vu, rfl, hy, hb⟩; refine ⟨_, rfl, ?_⟩; have n0_ := aM (below_step HB.out hb); have n2_ := aM (blk_below BR.out hb); have n3_ := aM (blk_below BS.out hb); have HO := aM (Kd.R_lower hy HB.out.size); have HNB := aM (show ∀ k_, vu.ownBlock = some k_ → w7.heap.size ≤ k_ from fun k_ e_ => Kd.R_base hy k_ e_); have LT := aM (And.intro (blk_lt BR.out) (blk_lt BS.out)); clear HB BN BR BS hcz0 hcz1; have HB := n0_; have BR := n2_; have BS := n3_; have NU := aM (show (some gs = vu.ownBlock → False) ∧ (some gr = vu.ownBlock → False) from ⟨fun e_ => by have := HNB.out gs e_.symm; have := LT.out.2; omega, fun e_ => by have := HNB.out gr e_.symm; have := LT.out.1; omega⟩); clear n0_ n2_ n3_ hb hy HNB LT))
 go_loopg [17] k (fun kq v17 W => ∃ (u : List Int) (s : List Int) (x17 : Int), v17 = .int .i64 x17 ∧ Aside0 (impl_sumsOf.l0 kq u l2 s x17 = some r) ∧ Aside0 (kq ≤ k) ∧ Aside0 (s.length = 16) ∧ Aside0 (Kd.R (Kd.int .i64) 3 W w.heap.size (ownS vu) vu u) ∧ Aside0 (W.heap[gs]? = some (.cells (sumsC s) 72 (0, 0))) ∧ Aside0 (W.heap[gr]? = some (.cells #[.int .i64 0, .int .i64 0, .int .i64 0, .int .i64 0, .int .i64 0, .int .i64 0, .int .i64 0, .int .i64 0, .int .i64 0, .int .i64 0, .int .i64 0, .int .i64 0, .int .i64 0, .int .i64 0, .int .i64 0, .int .i64 0] 72 (0, 0))) ∧ Aside0 (Below w.heap.size w W))
 case atStart => exact ⟨u0, List.replicate 16 0, 0, rfl, H', ⟨Nat.le_refl _⟩, ⟨rfl⟩, ⟨Kd.R_tight rfl HO.out⟩, ⟨BS.out⟩, BR, HB⟩
 case round =>
  clear H' HO BS BR HB A5
  obtain ⟨u, s, x17, rfl, HA, HK1, HL, HO, BS, BR, HB⟩ := hrel
  cases gk with
  | zero => exact absurd HA.out (by simp [impl_sumsOf.l0])
  | succ k1 =>
   have H := HA.out
   clear HA
   simp only [impl_sumsOf.l0] at H
   by_cases c4 : x17 < (l2.length : Int)
   rotate_left
   ·
    rw [if_neg c4] at H
    have c4b : decide (x17 < (l2.length : Int)) = false := decide_eq_false c4
    clear c4
    obtain rfl := Option.some.inj H
    clear H
    obtain ⟨w13, rfl⟩ : ∃ w_, w_ = wr := ⟨_, rfl⟩
    have hq0 : w13.cell? ⟨gs, 0, none⟩ = some (.int .i64 (sAt s 0)) := (blk_cell BS.out 0).trans (sumsC_at s _ (by have := HL.out; omega))
    have hq1 : w13.cell? ⟨gs, 1, none⟩ = some (.int .i64 (sAt s 1)) := (blk_cell BS.out 1).trans (sumsC_at s _ (by have := HL.out; omega))
    have hq2 : w13.cell? ⟨gs, 2, none⟩ = some (.int .i64 (sAt s 2)) := (blk_cell BS.out 2).trans (sumsC_at s _ (by have := HL.out; omega))
    have hq3 : w13.cell? ⟨gs, 3, none⟩ = some (.int .i64 (sAt s 3)) := (blk_cell BS.out 3).trans (sumsC_at s _ (by have := HL.out; omega))
    have hq4 : w13.cell? ⟨gs, 4, none⟩ = some (.int .i64 (sAt s 4)) := (blk_cell BS.out 4).trans (sumsC_at s _ (by have := HL.out; omega))
    have hq5 : w13.cell? ⟨gs, 5, none⟩ = some (.int .i64 (sAt s 5)) := (blk_cell BS.out 5).trans (sumsC_at s _ (by have := HL.out; omega))
    have hq6 : w13.cell? ⟨gs, 6, none⟩ = some (.int .i64 (sAt s 6)) := (blk_cell BS.out 6).trans (sumsC_at s _ (by have := HL.out; omega))
    have hq7 : w13.cell? ⟨gs, 7, none⟩ = some (.int .i64 (sAt s 7)) := (blk_cell BS.out 7).trans (sumsC_at s _ (by have := HL.out; omega))
    have hq8 : w13.cell? ⟨gs, 8, none⟩ = some (.int .i64 (sAt s 8)) := (blk_cell BS.out 8).trans (sumsC_at s _ (by have := HL.out; omega))
    have hq9 : w13.cell? ⟨gs, 9, none⟩ = some (.int .i64 (sAt s 9)) := (blk_cell BS.out 9).trans (sumsC_at s _ (by have := HL.out; omega))
    have hq10 : w13.cell? ⟨gs, 10, none⟩ = some (.int .i64 (sAt s 10)) := (blk_cell BS.out 10).trans (sumsC_at s _ (by have := HL.out; omega))
    have hq11 : w13.cell? ⟨gs, 11, none⟩ = some (.int .i64 (sAt s 11)) := (blk_cell BS.out 11).trans (sumsC_at s _ (by have := HL.out; omega))
    have hq12 : w13.cell? ⟨gs, 12, none⟩ = some (.int .i64 (sAt s 12)) := (blk_cell BS.out 12).trans (sumsC_at s _ (by have := HL.out; omega))
    have hq13 : w13.cell? ⟨gs, 13, none⟩ = some (.int .i64 (sAt s 13)) := (blk_cell BS.out 13).trans (sumsC_at s _ (by have := HL.out; omega))
    have hq14 : w13.cell? ⟨gs, 14, none⟩ = some (.int .i64 (sAt s 14)) := (blk_cell BS.out 14).trans (sumsC_at s _ (by have := HL.out; omega))
    have hq15 : w13.cell? ⟨gs, 15, none⟩ = some (.int .i64 (sAt s 15)) := (blk_cell BS.out 15).trans (sumsC_at s _ (by have := HL.out; omega))
    have hv0 : w13.cell? ⟨gr, 0, none⟩ = some (.int .i64 0) := (blk_cell BR.out 0).trans rfl
    have hf0 := blk_frozen BR.out 0
    have hv1 : w13.cell? ⟨gr, 1, none⟩ = some (.int .i64 0) := (blk_cell BR.out 1).trans rfl
    have hf1 := blk_frozen BR.out 1
    have hv2 : w13.cell? ⟨gr, 2, none⟩ = some (.int .i64 0) := (blk_cell BR.out 2).trans rfl
    have hf2 := blk_frozen BR.out 2
    have hv3 : w13.cell? ⟨gr, 3, none⟩ = some (.int .i64 0) := (blk_cell BR.out 3).trans rfl
    have hf3 := blk_frozen BR.out 3
    have hv4 : w13.cell? ⟨gr, 4, none⟩ = some (.int .i64 0) := (blk_cell BR.out 4).trans rfl
    have hf4 := blk_frozen BR.out 4
    have hv5 : w13.cell? ⟨gr, 5, none⟩ = some (.int .i64 0) := (blk_cell BR.out 5).trans rfl
    have hf5 := blk_frozen BR.out 5
    have hv6 : w13.cell? ⟨gr, 6, none⟩ = some (.int .i64 0) := (blk_cell BR.out 6).trans rfl
    have hf6 := blk_frozen BR.out 6
    have hv7 : w13.cell? ⟨gr, 7, none⟩ = some (.int .i64 0) := (blk_cell BR.out 7).trans rfl
    have hf7 := blk_frozen BR.out 7
    have hv8 : w13.cell? ⟨gr, 8, none⟩ = some (.int .i64 0) := (blk_cell BR.out 8).trans rfl
    have hf8 := blk_frozen BR.out 8
    have hv9 : w13.cell? ⟨gr, 9, none⟩ = some (.int .i64 0) := (blk_cell BR.out 9).trans rfl
    have hf9 := blk_frozen BR.out 9
    have hv10 : w13.cell? ⟨gr, 10, none⟩ = some (.int .i64 0) := (blk_cell BR.out 10).trans rfl
    have hf10 := blk_frozen BR.out 10
    have hv11 : w13.cell? ⟨gr, 11, none⟩ = some (.int .i64 0) := (blk_cell BR.out 11).trans rfl
    have hf11 := blk_frozen BR.out 11
    have hv12 : w13.cell? ⟨gr, 12, none⟩ = some (.int .i64 0) := (blk_cell BR.out 12).trans rfl
    have hf12 := blk_frozen BR.out 12
    have hv13 : w13.cell? ⟨gr, 13, none⟩ = some (.int .i64 0) := (blk_cell BR.out 13).trans rfl
    have hf13 := blk_frozen BR.out 13
    have hv14 : w13.cell? ⟨gr, 14, none⟩ = some (.int .i64 0) := (blk_cell BR.out 14).trans rfl
    have hf14 := blk_frozen BR.out 14
    have hv15 : w13.cell? ⟨gr, 15, none⟩ = some (.int .i64 0) := (blk_cell BR.out 15).trans rfl
    have hf15 := blk_frozen BR.out 15
    go_wp2_with ((with_reducible refine gate_store (t := 72) (p := 6) rfl ?_); refine store_event (t := 72) (p := 6) (v := ?vo_z) (w1 := ((((((((((((((((w13.setCell ⟨gr, 0, none⟩ (.int .i64 (sAt s 0))).setCell ⟨gr, 1, none⟩ (.int .i64 (sAt s 1))).setCell ⟨gr, 2, none⟩ (.int .i64 (sAt s 2))).setCell ⟨gr, 3, none⟩ (.int .i64 (sAt s 3))).setCell ⟨gr, 4, none⟩ (.int .i64 (sAt s 4))).setCell ⟨gr, 5, none⟩ (.int .i64 (sAt s 5))).setCell ⟨gr, 6, none⟩ (.int .i64 (sAt s 6))).setCell ⟨gr, 7, none⟩ (.int .i64 (sAt s 7))).setCell ⟨gr, 8, none⟩ (.int .i64 (sAt s 8))).setCell ⟨gr, 9, none⟩ (.int .i64 (sAt s 9))).setCell ⟨gr, 10, none⟩ (.int .i64 (sAt s 10))).setCell ⟨gr, 11, none⟩ (.int .i64 (sAt s 11))).setCell ⟨gr, 12, none⟩ (.int .i64 (sAt s 12))).setCell ⟨gr, 13, none⟩ (.int .i64 (sAt s 13))).setCell ⟨gr, 14, none⟩ (.int .i64 (sAt s 14))).setCell ⟨gr, 15, none⟩ (.int .i64 (sAt s 15)))) ?hg ?ho ?hn ?hr ?_; (case ho => rfl); (case hg => rfl); (case hn => rfl); (case hr => exact hR); intro w14 hw; have n0_ := aM (by rw [hw]; exact (blk_put (blk_put (blk_put (blk_put (blk_put (blk_put (blk_put (blk_put (blk_put (blk_put (blk_put (blk_put (blk_put (blk_put (blk_put (blk_put (show w13.heap[gr]? = some (.cells (sumsC (List.replicate 16 0)) 72 (0, 0)) from BR.out) 0 _ (sumsC_set _ 0 _)) 1 _ (sumsC_set _ 1 _)) 2 _ (sumsC_set _ 2 _)) 3 _ (sumsC_set _ 3 _)) 4 _ (sumsC_set _ 4 _)) 5 _ (sumsC_set _ 5 _)) 6 _ (sumsC_set _ 6 _)) 7 _ (sumsC_set _ 7 _)) 8 _ (sumsC_set _ 8 _)) 9 _ (sumsC_set _ 9 _)) 10 _ (sumsC_set _ 10 _)) 11 _ (sumsC_set _ 11 _)) 12 _ (sumsC_set _ 12 _)) 13 _ (sumsC_set _ 13 _)) 14 _ (sumsC_set _ 14 _)) 15 _ (sumsC_set _ 15 _)) : w14.heap[gr]? = some (.cells #[.int .i64 (sAt s 0), .int .i64 (sAt s 1), .int .i64 (sAt s 2), .int .i64 (sAt s 3), .int .i64 (sAt s 4), .int .i64 (sAt s 5), .int .i64 (sAt s 6), .int .i64 (sAt s 7), .int .i64 (sAt s 8), .int .i64 (sAt s 9), .int .i64 (sAt s 10), .int .i64 (sAt s 11), .int .i64 (sAt s 12), .int .i64 (sAt s 13), .int .i64 (sAt s 14), .int .i64 (sAt s 15)] 72 (0, 0))); have n1_ := aM (by rw [hw]; exact (below_set (below_set (below_set (below_set (below_set (below_set (below_set (below_set (below_set (below_set (below_set (below_set (below_set (below_set (below_set (below_set HB.out GR.out) GR.out) GR.out) GR.out) GR.out) GR.out) GR.out) GR.out) GR.out) GR.out) GR.out) GR.out) GR.out) GR.out) GR.out) GR.out) : Below w.heap.size w w14); clear HB BR hw; have BR := n0_; have HB := n1_; clear n0_ n1_)
    refine bodyPost_ret (results_cell_row rfl _ _ gr 72 #[.int .i64 (sAt s 0), .int .i64 (sAt s 1), .int .i64 (sAt s 2), .int .i64 (sAt s 3), .int .i64 (sAt s 4), .int .i64 (sAt s 5), .int .i64 (sAt s 6), .int .i64 (sAt s 7), .int .i64 (sAt s 8), .int .i64 (sAt s 9), .int .i64 (sAt s 10), .int .i64 (sAt s 11), .int .i64 (sAt s 12), .int .i64 (sAt s 13), .int .i64 (sAt s 14), .int .i64 (sAt s 15)] (0, 0) _ rfl BR.out Tryd.underlying72 rfl (by kernel_rfl)) rfl ?_
    exact ⟨rfl, HB.out⟩
   rw [if_pos c4] at H
   have c4b : decide (x17 < (l2.length : Int)) = true := decide_eq_true c4
   by_cases c5 : 0 ≤ x17
   rotate_left
   ·
    rw [if_neg c5] at H
    exact absurd H (by simp)
   rw [if_pos c5] at H
   obtain ⟨⟨r1, u1⟩, A60, H⟩ := Option.bind_eq_some_iff.mp H
   have A6 := Aside0.mk A60
   clear A60
   by_cases c6 : 0 ≤ r1
   rotate_left
   ·
    rw [if_neg c6] at H
    exact absurd H (by simp)
   rw [if_pos c6] at H
   by_cases c7 : r1 < 8
   rotate_left
   ·
    rw [if_neg c7] at H
    exact absurd H (by simp)
   rw [if_pos c7] at H
   have H' := Aside0.mk H
   clear H
   obtain ⟨ad2, e2, hx0, hx1⟩ := at_T33 HR2.out x17 c5 c4
   subst e2
   replace hx0 := (HB.out.cell (World.block_lt_of_cell? w _ hx0)).trans hx0
   replace hx1 := (HB.out.cell (World.block_lt_of_cell? w _ hx1)).trans hx1
   replace c4 := eq_true c4
   replace c5 := eq_true c5
   have I6 := Aside0.mk c6
   have I7 := Aside0.mk c7
   clear c6 c7
   go_wp2_with (first | ((with_reducible refine gate_dst (N := 10) rfl ?_); refine box_event ?hg (N := 10) ?hd (cs := #[.int .i64 0, .int .i64 0]) (t := 33) ?hr ?_; (case hd => rfl); (case hg => rfl); (case hr => exact hR); intro gx hg w9 hbox hb; have n0_ := aM (below_step HB.out hb); have n1_ := aM (blk_below BS.out hb); have n2_ := aM (blk_below BR.out hb); have n3_ := aM (Kd.R_below HO.out hb); have GX := aM (show w.heap.size ≤ gx from by rw [hg]; exact HB.out.size); have NX := aM (show gs ≠ gx ∧ gr ≠ gx ∧ (some gx = vu.ownBlock → False) from ⟨by rw [hg]; exact Nat.ne_of_lt (blk_lt BS.out), by rw [hg]; exact Nat.ne_of_lt (blk_lt BR.out), fun e_ => by have := Kd.R_lt HO.out gx e_.symm; omega⟩); replace hx0 := (hb.cell (World.block_lt_of_cell? _ _ hx0)).trans hx0; replace hx1 := (hb.cell (World.block_lt_of_cell? _ _ hx1)).trans hx1; clear HB BS BR HO; have HB := n0_; have BS := n1_; have BR := n2_; have HO := n3_; have BX := Aside0.mk hbox; clear n0_ n1_ n2_ n3_ hb hbox hg; have hz0 := blk_frozen BX.out 0; have hz1 := blk_frozen BX.out 1; have hy0 : w9.cell? ⟨gx, 0, none⟩ = some (.int .i64 0) := (blk_cell BX.out 0).trans rfl; have hy1 : w9.cell? ⟨gx, 1, none⟩ = some (.int .i64 0) := (blk_cell BX.out 1).trans rfl) | ((with_reducible refine gate_store (t := 33) (p := 10) rfl ?_); refine store_event (t := 33) (p := 10) (v := ?vo_a) (w1 := (w9.setCell ⟨gx, 0, none⟩ (.int .i64 (rd_T33 l2 x17).f0)).setCell ⟨gx, 1, none⟩ (.int .i64 (rd_T33 l2 x17).f1)) ?hg ?ho ?hn ?hr ?_; (case ho => rfl); (case hg => rfl); (case hn => rfl); (case hr => exact hR); intro w10 hw; have KX := aM (show Kept w9 w10 (fun k_ => k_ = gx) from by rw [hw]; exact Kept.setCell (Kept.setCell (Kept.refl w9 (fun k_ => k_ = gx)) (p := ⟨gx, 0, none⟩) (.inl rfl) _) (p := ⟨gx, 1, none⟩) (.inl rfl) _); have n0_ := aM (by rw [hw]; exact below_set (below_set HB.out GX.out) GX.out : Below w.heap.size w w10); have n1_ := aM (blk_kept BS.out KX.out NX.out.1); have n2_ := aM (blk_kept BR.out KX.out NX.out.2.1); have n3_ := aM (Kd.R_kept HO.out KX.out (fun k_ e_ h_ => NX.out.2.2 (h_ ▸ e_))); have n4_ := aM (by rw [hw]; exact blk_put (blk_put BX.out 0 _ rfl) 1 _ rfl : w10.heap[gx]? = some (.cells #[.int .i64 (rd_T33 l2 x17).f0, .int .i64 (rd_T33 l2 x17).f1] 33 (0, 0))); clear HB BS BR HO BX hy0 hy1 hz0 hz1 hw hx0 hx1 KX; have HB := n0_; have BS := n1_; have BR := n2_; have HO := n3_; have BX := n4_; clear n0_ n1_ n2_ n3_ n4_) | ((with_reducible refine gate_callee (f := 73) rfl ?_); refine goesL_ (some 24) rfl rfl Tryd.func73 (by kernel_rfl) rfl #[vu, .int .i64 x17] rfl (by (try simp only [List.map_toArray, List.map_cons, List.map_nil]); first | done | rfl) ?_; (with_reducible refine (impl_union_find.calls k1 (ownS vu) vu u x17 r1 u1 w _ ?side1 ?side2 A6.out).mono ?_); (case side1 => exact HB.out); (case side2 => exact HO.out); rintro e w11 ⟨rfl, hy, hb, hk⟩; refine ⟨_, rfl, ?_⟩; have n1_ := aM (blk_kept BS.out hk (fun e_ => (NU.out.1 e_).elim)); have n2_ := aM (blk_kept BR.out hk (fun e_ => (NU.out.2 e_).elim)); have n3_ := aM (show Kd.R (Kd.int .i64) 3 w11 w.heap.size (ownS vu) vu u1 from Kd.R_reok rfl hy (fun k_ e_ => e_.symm)); have n4_ := aM (blk_kept BX.out hk (fun e_ => (NX.out.2.2 e_).elim)); clear HB BS BR HO BX; have HB := Aside0.mk hb; have BS := n1_; have BR := n2_; have HO := n3_; have BX := n4_; clear n1_ n2_ n3_ n4_ hb hy hk; have hx0 : w11.cell? ⟨gx, 0, none⟩ = some (.int .i64 (rd_T33 l2 x17).f0) := (blk_cell BX.out 0).trans rfl; have hx1 : w11.cell? ⟨gx, 1, none⟩ = some (.int .i64 (rd_T33 l2 x17).f1) := (blk_cell BX.out 1).trans rfl; have hs0 : w11.cell? ⟨gs, r1.toNat, none⟩ = some (.int .i64 (sAt s r1.toNat)) := (blk_cell BS.out r1.toNat).trans (sumsC_at s _ (by have := HL.out; have := I6.out; have := I7.out; omega)); have hfs0 := blk_frozen BS.out r1.toNat))
   have c6 := eq_true I6.out
   have c7 := eq_true I7.out
   go_still_tail 9, (by kernel_rfl)
   obtain ⟨wd, hwd⟩ : ∃ wd_, wd_ = w11.drew := ⟨_, rfl⟩
   have n0_ : Aside0 (Below w.heap.size w wd) := ⟨by rw [hwd]; exact below_drew HB.out⟩
   have n1_ : Aside0 (Kd.R (Kd.int .i64) 3 wd w.heap.size (ownS vu) vu u1) := ⟨by rw [hwd]; exact Kd.R_drew HO.out⟩
   have n2_ := BS.out
   replace n2_ : w11.drew.heap[gs]? = _ := n2_
   rw [← hwd] at n2_
   replace n2_ := Aside0.mk n2_
   have n3_ := BR.out
   replace n3_ : w11.drew.heap[gr]? = _ := n3_
   rw [← hwd] at n3_
   replace n3_ := Aside0.mk n3_
   have n4_ := BX.out
   replace n4_ : w11.drew.heap[gx]? = _ := n4_
   rw [← hwd] at n4_
   replace n4_ := Aside0.mk n4_
   change wpList _ _ _ _ _ w11.drew
   rw [← hwd]
   clear HB HO BS BR BX hx0 hx1 hs0 hfs0 hwd
   have HB := n0_
   have HO := n1_
   have BS := n2_
   have BR := n3_
   have BX := n4_
   clear n0_ n1_ n2_ n3_ n4_
   have hfs0 := blk_frozen BS.out r1.toNat
   have hs0 : wd.cell? ⟨gs, r1.toNat, none⟩ = some (.int .i64 (sAt s r1.toNat)) := (blk_cell BS.out r1.toNat).trans (sumsC_at s _ (by have := HL.out; have := I6.out; have := I7.out; omega))
   go_wp2_with ((with_reducible refine gate_store (t := 3) (p := 33) rfl ?_); refine store_event (t := 3) (p := 33) (v := ?vo_w12) (w1 := wd.setCell ⟨gs, r1.toNat, none⟩ (.int .i64 (wrap64 (sAt s (r1.toNat) + (rd_T33 l2 x17).f0)))) ?hg ?ho ?hn ?hr ?_; (case ho => rfl); (case hg => rfl); (case hn => rfl); (case hr => first | (go_simp; done) | (go_simp; rfl) | (go_simp; simp only [i64_w]; done) | (go_simp; simp only [i64_w]; rfl)); intro w12 hw; have KX := aM (show Kept wd w12 (fun k_ => k_ = gs) from by rw [hw]; exact Kept.setCell (Kept.refl wd (fun k_ => k_ = gs)) (p := ⟨gs, r1.toNat, none⟩) (.inl rfl) _); have n0_ := aM (by rw [hw]; exact below_set HB.out GS.out : Below w.heap.size w w12); have n1_ := aM (by rw [hw]; exact blk_put BS.out (r1.toNat) _ (sumsC_set _ _ _) : w12.heap[gs]? = some (.cells (sumsC (s.set r1.toNat (wrap64 (sAt s r1.toNat + (rd_T33 l2 x17).f0)))) 72 (0, 0))); have n2_ := aM (blk_kept BR.out KX.out NS.out); have n3_ := aM (Kd.R_kept HO.out KX.out (fun k_ e_ h_ => NU.out.1 (h_ ▸ e_))); have n4_ := aM (blk_kept BX.out KX.out (fun h_ => NX.out.1 h_.symm)); clear HB BS BR HO BX hfs0 hw KX; have HB := n0_; have BS := n1_; have BR := n2_; have HO := n3_; have BX := n4_; clear n0_ n1_ n2_ n3_ n4_)
   have hx1 : w12.cell? ⟨gx, 1, none⟩ = some (.int .i64 (rd_T33 l2 x17).f1) := (blk_cell BX.out 1).trans rfl
   have hs0 : w12.cell? ⟨gs, 8 + r1.toNat, none⟩ = some (.int .i64 (sAt s (8 + r1.toNat))) := (blk_cell BS.out (8 + r1.toNat)).trans ((sumsC_at _ _ (by simp; have := HL.out; have := I6.out; have := I7.out; omega)).trans (by rw [getD_ne s (show 8 + r1.toNat ≠ r1.toNat by omega)]))
   have hfs0 := blk_frozen BS.out (8 + r1.toNat)
   go_still_tail 9, (by kernel_rfl)
   obtain ⟨we, hwd⟩ : ∃ wd_, wd_ = w12.drew := ⟨_, rfl⟩
   have n0_ : Aside0 (Below w.heap.size w we) := ⟨by rw [hwd]; exact below_drew HB.out⟩
   have n1_ : Aside0 (Kd.R (Kd.int .i64) 3 we w.heap.size (ownS vu) vu u1) := ⟨by rw [hwd]; exact Kd.R_drew HO.out⟩
   have n2_ := BS.out
   replace n2_ : w12.drew.heap[gs]? = _ := n2_
   rw [← hwd] at n2_
   replace n2_ := Aside0.mk n2_
   have n3_ := BR.out
   replace n3_ : w12.drew.heap[gr]? = _ := n3_
   rw [← hwd] at n3_
   replace n3_ := Aside0.mk n3_
   have n4_ := BX.out
   replace n4_ : w12.drew.heap[gx]? = _ := n4_
   rw [← hwd] at n4_
   replace n4_ := Aside0.mk n4_
   change wpList _ _ _ _ _ w12.drew
   rw [← hwd]
   clear HB HO BS BR BX hx1 hs0 hfs0 hwd
   have HB := n0_
   have HO := n1_
   have BS := n2_
   have BR := n3_
   have BX := n4_
   clear n0_ n1_ n2_ n3_ n4_
   have hfs0 := blk_frozen BS.out (8 + r1.toNat)
   have hs0 : we.cell? ⟨gs, 8 + r1.toNat, none⟩ = some (.int .i64 (sAt s (8 + r1.toNat))) := (blk_cell BS.out (8 + r1.toNat)).trans ((sumsC_at _ _ (by simp; have := HL.out; have := I6.out; have := I7.out; omega)).trans (by rw [getD_ne s (show 8 + r1.toNat ≠ r1.toNat by omega)]))
   go_wp2_with ((with_reducible refine gate_store (t := 3) (p := 42) rfl ?_); refine store_event (t := 3) (p := 42) (v := ?vo_w13) (w1 := we.setCell ⟨gs, 8 + r1.toNat, none⟩ (.int .i64 (wrap64 (sAt s (8 + r1.toNat) + (rd_T33 l2 x17).f1)))) ?hg ?ho ?hn ?hr ?_; (case ho => rfl); (case hg => rfl); (case hn => rfl); (case hr => first | (go_simp; done) | (go_simp; rfl) | (go_simp; simp only [i64_w]; done) | (go_simp; simp only [i64_w]; rfl)); intro w13 hw; have KX := aM (show Kept we w13 (fun k_ => k_ = gs) from by rw [hw]; exact Kept.setCell (Kept.refl we (fun k_ => k_ = gs)) (p := ⟨gs, 8 + r1.toNat, none⟩) (.inl rfl) _); have n0_ := aM (by rw [hw]; exact below_set HB.out GS.out : Below w.heap.size w w13); have n1_ := aM (by rw [hw]; exact blk_put BS.out (8 + r1.toNat) _ (sumsC_set _ _ _) : w13.heap[gs]? = some (.cells (sumsC ((s.set r1.toNat (wrap64 (sAt s r1.toNat + (rd_T33 l2 x17).f0))).set (8 + r1.toNat) (wrap64 (sAt s (8 + r1.toNat) + (rd_T33 l2 x17).f1)))) 72 (0, 0))); have n2_ := aM (blk_kept BR.out KX.out NS.out); have n3_ := aM (Kd.R_kept HO.out KX.out (fun k_ e_ h_ => NU.out.1 (h_ ▸ e_))); have n4_ := aM (blk_kept BX.out KX.out (fun h_ => NX.out.1 h_.symm)); clear HB BS BR HO BX hfs0 hw KX; have HB := n0_; have BS := n1_; have BR := n2_; have HO := n3_; have BX := n4_; clear n0_ n1_ n2_ n3_ n4_)
   go_roundg k1
   case measure => have := HK1.out; omega
   case rel => exact ⟨u1, _, wrap64 (x17 + 1), rfl, H', ⟨by have := HK1.out; omega⟩, ⟨by simp [HL.out]⟩, HO, BS, BR, HB⟩

theorem sums_fieldF (s : List Int) (W : World) : (Instr.field 72 (sumsV s) 0).run Tryd.prog W = .ok (.agg #[.int .i64 (sAt s 0), .int .i64 (sAt s 1), .int .i64 (sAt s 2), .int .i64 (sAt s 3), .int .i64 (sAt s 4), .int .i64 (sAt s 5), .int .i64 (sAt s 6), .int .i64 (sAt s 7)]) W := by kernel_rfl
theorem sums_fieldL (s : List Int) (W : World) : (Instr.field 72 (sumsV s) 1).run Tryd.prog W = .ok (.agg #[.int .i64 (sAt s 8), .int .i64 (sAt s 9), .int .i64 (sAt s 10), .int .i64 (sAt s 11), .int .i64 (sAt s 12), .int .i64 (sAt s 13), .int .i64 (sAt s 14), .int .i64 (sAt s 15)]) W := by kernel_rfl
theorem sums_feed (s : List Int) (r : Int) (h0 : 0 ≤ r) (h7 : r < 8) (W : World) : (Instr.index 70 (.agg #[.int .i64 (sAt s 0), .int .i64 (sAt s 1), .int .i64 (sAt s 2), .int .i64 (sAt s 3), .int .i64 (sAt s 4), .int .i64 (sAt s 5), .int .i64 (sAt s 6), .int .i64 (sAt s 7)]) (.int .i64 r)).run Tryd.prog W = .ok (.int .i64 (sAt s (r.toNat))) W := by
 have h : r = 0 ∨ r = 1 ∨ r = 2 ∨ r = 3 ∨ r = 4 ∨ r = 5 ∨ r = 6 ∨ r = 7 := by omega
 rcases h with h | h | h | h | h | h | h | h <;> (subst h; show _ = _; kernel_rfl)
theorem sums_load (s : List Int) (r : Int) (h0 : 0 ≤ r) (h7 : r < 8) (W : World) : (Instr.index 70 (.agg #[.int .i64 (sAt s 8), .int .i64 (sAt s 9), .int .i64 (sAt s 10), .int .i64 (sAt s 11), .int .i64 (sAt s 12), .int .i64 (sAt s 13), .int .i64 (sAt s 14), .int .i64 (sAt s 15)]) (.int .i64 r)).run Tryd.prog W = .ok (.int .i64 (sAt s (8 + r.toNat))) W := by
 have h : r = 0 ∨ r = 1 ∨ r = 2 ∨ r = 3 ∨ r = 4 ∨ r = 5 ∨ r = 6 ∨ r = 7 := by omega
 rcases h with h | h | h | h | h | h | h | h <;> (subst h; show _ = _; kernel_rfl)

end Go.Proofs.YtpgjgbjkfgbpaaaDoor.P

/- Contracts of Go functions of this seat's translation, written by this repo's wip/mk.py: it calls the kit's print.py with contracts typed by hand in place of functions that it does not take. Not trusted: Lean checks it. -/
import Derived.Test.YtpgjgbjkfgbpaaaDoorP0
import Derived.Test.YtpgjgbjkfgbpaaaDoorP5
import Derived.Test.YtpgjgbjkfgbpaaaDoorP25
import Derived.Test.YtpgjgbjkfgbpaaaDoorP44
namespace Go.Proofs.YtpgjgbjkfgbpaaaDoor.P
open Go.RowKit Go.Proofs.YtpgjgbjkfgbpaaaDoorW.PrintWords Go.Proofs.YtpgjgbjkfgbpaaaDoorW.PrintLast Go.Proofs.YtpgjgbjkfgbpaaaDoorW.PrintMore
attribute [local go_sem] max2_int min2_int max_two min_two max_three min_three max_four min_four   -- for this text's walks alone
set_option linter.unusedVariables false
set_option linter.unusedSimpArgs false

/-! ### impl_SpanningLines: function 32 -/
def ownIs (v : Value) (k : Nat) : Prop := some k = v.ownBlock
def impl_SpanningLines_1.f (k : Nat) (us : List Int) (x : Int) (a0 : Int) (l0 : List S79) (l1 : List Bool) : Option (Bool × List Int) := if 0 ≤ x then (if x < (l0.length : Int) then (if x < (l1.length : Int) then (if rdOf false l1 x = true then ((impl_union_same.f k us (rd_T79 l0 x).f0 (rd_T79 l0 x).f1).bind fun bu => (if bu.1 = true then some (false, bu.2) else ((impl_union_join.f k bu.2 (rd_T79 l0 x).f0 (rd_T79 l0 x).f1).map fun u2 => (true, u2)))) else some (false, us)) else none) else none) else none
set_option maxHeartbeats 8000000 in
set_option maxRecDepth 100000 in
theorem impl_SpanningLines_1.calls (k : Nat) (gb go gu : Nat) (x : Int) (a0_0 : Int) (A0_1 : Option Addr) (c0_1 : Nat) (l0_1 : List S79) (A1 : Option Addr) (c1 : Nat) (l1 : List Bool) (vu : Value) (us : List Int) (r : Bool) (us' : List Int) (w0 w : World) (hn : w.heap[gb]? = some (.cells #[.int .i64 a0_0, .slice A0_1 l0_1.length c0_1] 25 (0, 0))) (ho : w.heap[go]? = some (.cells #[.slice A1 l1.length c1] 26 (0, 0))) (hu : w.heap[gu]? = some (.cells #[vu] 74 (0, 0)))
  (hO : Kd.R (Kd.int .i64) 3 w w0.heap.size (ownIs vu) vu us) (hB : Below w0.heap.size w0 w) (hnu : some gu = vu.ownBlock → False)
  (hr0_1 : Kd.C k79 w A0_1 l0_1.length l0_1) (hc0_1 : l0_1.length ≤ c0_1) (hr1 : Kd.C Kd.bool w A1 l1.length l1) (hc1 : l1.length ≤ c1) (h : impl_SpanningLines_1.f k us x a0_0 l0_1 l1 = some (r, us')) :
  Calls Tryd.prog 88 #[.int .i64 x, .pointer (some ⟨gb, 0, none⟩), .pointer (some ⟨go, 0, none⟩), .pointer (some ⟨gu, 0, none⟩)] w fun e w' => e = .returned (.bool r) ∧ Kd.R (Kd.int .i64) 3 w' w0.heap.size (ownIs vu) vu us' ∧ Below w0.heap.size w0 w' ∧ Kept w w' (ownIs vu) := by
 unfold impl_SpanningLines_1.f at h
 by_cases p : 0 ≤ x
 rotate_left
 ·
  rw [if_neg p] at h
  exact absurd h (by simp)
 rw [if_pos p] at h
 by_cases q0 : x < (l0_1.length : Int)
 rotate_left
 ·
  rw [if_neg q0] at h
  exact absurd h (by simp)
 rw [if_pos q0] at h
 by_cases q : x < (l1.length : Int)
 rotate_left
 ·
  rw [if_neg q] at h
  exact absurd h (by simp)
 rw [if_pos q] at h
 obtain ⟨ad0, e0, hx00, hx01, hx02⟩ := at_T79 hr0_1 x p q0
 subst e0
 obtain ⟨ad1, eA, hx1⟩ := Kd.at_bool hr1 x p q
 subst eA
 have HO0 := Aside0.mk hO
 have HB0 := Aside0.mk hB
 have NU := Aside0.mk hnu
 have BU0 := Aside0.mk hu
 have BO := Aside0.mk ho
 clear hO hB hnu hr0_1 hc0_1 hr1 hc1
 have hcn1 : w.cell? ⟨gb, 1, none⟩ = some (.slice (some ad0) l0_1.length c0_1) := (blk_cell hn 1).trans rfl
 clear hn ho hu
 replace p := eq_true p
 replace q := eq_true q
 replace q0 := eq_true q0
 by_cases b : rdOf false l1 x = true
 rotate_left
 ·
  rw [if_neg b] at h
  rw [Bool.eq_false_iff.mpr b] at hx1
  have HX1 := Aside0.mk hx1
  clear b hx1
  obtain ⟨rfl, rfl⟩ := Prod.mk.injEq _ _ _ _ ▸ Option.some.inj h
  clear h
  go_enter Tryd.func88, Tryd.ntmps88
  go_wp2_with (first | ((with_reducible refine gate_dst (N := 6) rfl ?_); refine box_event ?hg (N := 6) ?hd (cs := #[.int .i64 0, .int .i64 0, .int .i64 0]) (t := 79) ?hr ?_; (case hd => rfl); (case hg => rfl); (case hr => exact hR); intro gx hg w5 hbox hb; have BX := Aside0.mk hbox; have KW := Aside0.mk hb; have GX := aM (show w.heap.size ≤ gx from Nat.le_of_eq hg.symm); clear hb hbox hg hcn1; have hz0 := blk_frozen BX.out 0; have hz1 := blk_frozen BX.out 1; have hz2 := blk_frozen BX.out 2; have hy0 : w5.cell? ⟨gx, 0, none⟩ = some (.int .i64 0) := (blk_cell BX.out 0).trans rfl; have hy1 : w5.cell? ⟨gx, 1, none⟩ = some (.int .i64 0) := (blk_cell BX.out 1).trans rfl; have hy2 : w5.cell? ⟨gx, 2, none⟩ = some (.int .i64 0) := (blk_cell BX.out 2).trans rfl) | ((with_reducible refine gate_store (t := 79) (p := 6) rfl ?_); refine store_event (t := 79) (p := 6) (v := ?vo_) (w1 := ((w5.setCell ⟨gx, 0, none⟩ (.int .i64 (rd_T79 l0_1 x).f0)).setCell ⟨gx, 1, none⟩ (.int .i64 (rd_T79 l0_1 x).f1)).setCell ⟨gx, 2, none⟩ (.int .i64 (rd_T79 l0_1 x).f2)) ?hg ?ho ?hn ?hr ?_; (case ho => rfl); (case hg => rfl); (case hn => rfl); (case hr => exact hR); intro w6 hw; have n0_ := aM (by rw [hw]; exact blk_put (blk_put (blk_put BX.out 0 _ rfl) 1 _ rfl) 2 _ rfl : w6.heap[gx]? = some (.cells #[.int .i64 (rd_T79 l0_1 x).f0, .int .i64 (rd_T79 l0_1 x).f1, .int .i64 (rd_T79 l0_1 x).f2] 79 (0, 0))); have n1_ := aM (by rw [hw]; exact below_set (below_set (below_set KW.out GX.out) GX.out) GX.out : Below w.heap.size w w6); clear BX KW hy0 hy1 hy2 hz0 hz1 hz2 hw; have BX := n0_; have KW := n1_; clear n0_ n1_; have hx1 := (KW.out.cell (World.block_lt_of_cell? w _ HX1.out)).trans HX1.out; have hco0 : w6.cell? ⟨go, 0, none⟩ = some (.slice (some ad1) l1.length c1) := (blk_cell (blk_below BO.out KW.out) 0).trans rfl; have BU := aM (blk_below BU0.out KW.out); have hcu0 : w6.cell? ⟨gu, 0, none⟩ = some vu := (blk_cell BU.out 0).trans rfl; have hcx0 : w6.cell? ⟨gx, 0, none⟩ = some (.int .i64 (rd_T79 l0_1 x).f0) := (blk_cell BX.out 0).trans rfl; have hcx1 : w6.cell? ⟨gx, 1, none⟩ = some (.int .i64 (rd_T79 l0_1 x).f1) := (blk_cell BX.out 1).trans rfl; have hcx2 : w6.cell? ⟨gx, 2, none⟩ = some (.int .i64 (rd_T79 l0_1 x).f2) := (blk_cell BX.out 2).trans rfl; have HO := aM (Kd.R_below HO0.out KW.out); have HB := aM (HB0.out.trans (KW.out.mono HB0.out.size)); have KP := aM (Kept.of_below KW.out (ownIs vu)); have NX := aM (show some gx = vu.ownBlock → False from fun e_ => by have := Kd.R_lt HO0.out gx e_.symm; have := GX.out; omega)))
  go_ret
  exact ⟨rfl, HO.out, HB.out, KP.out⟩
 rw [if_pos b] at h
 rw [b] at hx1
 have HX1 := Aside0.mk hx1
 clear b hx1
 obtain ⟨⟨b, u1⟩, A50, h⟩ := Option.bind_eq_some_iff.mp h
 have A5 := Aside0.mk A50
 clear A50
 by_cases hb_ : b = true
 ·
  subst hb_
  rw [if_pos rfl] at h
  obtain ⟨rfl, rfl⟩ := Prod.mk.injEq _ _ _ _ ▸ Option.some.inj h
  clear h
  go_enter Tryd.func88, Tryd.ntmps88
  go_wp2_with (first | ((with_reducible refine gate_dst (N := 6) rfl ?_); refine box_event ?hg (N := 6) ?hd (cs := #[.int .i64 0, .int .i64 0, .int .i64 0]) (t := 79) ?hr ?_; (case hd => rfl); (case hg => rfl); (case hr => exact hR); intro gx hg w5 hbox hb; have BX := Aside0.mk hbox; have KW := Aside0.mk hb; have GX := aM (show w.heap.size ≤ gx from Nat.le_of_eq hg.symm); clear hb hbox hg hcn1; have hz0 := blk_frozen BX.out 0; have hz1 := blk_frozen BX.out 1; have hz2 := blk_frozen BX.out 2; have hy0 : w5.cell? ⟨gx, 0, none⟩ = some (.int .i64 0) := (blk_cell BX.out 0).trans rfl; have hy1 : w5.cell? ⟨gx, 1, none⟩ = some (.int .i64 0) := (blk_cell BX.out 1).trans rfl; have hy2 : w5.cell? ⟨gx, 2, none⟩ = some (.int .i64 0) := (blk_cell BX.out 2).trans rfl) | ((with_reducible refine gate_store (t := 79) (p := 6) rfl ?_); refine store_event (t := 79) (p := 6) (v := ?vo_) (w1 := ((w5.setCell ⟨gx, 0, none⟩ (.int .i64 (rd_T79 l0_1 x).f0)).setCell ⟨gx, 1, none⟩ (.int .i64 (rd_T79 l0_1 x).f1)).setCell ⟨gx, 2, none⟩ (.int .i64 (rd_T79 l0_1 x).f2)) ?hg ?ho ?hn ?hr ?_; (case ho => rfl); (case hg => rfl); (case hn => rfl); (case hr => exact hR); intro w6 hw; have n0_ := aM (by rw [hw]; exact blk_put (blk_put (blk_put BX.out 0 _ rfl) 1 _ rfl) 2 _ rfl : w6.heap[gx]? = some (.cells #[.int .i64 (rd_T79 l0_1 x).f0, .int .i64 (rd_T79 l0_1 x).f1, .int .i64 (rd_T79 l0_1 x).f2] 79 (0, 0))); have n1_ := aM (by rw [hw]; exact below_set (below_set (below_set KW.out GX.out) GX.out) GX.out : Below w.heap.size w w6); clear BX KW hy0 hy1 hy2 hz0 hz1 hz2 hw; have BX := n0_; have KW := n1_; clear n0_ n1_; have hx1 := (KW.out.cell (World.block_lt_of_cell? w _ HX1.out)).trans HX1.out; have hco0 : w6.cell? ⟨go, 0, none⟩ = some (.slice (some ad1) l1.length c1) := (blk_cell (blk_below BO.out KW.out) 0).trans rfl; have BU := aM (blk_below BU0.out KW.out); have hcu0 : w6.cell? ⟨gu, 0, none⟩ = some vu := (blk_cell BU.out 0).trans rfl; have hcx0 : w6.cell? ⟨gx, 0, none⟩ = some (.int .i64 (rd_T79 l0_1 x).f0) := (blk_cell BX.out 0).trans rfl; have hcx1 : w6.cell? ⟨gx, 1, none⟩ = some (.int .i64 (rd_T79 l0_1 x).f1) := (blk_cell BX.out 1).trans rfl; have hcx2 : w6.cell? ⟨gx, 2, none⟩ = some (.int .i64 (rd_T79 l0_1 x).f2) := (blk_cell BX.out 2).trans rfl; have HO := aM (Kd.R_below HO0.out KW.out); have HB := aM (HB0.out.trans (KW.out.mono HB0.out.size)); have KP := aM (Kept.of_below KW.out (ownIs vu)); have NX := aM (show some gx = vu.ownBlock → False from fun e_ => by have := Kd.R_lt HO0.out gx e_.symm; have := GX.out; omega)) | (go_at_call 78; (with_reducible refine (impl_union_same.calls k (ownIs vu) vu us (rd_T79 l0_1 x).f0 (rd_T79 l0_1 x).f1 true u1 w0 _ ?side1 ?side2 A5.out).mono ?_); (case side1 => exact HB.out); (case side2 => exact HO.out); rintro e w8 ⟨rfl, hy, hb, hk⟩; have n0_ := aM (show Kd.R (Kd.int .i64) 3 w8 w0.heap.size (ownIs vu) vu u1 from Kd.R_reok rfl hy (fun k_ e_ => e_.symm)); have n1_ := aM (KP.out.then_ (S := ownIs vu) hk (fun _ h_ => .inl h_)); have n2_ := aM (blk_kept BU.out hk (fun e_ => (NU.out e_).elim)); have n3_ := aM (blk_kept BX.out hk (fun e_ => (NX.out e_).elim)); clear HO HB BU BX KP hcx0 hcx1 hcx2 hcu0; have HO := n0_; have KP := n1_; have HB := Aside0.mk hb; have BU := n2_; have BX := n3_; clear n0_ n1_ n2_ n3_ hb hy hk; have hcx0 : w8.cell? ⟨gx, 0, none⟩ = some (.int .i64 (rd_T79 l0_1 x).f0) := (blk_cell BX.out 0).trans rfl; have hcx1 : w8.cell? ⟨gx, 1, none⟩ = some (.int .i64 (rd_T79 l0_1 x).f1) := (blk_cell BX.out 1).trans rfl; have hcu0 : w8.cell? ⟨gu, 0, none⟩ = some vu := (blk_cell BU.out 0).trans rfl))
  go_ret
  exact ⟨rfl, HO.out, HB.out, KP.out⟩
 replace hb_ := Bool.eq_false_iff.mpr hb_
 subst hb_
 rw [if_neg (by simp)] at h
 obtain ⟨u2, A60, h⟩ := Option.map_eq_some_iff.mp h
 obtain ⟨rfl, rfl⟩ := Prod.mk.injEq _ _ _ _ ▸ h
 clear h
 have A6 := Aside0.mk A60
 clear A60
 go_enter Tryd.func88, Tryd.ntmps88
 go_wp2_with (first | ((with_reducible refine gate_dst (N := 6) rfl ?_); refine box_event ?hg (N := 6) ?hd (cs := #[.int .i64 0, .int .i64 0, .int .i64 0]) (t := 79) ?hr ?_; (case hd => rfl); (case hg => rfl); (case hr => exact hR); intro gx hg w5 hbox hb; have BX := Aside0.mk hbox; have KW := Aside0.mk hb; have GX := aM (show w.heap.size ≤ gx from Nat.le_of_eq hg.symm); clear hb hbox hg hcn1; have hz0 := blk_frozen BX.out 0; have hz1 := blk_frozen BX.out 1; have hz2 := blk_frozen BX.out 2; have hy0 : w5.cell? ⟨gx, 0, none⟩ = some (.int .i64 0) := (blk_cell BX.out 0).trans rfl; have hy1 : w5.cell? ⟨gx, 1, none⟩ = some (.int .i64 0) := (blk_cell BX.out 1).trans rfl; have hy2 : w5.cell? ⟨gx, 2, none⟩ = some (.int .i64 0) := (blk_cell BX.out 2).trans rfl) | ((with_reducible refine gate_store (t := 79) (p := 6) rfl ?_); refine store_event (t := 79) (p := 6) (v := ?vo_) (w1 := ((w5.setCell ⟨gx, 0, none⟩ (.int .i64 (rd_T79 l0_1 x).f0)).setCell ⟨gx, 1, none⟩ (.int .i64 (rd_T79 l0_1 x).f1)).setCell ⟨gx, 2, none⟩ (.int .i64 (rd_T79 l0_1 x).f2)) ?hg ?ho ?hn ?hr ?_; (case ho => rfl); (case hg => rfl); (case hn => rfl); (case hr => exact hR); intro w6 hw; have n0_ := aM (by rw [hw]; exact blk_put (blk_put (blk_put BX.out 0 _ rfl) 1 _ rfl) 2 _ rfl : w6.heap[gx]? = some (.cells #[.int .i64 (rd_T79 l0_1 x).f0, .int .i64 (rd_T79 l0_1 x).f1, .int .i64 (rd_T79 l0_1 x).f2] 79 (0, 0))); have n1_ := aM (by rw [hw]; exact below_set (below_set (below_set KW.out GX.out) GX.out) GX.out : Below w.heap.size w w6); clear BX KW hy0 hy1 hy2 hz0 hz1 hz2 hw; have BX := n0_; have KW := n1_; clear n0_ n1_; have hx1 := (KW.out.cell (World.block_lt_of_cell? w _ HX1.out)).trans HX1.out; have hco0 : w6.cell? ⟨go, 0, none⟩ = some (.slice (some ad1) l1.length c1) := (blk_cell (blk_below BO.out KW.out) 0).trans rfl; have BU := aM (blk_below BU0.out KW.out); have hcu0 : w6.cell? ⟨gu, 0, none⟩ = some vu := (blk_cell BU.out 0).trans rfl; have hcx0 : w6.cell? ⟨gx, 0, none⟩ = some (.int .i64 (rd_T79 l0_1 x).f0) := (blk_cell BX.out 0).trans rfl; have hcx1 : w6.cell? ⟨gx, 1, none⟩ = some (.int .i64 (rd_T79 l0_1 x).f1) := (blk_cell BX.out 1).trans rfl; have hcx2 : w6.cell? ⟨gx, 2, none⟩ = some (.int .i64 (rd_T79 l0_1 x).f2) := (blk_cell BX.out 2).trans rfl; have HO := aM (Kd.R_below HO0.out KW.out); have HB := aM (HB0.out.trans (KW.out.mono HB0.out.size)); have KP := aM (Kept.of_below KW.out (ownIs vu)); have NX := aM (show some gx = vu.ownBlock → False from fun e_ => by have := Kd.R_lt HO0.out gx e_.symm; have := GX.out; omega)) | (go_at_call 78; (with_reducible refine (impl_union_same.calls k (ownIs vu) vu us (rd_T79 l0_1 x).f0 (rd_T79 l0_1 x).f1 false u1 w0 _ ?side1 ?side2 A5.out).mono ?_); (case side1 => exact HB.out); (case side2 => exact HO.out); rintro e w8 ⟨rfl, hy, hb, hk⟩; have n0_ := aM (show Kd.R (Kd.int .i64) 3 w8 w0.heap.size (ownIs vu) vu u1 from Kd.R_reok rfl hy (fun k_ e_ => e_.symm)); have n1_ := aM (KP.out.then_ (S := ownIs vu) hk (fun _ h_ => .inl h_)); have n2_ := aM (blk_kept BU.out hk (fun e_ => (NU.out e_).elim)); have n3_ := aM (blk_kept BX.out hk (fun e_ => (NX.out e_).elim)); clear HO HB BU BX KP hcx0 hcx1 hcx2 hcu0; have HO := n0_; have KP := n1_; have HB := Aside0.mk hb; have BU := n2_; have BX := n3_; clear n0_ n1_ n2_ n3_ hb hy hk; have hcx0 : w8.cell? ⟨gx, 0, none⟩ = some (.int .i64 (rd_T79 l0_1 x).f0) := (blk_cell BX.out 0).trans rfl; have hcx1 : w8.cell? ⟨gx, 1, none⟩ = some (.int .i64 (rd_T79 l0_1 x).f1) := (blk_cell BX.out 1).trans rfl; have hcu0 : w8.cell? ⟨gu, 0, none⟩ = some vu := (blk_cell BU.out 0).trans rfl) | ((with_reducible refine gate_callee (f := 89) rfl ?_); refine goesL_ (some 30) rfl rfl Tryd.func89 (by kernel_rfl) rfl #[vu, .int .i64 (rd_T79 l0_1 x).f0, .int .i64 (rd_T79 l0_1 x).f1] rfl (by (try simp only [List.map_toArray, List.map_cons, List.map_nil]); first | done | rfl) ?_; (with_reducible refine (impl_union_join.calls k (ownIs vu) vu u1 (rd_T79 l0_1 x).f0 (rd_T79 l0_1 x).f1 u2 w0 _ ?side1 ?side2 A6.out).mono ?_); (case side1 => exact HB.out); (case side2 => exact HO.out); rintro e w9 ⟨rfl, hy, hb, hk⟩; refine ⟨_, rfl, ?_⟩; have n0_ := aM (show Kd.R (Kd.int .i64) 3 w9 w0.heap.size (ownIs vu) vu u2 from Kd.R_reok rfl hy (fun k_ e_ => e_.symm)); have n1_ := aM (KP.out.then_ (S := ownIs vu) hk (fun _ h_ => .inl h_)); clear HO HB BU BX KP hcx0 hcx1 hcu0; have HO := n0_; have KP := n1_; have HB := Aside0.mk hb; clear n0_ n1_ hb hy hk))
 go_ret
 exact ⟨rfl, HO.out, HB.out, KP.out⟩
def impl_SpanningLines.f (k : Nat) (a0_0 : Int) (l0_1 : List S79) (l1 : List Bool) : Option (List Int) := (impl_StateValid.f k a0_0 l0_1 l1).bind fun t => (if t = true then ((impl_newUnion.f k a0_0).bind fun u => ((impl_linesWhere.l (fun us i => impl_SpanningLines_1.f k us i a0_0 l0_1 l1) k u [] (l0_1.length : Int) 0).map fun x => x.1)) else some [])
theorem impl_SpanningLines.mono : ∀ a0 a1 a2 k, LeO (impl_SpanningLines.f k a0 a1 a2) (impl_SpanningLines.f (k + 1) a0 a1 a2) := by
 intro a0 a1 a2 k
 unfold impl_SpanningLines.f
 refine LeO.bind (impl_StateValid.mono _ _ _ _) (fun t => LeO.ite ?_ (LeO.refl _))
 refine LeO.bind (impl_newUnion.mono _ _) (fun u => leO_map _ (impl_linesWhere.mono (fun s i => ?_) k _ _ _ _))
 unfold impl_SpanningLines_1.f
 exact LeO.ite (LeO.ite (LeO.ite (LeO.ite (LeO.bind (impl_union_same.mono _ _ _ _) (fun _ => LeO.ite (LeO.refl _) (leO_map _ (impl_union_join.mono _ _ _ _)))) (LeO.refl _)) (LeO.refl _)) (LeO.refl _)) (LeO.refl _)
set_option maxHeartbeats 8000000 in
set_option maxRecDepth 100000 in
theorem impl_SpanningLines.calls (k : Nat) (a0_0 : Int) (A0_1 : Option Addr) (c0_1 : Nat) (l0_1 : List S79) (A1 : Option Addr) (c1 : Nat) (l1 : List Bool) (r : List Int) (w : World) (hr0_1 : Kd.C k79 w A0_1 l0_1.length l0_1) (hc0_1 : l0_1.length ≤ c0_1) (hr1 : Kd.C Kd.bool w A1 l1.length l1) (hc1 : l1.length ≤ c1) (h : impl_SpanningLines.f k a0_0 l0_1 l1 = some r) :
  Calls Tryd.prog 32 #[.agg #[.int .i64 a0_0, .slice A0_1 l0_1.length c0_1], .slice A1 l1.length c1] w fun e w' => ∃ v0_ : Value, e = .returned (v0_) ∧ Kd.R (Kd.int .i64) 3 w' w.heap.size (fun _ => True) v0_ r ∧ Below w.heap.size w w' := by
 have HR0 := Aside0.mk hr0_1
 have HC0 := Aside0.mk hc0_1
 have HR1 := Aside0.mk hr1
 have HC1 := Aside0.mk hc1
 clear hr0_1 hc0_1 hr1 hc1
 obtain ⟨t, A50, H⟩ := Option.bind_eq_some_iff.mp h
 have A5 := Aside0.mk A50
 clear A50 h
 have HB := aM (Below.refl w.heap.size w)
 by_cases ht : t = true
 rotate_left
 ·
  replace ht := Bool.eq_false_iff.mpr ht
  subst ht
  rw [if_neg (by decide)] at H
  obtain rfl := Option.some.inj H
  clear H
  go_enter Tryd.func32, Tryd.ntmps32
  go_wp2_with (first | ((with_reducible refine gate_dst (N := 2) rfl ?_); refine box_event ?hg (N := 2) ?hd (cs := #[.int .i64 a0_0, .slice A0_1 l0_1.length c0_1]) (t := 25) ?hr ?_; (case hd => rfl); (case hg => rfl); (case hr => exact hR); intro gb hg w5 hbox hb; have n0_ := aM (below_step HB.out hb); clear HB; have HB := n0_; have BN := Aside0.mk hbox; clear n0_ hb hbox hg) | ((with_reducible refine gate_dst (N := 3) rfl ?_); refine box_event ?hg (N := 3) ?hd (cs := #[.slice A1 l1.length c1]) (t := 26) ?hr ?_; (case hd => rfl); (case hg => rfl); (case hr => exact hR); intro gu hg w6 hbox hb; have n0_ := aM (below_step HB.out hb); have n1_ := aM (blk_below BN.out hb); clear HB BN; have HB := n0_; have BN := n1_; have BO := Aside0.mk hbox; clear n0_ n1_ hb hbox hg; have hcz0 : w6.cell? ⟨gb, 0, none⟩ = some (.int .i64 a0_0) := (blk_cell BN.out 0).trans rfl; have hcz1 : w6.cell? ⟨gb, 1, none⟩ = some (.slice A0_1 l0_1.length c0_1) := (blk_cell BN.out 1).trans rfl; have hco0 : w6.cell? ⟨gu, 0, none⟩ = some (.slice A1 l1.length c1) := (blk_cell BO.out 0).trans rfl) | ((with_reducible refine gate_callee (f := 77) rfl ?_); refine goesL_ (some 8) rfl rfl Tryd.func77 (by kernel_rfl) rfl #[.agg #[.int .i64 a0_0, .slice A0_1 l0_1.length c0_1], .slice A1 l1.length c1] rfl (by (try simp only [List.map_toArray, List.map_cons, List.map_nil]); first | done | rfl) ?_; (with_reducible refine (impl_StateValid.calls k a0_0 _ _ l0_1 _ _ l1 false _ ?side1 HC0.out ?side2 HC1.out A5.out).mono ?_); (case side1 => exact Kd.C_below HR0.out HB.out); (case side2 => exact Kd.C_below HR1.out HB.out); rintro e w7 ⟨rfl, hb⟩; refine ⟨_, rfl, ?_⟩; have n0_ := aM (below_step HB.out hb); have n1_ := aM (blk_below BN.out hb); have n2_ := aM (blk_below BO.out hb); clear HB BN BO hcz0 hcz1 hco0; have HB := n0_; have BN := n1_; have BO := n2_; clear n0_ n1_ n2_ hb; have hcz0 : w7.cell? ⟨gb, 0, none⟩ = some (.int .i64 a0_0) := (blk_cell BN.out 0).trans rfl; have hcz1 : w7.cell? ⟨gb, 1, none⟩ = some (.slice A0_1 l0_1.length c0_1) := (blk_cell BN.out 1).trans rfl; have hco0 : w7.cell? ⟨gu, 0, none⟩ = some (.slice A1 l1.length c1) := (blk_cell BO.out 0).trans rfl))
  go_ret
  exact ⟨_, rfl, Kd.R_nil _ _ _ _ _, HB.out⟩
 subst ht
 rw [if_pos rfl] at H
 obtain ⟨ur, A70, H⟩ := Option.bind_eq_some_iff.mp H
 obtain ⟨⟨r', u'⟩, A60, H⟩ := Option.map_eq_some_iff.mp H
 subst H
 have A6 := Aside0.mk A60
 have A7 := Aside0.mk A70
 clear A60 A70
 go_enter Tryd.func32, Tryd.ntmps32
 go_wp2_with (first | ((with_reducible refine gate_dst (N := 2) rfl ?_); refine box_event ?hg (N := 2) ?hd (cs := #[.int .i64 a0_0, .slice A0_1 l0_1.length c0_1]) (t := 25) ?hr ?_; (case hd => rfl); (case hg => rfl); (case hr => exact hR); intro gb hg w5 hbox hb; have n0_ := aM (below_step HB.out hb); clear HB; have HB := n0_; have BN := Aside0.mk hbox; clear n0_ hb hbox hg) | ((with_reducible refine gate_dst (N := 3) rfl ?_); refine box_event ?hg (N := 3) ?hd (cs := #[.slice A1 l1.length c1]) (t := 26) ?hr ?_; (case hd => rfl); (case hg => rfl); (case hr => exact hR); intro gu hg w6 hbox hb; have n0_ := aM (below_step HB.out hb); have n1_ := aM (blk_below BN.out hb); clear HB BN; have HB := n0_; have BN := n1_; have BO := Aside0.mk hbox; clear n0_ n1_ hb hbox hg; have hcz0 : w6.cell? ⟨gb, 0, none⟩ = some (.int .i64 a0_0) := (blk_cell BN.out 0).trans rfl; have hcz1 : w6.cell? ⟨gb, 1, none⟩ = some (.slice A0_1 l0_1.length c0_1) := (blk_cell BN.out 1).trans rfl; have hco0 : w6.cell? ⟨gu, 0, none⟩ = some (.slice A1 l1.length c1) := (blk_cell BO.out 0).trans rfl) | ((with_reducible refine gate_callee (f := 77) rfl ?_); refine goesL_ (some 8) rfl rfl Tryd.func77 (by kernel_rfl) rfl #[.agg #[.int .i64 a0_0, .slice A0_1 l0_1.length c0_1], .slice A1 l1.length c1] rfl (by (try simp only [List.map_toArray, List.map_cons, List.map_nil]); first | done | rfl) ?_; (with_reducible refine (impl_StateValid.calls k a0_0 _ _ l0_1 _ _ l1 true _ ?side1 HC0.out ?side2 HC1.out A5.out).mono ?_); (case side1 => exact Kd.C_below HR0.out HB.out); (case side2 => exact Kd.C_below HR1.out HB.out); rintro e w7 ⟨rfl, hb⟩; refine ⟨_, rfl, ?_⟩; have n0_ := aM (below_step HB.out hb); have n1_ := aM (blk_below BN.out hb); have n2_ := aM (blk_below BO.out hb); clear HB BN BO hcz0 hcz1 hco0; have HB := n0_; have BN := n1_; have BO := n2_; clear n0_ n1_ n2_ hb; have hcz0 : w7.cell? ⟨gb, 0, none⟩ = some (.int .i64 a0_0) := (blk_cell BN.out 0).trans rfl; have hcz1 : w7.cell? ⟨gb, 1, none⟩ = some (.slice A0_1 l0_1.length c0_1) := (blk_cell BN.out 1).trans rfl; have hco0 : w7.cell? ⟨gu, 0, none⟩ = some (.slice A1 l1.length c1) := (blk_cell BO.out 0).trans rfl) | ((with_reducible refine gate_callee (f := 87) rfl ?_); refine goesL_ (some 12) rfl rfl Tryd.func87 (by kernel_rfl) rfl #[.int .i64 a0_0] rfl (by (try simp only [List.map_toArray, List.map_cons, List.map_nil]); first | done | rfl) ?_; (with_reducible refine (impl_newUnion.calls k a0_0 ur _ A7.out).mono ?_); rintro e w8 ⟨vu, rfl, hy, hb⟩; refine ⟨_, rfl, ?_⟩; have n0_ := aM (below_step HB.out hb); have n1_ := aM (blk_below BN.out hb); have n2_ := aM (blk_below BO.out hb); have HO := aM (Kd.R_lower hy HB.out.size); obtain ⟨Au, cu, eu⟩ := Kd.R_slice hy; have EU := Aside0.mk eu; clear eu HB BN BO hcz0 hcz1 hco0; have HB := n0_; have BN := n1_; have BO := n2_; clear n0_ n1_ n2_ hb hy; have hcz0 : w8.cell? ⟨gb, 0, none⟩ = some (.int .i64 a0_0) := (blk_cell BN.out 0).trans rfl; have hcz1 : w8.cell? ⟨gb, 1, none⟩ = some (.slice A0_1 l0_1.length c0_1) := (blk_cell BN.out 1).trans rfl; have hco0 : w8.cell? ⟨gu, 0, none⟩ = some (.slice A1 l1.length c1) := (blk_cell BO.out 0).trans rfl; obtain rfl := EU.out) | ((with_reducible refine gate_dst (N := 5) rfl ?_); refine box_event ?hg (N := 5) ?hd (cs := #[.slice none 0 0]) (t := 74) ?hr ?_; (case hd => rfl); (case hg => rfl); (case hr => exact hR); intro gz hg w9 hbox hb; have n0_ := aM (below_step HB.out hb); have n1_ := aM (blk_below BN.out hb); have n2_ := aM (blk_below BO.out hb); have n3_ := aM (Kd.R_below HO.out hb); have GZ := aM (show w.heap.size ≤ gz from by rw [hg]; exact HB.out.size); have NU := aM (show some gz = (Value.slice Au ur.length cu).ownBlock → False from fun e_ => by have := Kd.R_lt HO.out gz e_.symm; omega); clear HB BN BO HO hcz0 hcz1 hco0; have HB := n0_; have BN := n1_; have BO := n2_; have HO := n3_; have BU := Aside0.mk hbox; clear n0_ n1_ n2_ n3_ hb hbox hg; have hz0 := blk_frozen BU.out 0; have hy0 : w9.cell? ⟨gz, 0, none⟩ = some (.slice none 0 0) := (blk_cell BU.out 0).trans rfl) | ((with_reducible refine gate_store (t := 74) (p := 5) rfl ?_); refine store_event (t := 74) (p := 5) (v := ?vo_) (w1 := w9.setCell ⟨gz, 0, none⟩ (.slice Au ur.length cu)) ?hg ?ho ?hn ?hr ?_; (case ho => rfl); (case hg => rfl); (case hn => rfl); (case hr => exact hR); intro w10 hw; have n0_ := aM (by rw [hw]; exact blk_put BU.out 0 _ rfl : w10.heap[gz]? = some (.cells #[(.slice Au ur.length cu)] 74 (0, 0))); have n1_ := aM (by rw [hw]; exact below_set HB.out GZ.out : Below w.heap.size w w10); have n2_ := aM (by rw [hw]; exact Kd.R_mono (Kd.R_far (p := ⟨gz, 0, none⟩) (Kd.R_types HO.out BU.out (by decide)) (fun _ hk => hk.2) (.slice Au ur.length cu)) (fun _ _ => trivial) : Kd.R (Kd.int .i64) 3 w10 w.heap.size (fun _ => True) (.slice Au ur.length cu) ur); have n3_ := aM (by rw [hw]; exact (Below.heap_setCell w9 ⟨gz, 0, none⟩ (.slice Au ur.length cu) gb (fun e_ => by have h1 := BN.out; rw [show gb = gz from e_, BU.out] at h1; simp at h1)).trans BN.out : w10.heap[gb]? = some (.cells #[.int .i64 a0_0, .slice A0_1 l0_1.length c0_1] 25 (0, 0))); have n4_ := aM (by rw [hw]; exact (Below.heap_setCell w9 ⟨gz, 0, none⟩ (.slice Au ur.length cu) gu (fun e_ => by have h1 := BO.out; rw [show gu = gz from e_, BU.out] at h1; simp at h1)).trans BO.out : w10.heap[gu]? = some (.cells #[.slice A1 l1.length c1] 26 (0, 0))); clear BU HB HO BN BO hy0 hz0 hw; have BU := n0_; have HB := n1_; have HO := n2_; have BN := n3_; have BO := n4_; clear n0_ n1_ n2_ n3_ n4_; have hcz0 : w10.cell? ⟨gb, 0, none⟩ = some (.int .i64 a0_0) := (blk_cell BN.out 0).trans rfl; have hcz1 : w10.cell? ⟨gb, 1, none⟩ = some (.slice A0_1 l0_1.length c0_1) := (blk_cell BN.out 1).trans rfl) | ((with_reducible refine gate_callee (f := 81) rfl ?_); refine goesL_ (some 15) rfl rfl Tryd.func81 (by kernel_rfl) rfl #[.agg #[.int .i64 a0_0, .slice A0_1 l0_1.length c0_1], .func (.func 88) #[] #[.pointer (some ⟨gb, 0, none⟩), .pointer (some ⟨gu, 0, none⟩), .pointer (some ⟨gz, 0, none⟩)]] rfl (by (try simp only [List.map_toArray, List.map_cons, List.map_nil]); first | done | rfl) ?_; refine (impl_linesWhere.calls (fun us i => impl_SpanningLines_1.f k us i a0_0 l0_1 l1) (fun us W => W.heap[gb]? = some (.cells #[.int .i64 a0_0, .slice A0_1 l0_1.length c0_1] 25 (0, 0)) ∧ W.heap[gu]? = some (.cells #[.slice A1 l1.length c1] 26 (0, 0)) ∧ W.heap[gz]? = some (.cells #[.slice Au ur.length cu] 74 (0, 0)) ∧ Kd.R (Kd.int .i64) 3 W w.heap.size (ownIs (Value.slice Au ur.length cu)) (.slice Au ur.length cu) us ∧ Below w.heap.size w W) 88 _ #[.pointer (some ⟨gb, 0, none⟩), .pointer (some ⟨gu, 0, none⟩), .pointer (some ⟨gz, 0, none⟩)] k a0_0 A0_1 l0_1.length c0_1 ur u' r' _ Tryd.func88 (by kernel_rfl) rfl ⟨BN.out, BO.out, BU.out, Kd.R_tight rfl HO.out, HB.out⟩ ?hst ?hcl A6.out).mono ?_; (case hst => exact fun _ W W' hI hb => ⟨(hb.block _ (blk_lt BN.out)).trans hI.1, (hb.block _ (blk_lt BO.out)).trans hI.2.1, (hb.block _ (blk_lt BU.out)).trans hI.2.2.1, Kd.R_step hI.2.2.2.1 (fun k_ e_ _ => hb.block k_ (Kd.R_lt HO.out k_ e_.symm)), hI.2.2.2.2.trans (hb.mono HB.out.size)⟩); (case hcl => intro us us' x b W hle hI hp; exact (impl_SpanningLines_1.calls k gb gu gz x a0_0 _ _ l0_1 _ _ l1 (.slice Au ur.length cu) us b us' w W hI.1 hI.2.1 hI.2.2.1 hI.2.2.2.1 hI.2.2.2.2 NU.out (Kd.C_below HR0.out hI.2.2.2.2) HC0.out (Kd.C_below HR1.out hI.2.2.2.2) HC1.out hp).mono (fun e W' hh => ⟨hh.1, ⟨blk_kept hI.1 hh.2.2.2 (fun e_ => by have h1 := Kd.R_typed HO.out gb e_.symm; rw [BN.out] at h1; simp at h1), blk_kept hI.2.1 hh.2.2.2 (fun e_ => by have h1 := Kd.R_typed HO.out gu e_.symm; rw [BO.out] at h1; simp at h1), blk_kept hI.2.2.1 hh.2.2.2 (fun e_ => NU.out e_), hh.2.1, hh.2.2.1⟩, hh.2.2.2.1, fun i hi hlt => hh.2.2.2.2 i hlt (fun e_ => by have := Kd.R_lt HO.out i e_.symm; omega)⟩)); rintro e w11 ⟨v, rfl, hr, hi⟩; refine ⟨_, rfl, ?_⟩; have HV := aM (Kd.R_lower hr HB.out.size); clear HB; have HB := Aside0.mk hi.2.2.2.2; clear hi hr BN BO BU HO hcz0 hcz1))
 go_ret
 exact ⟨_, rfl, HV.out, HB.out⟩

end Go.Proofs.YtpgjgbjkfgbpaaaDoor.P

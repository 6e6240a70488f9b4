/- Contracts of Go functions of this seat's translation, written by this repo's wip/mk.py: it calls the kit's print.py with contracts typed by hand in place of functions that it does not take. Not trusted: Lean checks it. -/
import Derived.Test.YtpgjgbjkfgbpaaaDoorP0
import Derived.Test.YtpgjgbjkfgbpaaaDoorP9
import Derived.Test.YtpgjgbjkfgbpaaaDoorP12
import Derived.Test.YtpgjgbjkfgbpaaaDoorP6
import Derived.Test.YtpgjgbjkfgbpaaaDoorP21
namespace Go.Proofs.YtpgjgbjkfgbpaaaDoor.P
open Go.RowKit Go.Proofs.YtpgjgbjkfgbpaaaDoorW.PrintWords Go.Proofs.YtpgjgbjkfgbpaaaDoorW.PrintLast Go.Proofs.YtpgjgbjkfgbpaaaDoorW.PrintMore
attribute [local go_sem] max2_int min2_int max_two min_two max_three min_three max_four min_four   -- for this text's walks alone
set_option linter.unusedVariables false
set_option linter.unusedSimpArgs false

/-! ### spec_DrawCycleLines: function 20 -/
def spec_DrawCycleLines.f (k : Nat) (l0 : List Int) : Option (Int × (List (S79)) × List Bool) := (spec_l20Open.f l0).bind fun bt427 => ((spec_l20Switched.f k bt427.1 bt427.2 6).bind fun bt430 => (some (bt430.1, bt430.2.1, bt430.2.2.1)))
theorem spec_DrawCycleLines.mono : ∀ a0 k, LeO (spec_DrawCycleLines.f k a0) (spec_DrawCycleLines.f (k + 1) a0) := by
 intro a0 k
 unfold spec_DrawCycleLines.f
 repeat' first
   | (with_reducible exact spec_l20Switched.mono _ _ _ _)
   | (with_reducible exact LeO.refl _)
   | (with_reducible exact LeO.none _)
   | (with_reducible refine LeO.ite ?_ ?_)
   | (with_reducible refine LeO.bind ?_ (fun _ => ?_))
   | exact spec_l20Switched.mono _ _ _ _
   | exact LeO.none _
   | refine LeO.ite ?_ ?_
   | refine LeO.bind ?_ (fun _ => ?_)
set_option maxHeartbeats 8000000 in
set_option maxRecDepth 100000 in
theorem spec_DrawCycleLines.calls (k : Nat) (A0 : Option Addr) (c0 : Nat) (l0 : List Int) (r1 : Int) (r2 : List (S79)) (r3 : List Bool) (w : World) (hr0 : Kd.C (Kd.int .u8) w A0 l0.length l0) (hc0 : l0.length ≤ c0) (h : spec_DrawCycleLines.f k l0 = some (r1, r2, r3)) :
  Calls Tryd.prog 20 #[.slice A0 l0.length c0] w fun e w' => ∃ v1_ v2_ : Value, e = .returned (.tuple #[.agg #[.int .i64 r1, v1_], v2_]) ∧ Kd.R k79 79 w' w.heap.size (fun _ => True) v1_ r2 ∧ Kd.R Kd.bool 4 w' w.heap.size (fun _ => True) v2_ r3 ∧ Below w.heap.size w w' := by
 have hu25 := Tryd.underlying25
 have HR0 := Aside0.mk hr0
 have HC0 := Aside0.mk hc0
 clear hr0 hc0
 have HB := aM (Below.refl w.heap.size w)
 have H : ((spec_l20Open.f l0).bind fun bt427 => ((spec_l20Switched.f k bt427.1 bt427.2 6).bind fun bt430 => (some (bt430.1, bt430.2.1, bt430.2.2.1)))) = some (r1, r2, r3) := h
 clear h
 replace H := Option.bind_eq_some_iff.mp H
 obtain ⟨⟨t427, t428⟩, A20, H⟩ := H
 replace H : ((spec_l20Switched.f k t427 t428 6).bind fun bt430 => (some (bt430.1, bt430.2.1, bt430.2.2.1))) = some (r1, r2, r3) := H
 have A2 := Aside0.mk A20
 clear A20
 replace H := Option.bind_eq_some_iff.mp H
 obtain ⟨⟨t430, t431, t434, t437⟩, A30, H⟩ := H
 replace H : (some (t430, t431, t434)) = some (r1, r2, r3) := H
 have A3 := Aside0.mk A30
 clear A30
 simp only [Option.some.injEq, Prod.mk.injEq] at H
 obtain ⟨rfl, rfl, rfl⟩ := H
 go_enter Tryd.func20, Tryd.ntmps20
 go_wp2_with (first | ((with_reducible refine gate_dst (N := 2) rfl ?_); refine box_event ?hg (N := 2) ?hd (cs := #[.int .i64 0, .slice none 0 0]) (t := 25) ?hr ?_; (case hd => rfl); (case hg => rfl); (case hr => exact hR); intro gb426 hg w4 hbox hb; have n0_ := aM (below_step (bl0 HB) hb); have n1_ := aM (hbox); have n2_ := aM ((by rw [hg]; exact (below_size (bl0 HB)) : w.heap.size ≤ gb426)); have n3_ := aM ((by rw [hg]; exact (below_size (bl0 HB)) : w.heap.size ≤ gb426)); clear HB; have HB := n0_; have BK426 := n1_; have GW426 := n2_; have GE426 := n3_; clear n0_ n1_ n2_ n3_; clear hb hbox hg) | ((with_reducible refine gate_callee (f := 66) rfl ?_); refine goesL_ (some 5) rfl rfl Tryd.func66 (by kernel_rfl) rfl #[.slice A0 l0.length c0] rfl mP ?_; (with_reducible refine (spec_l20Open.calls _ _ l0 t427 t428 w _ ?side1 ?side2 ?side3 A2.out).mono ?_); (case side1 => repeat (first | (with_reducible first | exact HB.out | apply below_alloc | apply pw_below_drewN | apply below_drew1 | refine below_set ?_ GE426.out) | exact HB.out)); (case side2 => exact HR0.out); (case side3 => exact HC0.out); rintro e w5 ⟨g429, rfl, hi, hb, hb2⟩; refine ⟨_, rfl, ?_⟩; have n0_ := aM (blk_below (g := gb426) (o := .cells #[.int .i64 0, .slice none 0 0] 25 (0, 0)) (gB (BK426.out)) hb2); have n1_ := aM (hb); have n2_ := aM (hi); have n3_ := aM (IsS111.ne_blk hi (blk_below (g := gb426) (o := .cells #[.int .i64 0, .slice none 0 0] 25 (0, 0)) (gB (BK426.out)) hb2) (by decide)); have n4_ := aM (Ne.symm (IsS111.ne_blk hi (blk_below (g := gb426) (o := .cells #[.int .i64 0, .slice none 0 0] 25 (0, 0)) (gB (BK426.out)) hb2) (by decide))); clear BK426; clear HB; have BK426 := n0_; have HB := n1_; have HI429 := n2_; have NB429_426 := n3_; have NB426_429 := n4_; clear n0_ n1_ n2_ n3_ n4_; (try clear hb); (try clear hb2); (try clear hk); (try clear hi)) | ((with_reducible refine gate_callee (f := 80) rfl ?_); refine goesL_ (some 6) rfl rfl Tryd.func80 (by kernel_rfl) rfl #[.pointer (some ⟨g429, 0, none⟩), .int .i64 6] rfl mP ?_; (with_reducible refine (spec_l20Switched.calls k g429 t427 t428 6 t430 t431 t434 t437 w _ ?side1 ?side2 A3.out).mono ?_); (case side1 => repeat (first | (with_reducible first | exact HI429.out | apply IsS111.alloc | apply IsS111.drewN | apply IsS111.drew | apply IsS111.set_1 | refine IsS111.far ?_ NB429_426.out _) | exact HI429.out)); (case side2 => repeat (first | (with_reducible first | exact HB.out | apply below_alloc | apply pw_below_drewN | apply below_drew1 | refine below_set ?_ (IsS111.ge HI429.out) | refine below_set ?_ GE426.out) | exact HB.out)); rintro e w6 ⟨v432, v435, rfl, ho0, ho1, hi, hb, hk⟩; refine ⟨_, rfl, ?_⟩; have n0_ := aM (KeepBut.blk hk (g' := gb426) (o := .cells #[.int .i64 0, .slice none 0 0] 25 (0, 0)) (gB (BK426.out)) NB426_429.out (by simp)); have n1_ := aM (Kd.R_lower ho0 (below_size (bl2 HB (aM (IsS111.ge HI429.out)) GE426))); have n2_ := aM (Kd.R_lower ho1 (below_size (bl2 HB (aM (IsS111.ge HI429.out)) GE426))); have n3_ := aM (hb); have n4_ := aM (hi); clear BK426; clear HB; clear HI429; have BK426 := n0_; have HO433 := n1_; have HO436 := n2_; have HB := n3_; have HI429 := n4_; clear n0_ n1_ n2_ n3_ n4_; (try clear hb); (try clear hb2); (try clear hk); (try clear hi); (try clear ho0); (try clear ho1); have hnb7 := NB426_429.out; have hnc7 := NB429_426.out; have hcz8_0 : w6.cell? ⟨gb426, 0, none⟩ = some (.int .i64 0) := (blk_cell BK426.out 0).trans rfl; have hcz8_1 : w6.cell? ⟨gb426, 1, none⟩ = some (.slice none 0 0) := (blk_cell BK426.out 1).trans rfl; have hfz8_0 := blk_frozen BK426.out 0; have hfz8_1 := blk_frozen BK426.out 1; obtain ⟨Ao9, co9, eo9⟩ := Kd.R_slice HO433.out; subst eo9))
 refine bodyPost_ret (results_ct rfl _ _ gb426 25 #[.int .i64 t430, .slice Ao9 t431.length co9] (0, 0) _ rfl (by (with_reducible repeat (first | refine blk_drewN ?_ _ | refine blk_drew ?_ | refine blk_alloc ?_ _)); refine blk_put (cs := #[.int .i64 t430, .slice none 0 0]) ?_ 1 _ rfl; (with_reducible repeat (first | refine blk_drewN ?_ _ | refine blk_drew ?_ | refine blk_alloc ?_ _)); refine blk_put (cs := #[.int .i64 0, .slice none 0 0]) ?_ 0 _ rfl; (with_reducible repeat (first | refine blk_drewN ?_ _ | refine blk_drew ?_ | refine blk_alloc ?_ _)); exact BK426.out) Tryd.underlying25 rfl (by kernel_rfl)) rfl ?_
 exact ⟨_, _, fR, by (with_reducible repeat (first | apply Kd.R_alloc | apply Kd.R_drewN | apply Kd.R_drew)); exact Kd.R_mono (Kd.R_far (p := ⟨gb426, 1, none⟩) (Kd.R_far (p := ⟨gb426, 0, none⟩) (Kd.R_types HO433.out BK426.out (by decide)) (fun _ hk => hk.2) (.int .i64 t430)) (fun _ hk => hk.2) (.slice Ao9 t431.length co9)) (fun _ hk => trivial), by (with_reducible repeat (first | apply Kd.R_alloc | apply Kd.R_drewN | apply Kd.R_drew)); exact Kd.R_mono (Kd.R_far (p := ⟨gb426, 1, none⟩) (Kd.R_far (p := ⟨gb426, 0, none⟩) (Kd.R_types HO436.out BK426.out (by decide)) (fun _ hk => hk.2) (.int .i64 t430)) (fun _ hk => hk.2) (.slice Ao9 t431.length co9)) (fun _ hk => trivial), bl2 HB (aM (IsS111.ge HI429.out)) GE426⟩

end Go.Proofs.YtpgjgbjkfgbpaaaDoor.P
namespace Go.Proofs.YtpgjgbjkfgbpaaaDoor.P
open Go.RowKit Go.Proofs.YtpgjgbjkfgbpaaaDoorW.PrintWords Go.Proofs.YtpgjgbjkfgbpaaaDoorW.PrintLast Go.Proofs.YtpgjgbjkfgbpaaaDoorW.PrintMore
attribute [local go_sem] max2_int min2_int max_two min_two max_three min_three max_four min_four   -- for this text's walks alone
set_option linter.unusedVariables false
set_option linter.unusedSimpArgs false

/-! ### impl_linesWhere: function 81 -/
section
variable {P : Program} {ops : Array Oper} {o : Oper} {rest : List Oper} {a : Act} {Q : Exit → Act → World → Prop} {w : World}
theorem gate_value {t : Tmp} {ar : Array Operand} {ts : Array TypeId} (_ho : o.op = .call { callee := .value (.tmp t), args := ar, argTypes := ts }) (h : wpList P ops Q (o :: rest) a w) : wpList P ops Q (o :: rest) a w := h
theorem goesV_ (N : Option Tmp) (hd : o.dst = N) (hg : o.guard = none) {c : FuncId} {fn : Func} {t : Operand} {ar : Array Operand} {ts : Array TypeId} {caps : Array Value} (hf : P.funcs[c]? = some fn) (hname : (fn.name == "runtime.NumGoroutine") = false) (hb : fn.body.isSome = true) (args : Array Value)
  (hop : o.op = .call { callee := .value t, args := ar, argTypes := ts }) (ht : a.eval t = .func (.func c) #[] caps) (hargs : ar.map a.eval = args)
  (h : Calls P c (args ++ caps) w fun e w' => ∃ v, e = .returned v ∧ wpList P ops Q rest (a.put N v) w') : wpList P ops Q (o :: rest) a w := by
 refine wpList_plain hg fun K hK => ?_
 have he := enters_ hf hname hb (args ++ caps) w
 have hrun : (execOp a.eval o).run P w = .ok (.enter c (args ++ caps)) w := by
  unfold execOp
  simp [hop, resolve, Deferred.ofValue, invoke, ht, hargs, he]
 unfold Oper.wp
 rw [hrun, Oper.upon_enter]
 refine h.mono fun e w'' hh => ?_
 obtain ⟨v, rfl, hk⟩ := hh
 rw [hd]
 exact hK _ _ hk
end
def impl_linesWhere.l {σ : Type} (p : σ → Int → Option (Bool × σ)) : Nat → σ → List Int → Int → Int → Option (List Int × σ)
 | 0, _, _, _, _ => none
 | k + 1, s, x5, n, x10 => if x10 < n then ((p s x10).bind fun bs => (if bs.1 = true then (if x5.length < 17592186044416 then (impl_linesWhere.l p k bs.2 (x5 ++ [x10]) n (wrap64 (x10 + 1))) else none) else (impl_linesWhere.l p k bs.2 x5 n (wrap64 (x10 + 1))))) else some (x5, s)
theorem impl_linesWhere.mono {σ : Type} {p q : σ → Int → Option (Bool × σ)} (h : ∀ s i, LeO (p s i) (q s i)) : ∀ k s x n i, LeO (impl_linesWhere.l p k s x n i) (impl_linesWhere.l q (k + 1) s x n i)
 | 0, _, _, _, _ => LeO.none _
 | k + 1, s, x, n, i => by
  rw [impl_linesWhere.l, impl_linesWhere.l.eq_2 q]
  refine LeO.ite ?_ (LeO.refl _)
  refine LeO.bind (h s i) (fun bs => ?_)
  exact LeO.ite (LeO.ite (impl_linesWhere.mono h k _ _ _ _) (LeO.none _)) (impl_linesWhere.mono h k _ _ _ _)
set_option maxHeartbeats 8000000 in
set_option maxRecDepth 100000 in
theorem impl_linesWhere.calls {σ : Type} (p : σ → Int → Option (Bool × σ)) (Inv : σ → World → Prop) (c : FuncId) (fn : Func) (caps : Array Value) (k : Nat) (a0 : Int) (A0 : Option Addr) (n0 c0 : Nat) (s s' : σ) (r : List Int) (w : World)
  (hf : Tryd.prog.funcs[c]? = some fn) (hname : (fn.name == "runtime.NumGoroutine") = false) (hb : fn.body.isSome = true) (hI : Inv s w)
  (hst : ∀ s W W', Inv s W → Below w.heap.size W W' → Inv s W')
  (hcl : ∀ s s' x b W, w.heap.size ≤ W.heap.size → Inv s W → p s x = some (b, s') → Calls Tryd.prog c (#[.int .i64 x] ++ caps) W fun e W' => e = .returned (.bool b) ∧ Inv s' W' ∧ W.heap.size ≤ W'.heap.size ∧ ∀ i, w.heap.size ≤ i → i < W.heap.size → W'.heap[i]? = W.heap[i]?)
  (h : impl_linesWhere.l p k s [] (n0 : Int) 0 = some (r, s')) :
  Calls Tryd.prog 81 #[.agg #[.int .i64 a0, .slice A0 n0 c0], .func (.func c) #[] caps] w fun e w' => ∃ v, e = .returned v ∧ Kd.R (Kd.int .i64) 3 w' w.heap.size (fun _ => True) v r ∧ Inv s' w' := by
 have HI := Aside0.mk hI
 have HST := Aside0.mk hst
 have HCL := Aside0.mk hcl
 have HF := Aside0.mk hf
 have HN := Aside0.mk hname
 have HBO := Aside0.mk hb
 clear hI hst hcl hf hname hb
 have HB := aM (Below.refl w.heap.size w)
 have H' := Aside0.mk h
 clear h
 go_enter Tryd.func81, Tryd.ntmps81
 go_wp2_with (first | ((with_reducible refine gate_dst (N := 2) rfl ?_); refine box_event ?hg (N := 2) ?hd (cs := #[.int .i64 a0, .slice A0 n0 c0]) (t := 25) ?hr ?_; (case hd => rfl); (case hg => rfl); (case hr => exact hR); intro gb hg w5 hbox hb; have n0_ := aM (below_step (bl0 HB) hb); have n1_ := aM (HST.out _ _ _ HI.out hb); clear HB HI; have HB := n0_; have HI := n1_; clear n0_ n1_; have hcz0 : w5.cell? ⟨gb, 0, none⟩ = some (.int .i64 a0) := (blk_cell hbox 0).trans rfl; have hcz1 : w5.cell? ⟨gb, 1, none⟩ = some (.slice A0 n0 c0) := (blk_cell hbox 1).trans rfl; have hfz0 := blk_frozen hbox 0; have hfz1 := blk_frozen hbox 1; clear hb hbox hg))
 go_loopg [5, 10] k (fun kq v5 v10 W => ∃ (s1 : σ) (x5 : List Int) (x10 : Int), v10 = .int .i64 x10 ∧ Aside0 (impl_linesWhere.l p kq s1 x5 (n0 : Int) x10 = some (r, s')) ∧ Aside0 (kq ≤ k) ∧ Aside0 (Kd.R (Kd.int .i64) 3 W w.heap.size (fun _ => True) v5 x5) ∧ Aside0 (Inv s1 W) ∧ Aside0 (w.heap.size ≤ W.heap.size))
 case atStart => exact ⟨s, [], 0, rfl, H', ⟨Nat.le_refl _⟩, ⟨Kd.R_nil _ _ _ _ _⟩, ⟨HI.out⟩, ⟨HB.out.size⟩⟩
 case round =>
  clear H' HI HB
  try clear hcz0
  try clear hcz1
  try clear hfz0
  try clear hfz1
  obtain ⟨s1, x5, x10, rfl, HA, HK1, HO, HI, HB⟩ := hrel
  cases gk with
  | zero => exact absurd HA.out (by simp [impl_linesWhere.l])
  | succ k1 =>
   have H := HA.out
   clear HA
   simp only [impl_linesWhere.l] at H
   by_cases c4 : x10 < (n0 : Int)
   rotate_left
   ·
    rw [if_neg c4] at H
    have c4b : decide (x10 < (n0 : Int)) = false := decide_eq_false c4
    clear c4
    simp only [Option.some.injEq, Prod.mk.injEq] at H
    obtain ⟨rfl, rfl⟩ := H
    go_wp2
    go_ret
    exact ⟨_, rfl, HO.out, HI.out⟩
   rw [if_pos c4] at H
   have c4b : decide (x10 < (n0 : Int)) = true := decide_eq_true c4
   clear c4
   replace H := Option.bind_eq_some_iff.mp H
   obtain ⟨⟨b, s2⟩, A50, H⟩ := H
   have A5 := Aside0.mk A50
   clear A50
   by_cases c6 : b = true
   rotate_left
   ·
    replace c6 := Bool.eq_false_iff.mpr c6
    subst c6
    replace H : (impl_linesWhere.l p k1 s2 x5 (n0 : Int) (wrap64 (x10 + 1))) = some (r, s') := H
    have H' := Aside0.mk H
    clear H
    go_wp2_with (first | ((with_reducible refine gate_value (t := 13) rfl ?_); refine goesV_ (some 15) rfl rfl HF.out HN.out HBO.out #[.int .i64 x10] rfl rfl (by (try simp only [List.map_toArray, List.map_cons, List.map_nil]); first | done | rfl) ?_; refine (HCL.out _ _ _ _ _ ?g1 ?g2 A5.out).mono ?_; (case g1 => exact HB.out); (case g2 => exact HI.out); rintro e w8 ⟨rfl, hi, hb, hk⟩; refine ⟨_, rfl, ?_⟩; have n0_ := aM (Kd.R_mono (Kd.R_step (Kd.R_bound HO.out) (fun k_ hk_ hlt => hk k_ hk_.2.1 hlt)) (fun _ _ => trivial)); have n1_ := Aside0.mk hi; have n2_ := aM (Nat.le_trans HB.out hb); clear HO HI HB hi hb hk; have HO := n0_; have HI := n1_; have HB := n2_; clear n0_ n1_ n2_))
    go_roundg k1
    case measure => have := HK1.out; omega
    case rel => exact ⟨s2, x5, wrap64 (x10 + 1), rfl, H', ⟨by have := HK1.out; omega⟩, HO, HI, HB⟩
   subst c6
   replace H : (if x5.length < 17592186044416 then (impl_linesWhere.l p k1 s2 (x5 ++ [x10]) (n0 : Int) (wrap64 (x10 + 1))) else none) = some (r, s') := H
   by_cases c7 : x5.length < 17592186044416
   rotate_left
   ·
    rw [if_neg c7] at H
    exact absurd H (by simp)
   rw [if_pos c7] at H
   have LM := Aside0.mk c7
   clear c7
   have H' := Aside0.mk H
   clear H
   go_wp2_with (first | ((with_reducible refine gate_value (t := 13) rfl ?_); refine goesV_ (some 15) rfl rfl HF.out HN.out HBO.out #[.int .i64 x10] rfl rfl (by (try simp only [List.map_toArray, List.map_cons, List.map_nil]); first | done | rfl) ?_; refine (HCL.out _ _ _ _ _ ?g1 ?g2 A5.out).mono ?_; (case g1 => exact HB.out); (case g2 => exact HI.out); rintro e w8 ⟨rfl, hi, hb, hk⟩; refine ⟨_, rfl, ?_⟩; have n0_ := aM (Kd.R_mono (Kd.R_step (Kd.R_bound HO.out) (fun k_ hk_ hlt => hk k_ hk_.2.1 hlt)) (fun _ _ => trivial)); have n1_ := Aside0.mk hi; have n2_ := aM (Nat.le_trans HB.out hb); clear HO HI HB hi hb hk; have HO := n0_; have HI := n1_; have HB := n2_; clear n0_ n1_ n2_) | ((with_reducible refine gate_builtin (b := .append) (xs := #[.tmp 16, .tmp 18]) rfl ?_); at_builtin; refine Kd.R_append (Kd.int .i64) (w0 := w8) w.heap.size rfl (.tmp 16) (.tmp 18) 37 3 (.int .i64 0) 8 rfl Tryd.underlying37 info3 rfl (by decide) (by omega) u5 x5 x10 [.int .i64 x10] (fun _ => True) (fun _ => False) rfl rfl ?aP (fun _ hk => hk.elim) ?aF ?aO ?aB ?aS ?aL ?_; (case aP => exact rfl); (case aF => exact fun _ _ => trivial); (case aO => exact (gR (HO.out))); (case aB => exact (by repeat (first | (with_reducible first | exact Below.refl _ _ | apply below_alloc | apply pw_below_drewN | apply below_drew1) | exact Below.refl _ _))); (case aS => exact HB.out); (case aL => have := LM.out; omega); intro v9 w9 ho hb hg hat; have n1_ := aM (HST.out _ _ _ HI.out hb); have n2_ := aM (Nat.le_trans HB.out hb.size); clear HO HI HB; have HO := Aside0.mk ho; have HI := n1_; have HB := n2_; clear n1_ n2_ ho hb hg hat))
   go_roundg k1
   case measure => have := HK1.out; omega
   case rel => exact ⟨s2, x5 ++ [x10], wrap64 (x10 + 1), rfl, H', ⟨by have := HK1.out; omega⟩, HO, HI, HB⟩
theorem leO_map {α β : Type} {a b : Option α} (f : α → β) (h : LeO a b) : LeO (a.map f) (b.map f) := fun r hr => by
 obtain ⟨x, hx, rfl⟩ := Option.map_eq_some_iff.mp hr
 rw [h x hx]; rfl


end Go.Proofs.YtpgjgbjkfgbpaaaDoor.P
namespace Go.Proofs.YtpgjgbjkfgbpaaaDoor.P
open Go.RowKit Go.Proofs.YtpgjgbjkfgbpaaaDoorW.PrintWords Go.Proofs.YtpgjgbjkfgbpaaaDoorW.PrintLast Go.Proofs.YtpgjgbjkfgbpaaaDoorW.PrintMore
attribute [local go_sem] max2_int min2_int max_two min_two max_three min_three max_four min_four   -- for this text's walks alone
set_option linter.unusedVariables false
set_option linter.unusedSimpArgs false

/-! ### impl_CycleLines: function 21 -/
def impl_CycleLines_1.f (k : Nat) (x : Int) (a0 : Int) (l0 : List S79) (l1 : List Bool) : Option Bool := if 0 ≤ x then (if x < (l1.length : Int) then (if rdOf false l1 x = true then ((impl_onCycle.f k a0 l0 l1 x).map fun b => b) else some false) else none) else none
set_option maxHeartbeats 8000000 in
set_option maxRecDepth 100000 in
theorem impl_CycleLines_1.calls (k : Nat) (gb gu : Nat) (x : Int) (a0_0 : Int) (A0_1 : Option Addr) (c0_1 : Nat) (l0_1 : List S79) (A1 : Option Addr) (c1 : Nat) (l1 : List Bool) (r : Bool) (w : World) (hn : w.heap[gb]? = some (.cells #[.int .i64 a0_0, .slice A0_1 l0_1.length c0_1] 25 (0, 0))) (ho : w.heap[gu]? = some (.cells #[.slice A1 l1.length c1] 26 (0, 0)))
  (hr0_1 : Kd.C k79 w A0_1 l0_1.length l0_1) (hc0_1 : l0_1.length ≤ c0_1) (hr1 : Kd.C Kd.bool w A1 l1.length l1) (hc1 : l1.length ≤ c1) (h : impl_CycleLines_1.f k x a0_0 l0_1 l1 = some r) :
  Calls Tryd.prog 82 #[.int .i64 x, .pointer (some ⟨gu, 0, none⟩), .pointer (some ⟨gb, 0, none⟩)] w fun e w' => e = .returned (.bool r) ∧ Below w.heap.size w w' := by
 unfold impl_CycleLines_1.f at h
 by_cases p : 0 ≤ x
 rotate_left
 ·
  rw [if_neg p] at h
  exact absurd h (by simp)
 rw [if_pos p] at h
 by_cases q : x < (l1.length : Int)
 rotate_left
 ·
  rw [if_neg q] at h
  exact absurd h (by simp)
 rw [if_pos q] at h
 obtain ⟨ad, eA, hx⟩ := Kd.at_bool hr1 x p q
 subst eA
 have HR0 := Aside0.mk hr0_1
 have HC0 := Aside0.mk hc0_1
 have HR1 := Aside0.mk hr1
 have HC1 := Aside0.mk hc1
 clear hr0_1 hc0_1 hr1 hc1
 have hcz0 : w.cell? ⟨gb, 0, none⟩ = some (.int .i64 a0_0) := (blk_cell hn 0).trans rfl
 have hcz1 : w.cell? ⟨gb, 1, none⟩ = some (.slice A0_1 l0_1.length c0_1) := (blk_cell hn 1).trans rfl
 have hco0 : w.cell? ⟨gu, 0, none⟩ = some (.slice (some ad) l1.length c1) := (blk_cell ho 0).trans rfl
 clear hn ho
 replace p := eq_true p
 replace q := eq_true q
 by_cases b : rdOf false l1 x = true
 rotate_left
 ·
  rw [if_neg b] at h
  rw [Bool.eq_false_iff.mpr b] at hx
  clear b
  obtain rfl := Option.some.inj h
  clear h
  go_enter Tryd.func82, Tryd.ntmps82
  go_wp2
  go_ret
  exact ⟨rfl, Below.refl _ _⟩
 rw [if_pos b] at h
 rw [b] at hx
 clear b
 obtain ⟨b, A50, h⟩ := Option.map_eq_some_iff.mp h
 subst h
 have A5 := Aside0.mk A50
 clear A50
 go_enter Tryd.func82, Tryd.ntmps82
 go_wp2_with (first | (go_at_call 83; (with_reducible refine (impl_onCycle.calls k a0_0 _ _ l0_1 _ _ l1 x b _ ?side1 HC0.out ?side2 HC1.out A5.out).mono ?_); (case side1 => exact HR0.out); (case side2 => exact HR1.out); rintro e w8 ⟨rfl, hb⟩; have HB := Aside0.mk hb; clear hb hx hcz0 hcz1 hco0 p q))
 go_ret
 exact ⟨rfl, HB.out⟩
def impl_CycleLines.f (k : Nat) (a0_0 : Int) (l0_1 : List S79) (l1 : List Bool) : Option (List Int) := (impl_StateValid.f k a0_0 l0_1 l1).bind fun t => (if t = true then ((impl_linesWhere.l (fun (_ : Unit) i => (impl_CycleLines_1.f k i a0_0 l0_1 l1).map fun b => (b, ())) k () [] (l0_1.length : Int) 0).map fun x => x.1) else some [])
theorem impl_CycleLines.mono : ∀ a0 a1 a2 k, LeO (impl_CycleLines.f k a0 a1 a2) (impl_CycleLines.f (k + 1) a0 a1 a2) := by
 intro a0 a1 a2 k
 unfold impl_CycleLines.f
 refine LeO.bind (impl_StateValid.mono _ _ _ _) (fun t => LeO.ite ?_ (LeO.refl _))
 refine leO_map _ (impl_linesWhere.mono (fun s i => leO_map _ ?_) k _ _ _ _)
 unfold impl_CycleLines_1.f
 exact LeO.ite (LeO.ite (LeO.ite (leO_map _ (impl_onCycle.mono _ _ _ _ _)) (LeO.refl _)) (LeO.refl _)) (LeO.refl _)
set_option maxHeartbeats 8000000 in
set_option maxRecDepth 100000 in
theorem impl_CycleLines.calls (k : Nat) (a0_0 : Int) (A0_1 : Option Addr) (c0_1 : Nat) (l0_1 : List S79) (A1 : Option Addr) (c1 : Nat) (l1 : List Bool) (r : List Int) (w : World) (hr0_1 : Kd.C k79 w A0_1 l0_1.length l0_1) (hc0_1 : l0_1.length ≤ c0_1) (hr1 : Kd.C Kd.bool w A1 l1.length l1) (hc1 : l1.length ≤ c1) (h : impl_CycleLines.f k a0_0 l0_1 l1 = some r) :
  Calls Tryd.prog 21 #[.agg #[.int .i64 a0_0, .slice A0_1 l0_1.length c0_1], .slice A1 l1.length c1] w fun e w' => ∃ v0_ : Value, e = .returned (v0_) ∧ Kd.R (Kd.int .i64) 3 w' w.heap.size (fun _ => True) v0_ r ∧ Below w.heap.size w w' := by
 have HR0 := Aside0.mk hr0_1
 have HC0 := Aside0.mk hc0_1
 have HR1 := Aside0.mk hr1
 have HC1 := Aside0.mk hc1
 clear hr0_1 hc0_1 hr1 hc1
 obtain ⟨t, A50, H⟩ := Option.bind_eq_some_iff.mp h
 have A5 := Aside0.mk A50
 clear A50 h
 have HB := aM (Below.refl w.heap.size w)
 by_cases ht : t = true
 rotate_left
 ·
  replace ht := Bool.eq_false_iff.mpr ht
  subst ht
  rw [if_neg (by decide)] at H
  obtain rfl := Option.some.inj H
  clear H
  go_enter Tryd.func21, Tryd.ntmps21
  go_wp2_with (first | ((with_reducible refine gate_dst (N := 2) rfl ?_); refine box_event ?hg (N := 2) ?hd (cs := #[.int .i64 a0_0, .slice A0_1 l0_1.length c0_1]) (t := 25) ?hr ?_; (case hd => rfl); (case hg => rfl); (case hr => exact hR); intro gb hg w5 hbox hb; have n0_ := aM (below_step HB.out hb); clear HB; have HB := n0_; have BN := Aside0.mk hbox; clear n0_ hb hbox hg) | ((with_reducible refine gate_dst (N := 3) rfl ?_); refine box_event ?hg (N := 3) ?hd (cs := #[.slice A1 l1.length c1]) (t := 26) ?hr ?_; (case hd => rfl); (case hg => rfl); (case hr => exact hR); intro gu hg w6 hbox hb; have n0_ := aM (below_step HB.out hb); have n1_ := aM (blk_below BN.out hb); clear HB BN; have HB := n0_; have BN := n1_; have BO := Aside0.mk hbox; clear n0_ n1_ hb hbox hg; have hcz0 : w6.cell? ⟨gb, 0, none⟩ = some (.int .i64 a0_0) := (blk_cell BN.out 0).trans rfl; have hcz1 : w6.cell? ⟨gb, 1, none⟩ = some (.slice A0_1 l0_1.length c0_1) := (blk_cell BN.out 1).trans rfl; have hco0 : w6.cell? ⟨gu, 0, none⟩ = some (.slice A1 l1.length c1) := (blk_cell BO.out 0).trans rfl) | ((with_reducible refine gate_callee (f := 77) rfl ?_); refine goesL_ (some 7) rfl rfl Tryd.func77 (by kernel_rfl) rfl #[.agg #[.int .i64 a0_0, .slice A0_1 l0_1.length c0_1], .slice A1 l1.length c1] rfl (by (try simp only [List.map_toArray, List.map_cons, List.map_nil]); first | done | rfl) ?_; (with_reducible refine (impl_StateValid.calls k a0_0 _ _ l0_1 _ _ l1 false _ ?side1 HC0.out ?side2 HC1.out A5.out).mono ?_); (case side1 => exact Kd.C_below HR0.out HB.out); (case side2 => exact Kd.C_below HR1.out HB.out); rintro e w7 ⟨rfl, hb⟩; refine ⟨_, rfl, ?_⟩; have n0_ := aM (below_step HB.out hb); have n1_ := aM (blk_below BN.out hb); have n2_ := aM (blk_below BO.out hb); clear HB BN BO hcz0 hcz1 hco0; have HB := n0_; have BN := n1_; have BO := n2_; clear n0_ n1_ n2_ hb; have hcz0 : w7.cell? ⟨gb, 0, none⟩ = some (.int .i64 a0_0) := (blk_cell BN.out 0).trans rfl; have hcz1 : w7.cell? ⟨gb, 1, none⟩ = some (.slice A0_1 l0_1.length c0_1) := (blk_cell BN.out 1).trans rfl; have hco0 : w7.cell? ⟨gu, 0, none⟩ = some (.slice A1 l1.length c1) := (blk_cell BO.out 0).trans rfl))
  go_ret
  exact ⟨_, rfl, Kd.R_nil _ _ _ _ _, HB.out⟩
 subst ht
 rw [if_pos rfl] at H
 obtain ⟨⟨r', u⟩, A60, H⟩ := Option.map_eq_some_iff.mp H
 subst H
 have A6 := Aside0.mk A60
 clear A60
 go_enter Tryd.func21, Tryd.ntmps21
 go_wp2_with (first | ((with_reducible refine gate_dst (N := 2) rfl ?_); refine box_event ?hg (N := 2) ?hd (cs := #[.int .i64 a0_0, .slice A0_1 l0_1.length c0_1]) (t := 25) ?hr ?_; (case hd => rfl); (case hg => rfl); (case hr => exact hR); intro gb hg w5 hbox hb; have n0_ := aM (below_step HB.out hb); clear HB; have HB := n0_; have BN := Aside0.mk hbox; clear n0_ hb hbox hg) | ((with_reducible refine gate_dst (N := 3) rfl ?_); refine box_event ?hg (N := 3) ?hd (cs := #[.slice A1 l1.length c1]) (t := 26) ?hr ?_; (case hd => rfl); (case hg => rfl); (case hr => exact hR); intro gu hg w6 hbox hb; have n0_ := aM (below_step HB.out hb); have n1_ := aM (blk_below BN.out hb); clear HB BN; have HB := n0_; have BN := n1_; have BO := Aside0.mk hbox; clear n0_ n1_ hb hbox hg; have hcz0 : w6.cell? ⟨gb, 0, none⟩ = some (.int .i64 a0_0) := (blk_cell BN.out 0).trans rfl; have hcz1 : w6.cell? ⟨gb, 1, none⟩ = some (.slice A0_1 l0_1.length c0_1) := (blk_cell BN.out 1).trans rfl; have hco0 : w6.cell? ⟨gu, 0, none⟩ = some (.slice A1 l1.length c1) := (blk_cell BO.out 0).trans rfl) | ((with_reducible refine gate_callee (f := 77) rfl ?_); refine goesL_ (some 7) rfl rfl Tryd.func77 (by kernel_rfl) rfl #[.agg #[.int .i64 a0_0, .slice A0_1 l0_1.length c0_1], .slice A1 l1.length c1] rfl (by (try simp only [List.map_toArray, List.map_cons, List.map_nil]); first | done | rfl) ?_; (with_reducible refine (impl_StateValid.calls k a0_0 _ _ l0_1 _ _ l1 true _ ?side1 HC0.out ?side2 HC1.out A5.out).mono ?_); (case side1 => exact Kd.C_below HR0.out HB.out); (case side2 => exact Kd.C_below HR1.out HB.out); rintro e w7 ⟨rfl, hb⟩; refine ⟨_, rfl, ?_⟩; have n0_ := aM (below_step HB.out hb); have n1_ := aM (blk_below BN.out hb); have n2_ := aM (blk_below BO.out hb); clear HB BN BO hcz0 hcz1 hco0; have HB := n0_; have BN := n1_; have BO := n2_; clear n0_ n1_ n2_ hb; have hcz0 : w7.cell? ⟨gb, 0, none⟩ = some (.int .i64 a0_0) := (blk_cell BN.out 0).trans rfl; have hcz1 : w7.cell? ⟨gb, 1, none⟩ = some (.slice A0_1 l0_1.length c0_1) := (blk_cell BN.out 1).trans rfl; have hco0 : w7.cell? ⟨gu, 0, none⟩ = some (.slice A1 l1.length c1) := (blk_cell BO.out 0).trans rfl) | ((with_reducible refine gate_callee (f := 81) rfl ?_); refine goesL_ (some 11) rfl rfl Tryd.func81 (by kernel_rfl) rfl #[.agg #[.int .i64 a0_0, .slice A0_1 l0_1.length c0_1], .func (.func 82) #[] #[.pointer (some ⟨gu, 0, none⟩), .pointer (some ⟨gb, 0, none⟩)]] rfl (by (try simp only [List.map_toArray, List.map_cons, List.map_nil]); first | done | rfl) ?_; refine (impl_linesWhere.calls (fun (_ : Unit) i => (impl_CycleLines_1.f k i a0_0 l0_1 l1).map fun b => (b, ())) (fun _ W => W.heap[gb]? = some (.cells #[.int .i64 a0_0, .slice A0_1 l0_1.length c0_1] 25 (0, 0)) ∧ W.heap[gu]? = some (.cells #[.slice A1 l1.length c1] 26 (0, 0)) ∧ Below w.heap.size w W) 82 _ #[.pointer (some ⟨gu, 0, none⟩), .pointer (some ⟨gb, 0, none⟩)] k a0_0 A0_1 l0_1.length c0_1 () u r' _ Tryd.func82 (by kernel_rfl) rfl ⟨BN.out, BO.out, HB.out⟩ ?hst ?hcl A6.out).mono ?_; (case hst => exact fun _ W W' hI hb => ⟨(hb.block _ (blk_lt BN.out)).trans hI.1, (hb.block _ (blk_lt BO.out)).trans hI.2.1, hI.2.2.trans (hb.mono HB.out.size)⟩); (case hcl => intro s s' x b W hle hI hp; obtain ⟨b', hb', e_⟩ := Option.map_eq_some_iff.mp hp; obtain ⟨rfl, rfl⟩ := Prod.mk.injEq _ _ _ _ ▸ e_; exact (impl_CycleLines_1.calls k gb gu x a0_0 _ _ l0_1 _ _ l1 _ W hI.1 hI.2.1 (Kd.C_below HR0.out hI.2.2) HC0.out (Kd.C_below HR1.out hI.2.2) HC1.out hb').mono (fun e W' hh => ⟨hh.1, ⟨blk_below hI.1 hh.2, blk_below hI.2.1 hh.2, below_step hI.2.2 hh.2⟩, hh.2.size, fun i _ hi => hh.2.block i hi⟩)); rintro e w9 ⟨v, rfl, hr, hi⟩; refine ⟨_, rfl, ?_⟩; have HO := aM (Kd.R_lower hr HB.out.size); clear HB; have HB := Aside0.mk hi.2.2; clear hi hr BN BO))
 go_ret
 exact ⟨_, rfl, HO.out, HB.out⟩




end Go.Proofs.YtpgjgbjkfgbpaaaDoor.P
namespace Go.Proofs.YtpgjgbjkfgbpaaaDoor.P
open Go.RowKit Go.Proofs.YtpgjgbjkfgbpaaaDoorW.PrintWords Go.Proofs.YtpgjgbjkfgbpaaaDoorW.PrintLast Go.Proofs.YtpgjgbjkfgbpaaaDoorW.PrintMore
attribute [local go_sem] max2_int min2_int max_two min_two max_three min_three max_four min_four   -- for this text's walks alone
set_option linter.unusedVariables false
set_option linter.unusedSimpArgs false

/-! ### laws_sameInts: function 22 -/
def laws_sameInts.l0 : Nat → List Int → List Int → Int → Option (Bool)
 | 0, _, _, _ => none
 | k + 1, x0, x1, x5 => if x5 < (x0.length : Int) then (if 0 ≤ x5 then (if x5 < (x1.length : Int) then (if (rd x0 x5) = (rd x1 x5) then (laws_sameInts.l0 k x0 x1 (wrap64 (x5 + 1))) else (some false)) else (none)) else (none)) else (some true)
def laws_sameInts.f (k : Nat) (l0 : List Int) (l1 : List Int) : Option (Bool) := if (l0.length : Int) = (l1.length : Int) then (laws_sameInts.l0 k l0 l1 0) else (some false)
theorem laws_sameInts.mono_l : ∀ k, (∀ y0 y1 y2, LeO (laws_sameInts.l0 k y0 y1 y2) (laws_sameInts.l0 (k + 1) y0 y1 y2))
 | 0 => fun _ _ _ r h => by simp [laws_sameInts.l0] at h
 | k + 1 => by
  have ih0 := laws_sameInts.mono_l k
  ·
   intro y0 y1 y2
   unfold laws_sameInts.l0
   repeat' first
   | (with_reducible exact ih0 _ _ _)
   | (with_reducible exact LeO.refl _)
   | (with_reducible exact LeO.none _)
   | (with_reducible refine LeO.ite ?_ ?_)
   | (with_reducible refine LeO.bind ?_ (fun _ => ?_))
   | exact ih0 _ _ _
   | exact LeO.none _
   | refine LeO.ite ?_ ?_
   | refine LeO.bind ?_ (fun _ => ?_)
theorem laws_sameInts.mono : ∀ a0 a1 k, LeO (laws_sameInts.f k a0 a1) (laws_sameInts.f (k + 1) a0 a1) := by
 intro a0 a1 k
 have ih0 := laws_sameInts.mono_l k
 unfold laws_sameInts.f
 repeat' first
   | (with_reducible exact ih0 _ _ _)
   | (with_reducible exact LeO.refl _)
   | (with_reducible exact LeO.none _)
   | (with_reducible refine LeO.ite ?_ ?_)
   | (with_reducible refine LeO.bind ?_ (fun _ => ?_))
   | exact ih0 _ _ _
   | exact LeO.none _
   | refine LeO.ite ?_ ?_
   | refine LeO.bind ?_ (fun _ => ?_)
set_option maxHeartbeats 8000000 in
set_option maxRecDepth 100000 in
theorem laws_sameInts.calls (k : Nat) (A0 : Option Addr) (c0 : Nat) (l0 : List Int) (A1 : Option Addr) (c1 : Nat) (l1 : List Int) (r : Bool) (w : World) (hr0 : Kd.C (Kd.int .i64) w A0 l0.length l0) (hc0 : l0.length ≤ c0) (hr1 : Kd.C (Kd.int .i64) w A1 l1.length l1) (hc1 : l1.length ≤ c1) (h : laws_sameInts.f k l0 l1 = some r) :
  Calls Tryd.prog 22 #[.slice A0 l0.length c0, .slice A1 l1.length c1] w fun e w' => e = .returned (.bool r) ∧ Drawn0 w w' := by
 have HR0 := Aside0.mk hr0
 have HC0 := Aside0.mk hc0
 clear hr0 hc0
 have HR1 := Aside0.mk hr1
 have HC1 := Aside0.mk hc1
 clear hr1 hc1
 have H : (if (l0.length : Int) = (l1.length : Int) then (laws_sameInts.l0 k l0 l1 0) else (some false)) = some r := h
 clear h
 by_cases c3 : (l0.length : Int) = (l1.length : Int)
 rotate_left
 ·
  rw [if_neg c3] at H
  have c3b0 : ((l0.length : Int) == (l1.length : Int)) = false := beq_eq_false_iff_ne.mpr c3
  have c3b1 : ((l0.length : Int) != (l1.length : Int)) = true := bne_iff_ne.mpr c3
  have c3b2 : (l0.length == l1.length) = false := by first | simpa using c3 | (simp at c3 ⊢; omega)
  obtain rfl := Option.some.inj H
  go_enter Tryd.func22, Tryd.ntmps22
  go_wp2
  repeat (go_quiet (fail); try go_wp2)
  go_ret
  exact ⟨by first | rfl | (simp; done) | (simp [*]; done), by repeat (first | exact Drawn0.refl _ | apply Drawn0.step)⟩
 rw [if_pos c3] at H
 have c3b0 : ((l0.length : Int) == (l1.length : Int)) = true := beq_iff_eq.mpr c3
 have c3b1 : ((l0.length : Int) != (l1.length : Int)) = false := bne_eq_false_iff_eq.mpr c3
 have c3b2 : (l0.length == l1.length) = true := by first | simpa using c3 | (simp at c3 ⊢; omega)
 clear c3
 have H' := Aside0.mk H
 clear H
 go_enter Tryd.func22, Tryd.ntmps22
 go_wp2
 repeat (go_quiet (fail); try go_wp2)
 go_loopg [5] k (fun kq v5 w' => ∃ (x5_1 : Int), v5 = .int .i64 x5_1 ∧ Aside0 (laws_sameInts.l0 kq l0 l1 x5_1 = some r) ∧ Aside0 (kq ≤ k) ∧ Drawn0 w w')
 case atStart => exact ⟨(0), fS, H', ⟨Nat.le_refl _⟩, by repeat (first | exact Drawn0.refl _ | apply Drawn0.step)⟩
 case round =>
  clear H'
  try clear c1
  try clear c2
  try clear p2
  try clear c3
  try clear c3b0
  try clear c3b1
  try clear c3b2
  obtain ⟨x5_1, rfl, HA, HK1, ⟨m1, rfl⟩⟩ := hrel
  cases gk with
  | zero => exact absurd HA.out (by simp [laws_sameInts.l0])
  | succ k1 =>
   have H := HA.out
   clear HA
   simp only [laws_sameInts.l0] at H
   by_cases c4 : x5_1 < (l0.length : Int)
   rotate_left
   ·
    rw [if_neg c4] at H
    have c4b0 : decide (x5_1 < (l0.length : Int)) = false := decide_eq_false c4
    clear c4
    obtain rfl := Option.some.inj H
    go_wp2
    repeat (go_quiet (fail); try go_wp2)
    go_ret
    exact ⟨by first | rfl | (simp; done) | (simp [*]; done), by repeat (first | exact Drawn0.refl _ | apply Drawn0.step)⟩
   rw [if_pos c4] at H
   have c4b0 : decide (x5_1 < (l0.length : Int)) = true := decide_eq_true c4
   clear c4
   by_cases c5 : 0 ≤ x5_1
   rotate_left
   ·
    rw [if_neg c5] at H
    exact absurd H (by simp)
   rw [if_pos c5] at H
   have c5b0 : decide (0 ≤ x5_1) = true := decide_eq_true c5
   clear c5
   by_cases c6 : x5_1 < (l1.length : Int)
   rotate_left
   ·
    rw [if_neg c6] at H
    exact absurd H (by simp)
   rw [if_pos c6] at H
   have c6b0 : decide (x5_1 < (l1.length : Int)) = true := decide_eq_true c6
   clear c6
   by_cases c7 : (rd l0 x5_1) = (rd l1 x5_1)
   rotate_left
   ·
    rw [if_neg c7] at H
    have c7b0 : ((rd l0 x5_1) == (rd l1 x5_1)) = false := beq_eq_false_iff_ne.mpr c7
    have c7b1 : ((rd l0 x5_1) != (rd l1 x5_1)) = true := bne_iff_ne.mpr c7
    obtain rfl := Option.some.inj H
    have p438 : 0 ≤ (x5_1 : Int) := oD
    have q438 : x5_1 < (l0.length : Int) := oD
    obtain ⟨ad438, e438, hx438_0⟩ := Kd.at_int HR0.out x5_1 p438 q438
    cases e438
    replace p438 := eq_true p438
    replace q438 := eq_true q438
    have p439 : 0 ≤ (x5_1 : Int) := oD
    have q439 : x5_1 < (l1.length : Int) := oD
    obtain ⟨ad439, e439, hx439_0⟩ := Kd.at_int HR1.out x5_1 p439 q439
    cases e439
    replace p439 := eq_true p439
    replace q439 := eq_true q439
    go_wp2
    repeat (go_quiet (fail); try go_wp2)
    go_ret
    exact ⟨by first | rfl | (simp; done) | (simp [*]; done), by repeat (first | exact Drawn0.refl _ | apply Drawn0.step)⟩
   rw [if_pos c7] at H
   have c7b0 : ((rd l0 x5_1) == (rd l1 x5_1)) = true := beq_iff_eq.mpr c7
   have c7b1 : ((rd l0 x5_1) != (rd l1 x5_1)) = false := bne_eq_false_iff_eq.mpr c7
   clear c7
   have H' := Aside0.mk H
   clear H
   have p438 : 0 ≤ (x5_1 : Int) := oD
   have q438 : x5_1 < (l0.length : Int) := oD
   obtain ⟨ad438, e438, hx438_0⟩ := Kd.at_int HR0.out x5_1 p438 q438
   cases e438
   replace p438 := eq_true p438
   replace q438 := eq_true q438
   have p439 : 0 ≤ (x5_1 : Int) := oD
   have q439 : x5_1 < (l1.length : Int) := oD
   obtain ⟨ad439, e439, hx439_0⟩ := Kd.at_int HR1.out x5_1 p439 q439
   cases e439
   replace p439 := eq_true p439
   replace q439 := eq_true q439
   go_wp2
   repeat (go_quiet (fail); try go_wp2)
   go_roundg k1
   case measure => have := HK1.out; omega
   case rel => exact ⟨(wrap64 (x5_1 + 1)), fS, H', ⟨by have := HK1.out; omega⟩, by repeat (first | exact Drawn0.refl _ | apply Drawn0.step)⟩

end Go.Proofs.YtpgjgbjkfgbpaaaDoor.P
namespace Go.Proofs.YtpgjgbjkfgbpaaaDoor.P
open Go.RowKit Go.Proofs.YtpgjgbjkfgbpaaaDoorW.PrintWords Go.Proofs.YtpgjgbjkfgbpaaaDoorW.PrintLast Go.Proofs.YtpgjgbjkfgbpaaaDoorW.PrintMore
attribute [local go_sem] max2_int min2_int max_two min_two max_three min_three max_four min_four   -- for this text's walks alone
set_option linter.unusedVariables false
set_option linter.unusedSimpArgs false

/-! ### spec_l2Copy: function 117 -/
def spec_l2Copy.f (l0 : List Bool) : Option (List Bool) := (some (([] : List Bool) : List Bool)).bind fun y440 => (if y440.length + l0.length < 140737488355328 then (some (y440 ++ l0)) else (none))
set_option maxHeartbeats 8000000 in
set_option maxRecDepth 100000 in
theorem spec_l2Copy.calls (A0 : Option Addr) (c0 : Nat) (l0 : List Bool) (r : List Bool) (w : World) (hr0 : Kd.C Kd.bool w A0 l0.length l0) (hc0 : l0.length ≤ c0) (h : spec_l2Copy.f l0 = some r) :
  Calls Tryd.prog 117 #[.slice A0 l0.length c0] w fun e w' => ∃ v0_ : Value, e = .returned (v0_) ∧ Kd.R Kd.bool 4 w' w.heap.size (fun _ => True) v0_ r ∧ Below w.heap.size w w' := by
 have HR0 := Aside0.mk hr0
 have HC0 := Aside0.mk hc0
 clear hr0 hc0
 have HB := aM (Below.refl w.heap.size w)
 have H : ((some (([] : List Bool) : List Bool)).bind fun y440 => (if y440.length + l0.length < 140737488355328 then (some (y440 ++ l0)) else (none))) = some r := h
 clear h
 obtain ⟨y440, hy440⟩ : ∃ y_ : List Bool, y_ = (([] : List Bool)) := ⟨_, rfl⟩
 replace H : (if y440.length + l0.length < 140737488355328 then (some (y440 ++ l0)) else (none)) = some r := by first | (rw [hy440]; with_reducible exact H) | (have H2_ := (Option.bind_some _ _).symm.trans H; rw [hy440]; with_reducible exact H2_) | (have H2_ := (Option.bind_some _ _).symm.trans H; with_reducible exact H2_) | with_reducible exact H | (rw [hy440]; exact H) | exact H
 have Ny440 := Aside0.mk hy440
 clear hy440
 by_cases c2 : y440.length + l0.length < 140737488355328
 rotate_left
 ·
  rw [if_neg c2] at H
  exact absurd H (by simp)
 rw [if_pos c2] at H
 have LMc2 := Aside0.mk c2
 clear c2
 obtain ⟨y443, hy443⟩ : ∃ y_ : List Bool, y_ = (y440 ++ l0) := ⟨_, rfl⟩
 replace H : (some y443) = some r := by first | (rw [hy443]; with_reducible exact H) | (have H2_ := (Option.bind_some _ _).symm.trans H; rw [hy443]; with_reducible exact H2_) | (have H2_ := (Option.bind_some _ _).symm.trans H; with_reducible exact H2_) | with_reducible exact H | (rw [hy443]; exact H) | exact H
 have Ny443 := Aside0.mk hy443
 clear hy443
 obtain rfl := Option.some.inj H
 go_enter Tryd.func117, Tryd.ntmps117
 go_wp2_with (first | ((with_reducible refine gate_dst (N := 3) rfl ?_); refine Kd.R_lit Kd.bool _ 4 ?hg (N := 3) ?hd (xs := ([] : List Bool)) (inner := []) (ok := fun _ => True) (okp := fun _ => True) ?hr ?hp (fun _ hk => hk) trivial (Below.refl _ _) (Nat.le_refl _) (by simp) ?_; (case hd => rfl); (case hg => rfl); (case hr => exact hR); (case hp => exact (Reps.none _ _)); intro v441 w3 ho4 hb hg_ hnew_; clear hg_ hnew_; (first | rw [← Ny440.out] at ho4 | (simp only [Int.reduceToNat] at ho4; rw [← Ny440.out] at ho4)); have n0_ := aM (Kd.R_lower ho4 (below_size (bl0 HB))); have n1_ := aM (below_step (bl0 HB) hb); clear HB; have HO442 := n0_; have HB := n1_; clear n0_ n1_; clear hb ho4) | ((with_reducible refine gate_builtin (b := .append) (xs := #[.tmp 3, .tmp 4]) rfl ?_); at_builtin; refine Kd.R_append_rows Kd.bool (w0 := w) w.heap.size rfl (.tmp 3) (.tmp 4) 26 4 (.bool false) 1 rfl Tryd.underlying26 info4 rfl (by decide) (by omega) v441 y440 l0 _ _ _ (fun _ => True) (fun _ => False) rfl rfl ?aO ?aR (fun _ _ h => h) (fun _ h => h.elim) ?aF ?aB ?aS ?aL ?_; (case aR => repeat (first | exact (Kd.C_below HR0.out HB.out) | (with_reducible refine Kd.C_alloc ?_ _) | (with_reducible refine Kd.C_drewN ?_ _) | (with_reducible refine Kd.C_drew ?_))); (case aB => exact (bl0 HB)); (case aF => exact (fun _ _ => trivial)); (case aO => exact (gR (HO442.out))); (case aS => exact (below_size (bl0 HB))); (case aL => have := LMc2.out; omega); intro v444 w5 ho hb hg hat; rw [← Ny443.out] at ho; have n0_ := aM (hb); have n1_ := aM (ho); clear HB; clear HO442; have HB := n0_; have HO445 := n1_; clear n0_ n1_; clear ho hb hg hat))
 go_ret
 exact ⟨_, fR, gR (HO445.out), bl0 HB⟩

end Go.Proofs.YtpgjgbjkfgbpaaaDoor.P

/- The plain side of the law FnExactLinesAt: what the printed functions come to, in plain Lean. -/
import Derived.Test.YtcchhgpdallpmaaP0
import Derived.Test.YtcchhgpdallpmaaP7
import Derived.Test.YtcchhgpdallpmaaP16
import Derived.Test.YtcchhgpdallpmaaP17
import Derived.Test.YtcchhgpdallpmaaP18
import Derived.Test.YtcchhgpdallpmaaP26
import Derived.Test.YtcchhgpdallpmaaP27
import Derived.Test.YtcchhgpdallpmaaP28
import Derived.Test.YtcchhgpdallpmaaP30
import Derived.Test.YtcchhgpdallpmaaP31
import Derived.Test.YtcchhgpdallpmaaP32
import Derived.Test.YtcchhgpdallpmaaP33
import Derived.Test.YtcchhgpdallpmaaP34
import Derived.Test.YtcchhgpdallpmaaP35
import Derived.Test.YtcchhgpdallpmaaP36
import Derived.Test.YtcchhgpdallpmaaP58
import Derived.Test.YtcchhgpdallpmaaP59
import Derived.Test.YtcchhgpdallpmaaP60
import Derived.Test.YtcchhgpdallpmaaP61
import Derived.Test.YtcchhgpdallpmaaP62
namespace Go.Proofs.YtcchhgpdallpmaaM

def tr (s : List Bool) (k : Nat) : Bool := s.getD k false
def LeB (s t : List Bool) : Prop := s.length = t.length ∧ ∀ k, tr s k = true → tr t k = true
theorem LeB.trans {s t u : List Bool} (h : LeB s t) (k : LeB t u) : LeB s u := ⟨h.1.trans k.1, fun i hi => k.2 i (h.2 i hi)⟩
end Go.Proofs.YtcchhgpdallpmaaM
namespace Go.Proofs.Ytcchhgpdallpmaa.P
open Go.RowKit Go.Proofs.YtcchhgpdallpmaaW.PrintWords Go.Proofs.YtcchhgpdallpmaaW.PrintLast Go.Proofs.YtcchhgpdallpmaaW.PrintMore
theorem Ev.pos {α : Type} {c : Prop} [Decidable c] {a b : Nat → Option α} {r : α} (hc : c) (h : Ev a r) : Ev (fun k => if c then a k else b k) r := by
  obtain ⟨K, h⟩ := h
  exact ⟨K, fun k hk => (if_pos hc).trans (h k hk)⟩
theorem Ev.neg {α : Type} {c : Prop} [Decidable c] {a b : Nat → Option α} {r : α} (hc : ¬ c) (h : Ev b r) : Ev (fun k => if c then a k else b k) r := by
  obtain ⟨K, h⟩ := h
  exact ⟨K, fun k hk => (if_neg hc).trans (h k hk)⟩
theorem Ev.some {α : Type} {r q : α} (h : r = q) : Ev (fun _ => Option.some r) q := ⟨0, fun _ _ => by rw [h]⟩
theorem Ev.then {α β : Type} {g : Nat → Option α} {f : Nat → α → Option β} {a : α} {r : β} (h : Ev g a) (k : Ev (fun n => f n a) r) : Ev (fun n => (g n).bind fun x => f n x) r := Ev.bind h k
theorem Ev.thenC {α β : Type} {g : Option α} {f : Nat → α → Option β} {a : α} {r : β} (h : g = Option.some a) (k : Ev (fun n => f n a) r) : Ev (fun n => g.bind fun x => f n x) r := by
  subst h
  exact k
theorem w1 (i : Nat) (h : i < 4611686018427387904) : wrap64 ((i : Int) + 1) = ((i + 1 : Nat) : Int) := by unfold wrap64; omega
theorem wp (x : Int) (h0 : -9223372036854775808 ≤ x) (h1 : x < 9223372036854775808) : wrap64 x = x := by unfold wrap64; omega
theorem rd_nat (xs : List Int) (i : Nat) : rd xs (i : Int) = xs.getD i 0 := rfl
theorem getD_at {α : Type} {xs : List α} {i : Nat} (h : i < xs.length) (d : α) : xs.getD i d = xs[i] := by simp [List.getD_eq_getElem?_getD, h]
theorem fill_step {α β : Type} (f : β → α) (l : List β) (z : α) (d : β) (i : Nat) (h : i < l.length) : ((l.take i).map f ++ List.replicate (l.length - i) z).set i (f (l.getD i d)) = (l.take (i + 1)).map f ++ List.replicate (l.length - (i + 1)) z := by
  rw [List.take_succ_eq_append_getElem h, getD_at h, List.map_append, List.set_append_right _ _ (by simp; omega)]
  simp only [List.length_map, List.length_take, Nat.min_eq_left (Nat.le_of_lt h), Nat.sub_self, List.append_assoc]
  rw [show l.length - i = (l.length - (i + 1)) + 1 by omega, List.replicate_succ]
  simp
theorem Ev.ite {α : Type} {c : Prop} [Decidable c] {a b : Nat → Option α} {r : α} (h1 : c → Ev a r) (h2 : ¬ c → Ev b r) : Ev (fun k => if c then a k else b k) r := by
  by_cases hc : c
  · exact Ev.pos hc (h1 hc)
  · exact Ev.neg hc (h2 hc)
theorem drop_at {α : Type} {xs : List α} {i : Nat} (h : i < xs.length) (d : α) : xs.drop i = xs.getD i d :: xs.drop (i + 1) := by
  rw [getD_at h]; exact List.drop_eq_getElem_cons h
/-- The numbers from i on, of d numbers, that have a property. -/
def pickK (p : Nat → Bool) (i d : Nat) : List Int := ((List.range' i d).filter p).map fun k : Nat => (k : Int)
theorem pickK_zero (p : Nat → Bool) (i : Nat) : pickK p i 0 = [] := rfl
theorem pickK_yes {p : Nat → Bool} {i d : Nat} (h : p i = true) : pickK p i (d + 1) = (i : Int) :: pickK p (i + 1) d := by
  simp [pickK, List.range'_succ, h]
theorem pickK_no {p : Nat → Bool} {i d : Nat} (h : p i = false) : pickK p i (d + 1) = pickK p (i + 1) d := by
  simp [pickK, List.range'_succ, h]
theorem pickK_length (p : Nat → Bool) (i d : Nat) : (pickK p i d).length ≤ d := by
  unfold pickK
  rw [List.length_map]
  exact Nat.le_trans (List.length_filter_le _ _) (by simp)
end Go.Proofs.Ytcchhgpdallpmaa.P
namespace Go.Proofs.Ytcchhgpdallpmaa.P
open Go.RowKit Go.Proofs.YtcchhgpdallpmaaW.PrintWords Go.Proofs.YtcchhgpdallpmaaW.PrintLast Go.Proofs.YtcchhgpdallpmaaW.PrintMore

def toL (x : S82) : S70 := ⟨x.f0, x.f1, x.f2⟩
theorem toLineS_l0 (l : List S82) (hl : l.length ≤ 1048576) : ∀ d i, i + d = l.length → Ev (fun k => laws_toLineS.l0 k l ((l.take i).map toL ++ List.replicate (l.length - i) z70) i) (l.map toL) := by
  intro d
  induction d with
  | zero =>
    intro i hi
    refine Ev.step (fun k => by rw [laws_toLineS.l0]) ?_
    refine Ev.neg (by omega) (Ev.some ?_)
    rw [show i = l.length by omega]; simp
  | succ d ih =>
    intro i hi
    refine Ev.step (fun k => by rw [laws_toLineS.l0]) ?_
    refine Ev.pos (by omega) (Ev.pos (by omega) (Ev.thenC rfl (Ev.pos (by simp; omega) ?_)))
    rw [w1 i (by omega)]
    show Ev (fun k => laws_toLineS.l0 k l (((l.take i).map toL ++ List.replicate (l.length - i) z70).set i (toL (l.getD i z82))) _) _
    rw [fill_step toL l z70 z82 i (by omega)]
    exact ih (i + 1) (by omega)
theorem toLineS_ev (l : List S82) (hl : l.length ≤ 1048576) : Ev (fun k => laws_toLineS.f k l) (l.map toL) := by
  refine Ev.pos (by omega) (Ev.pos (by omega) ?_)
  exact toLineS_l0 l hl l.length 0 (by omega)
theorem toNet_ev (b : Int) (l : List S82) (hl : l.length ≤ 1048576) : Ev (fun k => laws_toNet.f k b l) (b, l.map toL) :=
  Ev.then (toLineS_ev l hl) (Ev.now _)
theorem eqIntS_l0 (l : List Int) (hl : l.length < 4611686018427387904) : ∀ d i, i + d = l.length → Ev (fun k => laws_eqIntS.l0 k l l i) true := by
  intro d
  induction d with
  | zero => intro i hi; exact Ev.step (fun k => by rw [laws_eqIntS.l0]) (Ev.neg (by omega) (Ev.some rfl))
  | succ d ih =>
    intro i hi
    refine Ev.step (fun k => by rw [laws_eqIntS.l0]) ?_
    refine Ev.pos (by omega) (Ev.pos (by omega) (Ev.pos (by omega) (Ev.pos rfl ?_)))
    rw [w1 i (by omega)]; exact ih (i + 1) (by omega)
theorem eqIntS_ev (l : List Int) (hl : l.length < 4611686018427387904) : Ev (fun k => laws_eqIntS.f k l l) true := Ev.pos rfl (eqIntS_l0 l hl l.length 0 (by omega))
theorem eqLineS_l0 (l : List S70) (hl : l.length < 4611686018427387904) : ∀ d i, i + d = l.length → Ev (fun k => laws_eqLineS.l0 k l l i) true := by
  intro d
  induction d with
  | zero => intro i hi; exact Ev.step (fun k => by rw [laws_eqLineS.l0]) (Ev.neg (by omega) (Ev.some rfl))
  | succ d ih =>
    intro i hi
    refine Ev.step (fun k => by rw [laws_eqLineS.l0]) ?_
    refine Ev.pos (by omega) (Ev.pos (by omega) (Ev.pos (by omega) (Ev.thenC (a := true) (by simp [laws_eqLine.f]) (Ev.pos rfl ?_))))
    rw [w1 i (by omega)]; exact ih (i + 1) (by omega)
theorem eqNet_ev (b : Int) (l : List S70) (hl : l.length < 4611686018427387904) : Ev (fun k => laws_eqNet.f k b l b l) true :=
  Ev.pos rfl (Ev.then (a := true) (Ev.pos rfl (eqLineS_l0 l hl l.length 0 (by omega))) (Ev.pos rfl (Ev.some rfl)))
theorem szNet_ev (b : Int) (l : List S82) (m : Int) (hl : l.length ≤ 9223372036854775807) (hm0 : 0 ≤ m) (hm : m ≤ 1048576) : laws_szNet.f b l m = some (if m - l.length < 0 then -1 else m - l.length) := by
  unfold laws_szNet.f laws_szLineS.f
  rw [wp _ (by omega) (by omega)]
  by_cases h : m - (l.length : Int) < 0
  · simp [h]
  · simp [h]
end Go.Proofs.Ytcchhgpdallpmaa.P
namespace Go.Proofs.Ytcchhgpdallpmaa.P
open Go.RowKit Go.Proofs.YtcchhgpdallpmaaW.PrintWords Go.Proofs.YtcchhgpdallpmaaW.PrintLast Go.Proofs.YtcchhgpdallpmaaW.PrintMore

theorem l1In_eq (a b c : Int) : spec_l1In.f a b c = some (decide (b ≤ a ∧ a ≤ c)) := by
  unfold spec_l1In.f
  by_cases h : a ≥ b
  · rw [if_pos h]; simp [show b ≤ a from h]
  · rw [if_neg h]; simp [show ¬ b ≤ a from h]
def lineOk (b : Int) (x : S70) : Bool := decide (0 ≤ x.f0 ∧ x.f0 < b ∧ 0 ≤ x.f1 ∧ x.f1 < b ∧ x.f0 ≠ x.f1 ∧ 1 ≤ x.f2 ∧ x.f2 ≤ 999)
def netOk (b : Int) (ls : List S70) : Bool := decide (1 ≤ b ∧ b ≤ 8 ∧ ls.length ≤ 10) && ls.all (lineOk b)
theorem specNet_l0 (b : Int) (ls : List S70) (hb : 1 ≤ b ∧ b ≤ 8) (hl : ls.length ≤ 10) : ∀ d i, i + d = ls.length → Ev (fun k => spec_NetValid.l0 k i b ls) ((ls.drop i).all (lineOk b)) := by
  intro d
  induction d with
  | zero =>
    intro i hi
    refine Ev.step (fun k => by rw [spec_NetValid.l0]) ?_
    refine Ev.neg (by omega) (Ev.some ?_)
    rw [show i = ls.length by omega]; simp
  | succ d ih =>
    intro i hi
    rw [drop_at (show i < ls.length by omega) z70, List.all_cons]
    refine Ev.step (fun k => by rw [spec_NetValid.l0]) ?_
    refine Ev.pos (by omega) (Ev.pos (by omega) ?_)
    rw [show rd_T70 ls (i : Int) = ls.getD i z70 from rfl, w1 i (by omega), wp (b - 1) (by omega) (by omega)]
    generalize ls.getD i z70 = x
    by_cases hx : lineOk b x = true
    · rw [hx, Bool.true_and]
      have := ih (i + 1) (by omega)
      simp only [lineOk, decide_eq_true_eq] at hx
      exact Ev.thenC (l1In_eq _ _ _) (Ev.pos (by rw [decide_eq_true_eq]; omega) (Ev.thenC (l1In_eq _ _ _) (Ev.pos (by rw [decide_eq_true_eq]; omega) (Ev.neg (by omega) (Ev.thenC (l1In_eq _ _ _) (Ev.pos (by rw [decide_eq_true_eq]; omega) this))))))
    · rw [Bool.not_eq_true] at hx
      rw [hx, Bool.false_and]
      simp only [lineOk, decide_eq_false_iff_not] at hx
      refine Ev.thenC (l1In_eq _ _ _) (Ev.ite (fun h1 => Ev.thenC (l1In_eq _ _ _) (Ev.ite (fun h2 => Ev.ite (fun _ => Ev.some rfl) (fun h3 => Ev.thenC (l1In_eq _ _ _) (Ev.ite (fun h4 => ?_) fun _ => Ev.some rfl))) fun _ => Ev.some rfl)) fun _ => Ev.some rfl)
      rw [decide_eq_true_eq] at h1 h2 h4
      exact absurd (show _ ∧ _ from ⟨h1.1, by omega, h2.1, by omega, h3, h4.1, h4.2⟩) hx
theorem specNet_ev (b : Int) (ls : List S70) (hl : ls.length < 4611686018427387904) : Ev (fun k => spec_NetValid.f k b ls) (netOk b ls) := by
  unfold netOk
  refine Ev.thenC (l1In_eq _ _ _) (Ev.ite (fun h1 => ?_) (fun h1 => ?_))
  · rw [decide_eq_true_eq] at h1
    refine Ev.step (fun k => by rw [spec_NetValid.j0]) ?_
    refine Ev.ite (fun h2 => Ev.some ?_) (fun h2 => ?_)
    · rw [decide_eq_true_eq] at h2
      rw [decide_eq_false (by omega)]; rfl
    · rw [decide_eq_true_eq] at h2
      rw [decide_eq_true (by omega), Bool.true_and]
      exact specNet_l0 b ls h1 (by omega) ls.length 0 (by omega)
  · rw [decide_eq_true_eq] at h1
    rw [decide_eq_false (by omega)]
    refine Ev.step (fun k => by rw [spec_NetValid.j0]) ?_
    exact Ev.pos rfl (Ev.some rfl)
theorem hasBus_eq (b : Int) (ls : List S70) (x : Int) : impl_Net_hasBus.f b ls x = some (decide (0 ≤ x ∧ x < b)) := by
  unfold impl_Net_hasBus.f
  by_cases h : x ≥ 0
  · rw [if_pos h]; simp [show 0 ≤ x from h]
  · rw [if_neg h]; simp [show ¬ 0 ≤ x from h]
theorem implNet_l0 (b : Int) (ls : List S70) (hl : ls.length ≤ 10) : ∀ d i, i + d = ls.length → Ev (fun k => impl_NetValid.l0 k ls (ls.length : Int) i b ls) ((ls.drop i).all (lineOk b)) := by
  intro d
  induction d with
  | zero =>
    intro i hi
    refine Ev.step (fun k => by rw [impl_NetValid.l0]) ?_
    refine Ev.neg (by omega) (Ev.some ?_)
    rw [show i = ls.length by omega]; simp
  | succ d ih =>
    intro i hi
    rw [drop_at (show i < ls.length by omega) z70, List.all_cons]
    refine Ev.step (fun k => by rw [impl_NetValid.l0]) ?_
    refine Ev.pos (by omega) (Ev.pos (by omega) (Ev.pos (by omega) ?_))
    rw [show rd_T70 ls (i : Int) = ls.getD i z70 from rfl, w1 i (by omega)]
    generalize ls.getD i z70 = x
    by_cases hx : lineOk b x = true
    · rw [hx, Bool.true_and]
      have := ih (i + 1) (by omega)
      simp only [lineOk, decide_eq_true_eq] at hx
      exact Ev.thenC (hasBus_eq _ _ _) (Ev.pos (by rw [decide_eq_true_eq]; omega) (Ev.thenC (hasBus_eq _ _ _) (Ev.pos (by rw [decide_eq_true_eq]; omega) (Ev.neg (by omega) (Ev.neg (by omega) (Ev.neg (by omega) this))))))
    · rw [Bool.not_eq_true] at hx
      rw [hx, Bool.false_and]
      simp only [lineOk, decide_eq_false_iff_not] at hx
      refine Ev.thenC (hasBus_eq _ _ _) (Ev.ite (fun h1 => Ev.thenC (hasBus_eq _ _ _) (Ev.ite (fun h2 => Ev.ite (fun _ => Ev.some rfl) (fun h3 => Ev.ite (fun _ => Ev.some rfl) (fun h4 => Ev.ite (fun _ => Ev.some rfl) (fun h5 => ?_)))) fun _ => Ev.some rfl)) fun _ => Ev.some rfl)
      rw [decide_eq_true_eq] at h1 h2
      exact absurd (show _ ∧ _ from ⟨h1.1, h1.2, h2.1, h2.2, h3, by omega, by omega⟩) hx
theorem implNet_ev (b : Int) (ls : List S70) : Ev (fun k => impl_NetValid.f k b ls) (netOk b ls) := by
  unfold netOk
  refine Ev.ite (fun h1 => ?_) (fun h1 => Ev.ite (fun h2 => ?_) (fun h2 => ?_))
  · rw [decide_eq_false (by omega)]
    refine Ev.step (fun k => by rw [impl_NetValid.j0]) ?_
    exact Ev.pos rfl (Ev.some rfl)
  · rw [decide_eq_false (by omega)]
    refine Ev.step (fun k => by rw [impl_NetValid.j0]) ?_
    exact Ev.pos rfl (Ev.some rfl)
  · refine Ev.step (fun k => by rw [impl_NetValid.j0]) ?_
    refine Ev.ite (fun h3 => Ev.some ?_) (fun h3 => ?_)
    · rw [decide_eq_true_eq] at h3
      rw [decide_eq_false (by omega)]; rfl
    · rw [decide_eq_true_eq] at h3
      rw [decide_eq_true (by omega), Bool.true_and]
      exact implNet_l0 b ls (by omega) ls.length 0 (by omega)
def endsAt (ls : List S70) (bus : Int) (k : Nat) : Bool := decide ((ls.getD k z70).f0 = bus ∨ (ls.getD k z70).f1 = bus)
def linesAt (b : Int) (ls : List S70) (bus : Int) : List Int := if netOk b ls = true then pickK (endsAt ls bus) 0 ls.length else []
theorem specAt_l0 (b : Int) (ls : List S70) (bus : Int) (hn : netOk b ls = true) (hl : ls.length ≤ 10) : ∀ d i acc, i + d = ls.length → acc.length + d ≤ 10 → Ev (fun k => spec_LinesAt.l0 k bus acc i b ls) (acc ++ pickK (endsAt ls bus) i d) := by
  intro d
  induction d with
  | zero =>
    intro i acc hi _
    refine Ev.step (fun k => by rw [spec_LinesAt.l0]) ?_
    refine Ev.neg (by omega) ?_
    refine Ev.step (fun k => by rw [spec_LinesAt.j1]) ?_
    exact Ev.neg (by simp) (Ev.some (by rw [pickK_zero, List.append_nil]))
  | succ d ih =>
    intro i acc hi ha
    refine Ev.step (fun k => by rw [spec_LinesAt.l0]) ?_
    refine Ev.pos (by omega) (Ev.then (specNet_ev b ls (by omega)) ?_)
    rw [hn]
    refine Ev.step (fun k => by rw [spec_LinesAt.j1]) ?_
    refine Ev.pos rfl (Ev.pos (by omega) (Ev.pos (by omega) ?_))
    rw [show rd_T70 ls (i : Int) = ls.getD i z70 from rfl, w1 i (by omega)]
    have hy : endsAt ls bus i = true → Ev (fun k => spec_LinesAt.l0 k bus (acc ++ [(i : Int)]) ((i + 1 : Nat) : Int) b ls) (acc ++ pickK (endsAt ls bus) i (d + 1)) := fun h => by
      rw [pickK_yes h]
      have := ih (i + 1) (acc ++ [(i : Int)]) (by omega) (by simp; omega)
      simpa using this
    refine Ev.ite (fun h1 => Ev.pos (by omega) (hy (decide_eq_true (.inl h1)))) (fun h1 => Ev.ite (fun h2 => Ev.pos (by omega) (hy (decide_eq_true (.inr h2)))) (fun h2 => ?_))
    rw [pickK_no (decide_eq_false (fun h => h.elim h1 h2))]
    exact ih (i + 1) acc (by omega) (by omega)
theorem netOk_len {b : Int} {ls : List S70} (h : netOk b ls = true) : ls.length ≤ 10 ∧ 1 ≤ b ∧ b ≤ 8 := by
  simp only [netOk, Bool.and_eq_true, decide_eq_true_eq] at h
  exact ⟨h.1.2.2, h.1.1, h.1.2.1⟩
theorem specAt_ev (b : Int) (ls : List S70) (bus : Int) (hl : ls.length < 4611686018427387904) : Ev (fun k => spec_LinesAt.f k b ls bus) (linesAt b ls bus) := by
  unfold linesAt
  by_cases hn : netOk b ls = true
  · rw [if_pos hn]
    have hk := netOk_len hn
    exact specAt_l0 b ls bus hn hk.1 ls.length 0 [] (by omega) (by simpa using hk.1)
  · rw [if_neg hn]
    rw [Bool.not_eq_true] at hn
    refine Ev.step (fun k => by unfold spec_LinesAt.f; rw [spec_LinesAt.l0]) ?_
    refine Ev.ite (fun _ => Ev.then (specNet_ev b ls hl) ?_) (fun _ => ?_)
    · rw [hn]
      refine Ev.step (fun k => by rw [spec_LinesAt.j1]) ?_
      exact Ev.neg (by simp) (Ev.some rfl)
    · refine Ev.step (fun k => by rw [spec_LinesAt.j1]) ?_
      exact Ev.neg (by simp) (Ev.some rfl)
theorem implAt_l0 (ls : List S70) (bus : Int) (hl : ls.length ≤ 10) : ∀ d i acc, i + d = ls.length → acc.length + d ≤ 10 → Ev (fun k => impl_LinesAt.l0 k bus acc ls (ls.length : Int) i) (acc ++ pickK (endsAt ls bus) i d) := by
  intro d
  induction d with
  | zero =>
    intro i acc hi _
    refine Ev.step (fun k => by rw [impl_LinesAt.l0]) ?_
    exact Ev.neg (by omega) (Ev.some (by rw [pickK_zero, List.append_nil]))
  | succ d ih =>
    intro i acc hi ha
    refine Ev.step (fun k => by rw [impl_LinesAt.l0]) ?_
    refine Ev.pos (by omega) (Ev.pos (by omega) (Ev.pos (by omega) ?_))
    rw [show rd_T70 ls (i : Int) = ls.getD i z70 from rfl, w1 i (by omega)]
    have hy : endsAt ls bus i = true → Ev (fun k => impl_LinesAt.l0 k bus (acc ++ [(i : Int)]) ls (ls.length : Int) ((i + 1 : Nat) : Int)) (acc ++ pickK (endsAt ls bus) i (d + 1)) := fun h => by
      rw [pickK_yes h]
      have := ih (i + 1) (acc ++ [(i : Int)]) (by omega) (by simp; omega)
      simpa using this
    refine Ev.ite (fun h1 => Ev.pos (by omega) (hy (decide_eq_true (.inl h1)))) (fun h1 => Ev.ite (fun h2 => Ev.pos (by omega) (hy (decide_eq_true (.inr h2)))) (fun h2 => ?_))
    rw [pickK_no (decide_eq_false (fun h => h.elim h1 h2))]
    exact ih (i + 1) acc (by omega) (by omega)
theorem implAt_ev (b : Int) (ls : List S70) (bus : Int) : Ev (fun k => impl_LinesAt.f k b ls bus) (linesAt b ls bus) := by
  unfold linesAt
  refine Ev.then (implNet_ev b ls) ?_
  by_cases hn : netOk b ls = true
  · rw [if_pos hn, hn]
    have hk := netOk_len hn
    exact Ev.pos rfl (implAt_l0 ls bus hk.1 ls.length 0 [] (by omega) (by simpa using hk.1))
  · rw [if_neg hn]
    rw [Bool.not_eq_true] at hn
    rw [hn]
    exact Ev.neg (by simp) (Ev.some rfl)

end Go.Proofs.Ytcchhgpdallpmaa.P
namespace Go.Proofs.Ytcchhgpdallpmaa.P
open Go.RowKit Go.Proofs.YtcchhgpdallpmaaW.PrintWords Go.Proofs.YtcchhgpdallpmaaW.PrintLast Go.Proofs.YtcchhgpdallpmaaW.PrintMore

theorem set_mid {α : Type} (f : Nat → α) (l : List α) (i : Nat) (h : i < l.length) : ((List.range i).map f ++ l.drop i).set i (f i) = (List.range (i + 1)).map f ++ l.drop (i + 1) := by
  have e := List.drop_eq_getElem_cons h
  rw [List.set_append_right _ _ (by simp), List.range_succ, e]
  simp only [List.length_map, List.length_range, Nat.sub_self, List.set_cons_zero, List.map_append, List.map_cons, List.map_nil, List.append_assoc, List.cons_append, List.nil_append]
def marksI (m : Nat) (n : Nat) : List Int := (List.range n).map fun i => ((m + i : Nat) : Int)
theorem markI_l0 (m n : Nat) (l : List Int) (hn : l.length = n) (hs : m + n < 4611686018427387904) : ∀ d i, i + d = n → Ev (fun k => laws_markIntS.l0 k (marksI m i ++ l.drop i) ((m + i : Nat) : Int) i) (((m + n : Nat) : Int), marksI m n) := by
  intro d
  induction d with
  | zero =>
    intro i hi
    refine Ev.step (fun k => by rw [laws_markIntS.l0]) ?_
    refine Ev.neg (by simp [marksI]; omega) (Ev.some ?_)
    rw [show i = n by omega, List.drop_of_length_le (by omega)]; simp
  | succ d ih =>
    intro i hi
    refine Ev.step (fun k => by rw [laws_markIntS.l0]) ?_
    refine Ev.pos (by simp [marksI]; omega) (Ev.pos (by omega) ?_)
    rw [w1 i (by omega), w1 (m + i) (by omega), Int.toNat_natCast]
    have := ih (i + 1) (by omega)
    unfold marksI at this ⊢
    rw [set_mid (fun i => ((m + i : Nat) : Int)) l i (by omega)]
    exact this
theorem markI_ev (l : List Int) (m : Nat) (hs : m + l.length < 4611686018427387904) : Ev (fun k => laws_markIntS.f k l (m : Int)) (((m + l.length : Nat) : Int), marksI m l.length) := markI_l0 m l.length l rfl hs l.length 0 (by omega)
theorem heldI_l0 (m n : Nat) (hs : m + n < 4611686018427387904) : ∀ d i, i + d = n → Ev (fun k => laws_heldIntS.l0 k (marksI m n) ((m + i : Nat) : Int) i) (((m + n : Nat) : Int)) := by
  intro d
  induction d with
  | zero =>
    intro i hi
    refine Ev.step (fun k => by rw [laws_heldIntS.l0]) ?_
    refine Ev.neg (by simp [marksI]; omega) (Ev.some (by rw [show i = n by omega]))
  | succ d ih =>
    intro i hi
    refine Ev.step (fun k => by rw [laws_heldIntS.l0]) ?_
    refine Ev.pos (by simp [marksI]; omega) (Ev.pos (by omega) ?_)
    rw [w1 i (by omega), w1 (m + i) (by omega), rd_nat, show (marksI m n).getD i 0 = ((m + i : Nat) : Int) by
      unfold marksI
      rw [getD_at (by simp; omega)]; simp]
    exact Ev.pos rfl (ih (i + 1) (by omega))
theorem heldI_ev (m n : Nat) (hs : m + n < 4611686018427387904) : Ev (fun k => laws_heldIntS.f k (marksI m n) (m : Int)) (((m + n : Nat) : Int)) := heldI_l0 m n hs n 0 (by omega)
/-- Marks of an argument: only their number counts. -/
theorem markL_l0 (n : Nat) (hn : n < 4611686018427387904) : ∀ d i m (l : List S70), i + d = n → l.length = n → m + 3 * d < 4611686018427387904 → ∃ l', Ev (fun k => laws_markLineS.l0 k l ((m : Nat) : Int) ((i : Nat) : Int)) (((m + 3 * d : Nat) : Int), l') := by
  intro d
  induction d with
  | zero =>
    intro i m l hi hl _
    refine ⟨l, Ev.step (fun k => by rw [laws_markLineS.l0]) ?_⟩
    exact Ev.neg (by omega) (Ev.some rfl)
  | succ d ih =>
    intro i m l hi hl hm
    have h3 : m + 3 * (d + 1) = m + 1 + 1 + 1 + 3 * d := by omega
    obtain ⟨l', h⟩ := ih (i + 1) (m + 1 + 1 + 1) (((l.set i _).set i _).set i _) (by omega) (by simp [hl]) (by omega)
    refine ⟨l', Ev.step (fun k => by rw [laws_markLineS.l0]) ?_⟩
    refine Ev.pos (by omega) (Ev.pos (by omega) (Ev.thenC rfl (Ev.thenC rfl ?_)))
    rw [w1 i (by omega), w1 m (by omega), w1 (m + 1) (by omega), w1 (m + 1 + 1) (by omega), h3]
    exact h
theorem markNet_ev (b : Int) (l : List S70) (m : Nat) (hs : m + 3 * l.length < 4611686018427387904) : ∃ l', Ev (fun k => laws_markNet.f k b l (m : Int)) (((m + 3 * l.length : Nat) : Int), l') := by
  obtain ⟨l', h⟩ := markL_l0 l.length (by omega) l.length 0 m l (by omega) rfl hs
  exact ⟨l', Ev.then (a := (((m + 3 * l.length : Nat) : Int), l')) h (Ev.some rfl)⟩
end Go.Proofs.Ytcchhgpdallpmaa.P
namespace Go.Proofs.Ytcchhgpdallpmaa.P
open Go.RowKit Go.Proofs.YtcchhgpdallpmaaW.PrintWords Go.Proofs.YtcchhgpdallpmaaW.PrintLast Go.Proofs.YtcchhgpdallpmaaW.PrintMore

/-- The guard of a network's size. -/
theorem sz_guard {b : Int} {l : List S82} (hl : l.length ≤ 9223372036854775807) {g : Nat → Int → Option Bool} (h : l.length ≤ 1048576 → Ev (fun k => g k (1048576 - (l.length : Int))) true) :
    Ev (fun k => (laws_szNet.f b l 1048576).bind fun t => (if t < 0 then some true else g k t)) true := by
  refine Ev.thenC (szNet_ev b l 1048576 hl (by omega) (by omega)) ?_
  by_cases hc : 1048576 - (l.length : Int) < 0
  · exact Ev.pos (by rw [if_pos hc]; omega) (Ev.some rfl)
  · refine Ev.neg (by rw [if_neg hc]; exact hc) ?_
    rw [if_neg hc]
    exact h (by omega)
theorem linesAt_len (b : Int) (ls : List S70) (bus : Int) : (linesAt b ls bus).length ≤ ls.length := by
  unfold linesAt
  split
  · exact pickK_length _ _ _
  · simp
theorem x_LinesAt (b : Int) (l : List S82) (bus : Int) (hl : l.length ≤ 9223372036854775807) : Ev (fun k => laws_FnExactLinesAt.f k b l bus) true := by
  refine sz_guard hl fun h => ?_
  have hn := toNet_ev b l h
  have h0 : (l.map toL).length < 4611686018427387904 := by rw [List.length_map]; omega
  have hlen := linesAt_len b (l.map toL) bus
  rw [List.length_map] at hlen
  have hs := specAt_ev b (l.map toL) bus h0
  have hi := implAt_ev b (l.map toL) bus
  have he := eqIntS_ev (linesAt b (l.map toL) bus) (by omega)
  have h1 : Ev (fun k => laws_heldIntS.f k (marksI 1 (linesAt b (l.map toL) bus).length) 1) (((1 + (linesAt b (l.map toL) bus).length : Nat) : Int)) := heldI_ev 1 _ (by omega)
  obtain ⟨l', hm⟩ := markNet_ev b (l.map toL) 1 (by simp; omega)
  refine Ev.then hn (Ev.then hs (Ev.then hn (Ev.then hi (Ev.then he (Ev.pos rfl (Ev.then hn (Ev.then (eqNet_ev b _ h0) (Ev.pos rfl (Ev.then hm (Ev.neg (by omega) (Ev.then he ?_)))))))))))
  refine Ev.step (fun k => by rw [laws_FnExactLinesAt.j0]) ?_
  exact Ev.neg (by simp) (Ev.then (markI_ev _ 1 (by omega)) (Ev.then h1 (Ev.neg (by omega) (Ev.pos rfl (Ev.then hn (Ev.then hi (Ev.then he (Ev.pos rfl (Ev.then h1 (Ev.neg (by omega) (Ev.pos rfl (Ev.some rfl))))))))))))
end Go.Proofs.Ytcchhgpdallpmaa.P

/- The plain side of the law FnExactBusesValid: what the printed functions come to, in plain Lean. -/
import Derived.Test.YtcchhgpdallpmaaP0
import Derived.Test.YtcchhgpdallpmaaP7
import Derived.Test.YtcchhgpdallpmaaP26
import Derived.Test.YtcchhgpdallpmaaP27
import Derived.Test.YtcchhgpdallpmaaP28
import Derived.Test.YtcchhgpdallpmaaP30
import Derived.Test.YtcchhgpdallpmaaP31
import Derived.Test.YtcchhgpdallpmaaP32
import Derived.Test.YtcchhgpdallpmaaP33
import Derived.Test.YtcchhgpdallpmaaP34
import Derived.Test.YtcchhgpdallpmaaP35
import Derived.Test.YtcchhgpdallpmaaP36
import Derived.Test.YtcchhgpdallpmaaP49
import Derived.Test.YtcchhgpdallpmaaP50
import Derived.Test.YtcchhgpdallpmaaP52
import Derived.Test.YtcchhgpdallpmaaP53
import Derived.Test.YtcchhgpdallpmaaP54
import Derived.Test.YtcchhgpdallpmaaP55
import Derived.Test.YtcchhgpdallpmaaP56
import Derived.Test.YtcchhgpdallpmaaP57
namespace Go.Proofs.YtcchhgpdallpmaaM

def tr (s : List Bool) (k : Nat) : Bool := s.getD k false
def LeB (s t : List Bool) : Prop := s.length = t.length ∧ ∀ k, tr s k = true → tr t k = true
theorem LeB.trans {s t u : List Bool} (h : LeB s t) (k : LeB t u) : LeB s u := ⟨h.1.trans k.1, fun i hi => k.2 i (h.2 i hi)⟩
end Go.Proofs.YtcchhgpdallpmaaM
namespace Go.Proofs.Ytcchhgpdallpmaa.P
open Go.RowKit Go.Proofs.YtcchhgpdallpmaaW.PrintWords Go.Proofs.YtcchhgpdallpmaaW.PrintLast Go.Proofs.YtcchhgpdallpmaaW.PrintMore
theorem Ev.pos {α : Type} {c : Prop} [Decidable c] {a b : Nat → Option α} {r : α} (hc : c) (h : Ev a r) : Ev (fun k => if c then a k else b k) r := by
  obtain ⟨K, h⟩ := h
  exact ⟨K, fun k hk => (if_pos hc).trans (h k hk)⟩
theorem Ev.neg {α : Type} {c : Prop} [Decidable c] {a b : Nat → Option α} {r : α} (hc : ¬ c) (h : Ev b r) : Ev (fun k => if c then a k else b k) r := by
  obtain ⟨K, h⟩ := h
  exact ⟨K, fun k hk => (if_neg hc).trans (h k hk)⟩
theorem Ev.some {α : Type} {r q : α} (h : r = q) : Ev (fun _ => Option.some r) q := ⟨0, fun _ _ => by rw [h]⟩
theorem Ev.then {α β : Type} {g : Nat → Option α} {f : Nat → α → Option β} {a : α} {r : β} (h : Ev g a) (k : Ev (fun n => f n a) r) : Ev (fun n => (g n).bind fun x => f n x) r := Ev.bind h k
theorem Ev.thenC {α β : Type} {g : Option α} {f : Nat → α → Option β} {a : α} {r : β} (h : g = Option.some a) (k : Ev (fun n => f n a) r) : Ev (fun n => g.bind fun x => f n x) r := by
  subst h
  exact k
theorem w1 (i : Nat) (h : i < 4611686018427387904) : wrap64 ((i : Int) + 1) = ((i + 1 : Nat) : Int) := by unfold wrap64; omega
theorem wp (x : Int) (h0 : -9223372036854775808 ≤ x) (h1 : x < 9223372036854775808) : wrap64 x = x := by unfold wrap64; omega
theorem getD_at {α : Type} {xs : List α} {i : Nat} (h : i < xs.length) (d : α) : xs.getD i d = xs[i] := by simp [List.getD_eq_getElem?_getD, h]
theorem fill_step {α β : Type} (f : β → α) (l : List β) (z : α) (d : β) (i : Nat) (h : i < l.length) : ((l.take i).map f ++ List.replicate (l.length - i) z).set i (f (l.getD i d)) = (l.take (i + 1)).map f ++ List.replicate (l.length - (i + 1)) z := by
  rw [List.take_succ_eq_append_getElem h, getD_at h, List.map_append, List.set_append_right _ _ (by simp; omega)]
  simp only [List.length_map, List.length_take, Nat.min_eq_left (Nat.le_of_lt h), Nat.sub_self, List.append_assoc]
  rw [show l.length - i = (l.length - (i + 1)) + 1 by omega, List.replicate_succ]
  simp
theorem Ev.ite {α : Type} {c : Prop} [Decidable c] {a b : Nat → Option α} {r : α} (h1 : c → Ev a r) (h2 : ¬ c → Ev b r) : Ev (fun k => if c then a k else b k) r := by
  by_cases hc : c
  · exact Ev.pos hc (h1 hc)
  · exact Ev.neg hc (h2 hc)
theorem drop_at {α : Type} {xs : List α} {i : Nat} (h : i < xs.length) (d : α) : xs.drop i = xs.getD i d :: xs.drop (i + 1) := by
  rw [getD_at h]; exact List.drop_eq_getElem_cons h
end Go.Proofs.Ytcchhgpdallpmaa.P
namespace Go.Proofs.Ytcchhgpdallpmaa.P
open Go.RowKit Go.Proofs.YtcchhgpdallpmaaW.PrintWords Go.Proofs.YtcchhgpdallpmaaW.PrintLast Go.Proofs.YtcchhgpdallpmaaW.PrintMore

def toL (x : S82) : S70 := ⟨x.f0, x.f1, x.f2⟩
theorem toLineS_l0 (l : List S82) (hl : l.length ≤ 1048576) : ∀ d i, i + d = l.length → Ev (fun k => laws_toLineS.l0 k l ((l.take i).map toL ++ List.replicate (l.length - i) z70) i) (l.map toL) := by
  intro d
  induction d with
  | zero =>
    intro i hi
    refine Ev.step (fun k => by rw [laws_toLineS.l0]) ?_
    refine Ev.neg (by omega) (Ev.some ?_)
    rw [show i = l.length by omega]; simp
  | succ d ih =>
    intro i hi
    refine Ev.step (fun k => by rw [laws_toLineS.l0]) ?_
    refine Ev.pos (by omega) (Ev.pos (by omega) (Ev.thenC rfl (Ev.pos (by simp; omega) ?_)))
    rw [w1 i (by omega)]
    show Ev (fun k => laws_toLineS.l0 k l (((l.take i).map toL ++ List.replicate (l.length - i) z70).set i (toL (l.getD i z82))) _) _
    rw [fill_step toL l z70 z82 i (by omega)]
    exact ih (i + 1) (by omega)
theorem toLineS_ev (l : List S82) (hl : l.length ≤ 1048576) : Ev (fun k => laws_toLineS.f k l) (l.map toL) := by
  refine Ev.pos (by omega) (Ev.pos (by omega) ?_)
  exact toLineS_l0 l hl l.length 0 (by omega)
theorem toNet_ev (b : Int) (l : List S82) (hl : l.length ≤ 1048576) : Ev (fun k => laws_toNet.f k b l) (b, l.map toL) :=
  Ev.then (toLineS_ev l hl) (Ev.now _)
def toB (x : S78) : S76 := ⟨x.f0, x.f1⟩
theorem toBusS_l0 (l : List S78) (hl : l.length ≤ 1048576) : ∀ d i, i + d = l.length → Ev (fun k => laws_toBusS.l0 k l ((l.take i).map toB ++ List.replicate (l.length - i) z76) i) (l.map toB) := by
  intro d
  induction d with
  | zero =>
    intro i hi
    refine Ev.step (fun k => by rw [laws_toBusS.l0]) ?_
    refine Ev.neg (by omega) (Ev.some ?_)
    rw [show i = l.length by omega]; simp
  | succ d ih =>
    intro i hi
    refine Ev.step (fun k => by rw [laws_toBusS.l0]) ?_
    refine Ev.pos (by omega) (Ev.pos (by omega) (Ev.thenC rfl (Ev.pos (by simp; omega) ?_)))
    rw [w1 i (by omega)]
    show Ev (fun k => laws_toBusS.l0 k l (((l.take i).map toB ++ List.replicate (l.length - i) z76).set i (toB (l.getD i z78))) _) _
    rw [fill_step toB l z76 z78 i (by omega)]
    exact ih (i + 1) (by omega)
theorem toBusS_ev (l : List S78) (hl : l.length ≤ 1048576) : Ev (fun k => laws_toBusS.f k l) (l.map toB) := by
  refine Ev.pos (by omega) (Ev.pos (by omega) ?_)
  exact toBusS_l0 l hl l.length 0 (by omega)

theorem eqLineS_l0 (l : List S70) (hl : l.length < 4611686018427387904) : ∀ d i, i + d = l.length → Ev (fun k => laws_eqLineS.l0 k l l i) true := by
  intro d
  induction d with
  | zero => intro i hi; exact Ev.step (fun k => by rw [laws_eqLineS.l0]) (Ev.neg (by omega) (Ev.some rfl))
  | succ d ih =>
    intro i hi
    refine Ev.step (fun k => by rw [laws_eqLineS.l0]) ?_
    refine Ev.pos (by omega) (Ev.pos (by omega) (Ev.pos (by omega) (Ev.thenC (a := true) (by simp [laws_eqLine.f]) (Ev.pos rfl ?_))))
    rw [w1 i (by omega)]; exact ih (i + 1) (by omega)
theorem eqNet_ev (b : Int) (l : List S70) (hl : l.length < 4611686018427387904) : Ev (fun k => laws_eqNet.f k b l b l) true :=
  Ev.pos rfl (Ev.then (a := true) (Ev.pos rfl (eqLineS_l0 l hl l.length 0 (by omega))) (Ev.pos rfl (Ev.some rfl)))
theorem eqBusS_l0 (l : List S76) (hl : l.length < 4611686018427387904) : ∀ d i, i + d = l.length → Ev (fun k => laws_eqBusS.l0 k l l i) true := by
  intro d
  induction d with
  | zero => intro i hi; exact Ev.step (fun k => by rw [laws_eqBusS.l0]) (Ev.neg (by omega) (Ev.some rfl))
  | succ d ih =>
    intro i hi
    refine Ev.step (fun k => by rw [laws_eqBusS.l0]) ?_
    refine Ev.pos (by omega) (Ev.pos (by omega) (Ev.pos (by omega) (Ev.thenC (a := true) (by simp [laws_eqBus.f]) (Ev.pos rfl ?_))))
    rw [w1 i (by omega)]; exact ih (i + 1) (by omega)
theorem eqBusS_ev (l : List S76) (hl : l.length < 4611686018427387904) : Ev (fun k => laws_eqBusS.f k l l) true := Ev.pos rfl (eqBusS_l0 l hl l.length 0 (by omega))
theorem szNet_ev (b : Int) (l : List S82) (m : Int) (hl : l.length ≤ 9223372036854775807) (hm0 : 0 ≤ m) (hm : m ≤ 1048576) : laws_szNet.f b l m = some (if m - l.length < 0 then -1 else m - l.length) := by
  unfold laws_szNet.f laws_szLineS.f
  rw [wp _ (by omega) (by omega)]
  by_cases h : m - (l.length : Int) < 0
  · simp [h]
  · simp [h]
theorem szBusS_ev (l : List S78) (m : Int) (hl : l.length ≤ 9223372036854775807) (hm0 : 0 ≤ m) (hm : m ≤ 1048576) : laws_szBusS.f l m = some (if m - l.length < 0 then -1 else m - l.length) := by
  unfold laws_szBusS.f
  rw [wp _ (by omega) (by omega)]
  by_cases h : m - (l.length : Int) < 0
  · simp [h]
  · simp [h]
end Go.Proofs.Ytcchhgpdallpmaa.P
namespace Go.Proofs.Ytcchhgpdallpmaa.P
open Go.RowKit Go.Proofs.YtcchhgpdallpmaaW.PrintWords Go.Proofs.YtcchhgpdallpmaaW.PrintLast Go.Proofs.YtcchhgpdallpmaaW.PrintMore

theorem l1In_eq (a b c : Int) : spec_l1In.f a b c = some (decide (b ≤ a ∧ a ≤ c)) := by
  unfold spec_l1In.f
  by_cases h : a ≥ b
  · rw [if_pos h]; simp [show b ≤ a from h]
  · rw [if_neg h]; simp [show ¬ b ≤ a from h]
def lineOk (b : Int) (x : S70) : Bool := decide (0 ≤ x.f0 ∧ x.f0 < b ∧ 0 ≤ x.f1 ∧ x.f1 < b ∧ x.f0 ≠ x.f1 ∧ 1 ≤ x.f2 ∧ x.f2 ≤ 999)
def netOk (b : Int) (ls : List S70) : Bool := decide (1 ≤ b ∧ b ≤ 8 ∧ ls.length ≤ 10) && ls.all (lineOk b)
theorem specNet_l0 (b : Int) (ls : List S70) (hb : 1 ≤ b ∧ b ≤ 8) (hl : ls.length ≤ 10) : ∀ d i, i + d = ls.length → Ev (fun k => spec_NetValid.l0 k i b ls) ((ls.drop i).all (lineOk b)) := by
  intro d
  induction d with
  | zero =>
    intro i hi
    refine Ev.step (fun k => by rw [spec_NetValid.l0]) ?_
    refine Ev.neg (by omega) (Ev.some ?_)
    rw [show i = ls.length by omega]; simp
  | succ d ih =>
    intro i hi
    rw [drop_at (show i < ls.length by omega) z70, List.all_cons]
    refine Ev.step (fun k => by rw [spec_NetValid.l0]) ?_
    refine Ev.pos (by omega) (Ev.pos (by omega) ?_)
    rw [show rd_T70 ls (i : Int) = ls.getD i z70 from rfl, w1 i (by omega), wp (b - 1) (by omega) (by omega)]
    generalize ls.getD i z70 = x
    by_cases hx : lineOk b x = true
    · rw [hx, Bool.true_and]
      have := ih (i + 1) (by omega)
      simp only [lineOk, decide_eq_true_eq] at hx
      exact Ev.thenC (l1In_eq _ _ _) (Ev.pos (by rw [decide_eq_true_eq]; omega) (Ev.thenC (l1In_eq _ _ _) (Ev.pos (by rw [decide_eq_true_eq]; omega) (Ev.neg (by omega) (Ev.thenC (l1In_eq _ _ _) (Ev.pos (by rw [decide_eq_true_eq]; omega) this))))))
    · rw [Bool.not_eq_true] at hx
      rw [hx, Bool.false_and]
      simp only [lineOk, decide_eq_false_iff_not] at hx
      refine Ev.thenC (l1In_eq _ _ _) (Ev.ite (fun h1 => Ev.thenC (l1In_eq _ _ _) (Ev.ite (fun h2 => Ev.ite (fun _ => Ev.some rfl) (fun h3 => Ev.thenC (l1In_eq _ _ _) (Ev.ite (fun h4 => ?_) fun _ => Ev.some rfl))) fun _ => Ev.some rfl)) fun _ => Ev.some rfl)
      rw [decide_eq_true_eq] at h1 h2 h4
      exact absurd (show _ ∧ _ from ⟨h1.1, by omega, h2.1, by omega, h3, h4.1, h4.2⟩) hx
theorem specNet_ev (b : Int) (ls : List S70) (hl : ls.length < 4611686018427387904) : Ev (fun k => spec_NetValid.f k b ls) (netOk b ls) := by
  unfold netOk
  refine Ev.thenC (l1In_eq _ _ _) (Ev.ite (fun h1 => ?_) (fun h1 => ?_))
  · rw [decide_eq_true_eq] at h1
    refine Ev.step (fun k => by rw [spec_NetValid.j0]) ?_
    refine Ev.ite (fun h2 => Ev.some ?_) (fun h2 => ?_)
    · rw [decide_eq_true_eq] at h2
      rw [decide_eq_false (by omega)]; rfl
    · rw [decide_eq_true_eq] at h2
      rw [decide_eq_true (by omega), Bool.true_and]
      exact specNet_l0 b ls h1 (by omega) ls.length 0 (by omega)
  · rw [decide_eq_true_eq] at h1
    rw [decide_eq_false (by omega)]
    refine Ev.step (fun k => by rw [spec_NetValid.j0]) ?_
    exact Ev.pos rfl (Ev.some rfl)
theorem hasBus_eq (b : Int) (ls : List S70) (x : Int) : impl_Net_hasBus.f b ls x = some (decide (0 ≤ x ∧ x < b)) := by
  unfold impl_Net_hasBus.f
  by_cases h : x ≥ 0
  · rw [if_pos h]; simp [show 0 ≤ x from h]
  · rw [if_neg h]; simp [show ¬ 0 ≤ x from h]
theorem implNet_l0 (b : Int) (ls : List S70) (hl : ls.length ≤ 10) : ∀ d i, i + d = ls.length → Ev (fun k => impl_NetValid.l0 k ls (ls.length : Int) i b ls) ((ls.drop i).all (lineOk b)) := by
  intro d
  induction d with
  | zero =>
    intro i hi
    refine Ev.step (fun k => by rw [impl_NetValid.l0]) ?_
    refine Ev.neg (by omega) (Ev.some ?_)
    rw [show i = ls.length by omega]; simp
  | succ d ih =>
    intro i hi
    rw [drop_at (show i < ls.length by omega) z70, List.all_cons]
    refine Ev.step (fun k => by rw [impl_NetValid.l0]) ?_
    refine Ev.pos (by omega) (Ev.pos (by omega) (Ev.pos (by omega) ?_))
    rw [show rd_T70 ls (i : Int) = ls.getD i z70 from rfl, w1 i (by omega)]
    generalize ls.getD i z70 = x
    by_cases hx : lineOk b x = true
    · rw [hx, Bool.true_and]
      have := ih (i + 1) (by omega)
      simp only [lineOk, decide_eq_true_eq] at hx
      exact Ev.thenC (hasBus_eq _ _ _) (Ev.pos (by rw [decide_eq_true_eq]; omega) (Ev.thenC (hasBus_eq _ _ _) (Ev.pos (by rw [decide_eq_true_eq]; omega) (Ev.neg (by omega) (Ev.neg (by omega) (Ev.neg (by omega) this))))))
    · rw [Bool.not_eq_true] at hx
      rw [hx, Bool.false_and]
      simp only [lineOk, decide_eq_false_iff_not] at hx
      refine Ev.thenC (hasBus_eq _ _ _) (Ev.ite (fun h1 => Ev.thenC (hasBus_eq _ _ _) (Ev.ite (fun h2 => Ev.ite (fun _ => Ev.some rfl) (fun h3 => Ev.ite (fun _ => Ev.some rfl) (fun h4 => Ev.ite (fun _ => Ev.some rfl) (fun h5 => ?_)))) fun _ => Ev.some rfl)) fun _ => Ev.some rfl)
      rw [decide_eq_true_eq] at h1 h2
      exact absurd (show _ ∧ _ from ⟨h1.1, h1.2, h2.1, h2.2, h3, by omega, by omega⟩) hx
theorem implNet_ev (b : Int) (ls : List S70) : Ev (fun k => impl_NetValid.f k b ls) (netOk b ls) := by
  unfold netOk
  refine Ev.ite (fun h1 => ?_) (fun h1 => Ev.ite (fun h2 => ?_) (fun h2 => ?_))
  · rw [decide_eq_false (by omega)]
    refine Ev.step (fun k => by rw [impl_NetValid.j0]) ?_
    exact Ev.pos rfl (Ev.some rfl)
  · rw [decide_eq_false (by omega)]
    refine Ev.step (fun k => by rw [impl_NetValid.j0]) ?_
    exact Ev.pos rfl (Ev.some rfl)
  · refine Ev.step (fun k => by rw [impl_NetValid.j0]) ?_
    refine Ev.ite (fun h3 => Ev.some ?_) (fun h3 => ?_)
    · rw [decide_eq_true_eq] at h3
      rw [decide_eq_false (by omega)]; rfl
    · rw [decide_eq_true_eq] at h3
      rw [decide_eq_true (by omega), Bool.true_and]
      exact implNet_l0 b ls (by omega) ls.length 0 (by omega)
theorem netOk_len {b : Int} {ls : List S70} (h : netOk b ls = true) : ls.length ≤ 10 ∧ 1 ≤ b ∧ b ≤ 8 := by
  simp only [netOk, Bool.and_eq_true, decide_eq_true_eq] at h
  exact ⟨h.1.2.2, h.1.1, h.1.2.1⟩
def busOk (x : S76) : Bool := decide (0 ≤ x.f0 ∧ x.f0 ≤ 999 ∧ 0 ≤ x.f1 ∧ x.f1 ≤ 999)
def busesOk (b : Int) (ls : List S70) (bs : List S76) : Bool := netOk b ls && ((bs.length : Int) == b) && bs.all busOk
theorem power_eq (x : Int) : impl_powerValid.f x = some (decide (0 ≤ x ∧ x ≤ 999)) := by
  unfold impl_powerValid.f
  by_cases h : x ≥ 0
  · rw [if_pos h]; simp [show 0 ≤ x from h]
  · rw [if_neg h]; simp [show ¬ 0 ≤ x from h]
theorem implBuses_l0 (bs : List S76) (hl : bs.length ≤ 8) : ∀ d i, i + d = bs.length → Ev (fun k => impl_BusesValid.l0 k bs (bs.length : Int) i) ((bs.drop i).all busOk) := by
  intro d
  induction d with
  | zero =>
    intro i hi
    refine Ev.step (fun k => by rw [impl_BusesValid.l0]) ?_
    refine Ev.neg (by omega) (Ev.some ?_)
    rw [show i = bs.length by omega]; simp
  | succ d ih =>
    intro i hi
    rw [drop_at (show i < bs.length by omega) z76, List.all_cons]
    refine Ev.step (fun k => by rw [impl_BusesValid.l0]) ?_
    refine Ev.pos (by omega) (Ev.pos (by omega) (Ev.pos (by omega) ?_))
    rw [show rd_T76 bs (i : Int) = bs.getD i z76 from rfl, w1 i (by omega)]
    generalize bs.getD i z76 = x
    by_cases hx : busOk x = true
    · rw [hx, Bool.true_and]
      have := ih (i + 1) (by omega)
      simp only [busOk, decide_eq_true_eq] at hx
      exact Ev.thenC (power_eq _) (Ev.pos (by rw [decide_eq_true_eq]; omega) (Ev.thenC (power_eq _) (Ev.pos (by rw [decide_eq_true_eq]; omega) this)))
    · rw [Bool.not_eq_true] at hx
      rw [hx, Bool.false_and]
      simp only [busOk, decide_eq_false_iff_not] at hx
      refine Ev.thenC (power_eq _) (Ev.ite (fun h1 => Ev.thenC (power_eq _) (Ev.ite (fun h2 => ?_) fun _ => Ev.some rfl)) fun _ => Ev.some rfl)
      rw [decide_eq_true_eq] at h1 h2
      exact absurd (show _ ∧ _ from ⟨h1.1, h1.2, h2.1, h2.2⟩) hx
theorem implBuses_ev (b : Int) (ls : List S70) (bs : List S76) : Ev (fun k => impl_BusesValid.f k b ls bs) (busesOk b ls bs) := by
  unfold busesOk
  refine Ev.then (implNet_ev b ls) (Ev.ite (fun hn => ?_) (fun hn => ?_))
  · rw [hn, Bool.true_and]
    refine Ev.step (fun k => by rw [impl_BusesValid.j0]) ?_
    refine Ev.ite (fun h => Ev.some ?_) (fun h => ?_)
    · rw [bne_iff_ne] at h
      rw [show ((bs.length : Int) == b) = false from beq_eq_false_iff_ne.2 h]; rfl
    · rw [bne_iff_ne, Decidable.not_not] at h
      rw [show ((bs.length : Int) == b) = true from beq_iff_eq.2 h, Bool.true_and]
      have := netOk_len hn
      exact implBuses_l0 bs (by omega) bs.length 0 (by omega)
  · rw [Bool.not_eq_true] at hn
    rw [hn]
    refine Ev.step (fun k => by rw [impl_BusesValid.j0]) ?_
    exact Ev.pos rfl (Ev.some rfl)
theorem specBuses_l0 (b : Int) (ls : List S70) (bs : List S76) (hls : ls.length < 4611686018427387904) (hl : bs.length < 4611686018427387904) : ∀ d i, i + d = bs.length → Ev (fun k => spec_BusesValid.l0 k bs i b ls) (netOk b ls && ((bs.length : Int) == b) && (bs.drop i).all busOk) := by
  intro d
  induction d with
  | zero =>
    intro i hi
    refine Ev.step (fun k => by rw [spec_BusesValid.l0]) ?_
    refine Ev.neg (by omega) (Ev.then (specNet_ev b ls hls) ?_)
    rw [show i = bs.length by omega, List.drop_length, List.all_nil, Bool.and_true]
    cases netOk b ls
    · exact Ev.neg (by simp) (Ev.some rfl)
    · exact Ev.pos rfl (Ev.some rfl)
  | succ d ih =>
    intro i hi
    rw [drop_at (show i < bs.length by omega) z76, List.all_cons]
    refine Ev.step (fun k => by rw [spec_BusesValid.l0]) ?_
    refine Ev.pos (by omega) (Ev.pos (by omega) ?_)
    rw [show rd_T76 bs (i : Int) = bs.getD i z76 from rfl, w1 i (by omega)]
    generalize bs.getD i z76 = x
    by_cases hx : busOk x = true
    · rw [hx, Bool.true_and]
      have := ih (i + 1) (by omega)
      simp only [busOk, decide_eq_true_eq] at hx
      exact Ev.thenC (l1In_eq _ _ _) (Ev.pos (by rw [decide_eq_true_eq]; omega) (Ev.thenC (l1In_eq _ _ _) (Ev.pos (by rw [decide_eq_true_eq]; omega) this)))
    · rw [Bool.not_eq_true] at hx
      rw [hx, Bool.false_and, Bool.and_false]
      simp only [busOk, decide_eq_false_iff_not] at hx
      refine Ev.thenC (l1In_eq _ _ _) (Ev.ite (fun h1 => Ev.thenC (l1In_eq _ _ _) (Ev.ite (fun h2 => ?_) fun _ => Ev.some rfl)) fun _ => Ev.some rfl)
      rw [decide_eq_true_eq] at h1 h2
      exact absurd (show _ ∧ _ from ⟨h1.1, h1.2, h2.1, h2.2⟩) hx
theorem specBuses_ev (b : Int) (ls : List S70) (bs : List S76) (hls : ls.length < 4611686018427387904) (hl : bs.length < 4611686018427387904) : Ev (fun k => spec_BusesValid.f k b ls bs) (busesOk b ls bs) :=
  specBuses_l0 b ls bs hls hl bs.length 0 (by omega)
end Go.Proofs.Ytcchhgpdallpmaa.P
namespace Go.Proofs.Ytcchhgpdallpmaa.P
open Go.RowKit Go.Proofs.YtcchhgpdallpmaaW.PrintWords Go.Proofs.YtcchhgpdallpmaaW.PrintLast Go.Proofs.YtcchhgpdallpmaaW.PrintMore

/-- The guard of a network's size. -/
theorem sz_guard {b : Int} {l : List S82} (hl : l.length ≤ 9223372036854775807) {g : Nat → Int → Option Bool} (h : l.length ≤ 1048576 → Ev (fun k => g k (1048576 - (l.length : Int))) true) :
    Ev (fun k => (laws_szNet.f b l 1048576).bind fun t => (if t < 0 then some true else g k t)) true := by
  refine Ev.thenC (szNet_ev b l 1048576 hl (by omega) (by omega)) ?_
  by_cases hc : 1048576 - (l.length : Int) < 0
  · exact Ev.pos (by rw [if_pos hc]; omega) (Ev.some rfl)
  · refine Ev.neg (by rw [if_neg hc]; exact hc) ?_
    rw [if_neg hc]
    exact h (by omega)
theorem x_BusesValid (b : Int) (l : List S82) (bs : List S78) (hl : l.length ≤ 9223372036854775807) (hb : bs.length ≤ 9223372036854775807) : Ev (fun k => laws_FnExactBusesValid.f k b l bs) true := by
  refine sz_guard hl fun h => ?_
  refine Ev.thenC (szBusS_ev bs _ hb (by omega) (by omega)) ?_
  by_cases hc : 1048576 - (l.length : Int) - (bs.length : Int) < 0
  · exact Ev.pos (by rw [if_pos hc]; omega) (Ev.some rfl)
  refine Ev.neg (by rw [if_neg hc]; exact hc) ?_
  have hn := toNet_ev b l h
  have ho := toBusS_ev bs (by omega)
  have h0 : (l.map toL).length < 4611686018427387904 := by rw [List.length_map]; omega
  have h1 : (bs.map toB).length < 4611686018427387904 := by rw [List.length_map]; omega
  exact Ev.then hn (Ev.then ho (Ev.then (specBuses_ev b _ _ h0 h1) (Ev.then hn (Ev.then ho (Ev.then (implBuses_ev b _ _) (Ev.neg (by simp) (Ev.then hn (Ev.then (eqNet_ev b _ h0) (Ev.pos rfl (Ev.then ho (Ev.then (eqBusS_ev _ h1) (Ev.pos rfl (Ev.some rfl)))))))))))))
end Go.Proofs.Ytcchhgpdallpmaa.P

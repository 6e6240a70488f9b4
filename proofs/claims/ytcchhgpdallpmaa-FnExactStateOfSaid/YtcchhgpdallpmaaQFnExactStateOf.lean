/- The plain side of the law FnExactStateOf: what the printed functions come to, in plain Lean. -/
import Derived.Test.YtcchhgpdallpmaaP0
import Derived.Test.YtcchhgpdallpmaaP5
import Derived.Test.YtcchhgpdallpmaaP7
import Derived.Test.YtcchhgpdallpmaaP8
import Derived.Test.YtcchhgpdallpmaaP9
import Derived.Test.YtcchhgpdallpmaaP10
import Derived.Test.YtcchhgpdallpmaaP11
import Derived.Test.YtcchhgpdallpmaaP12
import Derived.Test.YtcchhgpdallpmaaP13
namespace Go.Proofs.YtcchhgpdallpmaaM

def tr (s : List Bool) (k : Nat) : Bool := s.getD k false
def LeB (s t : List Bool) : Prop := s.length = t.length ∧ ∀ k, tr s k = true → tr t k = true
theorem LeB.trans {s t u : List Bool} (h : LeB s t) (k : LeB t u) : LeB s u := ⟨h.1.trans k.1, fun i hi => k.2 i (h.2 i hi)⟩
end Go.Proofs.YtcchhgpdallpmaaM
namespace Go.Proofs.Ytcchhgpdallpmaa.P
open Go.RowKit Go.Proofs.YtcchhgpdallpmaaW.PrintWords Go.Proofs.YtcchhgpdallpmaaW.PrintLast Go.Proofs.YtcchhgpdallpmaaW.PrintMore
theorem Ev.pos {α : Type} {c : Prop} [Decidable c] {a b : Nat → Option α} {r : α} (hc : c) (h : Ev a r) : Ev (fun k => if c then a k else b k) r := by
  obtain ⟨K, h⟩ := h
  exact ⟨K, fun k hk => (if_pos hc).trans (h k hk)⟩
theorem Ev.neg {α : Type} {c : Prop} [Decidable c] {a b : Nat → Option α} {r : α} (hc : ¬ c) (h : Ev b r) : Ev (fun k => if c then a k else b k) r := by
  obtain ⟨K, h⟩ := h
  exact ⟨K, fun k hk => (if_neg hc).trans (h k hk)⟩
theorem Ev.some {α : Type} {r q : α} (h : r = q) : Ev (fun _ => Option.some r) q := ⟨0, fun _ _ => by rw [h]⟩
theorem Ev.then {α β : Type} {g : Nat → Option α} {f : Nat → α → Option β} {a : α} {r : β} (h : Ev g a) (k : Ev (fun n => f n a) r) : Ev (fun n => (g n).bind fun x => f n x) r := Ev.bind h k
theorem Ev.thenC {α β : Type} {g : Option α} {f : Nat → α → Option β} {a : α} {r : β} (h : g = Option.some a) (k : Ev (fun n => f n a) r) : Ev (fun n => g.bind fun x => f n x) r := by
  subst h
  exact k
theorem w1 (i : Nat) (h : i < 4611686018427387904) : wrap64 ((i : Int) + 1) = ((i + 1 : Nat) : Int) := by unfold wrap64; omega
theorem wp (x : Int) (h0 : -9223372036854775808 ≤ x) (h1 : x < 9223372036854775808) : wrap64 x = x := by unfold wrap64; omega
theorem rdOf_nat {α : Type} (d : α) (xs : List α) (i : Nat) : rdOf d xs (i : Int) = xs.getD i d := rfl
theorem getD_at {α : Type} {xs : List α} {i : Nat} (h : i < xs.length) (d : α) : xs.getD i d = xs[i] := by simp [List.getD_eq_getElem?_getD, h]
theorem Ev.ite {α : Type} {c : Prop} [Decidable c] {a b : Nat → Option α} {r : α} (h1 : c → Ev a r) (h2 : ¬ c → Ev b r) : Ev (fun k => if c then a k else b k) r := by
  by_cases hc : c
  · exact Ev.pos hc (h1 hc)
  · exact Ev.neg hc (h2 hc)
end Go.Proofs.Ytcchhgpdallpmaa.P
namespace Go.Proofs.Ytcchhgpdallpmaa.P
open Go.RowKit Go.Proofs.YtcchhgpdallpmaaW.PrintWords Go.Proofs.YtcchhgpdallpmaaW.PrintLast Go.Proofs.YtcchhgpdallpmaaW.PrintMore

theorem eqBoolS_l0 (l : List Bool) (hl : l.length < 4611686018427387904) : ∀ d i, i + d = l.length → Ev (fun k => laws_eqBoolS.l0 k l l i) true := by
  intro d
  induction d with
  | zero => intro i hi; exact Ev.step (fun k => by rw [laws_eqBoolS.l0]) (Ev.neg (by omega) (Ev.some rfl))
  | succ d ih =>
    intro i hi
    refine Ev.step (fun k => by rw [laws_eqBoolS.l0]) ?_
    refine Ev.pos (by omega) (Ev.pos (by omega) (Ev.pos (by omega) (Ev.neg (by simp) ?_)))
    rw [w1 i (by omega)]; exact ih (i + 1) (by omega)
theorem eqBoolS_ev (l : List Bool) (hl : l.length < 4611686018427387904) : Ev (fun k => laws_eqBoolS.f k l l) true := Ev.pos rfl (eqBoolS_l0 l hl l.length 0 (by omega))
end Go.Proofs.Ytcchhgpdallpmaa.P
namespace Go.Proofs.Ytcchhgpdallpmaa.P
open Go.RowKit Go.Proofs.YtcchhgpdallpmaaW.PrintWords Go.Proofs.YtcchhgpdallpmaaW.PrintLast Go.Proofs.YtcchhgpdallpmaaW.PrintMore

theorem l1In_eq (a b c : Int) : spec_l1In.f a b c = some (decide (b ≤ a ∧ a ≤ c)) := by
  unfold spec_l1In.f
  by_cases h : a ≥ b
  · rw [if_pos h]; simp [show b ≤ a from h]
  · rw [if_neg h]; simp [show ¬ b ≤ a from h]
end Go.Proofs.Ytcchhgpdallpmaa.P
namespace Go.Proofs.Ytcchhgpdallpmaa.P
open Go.RowKit Go.Proofs.YtcchhgpdallpmaaW.PrintWords Go.Proofs.YtcchhgpdallpmaaW.PrintLast Go.Proofs.YtcchhgpdallpmaaW.PrintMore

theorem shl_small_all : ∀ i : Nat, i < 11 → shl .i64 1 (i : Int) = ((2 ^ i : Nat) : Int) := by decide +kernel
theorem and_small_all : ∀ a : Nat, a < 1024 → Go.bits .and .i64 (a : Int) 1 = ((a % 2 : Nat) : Int) := by decide +kernel
theorem shl_small (a : Int) (h0 : 0 ≤ a) (h1 : a ≤ 10) : shl .i64 1 a = ((2 ^ a.toNat : Nat) : Int) := by
  have := shl_small_all a.toNat (by omega)
  rwa [Int.toNat_of_nonneg h0] at this
/-- The state of a number. -/
def stN : Nat → Nat → List Bool
  | _, 0 => []
  | m, l + 1 => (m % 2 == 1) :: stN (m / 2) l
theorem stN_length : ∀ (l m : Nat), (stN m l).length = l
  | 0, _ => rfl
  | l + 1, m => by simp [stN, stN_length l]
theorem stN_at : ∀ (l m i : Nat), i < l → (stN m l).getD i false = (m / 2 ^ i % 2 == 1)
  | 0, _, _, h => by omega
  | l + 1, m, 0, _ => by simp [stN]
  | l + 1, m, i + 1, h => by
    have := stN_at l (m / 2) i (by omega)
    simp only [stN, List.getD_cons_succ, this, Nat.div_div_eq_div_mul, Nat.pow_succ]
    rw [Nat.mul_comm]
def stOf (m l : Int) : List Bool × Bool := if 0 ≤ l ∧ l ≤ 10 ∧ 0 ≤ m ∧ m < ((2 ^ l.toNat : Nat) : Int) then (stN m.toNat l.toNat, true) else ([], false)
theorem pow_le_1024 {l : Nat} (h : l ≤ 10) : 2 ^ l ≤ 1024 := Nat.le_trans (Nat.pow_le_pow_right (by omega) h) (by decide)
theorem specStOf_l0 (L : Nat) (hL : L ≤ 10) : ∀ d i m (acc : List Bool), i + d = L → m < 1024 → acc.length = i → Ev (fun k => spec_StateOf.l0 k ((m : Nat) : Int) (L : Int) acc (i : Int)) (acc ++ stN m d, true) := by
  intro d
  induction d with
  | zero =>
    intro i m acc hi _ _
    refine Ev.step (fun k => by rw [spec_StateOf.l0]) ?_
    exact Ev.neg (by omega) (Ev.some (by simp [stN]))
  | succ d ih =>
    intro i m acc hi hm ha
    refine Ev.step (fun k => by rw [spec_StateOf.l0]) ?_
    refine Ev.pos (by omega) (Ev.pos (by omega) ?_)
    have := ih (i + 1) (m / 2) (acc ++ [(m % 2 == 1)]) (by omega) (by omega) (by simp [ha])
    rw [w1 i (by omega), show wrap64 (Int.tdiv (m : Int) 2) = ((m / 2 : Nat) : Int) by
      rw [Int.tdiv_eq_ediv_of_nonneg (by omega), wp _ (by omega) (by omega)]; omega,
      show ((Int.tmod (m : Int) 2) == 1) = (m % 2 == 1) by
        rw [Int.tmod_eq_emod_of_nonneg (by omega), Bool.eq_iff_iff, beq_iff_eq, beq_iff_eq]; omega]
    simpa [stN] using this
theorem specStOf_ev (m l : Int) : Ev (fun k => spec_StateOf.f k m l) (stOf m l) := by
  unfold stOf
  refine Ev.thenC rfl (Ev.thenC (l1In_eq _ _ _) (Ev.ite (fun h1 => ?_) (fun h1 => ?_)))
  · rw [decide_eq_true_eq] at h1
    have hp := pow_le_1024 (show l.toNat ≤ 10 by omega)
    have hp0 : 0 < 2 ^ l.toNat := Nat.two_pow_pos _
    have hS := specStOf_l0 l.toNat (by omega) l.toNat 0 m.toNat [] (by omega)
    refine Ev.pos h1.1 (Ev.thenC (l1In_eq _ _ _) ?_)
    rw [shl_small l h1.1 h1.2]
    generalize 2 ^ l.toNat = P at *
    rw [wp _ (by omega) (by omega)]
    refine Ev.step (fun k => by rw [spec_StateOf.j0]) ?_
    refine Ev.ite (fun h2 => Ev.some ?_) (fun h2 => ?_)
    · simp only [Bool.not_eq_true', decide_eq_false_iff_not] at h2
      rw [if_neg (by omega)]
    · simp only [Bool.not_eq_true', decide_eq_false_iff_not, Decidable.not_not] at h2
      rw [if_pos (show 0 ≤ l ∧ l ≤ 10 ∧ 0 ≤ m ∧ m < (P : Int) by omega)]
      have := hS (by omega) rfl
      rw [Int.toNat_of_nonneg h1.1, Int.toNat_of_nonneg h2.1] at this
      exact this
  · rw [decide_eq_true_eq] at h1
    rw [if_neg (by omega)]
    refine Ev.step (fun k => by rw [spec_StateOf.j0]) ?_
    exact Ev.pos rfl (Ev.some rfl)
theorem stN_map (m l : Nat) : stN m l = (List.range l).map fun i => (m / 2 ^ i % 2 == 1) := by
  apply List.ext_getElem
  · simp [stN_length]
  · intro i h1 h2
    rw [stN_length] at h1
    have := stN_at l m i h1
    rw [getD_at (by rw [stN_length]; exact h1)] at this
    simpa using this
theorem implStOf_l0 (m L : Nat) (hm : m < 1024) (hL : L ≤ 10) : ∀ d i, i + d = L → Ev (fun k => impl_stateOf.l0 k (m : Int) (((List.range i).map fun i => (m / 2 ^ i % 2 == 1)) ++ List.replicate (L - i) false) (L : Int) (i : Int)) (stN m L) := by
  intro d
  induction d with
  | zero =>
    intro i hi
    refine Ev.step (fun k => by rw [impl_stateOf.l0]) ?_
    refine Ev.neg (by omega) (Ev.some ?_)
    rw [stN_map, show L = i by omega]; simp
  | succ d ih =>
    intro i hi
    refine Ev.step (fun k => by rw [impl_stateOf.l0]) ?_
    refine Ev.pos (by omega) (Ev.pos (by omega) (Ev.pos (by simp; omega) ?_))
    have := ih (i + 1) (by omega)
    rw [w1 i (by omega), show (Go.bits .and .i64 (shr .i64 (m : Int) (i : Int)) 1 == 1) = (m / 2 ^ i % 2 == 1) by
      have hs : shr .i64 (m : Int) (i : Int) = ((m / 2 ^ i : Nat) : Int) := by
        unfold shr
        rw [show min ((i : Int).toNat) (IntKind.bits .i64) = i from Nat.min_eq_left (show i ≤ 64 by omega)]
        simp
      rw [hs, and_small_all _ (Nat.lt_of_le_of_lt (Nat.div_le_self _ _) hm), Bool.eq_iff_iff, beq_iff_eq, beq_iff_eq]
      omega]
    rw [show ((i : Int).toNat) = i from rfl, show (((List.range i).map fun i => (m / 2 ^ i % 2 == 1)) ++ List.replicate (L - i) false).set i (m / 2 ^ i % 2 == 1) = ((List.range (i + 1)).map fun i => (m / 2 ^ i % 2 == 1)) ++ List.replicate (L - (i + 1)) false by
      rw [List.set_append_right _ _ (by simp)]
      rw [show L - i = (L - (i + 1)) + 1 by omega, List.replicate_succ, List.range_succ]
      simp]
    exact this
theorem implStOf_ev (m l : Int) : Ev (fun k => impl_StateOf.f k m l) (stOf m l) := by
  unfold stOf
  refine Ev.ite (fun h => Ev.some ?_) (fun h1 => Ev.ite (fun h => Ev.some ?_) (fun h2 => Ev.ite (fun h => Ev.some ?_) (fun h3 => Ev.pos (by omega) ?_)))
  · rw [if_neg (by omega)]
  · rw [if_neg (by omega)]
  · rw [if_neg (by omega)]
  have hp := pow_le_1024 (show l.toNat ≤ 10 by omega)
  rw [shl_small l (by omega) (by omega)]
  refine Ev.ite (fun h => Ev.some ?_) (fun h4 => ?_)
  · rw [if_neg (by omega)]
  rw [if_pos (show 0 ≤ l ∧ l ≤ 10 ∧ 0 ≤ m ∧ m < ((2 ^ l.toNat : Nat) : Int) by omega)]
  refine Ev.then (a := stN m.toNat l.toNat) ?_ (Ev.some rfl)
  refine Ev.pos (by omega) (Ev.pos (by omega) (Ev.thenC rfl ?_))
  have := implStOf_l0 m.toNat l.toNat (by omega) (by omega) l.toNat 0 (by omega)
  rw [Int.toNat_of_nonneg (show 0 ≤ m by omega)] at this
  simpa using this

def marksB (m : Nat) (n : Nat) : List Bool := (List.range n).map fun i => (Int.tmod ((m + i : Nat) : Int) 3 == 0)
theorem set_mid {α : Type} (f : Nat → α) (l : List α) (i : Nat) (h : i < l.length) : ((List.range i).map f ++ l.drop i).set i (f i) = (List.range (i + 1)).map f ++ l.drop (i + 1) := by
  have e := List.drop_eq_getElem_cons h
  rw [List.set_append_right _ _ (by simp), List.range_succ, e]
  simp only [List.length_map, List.length_range, Nat.sub_self, List.set_cons_zero, List.map_append, List.map_cons, List.map_nil, List.append_assoc, List.cons_append, List.nil_append]
theorem markB_l0 (m n : Nat) (l : List Bool) (hn : l.length = n) (hs : m + n < 4611686018427387904) : ∀ d i, i + d = n → Ev (fun k => laws_markBoolS.l0 k (marksB m i ++ l.drop i) ((m + i : Nat) : Int) i) (((m + n : Nat) : Int), marksB m n) := by
  intro d
  induction d with
  | zero =>
    intro i hi
    refine Ev.step (fun k => by rw [laws_markBoolS.l0]) ?_
    refine Ev.neg (by simp [marksB]; omega) (Ev.some ?_)
    rw [show i = n by omega, List.drop_of_length_le (by omega)]; simp
  | succ d ih =>
    intro i hi
    refine Ev.step (fun k => by rw [laws_markBoolS.l0]) ?_
    refine Ev.pos (by simp [marksB]; omega) (Ev.pos (by omega) ?_)
    rw [w1 i (by omega), w1 (m + i) (by omega), Int.toNat_natCast]
    have := ih (i + 1) (by omega)
    unfold marksB at this ⊢
    rw [set_mid (fun i => (Int.tmod ((m + i : Nat) : Int) 3 == 0)) l i (by omega)]
    exact this
theorem markB_ev (l : List Bool) (m : Nat) (hs : m + l.length < 4611686018427387904) : Ev (fun k => laws_markBoolS.f k l (m : Int)) (((m + l.length : Nat) : Int), marksB m l.length) := markB_l0 m l.length l rfl hs l.length 0 (by omega)
theorem heldB_l0 (m n : Nat) (hs : m + n < 4611686018427387904) : ∀ d i, i + d = n → Ev (fun k => laws_heldBoolS.l0 k (marksB m n) ((m + i : Nat) : Int) i) (((m + n : Nat) : Int)) := by
  intro d
  induction d with
  | zero =>
    intro i hi
    refine Ev.step (fun k => by rw [laws_heldBoolS.l0]) ?_
    refine Ev.neg (by simp [marksB]; omega) (Ev.some (by rw [show i = n by omega]))
  | succ d ih =>
    intro i hi
    refine Ev.step (fun k => by rw [laws_heldBoolS.l0]) ?_
    refine Ev.pos (by simp [marksB]; omega) (Ev.pos (by omega) ?_)
    rw [w1 i (by omega), w1 (m + i) (by omega), rdOf_nat, show (marksB m n).getD i false = (Int.tmod ((m + i : Nat) : Int) 3 == 0) by
      unfold marksB
      rw [getD_at (by simp; omega)]; simp]
    exact Ev.neg (by simp) (ih (i + 1) (by omega))
theorem heldB_ev (m n : Nat) (hs : m + n < 4611686018427387904) : Ev (fun k => laws_heldBoolS.f k (marksB m n) (m : Int)) (((m + n : Nat) : Int)) := heldB_l0 m n hs n 0 (by omega)
end Go.Proofs.Ytcchhgpdallpmaa.P
namespace Go.Proofs.Ytcchhgpdallpmaa.P
open Go.RowKit Go.Proofs.YtcchhgpdallpmaaW.PrintWords Go.Proofs.YtcchhgpdallpmaaW.PrintLast Go.Proofs.YtcchhgpdallpmaaW.PrintMore

theorem x_StateOf (m l : Int) : Ev (fun k => laws_FnExactStateOf.f k m l) true := by
  have hlen : (stOf m l).1.length ≤ 10 := by
    unfold stOf
    split
    · rw [stN_length]; omega
    · simp
  have h0 : (stOf m l).1.length < 4611686018427387904 := by omega
  have h1 : Ev (fun k => laws_heldBoolS.f k (marksB 1 (stOf m l).1.length) 1) (((1 + (stOf m l).1.length : Nat) : Int)) := heldB_ev 1 _ (by omega)
  refine Ev.then (specStOf_ev m l) (Ev.then (implStOf_ev m l) (Ev.then (eqBoolS_ev _ h0) (Ev.pos rfl ?_)))
  refine Ev.step (fun k => by rw [laws_FnExactStateOf.j0]) ?_
  refine Ev.neg (by simp) (Ev.then (markB_ev _ 1 (by omega)) (Ev.then h1 (Ev.neg (by omega) (Ev.pos rfl (Ev.then (implStOf_ev m l) (Ev.then (eqBoolS_ev _ h0) (Ev.pos rfl ?_)))))))
  refine Ev.step (fun k => by rw [laws_FnExactStateOf.j1]) ?_
  exact Ev.neg (by simp) (Ev.then h1 (Ev.neg (by omega) (Ev.pos rfl (Ev.some rfl))))
end Go.Proofs.Ytcchhgpdallpmaa.P

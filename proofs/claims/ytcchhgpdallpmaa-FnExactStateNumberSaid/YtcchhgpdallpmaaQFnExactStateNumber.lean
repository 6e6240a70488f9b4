/- The plain side of the law FnExactStateNumber: what the printed functions come to, in plain Lean. -/
import Derived.Test.YtcchhgpdallpmaaP0
import Derived.Test.YtcchhgpdallpmaaP2
import Derived.Test.YtcchhgpdallpmaaP3
import Derived.Test.YtcchhgpdallpmaaP4
import Derived.Test.YtcchhgpdallpmaaP5
import Derived.Test.YtcchhgpdallpmaaP6
namespace Go.Proofs.YtcchhgpdallpmaaM

def tr (s : List Bool) (k : Nat) : Bool := s.getD k false
def LeB (s t : List Bool) : Prop := s.length = t.length ∧ ∀ k, tr s k = true → tr t k = true
theorem LeB.trans {s t u : List Bool} (h : LeB s t) (k : LeB t u) : LeB s u := ⟨h.1.trans k.1, fun i hi => k.2 i (h.2 i hi)⟩
end Go.Proofs.YtcchhgpdallpmaaM
namespace Go.Proofs.Ytcchhgpdallpmaa.P
open Go.RowKit Go.Proofs.YtcchhgpdallpmaaW.PrintWords Go.Proofs.YtcchhgpdallpmaaW.PrintLast Go.Proofs.YtcchhgpdallpmaaW.PrintMore
theorem Ev.pos {α : Type} {c : Prop} [Decidable c] {a b : Nat → Option α} {r : α} (hc : c) (h : Ev a r) : Ev (fun k => if c then a k else b k) r := by
  obtain ⟨K, h⟩ := h
  exact ⟨K, fun k hk => (if_pos hc).trans (h k hk)⟩
theorem Ev.neg {α : Type} {c : Prop} [Decidable c] {a b : Nat → Option α} {r : α} (hc : ¬ c) (h : Ev b r) : Ev (fun k => if c then a k else b k) r := by
  obtain ⟨K, h⟩ := h
  exact ⟨K, fun k hk => (if_neg hc).trans (h k hk)⟩
theorem Ev.some {α : Type} {r q : α} (h : r = q) : Ev (fun _ => Option.some r) q := ⟨0, fun _ _ => by rw [h]⟩
theorem Ev.then {α β : Type} {g : Nat → Option α} {f : Nat → α → Option β} {a : α} {r : β} (h : Ev g a) (k : Ev (fun n => f n a) r) : Ev (fun n => (g n).bind fun x => f n x) r := Ev.bind h k
theorem w1 (i : Nat) (h : i < 4611686018427387904) : wrap64 ((i : Int) + 1) = ((i + 1 : Nat) : Int) := by unfold wrap64; omega
theorem wp (x : Int) (h0 : -9223372036854775808 ≤ x) (h1 : x < 9223372036854775808) : wrap64 x = x := by unfold wrap64; omega
theorem rdOf_nat {α : Type} (d : α) (xs : List α) (i : Nat) : rdOf d xs (i : Int) = xs.getD i d := rfl
theorem getD_at {α : Type} {xs : List α} {i : Nat} (h : i < xs.length) (d : α) : xs.getD i d = xs[i] := by simp [List.getD_eq_getElem?_getD, h]
theorem fill_step {α β : Type} (f : β → α) (l : List β) (z : α) (d : β) (i : Nat) (h : i < l.length) : ((l.take i).map f ++ List.replicate (l.length - i) z).set i (f (l.getD i d)) = (l.take (i + 1)).map f ++ List.replicate (l.length - (i + 1)) z := by
  rw [List.take_succ_eq_append_getElem h, getD_at h, List.map_append, List.set_append_right _ _ (by simp; omega)]
  simp only [List.length_map, List.length_take, Nat.min_eq_left (Nat.le_of_lt h), Nat.sub_self, List.append_assoc]
  rw [show l.length - i = (l.length - (i + 1)) + 1 by omega, List.replicate_succ]
  simp
theorem Ev.ite {α : Type} {c : Prop} [Decidable c] {a b : Nat → Option α} {r : α} (h1 : c → Ev a r) (h2 : ¬ c → Ev b r) : Ev (fun k => if c then a k else b k) r := by
  by_cases hc : c
  · exact Ev.pos hc (h1 hc)
  · exact Ev.neg hc (h2 hc)
theorem drop_at {α : Type} {xs : List α} {i : Nat} (h : i < xs.length) (d : α) : xs.drop i = xs.getD i d :: xs.drop (i + 1) := by
  rw [getD_at h]; exact List.drop_eq_getElem_cons h
end Go.Proofs.Ytcchhgpdallpmaa.P
namespace Go.Proofs.Ytcchhgpdallpmaa.P
open Go.RowKit Go.Proofs.YtcchhgpdallpmaaW.PrintWords Go.Proofs.YtcchhgpdallpmaaW.PrintLast Go.Proofs.YtcchhgpdallpmaaW.PrintMore

theorem toBoolS_l0 (l : List Bool) (hl : l.length ≤ 1048576) : ∀ d i, i + d = l.length → Ev (fun k => laws_toBoolS.l0 k l ((l.take i).map (fun x => x) ++ List.replicate (l.length - i) false) i) l := by
  intro d
  induction d with
  | zero =>
    intro i hi
    refine Ev.step (fun k => by rw [laws_toBoolS.l0]) ?_
    refine Ev.neg (by omega) (Ev.some ?_)
    rw [show i = l.length by omega]; simp
  | succ d ih =>
    intro i hi
    refine Ev.step (fun k => by rw [laws_toBoolS.l0]) ?_
    refine Ev.pos (by omega) (Ev.pos (by omega) (Ev.pos (by simp; omega) ?_))
    rw [w1 i (by omega), rdOf_nat, Int.toNat_natCast, fill_step (fun x => x) l false false i (by omega)]
    exact ih (i + 1) (by omega)
theorem toBoolS_ev (l : List Bool) (hl : l.length ≤ 1048576) : Ev (fun k => laws_toBoolS.f k l) l := by
  refine Ev.pos (by omega) (Ev.pos (by omega) ?_)
  exact toBoolS_l0 l hl l.length 0 (by omega)
theorem eqBoolS_l0 (l : List Bool) (hl : l.length < 4611686018427387904) : ∀ d i, i + d = l.length → Ev (fun k => laws_eqBoolS.l0 k l l i) true := by
  intro d
  induction d with
  | zero => intro i hi; exact Ev.step (fun k => by rw [laws_eqBoolS.l0]) (Ev.neg (by omega) (Ev.some rfl))
  | succ d ih =>
    intro i hi
    refine Ev.step (fun k => by rw [laws_eqBoolS.l0]) ?_
    refine Ev.pos (by omega) (Ev.pos (by omega) (Ev.pos (by omega) (Ev.neg (by simp) ?_)))
    rw [w1 i (by omega)]; exact ih (i + 1) (by omega)
theorem eqBoolS_ev (l : List Bool) (hl : l.length < 4611686018427387904) : Ev (fun k => laws_eqBoolS.f k l l) true := Ev.pos rfl (eqBoolS_l0 l hl l.length 0 (by omega))
end Go.Proofs.Ytcchhgpdallpmaa.P
namespace Go.Proofs.Ytcchhgpdallpmaa.P
open Go.RowKit Go.Proofs.YtcchhgpdallpmaaW.PrintWords Go.Proofs.YtcchhgpdallpmaaW.PrintLast Go.Proofs.YtcchhgpdallpmaaW.PrintMore

theorem shl_small_all : ∀ i : Nat, i < 11 → shl .i64 1 (i : Int) = ((2 ^ i : Nat) : Int) := by decide +kernel
theorem or_small_all : ∀ i : Nat, i < 10 → ∀ a : Nat, a < 2 ^ i → Go.bits .or .i64 (a : Int) ((2 ^ i : Nat) : Int) = ((a + 2 ^ i : Nat) : Int) := by decide +kernel
/-- The number of a state. -/
def numN : List Bool → Nat
  | [] => 0
  | b :: l => (if b then 1 else 0) + 2 * numN l
theorem numN_lt : ∀ l : List Bool, numN l < 2 ^ l.length
  | [] => by simp [numN]
  | b :: l => by
    have := numN_lt l
    simp only [numN, List.length_cons, Nat.pow_succ]
    split <;> omega
theorem numN_snoc (l : List Bool) (b : Bool) : numN (l ++ [b]) = numN l + (if b then 2 ^ l.length else 0) := by
  induction l with
  | nil => cases b <;> simp [numN]
  | cons c l ih =>
    simp only [List.cons_append, numN, ih, List.length_cons, Nat.pow_succ]
    cases b
    · simp
    · simp only [if_true]; omega
def stNum (on : List Bool) : Int := if on.length > 10 then -1 else (numN on : Int)
theorem specNum_l0 (on : List Bool) (hl : on.length ≤ 10) : ∀ i, i ≤ on.length → Ev (fun k => spec_StateNumber.l0 k on (numN (on.drop i) : Int) ((i : Int) - 1)) (numN on : Int) := by
  intro i
  induction i with
  | zero =>
    intro _
    refine Ev.step (fun k => by rw [spec_StateNumber.l0]) ?_
    exact Ev.neg (by omega) (Ev.some rfl)
  | succ i ih =>
    intro hi
    have hb := numN_lt (on.drop (i + 1))
    have hb2 : numN (on.drop (i + 1)) < 1024 := Nat.lt_of_lt_of_le hb (Nat.le_trans (Nat.pow_le_pow_right (by omega) (show (on.drop (i + 1)).length ≤ 10 by simp; omega)) (by decide))
    have hd := drop_at (show i < on.length by omega) false
    refine Ev.step (fun k => by rw [spec_StateNumber.l0]) ?_
    rw [show (((i + 1 : Nat) : Int) - 1) = (i : Int) by omega, wp ((i : Int) - 1) (by omega) (by omega), rdOf_nat, wp (2 * (numN (on.drop (i + 1)) : Int)) (by omega) (by omega), wp (2 * (numN (on.drop (i + 1)) : Int) + 1) (by omega) (by omega)]
    refine Ev.pos (by omega) (Ev.pos (by omega) (Ev.pos (by omega) ?_))
    have := ih (by omega)
    rw [hd] at this
    refine Ev.ite (fun hc => ?_) (fun hc => ?_)
    · rw [hc] at this
      simp only [numN, if_true] at this
      rwa [show (((1 + 2 * numN (on.drop (i + 1)) : Nat) : Int)) = 2 * (numN (on.drop (i + 1)) : Int) + 1 by omega] at this
    · rw [Bool.not_eq_true] at hc
      rw [hc] at this
      simp only [numN] at this
      rwa [show (((if false = true then 1 else 0) + 2 * numN (on.drop (i + 1)) : Nat) : Int) = 2 * (numN (on.drop (i + 1)) : Int) by simp] at this
theorem specNum_ev (on : List Bool) (hl : on.length < 4611686018427387904) : Ev (fun k => spec_StateNumber.f k on) (stNum on) := by
  unfold stNum
  refine Ev.ite (fun h => Ev.some ?_) (fun h => ?_)
  · rw [if_pos (by omega)]
  · rw [if_neg (by omega), wp _ (by omega) (by omega)]
    have := specNum_l0 on (by omega) on.length (Nat.le_refl _)
    rw [List.drop_length] at this
    exact this
theorem take_snoc' {α : Type} {xs : List α} {i : Nat} (h : i < xs.length) (d : α) : xs.take (i + 1) = xs.take i ++ [xs.getD i d] := by
  rw [List.take_succ_eq_append_getElem h, getD_at h]
theorem implNum_l0 (on : List Bool) (hl : on.length ≤ 10) : ∀ d i, i + d = on.length → Ev (fun k => impl_StateNumber.l0 k (numN (on.take i) : Int) on (on.length : Int) i) (numN on : Int) := by
  intro d
  induction d with
  | zero =>
    intro i hi
    refine Ev.step (fun k => by rw [impl_StateNumber.l0]) ?_
    exact Ev.neg (by omega) (Ev.some (by rw [List.take_of_length_le (by omega)]))
  | succ d ih =>
    intro i hi
    have hlen : (on.take i).length = i := by simp; omega
    have hb := numN_lt (on.take i)
    rw [hlen] at hb
    refine Ev.step (fun k => by rw [impl_StateNumber.l0]) ?_
    refine Ev.pos (by omega) (Ev.pos (by omega) (Ev.pos (by omega) ?_))
    have := ih (i + 1) (by omega)
    rw [take_snoc' (show i < on.length by omega) false, numN_snoc, hlen] at this
    rw [w1 i (by omega), rdOf_nat, shl_small_all i (by omega)]
    refine Ev.ite (fun hc => ?_) (fun hc => ?_)
    · rw [or_small_all i (by omega) _ hb]
      rw [hc, if_pos rfl] at this
      exact this
    · rw [Bool.not_eq_true] at hc
      rw [hc] at this
      simpa using this
theorem implNum_ev (on : List Bool) : Ev (fun k => impl_StateNumber.f k on) (stNum on) := by
  unfold stNum
  refine Ev.ite (fun h => Ev.some ?_) (fun h => ?_)
  · rw [if_pos (by omega)]
  · rw [if_neg (by omega)]
    exact implNum_l0 on (by omega) on.length 0 (by omega)

end Go.Proofs.Ytcchhgpdallpmaa.P
namespace Go.Proofs.Ytcchhgpdallpmaa.P
open Go.RowKit Go.Proofs.YtcchhgpdallpmaaW.PrintWords Go.Proofs.YtcchhgpdallpmaaW.PrintLast Go.Proofs.YtcchhgpdallpmaaW.PrintMore

theorem x_StateNumber (l : List Bool) : Ev (fun k => laws_FnExactStateNumber.f k l) true := by
  refine Ev.ite (fun _ => Ev.some rfl) (fun h => ?_)
  have hb := toBoolS_ev l (by omega)
  exact Ev.then hb (Ev.then (specNum_ev l (by omega)) (Ev.then hb (Ev.then (implNum_ev l) (Ev.pos rfl (Ev.then hb (Ev.then (eqBoolS_ev l (by omega)) (Ev.pos rfl (Ev.some rfl))))))))
end Go.Proofs.Ytcchhgpdallpmaa.P

/- The plain side of the law FnExactChangeAll: what the printed functions come to, in plain Lean. -/
import Derived.Test.YtcchhgpdallpmaaP0
import Derived.Test.YtcchhgpdallpmaaP3
import Derived.Test.YtcchhgpdallpmaaP5
import Derived.Test.YtcchhgpdallpmaaP7
import Derived.Test.YtcchhgpdallpmaaP11
import Derived.Test.YtcchhgpdallpmaaP12
import Derived.Test.YtcchhgpdallpmaaP16
import Derived.Test.YtcchhgpdallpmaaP17
import Derived.Test.YtcchhgpdallpmaaP20
import Derived.Test.YtcchhgpdallpmaaP21
import Derived.Test.YtcchhgpdallpmaaP22
import Derived.Test.YtcchhgpdallpmaaP23
import Derived.Test.YtcchhgpdallpmaaP24
import Derived.Test.YtcchhgpdallpmaaP25
namespace Go.Proofs.YtcchhgpdallpmaaM

def tr (s : List Bool) (k : Nat) : Bool := s.getD k false
def LeB (s t : List Bool) : Prop := s.length = t.length ∧ ∀ k, tr s k = true → tr t k = true
theorem LeB.trans {s t u : List Bool} (h : LeB s t) (k : LeB t u) : LeB s u := ⟨h.1.trans k.1, fun i hi => k.2 i (h.2 i hi)⟩
end Go.Proofs.YtcchhgpdallpmaaM
namespace Go.Proofs.Ytcchhgpdallpmaa.P
open Go.RowKit Go.Proofs.YtcchhgpdallpmaaW.PrintWords Go.Proofs.YtcchhgpdallpmaaW.PrintLast Go.Proofs.YtcchhgpdallpmaaW.PrintMore
theorem Ev.pos {α : Type} {c : Prop} [Decidable c] {a b : Nat → Option α} {r : α} (hc : c) (h : Ev a r) : Ev (fun k => if c then a k else b k) r := by
  obtain ⟨K, h⟩ := h
  exact ⟨K, fun k hk => (if_pos hc).trans (h k hk)⟩
theorem Ev.neg {α : Type} {c : Prop} [Decidable c] {a b : Nat → Option α} {r : α} (hc : ¬ c) (h : Ev b r) : Ev (fun k => if c then a k else b k) r := by
  obtain ⟨K, h⟩ := h
  exact ⟨K, fun k hk => (if_neg hc).trans (h k hk)⟩
theorem Ev.some {α : Type} {r q : α} (h : r = q) : Ev (fun _ => Option.some r) q := ⟨0, fun _ _ => by rw [h]⟩
theorem Ev.then {α β : Type} {g : Nat → Option α} {f : Nat → α → Option β} {a : α} {r : β} (h : Ev g a) (k : Ev (fun n => f n a) r) : Ev (fun n => (g n).bind fun x => f n x) r := Ev.bind h k
theorem Ev.thenC {α β : Type} {g : Option α} {f : Nat → α → Option β} {a : α} {r : β} (h : g = Option.some a) (k : Ev (fun n => f n a) r) : Ev (fun n => g.bind fun x => f n x) r := by
  subst h
  exact k
theorem w1 (i : Nat) (h : i < 4611686018427387904) : wrap64 ((i : Int) + 1) = ((i + 1 : Nat) : Int) := by unfold wrap64; omega
theorem wp (x : Int) (h0 : -9223372036854775808 ≤ x) (h1 : x < 9223372036854775808) : wrap64 x = x := by unfold wrap64; omega
theorem rd_nat (xs : List Int) (i : Nat) : rd xs (i : Int) = xs.getD i 0 := rfl
theorem rdOf_nat {α : Type} (d : α) (xs : List α) (i : Nat) : rdOf d xs (i : Int) = xs.getD i d := rfl
theorem getD_at {α : Type} {xs : List α} {i : Nat} (h : i < xs.length) (d : α) : xs.getD i d = xs[i] := by simp [List.getD_eq_getElem?_getD, h]
theorem fill_step {α β : Type} (f : β → α) (l : List β) (z : α) (d : β) (i : Nat) (h : i < l.length) : ((l.take i).map f ++ List.replicate (l.length - i) z).set i (f (l.getD i d)) = (l.take (i + 1)).map f ++ List.replicate (l.length - (i + 1)) z := by
  rw [List.take_succ_eq_append_getElem h, getD_at h, List.map_append, List.set_append_right _ _ (by simp; omega)]
  simp only [List.length_map, List.length_take, Nat.min_eq_left (Nat.le_of_lt h), Nat.sub_self, List.append_assoc]
  rw [show l.length - i = (l.length - (i + 1)) + 1 by omega, List.replicate_succ]
  simp
theorem Ev.ite {α : Type} {c : Prop} [Decidable c] {a b : Nat → Option α} {r : α} (h1 : c → Ev a r) (h2 : ¬ c → Ev b r) : Ev (fun k => if c then a k else b k) r := by
  by_cases hc : c
  · exact Ev.pos hc (h1 hc)
  · exact Ev.neg hc (h2 hc)
theorem drop_at {α : Type} {xs : List α} {i : Nat} (h : i < xs.length) (d : α) : xs.drop i = xs.getD i d :: xs.drop (i + 1) := by
  rw [getD_at h]; exact List.drop_eq_getElem_cons h
end Go.Proofs.Ytcchhgpdallpmaa.P
namespace Go.Proofs.Ytcchhgpdallpmaa.P
open Go.RowKit Go.Proofs.YtcchhgpdallpmaaW.PrintWords Go.Proofs.YtcchhgpdallpmaaW.PrintLast Go.Proofs.YtcchhgpdallpmaaW.PrintMore

theorem toBoolS_l0 (l : List Bool) (hl : l.length ≤ 1048576) : ∀ d i, i + d = l.length → Ev (fun k => laws_toBoolS.l0 k l ((l.take i).map (fun x => x) ++ List.replicate (l.length - i) false) i) l := by
  intro d
  induction d with
  | zero =>
    intro i hi
    refine Ev.step (fun k => by rw [laws_toBoolS.l0]) ?_
    refine Ev.neg (by omega) (Ev.some ?_)
    rw [show i = l.length by omega]; simp
  | succ d ih =>
    intro i hi
    refine Ev.step (fun k => by rw [laws_toBoolS.l0]) ?_
    refine Ev.pos (by omega) (Ev.pos (by omega) (Ev.pos (by simp; omega) ?_))
    rw [w1 i (by omega), rdOf_nat, Int.toNat_natCast, fill_step (fun x => x) l false false i (by omega)]
    exact ih (i + 1) (by omega)
theorem toBoolS_ev (l : List Bool) (hl : l.length ≤ 1048576) : Ev (fun k => laws_toBoolS.f k l) l := by
  refine Ev.pos (by omega) (Ev.pos (by omega) ?_)
  exact toBoolS_l0 l hl l.length 0 (by omega)
theorem toIntS_l0 (l : List Int) (hl : l.length ≤ 1048576) : ∀ d i, i + d = l.length → Ev (fun k => laws_toIntS.l0 k l ((l.take i).map (fun x => x) ++ List.replicate (l.length - i) 0) i) l := by
  intro d
  induction d with
  | zero =>
    intro i hi
    refine Ev.step (fun k => by rw [laws_toIntS.l0]) ?_
    refine Ev.neg (by omega) (Ev.some ?_)
    rw [show i = l.length by omega]; simp
  | succ d ih =>
    intro i hi
    refine Ev.step (fun k => by rw [laws_toIntS.l0]) ?_
    refine Ev.pos (by omega) (Ev.pos (by omega) (Ev.pos (by simp; omega) ?_))
    rw [w1 i (by omega), rd_nat, Int.toNat_natCast, fill_step (fun x => x) l 0 0 i (by omega)]
    exact ih (i + 1) (by omega)
theorem toIntS_ev (l : List Int) (hl : l.length ≤ 1048576) : Ev (fun k => laws_toIntS.f k l) l := by
  refine Ev.pos (by omega) (Ev.pos (by omega) ?_)
  exact toIntS_l0 l hl l.length 0 (by omega)
theorem eqBoolS_l0 (l : List Bool) (hl : l.length < 4611686018427387904) : ∀ d i, i + d = l.length → Ev (fun k => laws_eqBoolS.l0 k l l i) true := by
  intro d
  induction d with
  | zero => intro i hi; exact Ev.step (fun k => by rw [laws_eqBoolS.l0]) (Ev.neg (by omega) (Ev.some rfl))
  | succ d ih =>
    intro i hi
    refine Ev.step (fun k => by rw [laws_eqBoolS.l0]) ?_
    refine Ev.pos (by omega) (Ev.pos (by omega) (Ev.pos (by omega) (Ev.neg (by simp) ?_)))
    rw [w1 i (by omega)]; exact ih (i + 1) (by omega)
theorem eqBoolS_ev (l : List Bool) (hl : l.length < 4611686018427387904) : Ev (fun k => laws_eqBoolS.f k l l) true := Ev.pos rfl (eqBoolS_l0 l hl l.length 0 (by omega))
theorem eqIntS_l0 (l : List Int) (hl : l.length < 4611686018427387904) : ∀ d i, i + d = l.length → Ev (fun k => laws_eqIntS.l0 k l l i) true := by
  intro d
  induction d with
  | zero => intro i hi; exact Ev.step (fun k => by rw [laws_eqIntS.l0]) (Ev.neg (by omega) (Ev.some rfl))
  | succ d ih =>
    intro i hi
    refine Ev.step (fun k => by rw [laws_eqIntS.l0]) ?_
    refine Ev.pos (by omega) (Ev.pos (by omega) (Ev.pos (by omega) (Ev.pos rfl ?_)))
    rw [w1 i (by omega)]; exact ih (i + 1) (by omega)
theorem eqIntS_ev (l : List Int) (hl : l.length < 4611686018427387904) : Ev (fun k => laws_eqIntS.f k l l) true := Ev.pos rfl (eqIntS_l0 l hl l.length 0 (by omega))
end Go.Proofs.Ytcchhgpdallpmaa.P
namespace Go.Proofs.Ytcchhgpdallpmaa.P
open Go.RowKit Go.Proofs.YtcchhgpdallpmaaW.PrintWords Go.Proofs.YtcchhgpdallpmaaW.PrintLast Go.Proofs.YtcchhgpdallpmaaW.PrintMore

theorem l1In_eq (a b c : Int) : spec_l1In.f a b c = some (decide (b ≤ a ∧ a ≤ c)) := by
  unfold spec_l1In.f
  by_cases h : a ≥ b
  · rw [if_pos h]; simp [show b ≤ a from h]
  · rw [if_neg h]; simp [show ¬ b ≤ a from h]
end Go.Proofs.Ytcchhgpdallpmaa.P
namespace Go.Proofs.Ytcchhgpdallpmaa.P
open Go.RowKit Go.Proofs.YtcchhgpdallpmaaW.PrintWords Go.Proofs.YtcchhgpdallpmaaW.PrintLast Go.Proofs.YtcchhgpdallpmaaW.PrintMore

def flip (on : List Bool) (x : Int) : List Bool := on.set x.toNat (!(on.getD x.toNat false))
def changeAll : List Bool → List Int → List Bool × Bool
  | on, [] => (on, true)
  | on, x :: l => if 0 ≤ x ∧ x < on.length then changeAll (flip on x) l else ([], false)
theorem flip_length (on : List Bool) (x : Int) : (flip on x).length = on.length := by simp [flip]
theorem copy_eq (on : List Bool) (hl : on.length < 140737488355328) : spec_l2Copy.f on = some on := by
  show (if ([] : List Bool).length + on.length < 140737488355328 then some ([] ++ on) else none) = some on
  rw [if_pos (by simpa using hl)]; rfl
theorem specAll_l0 (on : List Bool) (l : List Int) (hl : on.length ≤ 1048576) (hl2 : l.length ≤ 1048576) : ∀ d i out, i + d = l.length → out.length = on.length → Ev (fun k => spec_ChangeAll.l0 k on l out i) (changeAll out (l.drop i)) := by
  intro d
  induction d with
  | zero =>
    intro i out hi _
    refine Ev.step (fun k => by rw [spec_ChangeAll.l0]) ?_
    refine Ev.neg (by omega) (Ev.some ?_)
    rw [show i = l.length by omega, List.drop_length]; rfl
  | succ d ih =>
    intro i out hi ho
    refine Ev.step (fun k => by rw [spec_ChangeAll.l0]) ?_
    refine Ev.pos (by omega) (Ev.pos (by omega) ?_)
    rw [drop_at (show i < l.length by omega) 0, rd_nat, w1 i (by omega), wp _ (by omega) (by omega)]
    have := ih (i + 1) (flip out (l.getD i 0)) (by omega) (by rw [flip_length, ho])
    generalize l.getD i 0 = x at *
    unfold changeAll
    refine Ev.thenC (l1In_eq _ _ _) (Ev.ite (fun h => ?_) (fun h => Ev.some ?_))
    · rw [decide_eq_true_eq] at h
      rw [if_pos (show 0 ≤ x ∧ x < out.length by omega)]
      exact Ev.pos (by omega) (Ev.pos (by omega) this)
    · rw [decide_eq_true_eq] at h
      rw [if_neg (by omega)]
theorem specAll_ev (on : List Bool) (l : List Int) (hl : on.length ≤ 1048576) (hl2 : l.length ≤ 1048576) : Ev (fun k => spec_ChangeAll.f k on l) (changeAll on l) :=
  Ev.thenC (copy_eq on (by omega)) (specAll_l0 on l hl hl2 l.length 0 on (by omega) rfl)
theorem clone_eq (on : List Bool) (hl : on.length < 140737488355328) : slices_Clone_bool_bool.f on = some on := if_pos hl
theorem implAll_l0 (l : List Int) (hl2 : l.length ≤ 1048576) : ∀ d i out, i + d = l.length → Ev (fun k => impl_ChangeAll.l0 k out l (l.length : Int) i) (changeAll out (l.drop i)) := by
  intro d
  induction d with
  | zero =>
    intro i out hi
    refine Ev.step (fun k => by rw [impl_ChangeAll.l0]) ?_
    refine Ev.neg (by omega) (Ev.some ?_)
    rw [show i = l.length by omega, List.drop_length]; rfl
  | succ d ih =>
    intro i out hi
    refine Ev.step (fun k => by rw [impl_ChangeAll.l0]) ?_
    refine Ev.pos (by omega) (Ev.pos (by omega) (Ev.pos (by omega) ?_))
    rw [drop_at (show i < l.length by omega) 0, rd_nat, w1 i (by omega)]
    have := ih (i + 1) (flip out (l.getD i 0)) (by omega)
    generalize l.getD i 0 = x at *
    unfold changeAll
    refine Ev.ite (fun h => Ev.some ?_) (fun h => Ev.ite (fun h1 => Ev.some ?_) (fun h1 => ?_))
    · rw [if_neg (by omega)]
    · rw [if_neg (by omega)]
    · rw [if_pos (show 0 ≤ x ∧ x < out.length by omega)]
      exact Ev.pos (by omega) (Ev.pos (by omega) this)
theorem implAll_ev (on : List Bool) (l : List Int) (hl : on.length ≤ 1048576) (hl2 : l.length ≤ 1048576) : Ev (fun k => impl_ChangeAll.f k on l) (changeAll on l) :=
  Ev.thenC (clone_eq on (by omega)) (implAll_l0 l hl2 l.length 0 on (by omega))
theorem changeAll_length : ∀ (l : List Int) (on : List Bool), (changeAll on l).1.length ≤ on.length
  | [], on => Nat.le_refl _
  | x :: l, on => by
    unfold changeAll
    split
    · have := changeAll_length l (flip on x)
      rwa [flip_length] at this
    · simp
def marksB (m : Nat) (n : Nat) : List Bool := (List.range n).map fun i => (Int.tmod ((m + i : Nat) : Int) 3 == 0)
theorem set_mid {α : Type} (f : Nat → α) (l : List α) (i : Nat) (h : i < l.length) : ((List.range i).map f ++ l.drop i).set i (f i) = (List.range (i + 1)).map f ++ l.drop (i + 1) := by
  have e := List.drop_eq_getElem_cons h
  rw [List.set_append_right _ _ (by simp), List.range_succ, e]
  simp only [List.length_map, List.length_range, Nat.sub_self, List.set_cons_zero, List.map_append, List.map_cons, List.map_nil, List.append_assoc, List.cons_append, List.nil_append]
theorem markB_l0 (m n : Nat) (l : List Bool) (hn : l.length = n) (hs : m + n < 4611686018427387904) : ∀ d i, i + d = n → Ev (fun k => laws_markBoolS.l0 k (marksB m i ++ l.drop i) ((m + i : Nat) : Int) i) (((m + n : Nat) : Int), marksB m n) := by
  intro d
  induction d with
  | zero =>
    intro i hi
    refine Ev.step (fun k => by rw [laws_markBoolS.l0]) ?_
    refine Ev.neg (by simp [marksB]; omega) (Ev.some ?_)
    rw [show i = n by omega, List.drop_of_length_le (by omega)]; simp
  | succ d ih =>
    intro i hi
    refine Ev.step (fun k => by rw [laws_markBoolS.l0]) ?_
    refine Ev.pos (by simp [marksB]; omega) (Ev.pos (by omega) ?_)
    rw [w1 i (by omega), w1 (m + i) (by omega), Int.toNat_natCast]
    have := ih (i + 1) (by omega)
    unfold marksB at this ⊢
    rw [set_mid (fun i => (Int.tmod ((m + i : Nat) : Int) 3 == 0)) l i (by omega)]
    exact this
theorem markB_ev (l : List Bool) (m : Nat) (hs : m + l.length < 4611686018427387904) : Ev (fun k => laws_markBoolS.f k l (m : Int)) (((m + l.length : Nat) : Int), marksB m l.length) := markB_l0 m l.length l rfl hs l.length 0 (by omega)
theorem heldB_l0 (m n : Nat) (hs : m + n < 4611686018427387904) : ∀ d i, i + d = n → Ev (fun k => laws_heldBoolS.l0 k (marksB m n) ((m + i : Nat) : Int) i) (((m + n : Nat) : Int)) := by
  intro d
  induction d with
  | zero =>
    intro i hi
    refine Ev.step (fun k => by rw [laws_heldBoolS.l0]) ?_
    refine Ev.neg (by simp [marksB]; omega) (Ev.some (by rw [show i = n by omega]))
  | succ d ih =>
    intro i hi
    refine Ev.step (fun k => by rw [laws_heldBoolS.l0]) ?_
    refine Ev.pos (by simp [marksB]; omega) (Ev.pos (by omega) ?_)
    rw [w1 i (by omega), w1 (m + i) (by omega), rdOf_nat, show (marksB m n).getD i false = (Int.tmod ((m + i : Nat) : Int) 3 == 0) by
      unfold marksB
      rw [getD_at (by simp; omega)]; simp]
    exact Ev.neg (by simp) (ih (i + 1) (by omega))
theorem heldB_ev (m n : Nat) (hs : m + n < 4611686018427387904) : Ev (fun k => laws_heldBoolS.f k (marksB m n) (m : Int)) (((m + n : Nat) : Int)) := heldB_l0 m n hs n 0 (by omega)
def marksI (m : Nat) (n : Nat) : List Int := (List.range n).map fun i => ((m + i : Nat) : Int)
theorem markI_l0 (m n : Nat) (l : List Int) (hn : l.length = n) (hs : m + n < 4611686018427387904) : ∀ d i, i + d = n → Ev (fun k => laws_markIntS.l0 k (marksI m i ++ l.drop i) ((m + i : Nat) : Int) i) (((m + n : Nat) : Int), marksI m n) := by
  intro d
  induction d with
  | zero =>
    intro i hi
    refine Ev.step (fun k => by rw [laws_markIntS.l0]) ?_
    refine Ev.neg (by simp [marksI]; omega) (Ev.some ?_)
    rw [show i = n by omega, List.drop_of_length_le (by omega)]; simp
  | succ d ih =>
    intro i hi
    refine Ev.step (fun k => by rw [laws_markIntS.l0]) ?_
    refine Ev.pos (by simp [marksI]; omega) (Ev.pos (by omega) ?_)
    rw [w1 i (by omega), w1 (m + i) (by omega), Int.toNat_natCast]
    have := ih (i + 1) (by omega)
    unfold marksI at this ⊢
    rw [set_mid (fun i => ((m + i : Nat) : Int)) l i (by omega)]
    exact this
theorem markI_ev (l : List Int) (m : Nat) (hs : m + l.length < 4611686018427387904) : Ev (fun k => laws_markIntS.f k l (m : Int)) (((m + l.length : Nat) : Int), marksI m l.length) := markI_l0 m l.length l rfl hs l.length 0 (by omega)
end Go.Proofs.Ytcchhgpdallpmaa.P
namespace Go.Proofs.Ytcchhgpdallpmaa.P
open Go.RowKit Go.Proofs.YtcchhgpdallpmaaW.PrintWords Go.Proofs.YtcchhgpdallpmaaW.PrintLast Go.Proofs.YtcchhgpdallpmaaW.PrintMore

theorem x_ChangeAll (on : List Bool) (l : List Int) : Ev (fun k => laws_FnExactChangeAll.f k on l) true := by
  refine Ev.ite (fun _ => Ev.some rfl) (fun h => Ev.ite (fun _ => Ev.some rfl) (fun h' => ?_))
  have ho := toBoolS_ev on (by omega)
  have hl := toIntS_ev l (by omega)
  have hlen := changeAll_length l on
  have hs := specAll_ev on l (by omega) (by omega)
  have hi := implAll_ev on l (by omega) (by omega)
  have he := eqBoolS_ev (changeAll on l).1 (by omega)
  have h1 : Ev (fun k => laws_heldBoolS.f k (marksB 1 (changeAll on l).1.length) 1) (((1 + (changeAll on l).1.length : Nat) : Int)) := heldB_ev 1 _ (by omega)
  refine Ev.then ho (Ev.then hl (Ev.then hs (Ev.then ho (Ev.then hl (Ev.then hi (Ev.then he (Ev.pos rfl ?_)))))))
  refine Ev.step (fun k => by rw [laws_FnExactChangeAll.j0]) ?_
  refine Ev.neg (by simp) (Ev.then ho (Ev.then (eqBoolS_ev on (by omega)) (Ev.pos rfl (Ev.then hl (Ev.then (eqIntS_ev l (by omega)) (Ev.pos rfl (Ev.then (markB_ev on 1 (by omega)) (Ev.then (markI_ev l _ (by omega)) (Ev.neg (by omega) (Ev.then he (Ev.pos rfl ?_)))))))))))
  refine Ev.step (fun k => by rw [laws_FnExactChangeAll.j1]) ?_
  refine Ev.neg (by simp) (Ev.then (markB_ev _ 1 (by omega)) (Ev.then h1 (Ev.neg (by omega) (Ev.pos rfl (Ev.then ho (Ev.then hl (Ev.then hi (Ev.then he (Ev.pos rfl ?_)))))))))
  refine Ev.step (fun k => by rw [laws_FnExactChangeAll.j2]) ?_
  exact Ev.neg (by simp) (Ev.then h1 (Ev.neg (by omega) (Ev.pos rfl (Ev.some rfl))))
end Go.Proofs.Ytcchhgpdallpmaa.P

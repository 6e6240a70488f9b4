/- The plain side of the law FnExactChanges: what the printed functions come to, in plain Lean. -/
import Derived.Test.YtcchhgpdallpmaaP0
import Derived.Test.YtcchhgpdallpmaaP3
import Derived.Test.YtcchhgpdallpmaaP5
import Derived.Test.YtcchhgpdallpmaaP11
import Derived.Test.YtcchhgpdallpmaaP14
import Derived.Test.YtcchhgpdallpmaaP15
import Derived.Test.YtcchhgpdallpmaaP16
import Derived.Test.YtcchhgpdallpmaaP17
import Derived.Test.YtcchhgpdallpmaaP18
import Derived.Test.YtcchhgpdallpmaaP19
namespace Go.Proofs.YtcchhgpdallpmaaM

def tr (s : List Bool) (k : Nat) : Bool := s.getD k false
def LeB (s t : List Bool) : Prop := s.length = t.length ∧ ∀ k, tr s k = true → tr t k = true
theorem LeB.trans {s t u : List Bool} (h : LeB s t) (k : LeB t u) : LeB s u := ⟨h.1.trans k.1, fun i hi => k.2 i (h.2 i hi)⟩
end Go.Proofs.YtcchhgpdallpmaaM
namespace Go.Proofs.Ytcchhgpdallpmaa.P
open Go.RowKit Go.Proofs.YtcchhgpdallpmaaW.PrintWords Go.Proofs.YtcchhgpdallpmaaW.PrintLast Go.Proofs.YtcchhgpdallpmaaW.PrintMore
theorem Ev.pos {α : Type} {c : Prop} [Decidable c] {a b : Nat → Option α} {r : α} (hc : c) (h : Ev a r) : Ev (fun k => if c then a k else b k) r := by
  obtain ⟨K, h⟩ := h
  exact ⟨K, fun k hk => (if_pos hc).trans (h k hk)⟩
theorem Ev.neg {α : Type} {c : Prop} [Decidable c] {a b : Nat → Option α} {r : α} (hc : ¬ c) (h : Ev b r) : Ev (fun k => if c then a k else b k) r := by
  obtain ⟨K, h⟩ := h
  exact ⟨K, fun k hk => (if_neg hc).trans (h k hk)⟩
theorem Ev.some {α : Type} {r q : α} (h : r = q) : Ev (fun _ => Option.some r) q := ⟨0, fun _ _ => by rw [h]⟩
theorem Ev.then {α β : Type} {g : Nat → Option α} {f : Nat → α → Option β} {a : α} {r : β} (h : Ev g a) (k : Ev (fun n => f n a) r) : Ev (fun n => (g n).bind fun x => f n x) r := Ev.bind h k
theorem w1 (i : Nat) (h : i < 4611686018427387904) : wrap64 ((i : Int) + 1) = ((i + 1 : Nat) : Int) := by unfold wrap64; omega
theorem rd_nat (xs : List Int) (i : Nat) : rd xs (i : Int) = xs.getD i 0 := rfl
theorem rdOf_nat {α : Type} (d : α) (xs : List α) (i : Nat) : rdOf d xs (i : Int) = xs.getD i d := rfl
theorem getD_at {α : Type} {xs : List α} {i : Nat} (h : i < xs.length) (d : α) : xs.getD i d = xs[i] := by simp [List.getD_eq_getElem?_getD, h]
theorem fill_step {α β : Type} (f : β → α) (l : List β) (z : α) (d : β) (i : Nat) (h : i < l.length) : ((l.take i).map f ++ List.replicate (l.length - i) z).set i (f (l.getD i d)) = (l.take (i + 1)).map f ++ List.replicate (l.length - (i + 1)) z := by
  rw [List.take_succ_eq_append_getElem h, getD_at h, List.map_append, List.set_append_right _ _ (by simp; omega)]
  simp only [List.length_map, List.length_take, Nat.min_eq_left (Nat.le_of_lt h), Nat.sub_self, List.append_assoc]
  rw [show l.length - i = (l.length - (i + 1)) + 1 by omega, List.replicate_succ]
  simp
theorem Ev.ite {α : Type} {c : Prop} [Decidable c] {a b : Nat → Option α} {r : α} (h1 : c → Ev a r) (h2 : ¬ c → Ev b r) : Ev (fun k => if c then a k else b k) r := by
  by_cases hc : c
  · exact Ev.pos hc (h1 hc)
  · exact Ev.neg hc (h2 hc)
/-- The numbers from i on, of d numbers, that have a property. -/
def pickK (p : Nat → Bool) (i d : Nat) : List Int := ((List.range' i d).filter p).map fun k : Nat => (k : Int)
theorem pickK_zero (p : Nat → Bool) (i : Nat) : pickK p i 0 = [] := rfl
theorem pickK_yes {p : Nat → Bool} {i d : Nat} (h : p i = true) : pickK p i (d + 1) = (i : Int) :: pickK p (i + 1) d := by
  simp [pickK, List.range'_succ, h]
theorem pickK_no {p : Nat → Bool} {i d : Nat} (h : p i = false) : pickK p i (d + 1) = pickK p (i + 1) d := by
  simp [pickK, List.range'_succ, h]
theorem pickK_length (p : Nat → Bool) (i d : Nat) : (pickK p i d).length ≤ d := by
  unfold pickK
  rw [List.length_map]
  exact Nat.le_trans (List.length_filter_le _ _) (by simp)
end Go.Proofs.Ytcchhgpdallpmaa.P
namespace Go.Proofs.Ytcchhgpdallpmaa.P
open Go.RowKit Go.Proofs.YtcchhgpdallpmaaW.PrintWords Go.Proofs.YtcchhgpdallpmaaW.PrintLast Go.Proofs.YtcchhgpdallpmaaW.PrintMore

theorem toBoolS_l0 (l : List Bool) (hl : l.length ≤ 1048576) : ∀ d i, i + d = l.length → Ev (fun k => laws_toBoolS.l0 k l ((l.take i).map (fun x => x) ++ List.replicate (l.length - i) false) i) l := by
  intro d
  induction d with
  | zero =>
    intro i hi
    refine Ev.step (fun k => by rw [laws_toBoolS.l0]) ?_
    refine Ev.neg (by omega) (Ev.some ?_)
    rw [show i = l.length by omega]; simp
  | succ d ih =>
    intro i hi
    refine Ev.step (fun k => by rw [laws_toBoolS.l0]) ?_
    refine Ev.pos (by omega) (Ev.pos (by omega) (Ev.pos (by simp; omega) ?_))
    rw [w1 i (by omega), rdOf_nat, Int.toNat_natCast, fill_step (fun x => x) l false false i (by omega)]
    exact ih (i + 1) (by omega)
theorem toBoolS_ev (l : List Bool) (hl : l.length ≤ 1048576) : Ev (fun k => laws_toBoolS.f k l) l := by
  refine Ev.pos (by omega) (Ev.pos (by omega) ?_)
  exact toBoolS_l0 l hl l.length 0 (by omega)
theorem eqBoolS_l0 (l : List Bool) (hl : l.length < 4611686018427387904) : ∀ d i, i + d = l.length → Ev (fun k => laws_eqBoolS.l0 k l l i) true := by
  intro d
  induction d with
  | zero => intro i hi; exact Ev.step (fun k => by rw [laws_eqBoolS.l0]) (Ev.neg (by omega) (Ev.some rfl))
  | succ d ih =>
    intro i hi
    refine Ev.step (fun k => by rw [laws_eqBoolS.l0]) ?_
    refine Ev.pos (by omega) (Ev.pos (by omega) (Ev.pos (by omega) (Ev.neg (by simp) ?_)))
    rw [w1 i (by omega)]; exact ih (i + 1) (by omega)
theorem eqBoolS_ev (l : List Bool) (hl : l.length < 4611686018427387904) : Ev (fun k => laws_eqBoolS.f k l l) true := Ev.pos rfl (eqBoolS_l0 l hl l.length 0 (by omega))
theorem eqIntS_l0 (l : List Int) (hl : l.length < 4611686018427387904) : ∀ d i, i + d = l.length → Ev (fun k => laws_eqIntS.l0 k l l i) true := by
  intro d
  induction d with
  | zero => intro i hi; exact Ev.step (fun k => by rw [laws_eqIntS.l0]) (Ev.neg (by omega) (Ev.some rfl))
  | succ d ih =>
    intro i hi
    refine Ev.step (fun k => by rw [laws_eqIntS.l0]) ?_
    refine Ev.pos (by omega) (Ev.pos (by omega) (Ev.pos (by omega) (Ev.pos rfl ?_)))
    rw [w1 i (by omega)]; exact ih (i + 1) (by omega)
theorem eqIntS_ev (l : List Int) (hl : l.length < 4611686018427387904) : Ev (fun k => laws_eqIntS.f k l l) true := Ev.pos rfl (eqIntS_l0 l hl l.length 0 (by omega))
end Go.Proofs.Ytcchhgpdallpmaa.P
namespace Go.Proofs.Ytcchhgpdallpmaa.P
open Go.RowKit Go.Proofs.YtcchhgpdallpmaaW.PrintWords Go.Proofs.YtcchhgpdallpmaaW.PrintLast Go.Proofs.YtcchhgpdallpmaaW.PrintMore

def differ (a c : List Bool) (k : Nat) : Bool := a.getD k false != c.getD k false
def changes (a c : List Bool) : List Int := if a.length = c.length then pickK (differ a c) 0 a.length else []
theorem specCh_l0 (a c : List Bool) (h : a.length = c.length) (hl : a.length ≤ 1048576) : ∀ d i acc, i + d = a.length → acc.length + d ≤ 1048576 → Ev (fun k => spec_Changes.l0 k a c acc i) (acc ++ pickK (differ a c) i d) := by
  intro d
  induction d with
  | zero =>
    intro i acc hi _
    refine Ev.step (fun k => by rw [spec_Changes.l0]) ?_
    refine Ev.neg (by omega) ?_
    refine Ev.step (fun k => by rw [spec_Changes.j1]) ?_
    exact Ev.neg (by simp) (Ev.some (by rw [pickK_zero, List.append_nil]))
  | succ d ih =>
    intro i acc hi ha
    refine Ev.step (fun k => by rw [spec_Changes.l0]) ?_
    refine Ev.pos (by omega) ?_
    refine Ev.step (fun k => by rw [spec_Changes.j1]) ?_
    refine Ev.pos (by rw [beq_iff_eq]; omega) (Ev.pos (by omega) (Ev.pos (by omega) (Ev.pos (by omega) ?_)))
    rw [rdOf_nat, rdOf_nat, w1 i (by omega)]
    refine Ev.ite (fun hd => Ev.pos (by omega) ?_) (fun hd => ?_)
    · rw [pickK_yes (show differ a c i = true from hd)]
      have := ih (i + 1) (acc ++ [(i : Int)]) (by omega) (by simp; omega)
      simpa using this
    · rw [Bool.not_eq_true] at hd
      rw [pickK_no (show differ a c i = false from hd)]
      exact ih (i + 1) acc (by omega) (by omega)
theorem specCh_ev (a c : List Bool) (hl : a.length ≤ 1048576) : Ev (fun k => spec_Changes.f k a c) (changes a c) := by
  unfold changes
  by_cases h : a.length = c.length
  · rw [if_pos h]
    exact specCh_l0 a c h hl a.length 0 [] (by omega) (by simpa using hl)
  · rw [if_neg h]
    refine Ev.step (fun k => by unfold spec_Changes.f; rw [spec_Changes.l0]) ?_
    refine Ev.ite (fun _ => ?_) (fun _ => ?_)
    · refine Ev.step (fun k => by rw [spec_Changes.j1]) ?_
      exact Ev.neg (by rw [beq_iff_eq]; omega) (Ev.some rfl)
    · refine Ev.step (fun k => by rw [spec_Changes.j1]) ?_
      exact Ev.neg (by simp) (Ev.some rfl)
theorem implCh_l0 (a c : List Bool) (h : a.length = c.length) (hl : a.length ≤ 1048576) : ∀ d i acc, i + d = a.length → acc.length + d ≤ 1048576 → Ev (fun k => impl_Changes.l0 k a c acc (a.length : Int) i) (acc ++ pickK (differ a c) i d) := by
  intro d
  induction d with
  | zero =>
    intro i acc hi _
    refine Ev.step (fun k => by rw [impl_Changes.l0]) ?_
    exact Ev.neg (by omega) (Ev.some (by rw [pickK_zero, List.append_nil]))
  | succ d ih =>
    intro i acc hi ha
    refine Ev.step (fun k => by rw [impl_Changes.l0]) ?_
    refine Ev.pos (by omega) (Ev.pos (by omega) (Ev.pos (by omega) (Ev.pos (by omega) ?_)))
    rw [rdOf_nat, rdOf_nat, w1 i (by omega)]
    refine Ev.ite (fun hd => Ev.pos (by omega) ?_) (fun hd => ?_)
    · rw [pickK_yes (show differ a c i = true from hd)]
      have := ih (i + 1) (acc ++ [(i : Int)]) (by omega) (by simp; omega)
      simpa using this
    · rw [Bool.not_eq_true] at hd
      rw [pickK_no (show differ a c i = false from hd)]
      exact ih (i + 1) acc (by omega) (by omega)
theorem implCh_ev (a c : List Bool) (hl : a.length ≤ 1048576) : Ev (fun k => impl_Changes.f k a c) (changes a c) := by
  unfold changes
  refine Ev.ite (fun h => ?_) (fun h => Ev.some ?_)
  · rw [if_pos (by omega)]
    exact implCh_l0 a c (by omega) hl a.length 0 [] (by omega) (by simpa using hl)
  · rw [if_neg (by omega)]

def marksB (m : Nat) (n : Nat) : List Bool := (List.range n).map fun i => (Int.tmod ((m + i : Nat) : Int) 3 == 0)
theorem set_mid {α : Type} (f : Nat → α) (l : List α) (i : Nat) (h : i < l.length) : ((List.range i).map f ++ l.drop i).set i (f i) = (List.range (i + 1)).map f ++ l.drop (i + 1) := by
  have e := List.drop_eq_getElem_cons h
  rw [List.set_append_right _ _ (by simp), List.range_succ, e]
  simp only [List.length_map, List.length_range, Nat.sub_self, List.set_cons_zero, List.map_append, List.map_cons, List.map_nil, List.append_assoc, List.cons_append, List.nil_append]
theorem markB_l0 (m n : Nat) (l : List Bool) (hn : l.length = n) (hs : m + n < 4611686018427387904) : ∀ d i, i + d = n → Ev (fun k => laws_markBoolS.l0 k (marksB m i ++ l.drop i) ((m + i : Nat) : Int) i) (((m + n : Nat) : Int), marksB m n) := by
  intro d
  induction d with
  | zero =>
    intro i hi
    refine Ev.step (fun k => by rw [laws_markBoolS.l0]) ?_
    refine Ev.neg (by simp [marksB]; omega) (Ev.some ?_)
    rw [show i = n by omega, List.drop_of_length_le (by omega)]; simp
  | succ d ih =>
    intro i hi
    refine Ev.step (fun k => by rw [laws_markBoolS.l0]) ?_
    refine Ev.pos (by simp [marksB]; omega) (Ev.pos (by omega) ?_)
    rw [w1 i (by omega), w1 (m + i) (by omega), Int.toNat_natCast]
    have := ih (i + 1) (by omega)
    unfold marksB at this ⊢
    rw [set_mid (fun i => (Int.tmod ((m + i : Nat) : Int) 3 == 0)) l i (by omega)]
    exact this
theorem markB_ev (l : List Bool) (m : Nat) (hs : m + l.length < 4611686018427387904) : Ev (fun k => laws_markBoolS.f k l (m : Int)) (((m + l.length : Nat) : Int), marksB m l.length) := markB_l0 m l.length l rfl hs l.length 0 (by omega)
def marksI (m : Nat) (n : Nat) : List Int := (List.range n).map fun i => ((m + i : Nat) : Int)
theorem markI_l0 (m n : Nat) (l : List Int) (hn : l.length = n) (hs : m + n < 4611686018427387904) : ∀ d i, i + d = n → Ev (fun k => laws_markIntS.l0 k (marksI m i ++ l.drop i) ((m + i : Nat) : Int) i) (((m + n : Nat) : Int), marksI m n) := by
  intro d
  induction d with
  | zero =>
    intro i hi
    refine Ev.step (fun k => by rw [laws_markIntS.l0]) ?_
    refine Ev.neg (by simp [marksI]; omega) (Ev.some ?_)
    rw [show i = n by omega, List.drop_of_length_le (by omega)]; simp
  | succ d ih =>
    intro i hi
    refine Ev.step (fun k => by rw [laws_markIntS.l0]) ?_
    refine Ev.pos (by simp [marksI]; omega) (Ev.pos (by omega) ?_)
    rw [w1 i (by omega), w1 (m + i) (by omega), Int.toNat_natCast]
    have := ih (i + 1) (by omega)
    unfold marksI at this ⊢
    rw [set_mid (fun i => ((m + i : Nat) : Int)) l i (by omega)]
    exact this
theorem markI_ev (l : List Int) (m : Nat) (hs : m + l.length < 4611686018427387904) : Ev (fun k => laws_markIntS.f k l (m : Int)) (((m + l.length : Nat) : Int), marksI m l.length) := markI_l0 m l.length l rfl hs l.length 0 (by omega)
theorem heldI_l0 (m n : Nat) (hs : m + n < 4611686018427387904) : ∀ d i, i + d = n → Ev (fun k => laws_heldIntS.l0 k (marksI m n) ((m + i : Nat) : Int) i) (((m + n : Nat) : Int)) := by
  intro d
  induction d with
  | zero =>
    intro i hi
    refine Ev.step (fun k => by rw [laws_heldIntS.l0]) ?_
    refine Ev.neg (by simp [marksI]; omega) (Ev.some (by rw [show i = n by omega]))
  | succ d ih =>
    intro i hi
    refine Ev.step (fun k => by rw [laws_heldIntS.l0]) ?_
    refine Ev.pos (by simp [marksI]; omega) (Ev.pos (by omega) ?_)
    rw [w1 i (by omega), w1 (m + i) (by omega), rd_nat, show (marksI m n).getD i 0 = ((m + i : Nat) : Int) by
      unfold marksI
      rw [getD_at (by simp; omega)]; simp]
    exact Ev.pos rfl (ih (i + 1) (by omega))
theorem heldI_ev (m n : Nat) (hs : m + n < 4611686018427387904) : Ev (fun k => laws_heldIntS.f k (marksI m n) (m : Int)) (((m + n : Nat) : Int)) := heldI_l0 m n hs n 0 (by omega)
end Go.Proofs.Ytcchhgpdallpmaa.P
namespace Go.Proofs.Ytcchhgpdallpmaa.P
open Go.RowKit Go.Proofs.YtcchhgpdallpmaaW.PrintWords Go.Proofs.YtcchhgpdallpmaaW.PrintLast Go.Proofs.YtcchhgpdallpmaaW.PrintMore

theorem changes_len (a c : List Bool) : (changes a c).length ≤ a.length := by
  unfold changes
  split
  · exact pickK_length _ _ _
  · simp
theorem x_Changes (a c : List Bool) : Ev (fun k => laws_FnExactChanges.f k a c) true := by
  refine Ev.ite (fun _ => Ev.some rfl) (fun h => Ev.ite (fun _ => Ev.some rfl) (fun h' => ?_))
  have ha := toBoolS_ev a (by omega)
  have hc := toBoolS_ev c (by omega)
  have hlen := changes_len a c
  have h0 : (changes a c).length < 4611686018427387904 := by omega
  have h1 : Ev (fun k => laws_heldIntS.f k (marksI 1 (changes a c).length) 1) (((1 + (changes a c).length : Nat) : Int)) := heldI_ev 1 _ (by omega)
  have hs := specCh_ev a c (by omega)
  have hi := implCh_ev a c (by omega)
  have he := eqIntS_ev _ h0
  refine Ev.then ha (Ev.then hc (Ev.then hs (Ev.then ha (Ev.then hc (Ev.then hi (Ev.then he (Ev.pos rfl (Ev.then ha (Ev.then (eqBoolS_ev a (by omega)) (Ev.pos rfl (Ev.then hc (Ev.then (eqBoolS_ev c (by omega)) (Ev.pos rfl ?_)))))))))))))
  refine Ev.then (markB_ev a 1 (by omega)) (Ev.then (markB_ev c _ (by omega)) (Ev.neg (by omega) (Ev.then he ?_)))
  refine Ev.step (fun k => by rw [laws_FnExactChanges.j0]) ?_
  exact Ev.neg (by simp) (Ev.then (markI_ev _ 1 (by omega)) (Ev.then h1 (Ev.neg (by omega) (Ev.pos rfl (Ev.then ha (Ev.then hc (Ev.then hi (Ev.then he (Ev.pos rfl (Ev.then h1 (Ev.neg (by omega) (Ev.pos rfl (Ev.some rfl)))))))))))))
end Go.Proofs.Ytcchhgpdallpmaa.P

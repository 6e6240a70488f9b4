/- How the arguments of a law are opened: a slice of elements of any kind, a network. For whatever program. -/
import Derived.Test.YtpgjgbjkfgbpaaaDoorWOne
import Derived.Deep.Slices
import Derived.Deep.Fields
import Derived.Lib.SmallJoins
namespace Go.Proofs.YtpgjgbjkfgbpaaaDoorO
open Go.ChangeShapes Go.WideShapes Go.Deep Go.Joins Go.RowKit Go.Proofs.YtpgjgbjkfgbpaaaDoorW.PrintWords
section
variable {H : Type} {enc : TypeId × Value → H} {P : Program} {w : World} {base : Nat} {spare : Nat → Bool} {held : Bool}
/-- What can be read at a type is a value of the kind. -/
def Opens {H : Type} (enc : TypeId × Value → H) (P : Program) (w : World) (base : Nat) (spare : Nat → Bool) (held : Bool) {α : Type} (d : Kd α) (t : TypeId) : Prop :=
  ∀ (n : Nat) (cs : List Value) (x : DataW H × List MemPlace), DataW.trod enc P w base spare held n t cs = some x → ∃ a : α, d.K w a cs
theorem opens_int {t : TypeId} {k : IntKind} (ht : P.underlying t = some (.int k)) : Opens enc P w base spare held (Kd.int k) t := by
  intro n cs x h
  obtain ⟨z, rfl, _⟩ := DataW.trod_int ht h
  exact ⟨z, rfl⟩
theorem opens_bool {t : TypeId} (ht : P.underlying t = some .bool) : Opens enc P w base spare held Kd.bool t := by
  intro n cs x h
  obtain ⟨z, rfl, _⟩ := DataW.trod_bool ht h
  exact ⟨z, rfl⟩
theorem cells_two {t : TypeId} {f0 f1 : Field} {n : Nat} {cs : List Value} {x : DataW H × List MemPlace} (hs : P.underlying t = some (.struct #[f0, f1])) (hone : oneCellFields P #[f0, f1] = true) (hC : P.cellsOf t = 2)
    (g0 : P.underlying f0.type = some (.int .i64)) (g1 : P.underlying f1.type = some (.int .i64)) (h : DataW.trod enc P w base spare held n t cs = some x) : ∃ x0 x1, cs = [.int .i64 x0, .int .i64 x1] := by
  obtain ⟨y0, y1, m, _, hl, h0, h1⟩ := trod_struct2 hs h
  obtain ⟨o0, k0⟩ := hone_of hone 0 f0 rfl
  obtain ⟨o1, k1⟩ := hone_of hone 1 f1 rfl
  rw [hC] at hl
  rw [o0, k0] at h0
  rw [o1, k1] at h1
  obtain ⟨x0, e0, _⟩ := DataW.trod_int g0 h0
  obtain ⟨x1, e1, _⟩ := DataW.trod_int g1 h1
  match cs, hl with
  | [a, b], _ =>
    simp at e0 e1
    exact ⟨x0, x1, by rw [e0, e1]⟩
theorem cells_three {t : TypeId} {f0 f1 f2 : Field} {n : Nat} {cs : List Value} {x : DataW H × List MemPlace} (hs : P.underlying t = some (.struct #[f0, f1, f2])) (hone : oneCellFields P #[f0, f1, f2] = true) (hC : P.cellsOf t = 3)
    (g0 : P.underlying f0.type = some (.int .i64)) (g1 : P.underlying f1.type = some (.int .i64)) (g2 : P.underlying f2.type = some (.int .i64)) (h : DataW.trod enc P w base spare held n t cs = some x) : ∃ x0 x1 x2, cs = [.int .i64 x0, .int .i64 x1, .int .i64 x2] := by
  obtain ⟨y0, y1, y2, m, _, hl, h0, h1, h2⟩ := trod_struct3 hs h
  obtain ⟨o0, k0⟩ := hone_of hone 0 f0 rfl
  obtain ⟨o1, k1⟩ := hone_of hone 1 f1 rfl
  obtain ⟨o2, k2⟩ := hone_of hone 2 f2 rfl
  rw [hC] at hl
  rw [o0, k0] at h0
  rw [o1, k1] at h1
  rw [o2, k2] at h2
  obtain ⟨x0, e0, _⟩ := DataW.trod_int g0 h0
  obtain ⟨x1, e1, _⟩ := DataW.trod_int g1 h1
  obtain ⟨x2, e2, _⟩ := DataW.trod_int g2 h2
  match cs, hl with
  | [a, b, c], _ =>
    simp at e0 e1 e2
    exact ⟨x0, x1, x2, by rw [e0, e1, e2]⟩
theorem list_of {α : Type} {n : Nat} {p : Nat → α → Prop} (h : ∀ i, i < n → ∃ x, p i x) : ∃ xs : List α, xs.length = n ∧ ∀ i x, xs[i]? = some x → p i x := by
  induction n with
  | zero => exact ⟨[], rfl, fun i x hx => by simp at hx⟩
  | succ n ih =>
    obtain ⟨xs, hl, hx⟩ := ih fun i hi => h i (by omega)
    obtain ⟨y, hy⟩ := h n (by omega)
    refine ⟨xs ++ [y], by simp [hl], fun i x hi => ?_⟩
    by_cases hlt : i < n
    · rw [List.getElem?_append_left (by omega)] at hi
      exact hx i x hi
    · have : i < (xs ++ [y]).length := (List.getElem?_eq_some_iff.1 hi).1
      rw [List.length_append, hl, List.length_singleton] at this
      obtain rfl : i = n := by omega
      rw [List.getElem?_append_right (by omega), hl, Nat.sub_self] at hi
      simp at hi
      rw [← hi]; exact hy
/-- A slice, opened, with what is known of each of its elements. -/
theorem opens_slice_p {α : Type} {d : Kd α} {p : α → Prop} {t e : TypeId} {n : Nat} {c : Value} {x : DataW H × List MemPlace} (ht : P.underlying t = some (.slice e)) (hc : P.cellsOf e = d.sz)
    (he : ∀ (n : Nat) (cs : List Value) (x : DataW H × List MemPlace), DataW.trod enc P w base spare held n e cs = some x → ∃ a : α, d.K w a cs ∧ p a)
    (h : DataW.trod enc P w base spare held n t [c] = some x) : ∃ (A : Option Addr) (cap : Nat) (l : List α), c = .slice A l.length cap ∧ Kd.C d w A l.length l ∧ l.length ≤ cap ∧ l.length ≤ maxLen ∧ ∀ y ∈ l, p y := by
  rcases open_slice ht h with ⟨hcs, _⟩ | ⟨a, len, cap, m, n', D, Pl, hcs, _, hl, hm, hmm, _, hi⟩
  · simp at hcs
    exact ⟨none, 0, [], hcs, ⟨rfl, by simp, fun h => by simp at h⟩, Nat.le_refl _, Nat.zero_le _, fun y hy => by simp at hy⟩
  · simp at hcs
    have hlm : len ≤ m := by rw [hmm]; split <;> omega
    obtain ⟨l, hll, hle⟩ := list_of (n := len) (p := fun i (y : α) => ∃ cs', w.cells? base (a.add (i * P.cellsOf e)) (P.cellsOf e) = some cs' ∧ d.K w y cs' ∧ p y) (fun i hilt => by
      obtain ⟨cs', h1, h2⟩ := hi i (by omega)
      obtain ⟨y, hy, hp⟩ := he _ _ _ h2
      exact ⟨y, cs', h1, hy, hp⟩)
    subst hll
    refine ⟨some a, cap, l, hcs, ⟨rfl, by unfold maxLen at hm; omega, fun _ => ⟨a, rfl, fun j q hj => ?_⟩⟩, hl, Nat.le_trans hl hm, fun y hy => ?_⟩
    · obtain ⟨cs', h1, h2, _⟩ := hle j q hj
      obtain ⟨_, hcl, hat⟩ := World.cells?_some h1
      rw [hc] at hcl hat
      refine ⟨cs', hcl, h2, fun i u hu => ?_⟩
      have hil : i < cs'.length := (List.getElem?_eq_some_iff.1 hu).1
      rw [← Go.Deep.add_add, hat i (by omega), hu]
    · obtain ⟨j, hj⟩ := List.getElem?_of_mem hy
      obtain ⟨_, _, _, hp⟩ := hle j y hj
      exact hp
/-- A slice, opened: its elements as a list. -/
theorem opens_slice {α : Type} {d : Kd α} {t e : TypeId} {n : Nat} {c : Value} {x : DataW H × List MemPlace} (ht : P.underlying t = some (.slice e)) (hc : P.cellsOf e = d.sz) (he : Opens enc P w base spare held d e)
    (h : DataW.trod enc P w base spare held n t [c] = some x) : ∃ (A : Option Addr) (cap : Nat) (l : List α), c = .slice A l.length cap ∧ Kd.C d w A l.length l ∧ l.length ≤ cap ∧ l.length ≤ maxLen := by
  rcases open_slice ht h with ⟨hcs, _⟩ | ⟨a, len, cap, m, n', D, Pl, hcs, _, hl, hm, hmm, _, hi⟩
  · simp at hcs
    exact ⟨none, 0, [], hcs, ⟨rfl, by simp, fun h => by simp at h⟩, Nat.le_refl _, Nat.zero_le _⟩
  · simp at hcs
    have hlm : len ≤ m := by rw [hmm]; split <;> omega
    obtain ⟨l, hll, hle⟩ := list_of (n := len) (p := fun i (y : α) => ∃ cs', w.cells? base (a.add (i * P.cellsOf e)) (P.cellsOf e) = some cs' ∧ d.K w y cs') (fun i hilt => by
      obtain ⟨cs', h1, h2⟩ := hi i (by omega)
      obtain ⟨y, hy⟩ := he _ _ _ h2
      exact ⟨y, cs', h1, hy⟩)
    subst hll
    refine ⟨some a, cap, l, hcs, ⟨rfl, by unfold maxLen at hm; omega, fun _ => ⟨a, rfl, fun j p hj => ?_⟩⟩, hl, Nat.le_trans hl hm⟩
    obtain ⟨cs', h1, h2⟩ := hle j p hj
    obtain ⟨_, hcl, hat⟩ := World.cells?_some h1
    rw [hc] at hcl hat
    refine ⟨cs', hcl, h2, fun i u hu => ?_⟩
    have hil : i < cs'.length := (List.getElem?_eq_some_iff.1 hu).1
    rw [← Go.Deep.add_add, hat i (by omega), hu]
end
end Go.Proofs.YtpgjgbjkfgbpaaaDoorO

/- The plain side of the law FnNetValid: what the printed functions come to, in plain Lean. -/
import Derived.Test.YtlahlfjhfmldaaaDoorP0
import Derived.Test.YtlahlfjhfmldaaaDoorP2
import Derived.Test.YtlahlfjhfmldaaaDoorP3
import Derived.Test.YtlahlfjhfmldaaaDoorP6
import Derived.Test.YtlahlfjhfmldaaaDoorP7
import Derived.Test.YtlahlfjhfmldaaaDoorP8
import Derived.Test.YtlahlfjhfmldaaaDoorP9
import Derived.Test.YtlahlfjhfmldaaaDoorP13
import Derived.Test.YtlahlfjhfmldaaaDoorP14
import Derived.Test.YtlahlfjhfmldaaaDoorP15A
set_option linter.unusedVariables false
namespace Go.Proofs.YtlahlfjhfmldaaaDoorM

/-- Labels after one more line between a and b. -/
def joinL (c : Nat → Nat) (a b : Nat) : Nat → Nat := fun x => if c x = max (c a) (c b) then min (c a) (c b) else c x
theorem join_ends {c : Nat → Nat} (a b : Nat) : joinL c a b a = joinL c a b b := by
  unfold joinL
  rcases Nat.le_total (c a) (c b) with g | g
  · simp only [Nat.max_eq_right g, Nat.min_eq_left g]
    split <;> simp_all
  · simp only [Nat.max_eq_left g, Nat.min_eq_right g]
    split <;> simp_all
theorem join_keeps {c : Nat → Nat} {a b x y : Nat} (h : c x = c y) : joinL c a b x = joinL c a b y := by
  unfold joinL
  rw [h]
/-- What has one label after a join had one before, or the two ends' labels. -/
theorem join_inv {c : Nat → Nat} {a b x y : Nat} (h : joinL c a b x = joinL c a b y) : c x = c y ∨ (c x = c a ∧ c y = c b) ∨ (c x = c b ∧ c y = c a) := by
  unfold joinL at h
  rcases Nat.le_total (c a) (c b) with g | g
  · simp only [Nat.max_eq_right g, Nat.min_eq_left g] at h
    split at h <;> split at h <;> simp_all
  · simp only [Nat.max_eq_left g, Nat.min_eq_right g] at h
    split at h <;> split at h <;> simp_all

/-- The labels of a list of lines. -/
def labF (c : Nat → Nat) (es : List (Nat × Nat)) : Nat → Nat := es.foldl (fun c e => joinL c e.1 e.2) c
def lab (es : List (Nat × Nat)) : Nat → Nat := labF (fun x => x) es
theorem lab_nil : lab [] = fun x => x := rfl
theorem lab_snoc (es : List (Nat × Nat)) (e : Nat × Nat) : lab (es ++ [e]) = joinL (lab es) e.1 e.2 := by
  unfold lab labF
  rw [List.foldl_append]
  rfl
theorem snoc_ind {α : Type} {p : List α → Prop} (h0 : p []) (h1 : ∀ l a, p l → p (l ++ [a])) : ∀ l, p l := by
  intro l
  have : ∀ m : List α, p m.reverse := by
    intro m
    induction m with
    | nil => exact h0
    | cons a m ih => rw [List.reverse_cons]; exact h1 _ _ ih
  have h := this l.reverse
  rwa [List.reverse_reverse] at h
theorem lab_end {es : List (Nat × Nat)} {e : Nat × Nat} (h : e ∈ es) : lab es e.1 = lab es e.2 := by
  induction es using snoc_ind with
  | h0 => cases h
  | h1 l a ih =>
    rw [lab_snoc]
    rcases List.mem_append.1 h with h | h
    · exact join_keeps (ih h)
    · rw [List.mem_singleton.1 h]; exact join_ends _ _
/-- A set of buses that no line leaves holds whole islands. -/
theorem lab_closed {es : List (Nat × Nat)} {S : Nat → Prop} (hS : ∀ e, e ∈ es → (S e.1 ↔ S e.2)) : ∀ {x y}, lab es x = lab es y → (S x ↔ S y) := by
  induction es using snoc_ind with
  | h0 => intro x y h; rw [lab_nil] at h; rw [show x = y from h]
  | h1 l a ih =>
    intro x y h
    have hl : ∀ e, e ∈ l → (S e.1 ↔ S e.2) := fun e he => hS e (List.mem_append_left _ he)
    have ha : S a.1 ↔ S a.2 := hS a (List.mem_append_right _ (List.mem_singleton.2 rfl))
    rw [lab_snoc] at h
    rcases join_inv h with h | ⟨h1, h2⟩ | ⟨h1, h2⟩
    · exact ih hl h
    · exact (ih hl h1).trans (ha.trans (ih hl h2).symm)
    · exact (ih hl h1).trans (ha.symm.trans (ih hl h2).symm)
theorem lab_mono {es fs : List (Nat × Nat)} (h : ∀ e, e ∈ es → lab fs e.1 = lab fs e.2) {x y : Nat} (hx : lab es x = lab es y) : lab fs x = lab fs y := by
  have := lab_closed (es := es) (S := fun z => lab fs z = lab fs x) (fun e he => by simp only [h e he]) hx
  exact (this.1 rfl).symm
end Go.Proofs.YtlahlfjhfmldaaaDoorM
namespace Go.Proofs.YtlahlfjhfmldaaaDoorM

def tr (s : List Bool) (k : Nat) : Bool := s.getD k false
def LeB (s t : List Bool) : Prop := s.length = t.length ∧ ∀ k, tr s k = true → tr t k = true
theorem LeB.trans {s t u : List Bool} (h : LeB s t) (k : LeB t u) : LeB s u := ⟨h.1.trans k.1, fun i hi => k.2 i (h.2 i hi)⟩
end Go.Proofs.YtlahlfjhfmldaaaDoorM
namespace Go.Proofs.YtlahlfjhfmldaaaDoorM

def onE (L : List (Nat × Nat)) (on : List Bool) : List (Nat × Nat) := ((L.zip on).filter (·.2)).map (·.1)
theorem onE_nil (on : List Bool) : onE [] on = [] := by simp [onE]
theorem onE_nil' (L : List (Nat × Nat)) : onE L [] = [] := by simp [onE]
theorem onE_cons (e : Nat × Nat) (L : List (Nat × Nat)) (b : Bool) (on : List Bool) : onE (e :: L) (b :: on) = (if b then [e] else []) ++ onE L on := by
  cases b <;> simp [onE]
theorem onE_mem {L : List (Nat × Nat)} {on : List Bool} {e : Nat × Nat} : e ∈ onE L on ↔ ∃ k : Nat, L[k]? = some e ∧ on[k]? = some true := by
  induction L generalizing on with
  | nil => simp [onE_nil]
  | cons f L ih =>
    cases on with
    | nil => simp [onE_nil']
    | cons b on =>
      rw [onE_cons, List.mem_append, ih]
      constructor
      · rintro (h | ⟨k, h1, h2⟩)
        · cases b
          · simp at h
          · simp at h; exact ⟨0, by simp [h], by simp⟩
        · exact ⟨k + 1, by simpa using h1, by simpa using h2⟩
      · rintro ⟨k, h1, h2⟩
        cases k with
        | zero => left; simp at h1 h2; simp [h1, h2]
        | succ k => right; exact ⟨k, by simpa using h1, by simpa using h2⟩
/-- A line that is on joins two buses. -/
def Adj (L : List (Nat × Nat)) (on : List Bool) (k v w : Nat) : Prop := on[k]? = some true ∧ (L[k]? = some (v, w) ∨ L[k]? = some (w, v))
theorem Adj.symm {L : List (Nat × Nat)} {on : List Bool} {k v w : Nat} (h : Adj L on k v w) : Adj L on k w v := ⟨h.1, h.2.symm⟩
theorem Adj.ends {L : List (Nat × Nat)} {on : List Bool} {k v w a b : Nat} (h : Adj L on k v w) (g : Adj L on k a b) : (a = v ∧ b = w) ∨ (a = w ∧ b = v) := by
  obtain ⟨_, h⟩ := h
  obtain ⟨_, g⟩ := g
  rcases h with h | h <;> rcases g with g | g <;> rw [h] at g <;> simp at g <;> simp [g]
def Acyclic (L : List (Nat × Nat)) (on : List Bool) : Prop := ∀ k e, L[k]? = some e → on[k]? = some true → lab (onE L (on.set k false)) e.1 ≠ lab (onE L (on.set k false)) e.2
def OneFeed (L : List (Nat × Nat)) (on : List Bool) (fd : Nat → Bool) : Prop := ∀ u v, fd u = true → fd v = true → lab (onE L on) u = lab (onE L on) v → u = v
/-- Who is fed, through which line; d: how far from the feed. -/
structure Tree (L : List (Nat × Nat)) (on : List Bool) (fd : Nat → Bool) (fed : Nat → Prop) (par : Nat → Option Nat) (d : Nat → Nat) : Prop where
  root : ∀ v, fed v → par v = none → fd v = true
  feed : ∀ v, fd v = true → fed v ∧ par v = none
  up : ∀ v k, fed v → par v = some k → ∃ w, Adj L on k v w ∧ fed w ∧ d w < d v
  closed : ∀ k v w, Adj L on k v w → fed v → fed w
section
variable {L : List (Nat × Nat)} {on : List Bool} {fd : Nat → Bool} {fed : Nat → Prop} {par : Nat → Option Nat} {d : Nat → Nat}
theorem adj_conn {k v w : Nat} (h : Adj L on k v w) : lab (onE L on) v = lab (onE L on) w := by
  obtain ⟨h1, h2⟩ := h
  rcases h2 with h2 | h2
  · exact lab_end (e := (v, w)) (onE_mem.2 ⟨k, h2, h1⟩)
  · exact (lab_end (e := (w, v)) (onE_mem.2 ⟨k, h2, h1⟩)).symm
theorem adj_off {k j v w : Nat} (h : Adj L on j v w) (hne : j ≠ k) : Adj L (on.set k false) j v w := ⟨by rw [List.getElem?_set]; simp [hne.symm, h.1], h.2⟩
theorem adj_of_off {k j v w : Nat} (h : Adj L (on.set k false) j v w) : Adj L on j v w ∧ j ≠ k := by
  obtain ⟨h1, h2⟩ := h
  rw [List.getElem?_set] at h1
  by_cases e : k = j
  · subst e; split at h1 <;> simp_all
  · exact ⟨⟨by simpa [e] using h1, h2⟩, fun z => e z.symm⟩
theorem off_conn {k x y : Nat} (h : lab (onE L (on.set k false)) x = lab (onE L (on.set k false)) y) : lab (onE L on) x = lab (onE L on) y := by
  refine lab_mono (fun e he => ?_) h
  obtain ⟨j, h1, h2⟩ := onE_mem.1 he
  have : Adj L (on.set k false) j e.1 e.2 := ⟨h2, .inl h1⟩
  exact adj_conn (adj_of_off this).1
theorem adj_cycle (ha : Acyclic L on) {k v w : Nat} (h : Adj L on k v w) : lab (onE L (on.set k false)) v ≠ lab (onE L (on.set k false)) w := by
  obtain ⟨h1, h2⟩ := h
  rcases h2 with h2 | h2
  · exact ha k _ h2 h1
  · exact fun z => ha k _ h2 h1 z.symm
/-- Up to the feed, past lines other than k. -/
theorem Tree.to_feed (t : Tree L on fd fed par d) (k : Nat) : ∀ m v, d v < m → fed v → (∀ u, d u ≤ d v → fed u → par u ≠ some k) → ∃ r, fd r = true ∧ lab (onE L (on.set k false)) v = lab (onE L (on.set k false)) r := by
  intro m
  induction m with
  | zero => intro v h; omega
  | succ m ih =>
    intro v hm hv hk
    cases hp : par v with
    | none => exact ⟨v, t.root v hv hp, rfl⟩
    | some j =>
      obtain ⟨w, haw, hw, hd⟩ := t.up v j hv hp
      have hjk : j ≠ k := fun e => hk v (Nat.le_refl _) hv (by rw [hp, e])
      obtain ⟨r, hr, hc⟩ := ih w (by omega) hw (fun u hu => hk u (by omega))
      exact ⟨r, hr, (adj_conn (adj_off haw hjk)).trans hc⟩
/-- A line that is on and fed is the way to one of its ends. -/
theorem Tree.line (t : Tree L on fd fed par d) (ha : Acyclic L on) (ho : OneFeed L on fd) {k v w : Nat} (h : Adj L on k v w) (hv : fed v) : par v = some k ∨ par w = some k := by
  by_cases h1 : par v = some k
  · exact .inl h1
  by_cases h2 : par w = some k
  · exact .inr h2
  exfalso
  have hno : ∀ u, fed u → par u ≠ some k := by
    intro u hu hp
    obtain ⟨x, hax, _, _⟩ := t.up u k hu hp
    rcases h.ends hax with ⟨rfl, _⟩ | ⟨rfl, _⟩
    · exact h1 hp
    · exact h2 hp
  obtain ⟨r, hr, hc⟩ := t.to_feed k _ v (Nat.lt_succ_self _) hv (fun u _ hu => hno u hu)
  obtain ⟨s, hs, hc'⟩ := t.to_feed k _ w (Nat.lt_succ_self _) (t.closed _ _ _ h hv) (fun u _ hu => hno u hu)
  have hrs : r = s := ho r s hr hs (by rw [← off_conn hc, ← off_conn hc']; exact adj_conn h)
  subst hrs
  exact adj_cycle ha h (hc.trans hc'.symm)
end
end Go.Proofs.YtlahlfjhfmldaaaDoorM
namespace Go.Proofs.YtlahlfjhfmldaaaDoor.P
open Go.RowKit Go.Proofs.YtlahlfjhfmldaaaDoorW.PrintWords Go.Proofs.YtlahlfjhfmldaaaDoorW.PrintLast Go.Proofs.YtlahlfjhfmldaaaDoorW.PrintMore
theorem Ev.pos {α : Type} {c : Prop} [Decidable c] {a b : Nat → Option α} {r : α} (hc : c) (h : Ev a r) : Ev (fun k => if c then a k else b k) r := by
  obtain ⟨K, h⟩ := h
  exact ⟨K, fun k hk => (if_pos hc).trans (h k hk)⟩
theorem Ev.neg {α : Type} {c : Prop} [Decidable c] {a b : Nat → Option α} {r : α} (hc : ¬ c) (h : Ev b r) : Ev (fun k => if c then a k else b k) r := by
  obtain ⟨K, h⟩ := h
  exact ⟨K, fun k hk => (if_neg hc).trans (h k hk)⟩
theorem Ev.some {α : Type} {r q : α} (h : r = q) : Ev (fun _ => Option.some r) q := ⟨0, fun _ _ => by rw [h]⟩
theorem Ev.then {α β : Type} {g : Nat → Option α} {f : Nat → α → Option β} {a : α} {r : β} (h : Ev g a) (k : Ev (fun n => f n a) r) : Ev (fun n => (g n).bind fun x => f n x) r := Ev.bind h k
theorem Ev.thenC {α β : Type} {g : Option α} {f : Nat → α → Option β} {a : α} {r : β} (h : g = Option.some a) (k : Ev (fun n => f n a) r) : Ev (fun n => g.bind fun x => f n x) r := by
  subst h
  exact k
theorem w1 (i : Nat) (h : i < 4611686018427387904) : wrap64 ((i : Int) + 1) = ((i + 1 : Nat) : Int) := by unfold wrap64; omega
theorem wp (x : Int) (h0 : -9223372036854775808 ≤ x) (h1 : x < 9223372036854775808) : wrap64 x = x := by unfold wrap64; omega
theorem getD_at {α : Type} {xs : List α} {i : Nat} (h : i < xs.length) (d : α) : xs.getD i d = xs[i] := by simp [List.getD_eq_getElem?_getD, h]
theorem Ev.ite {α : Type} {c : Prop} [Decidable c] {a b : Nat → Option α} {r : α} (h1 : c → Ev a r) (h2 : ¬ c → Ev b r) : Ev (fun k => if c then a k else b k) r := by
  by_cases hc : c
  · exact Ev.pos hc (h1 hc)
  · exact Ev.neg hc (h2 hc)
theorem drop_at {α : Type} {xs : List α} {i : Nat} (h : i < xs.length) (d : α) : xs.drop i = xs.getD i d :: xs.drop (i + 1) := by
  rw [getD_at h]; exact List.drop_eq_getElem_cons h
end Go.Proofs.YtlahlfjhfmldaaaDoor.P
namespace Go.Proofs.YtlahlfjhfmldaaaDoor.P
open Go.RowKit Go.Proofs.YtlahlfjhfmldaaaDoorW.PrintWords Go.Proofs.YtlahlfjhfmldaaaDoorW.PrintLast Go.Proofs.YtlahlfjhfmldaaaDoorW.PrintMore

theorem l1In_eq (a b c : Int) : spec_l1In.f a b c = some (decide (b ≤ a ∧ a ≤ c)) := by
  unfold spec_l1In.f
  by_cases h : a ≥ b
  · rw [if_pos h]; simp [show b ≤ a from h]
  · rw [if_neg h]; simp [show ¬ b ≤ a from h]
def lineOk (b : Int) (x : S30) : Bool := decide (0 ≤ x.f0 ∧ x.f0 < b ∧ 0 ≤ x.f1 ∧ x.f1 < b ∧ x.f0 ≠ x.f1 ∧ 1 ≤ x.f2 ∧ x.f2 ≤ 999)
def netOk (b : Int) (ls : List S30) : Bool := decide (1 ≤ b ∧ b ≤ 8 ∧ ls.length ≤ 10) && ls.all (lineOk b)
theorem specNet_l0 (b : Int) (ls : List S30) (hb : 1 ≤ b ∧ b ≤ 8) (hl : ls.length ≤ 10) : ∀ d i, i + d = ls.length → Ev (fun k => spec_NetValid.l0 k i b ls) ((ls.drop i).all (lineOk b)) := by
  intro d
  induction d with
  | zero =>
    intro i hi
    refine Ev.step (fun k => by rw [spec_NetValid.l0]) ?_
    refine Ev.neg (by omega) (Ev.some ?_)
    rw [show i = ls.length by omega]; simp
  | succ d ih =>
    intro i hi
    rw [drop_at (show i < ls.length by omega) z30, List.all_cons]
    refine Ev.step (fun k => by rw [spec_NetValid.l0]) ?_
    refine Ev.pos (by omega) (Ev.pos (by omega) ?_)
    rw [show rd_T30 ls (i : Int) = ls.getD i z30 from rfl, w1 i (by omega), wp (b - 1) (by omega) (by omega)]
    generalize ls.getD i z30 = x
    by_cases hx : lineOk b x = true
    · rw [hx, Bool.true_and]
      have := ih (i + 1) (by omega)
      simp only [lineOk, decide_eq_true_eq] at hx
      exact Ev.thenC (l1In_eq _ _ _) (Ev.pos (by rw [decide_eq_true_eq]; omega) (Ev.thenC (l1In_eq _ _ _) (Ev.pos (by rw [decide_eq_true_eq]; omega) (Ev.neg (by omega) (Ev.thenC (l1In_eq _ _ _) (Ev.pos (by rw [decide_eq_true_eq]; omega) this))))))
    · rw [Bool.not_eq_true] at hx
      rw [hx, Bool.false_and]
      simp only [lineOk, decide_eq_false_iff_not] at hx
      refine Ev.thenC (l1In_eq _ _ _) (Ev.ite (fun h1 => Ev.thenC (l1In_eq _ _ _) (Ev.ite (fun h2 => Ev.ite (fun _ => Ev.some rfl) (fun h3 => Ev.thenC (l1In_eq _ _ _) (Ev.ite (fun h4 => ?_) fun _ => Ev.some rfl))) fun _ => Ev.some rfl)) fun _ => Ev.some rfl)
      rw [decide_eq_true_eq] at h1 h2 h4
      exact absurd (show _ ∧ _ from ⟨h1.1, by omega, h2.1, by omega, h3, h4.1, h4.2⟩) hx
theorem specNet_ev (b : Int) (ls : List S30) (hl : ls.length < 4611686018427387904) : Ev (fun k => spec_NetValid.f k b ls) (netOk b ls) := by
  unfold netOk
  refine Ev.thenC (l1In_eq _ _ _) (Ev.ite (fun h1 => ?_) (fun h1 => ?_))
  · rw [decide_eq_true_eq] at h1
    refine Ev.step (fun k => by rw [spec_NetValid.j0]) ?_
    refine Ev.ite (fun h2 => Ev.some ?_) (fun h2 => ?_)
    · rw [decide_eq_true_eq] at h2
      rw [decide_eq_false (by omega)]; rfl
    · rw [decide_eq_true_eq] at h2
      rw [decide_eq_true (by omega), Bool.true_and]
      exact specNet_l0 b ls h1 (by omega) ls.length 0 (by omega)
  · rw [decide_eq_true_eq] at h1
    rw [decide_eq_false (by omega)]
    refine Ev.step (fun k => by rw [spec_NetValid.j0]) ?_
    exact Ev.pos rfl (Ev.some rfl)
theorem hasBus_eq (b : Int) (ls : List S30) (x : Int) : impl_Net_hasBus.f b ls x = some (decide (0 ≤ x ∧ x < b)) := by
  unfold impl_Net_hasBus.f
  by_cases h : x ≥ 0
  · rw [if_pos h]; simp [show 0 ≤ x from h]
  · rw [if_neg h]; simp [show ¬ 0 ≤ x from h]
theorem hasLine_eq (b : Int) (ls : List S30) (x : Int) : impl_Net_hasLine.f b ls x = some (decide (0 ≤ x ∧ x < ls.length)) := by
  unfold impl_Net_hasLine.f
  by_cases h : x ≥ 0
  · rw [if_pos h]; simp [show 0 ≤ x from h]
  · rw [if_neg h]; simp [show ¬ 0 ≤ x from h]
theorem implNet_l0 (b : Int) (ls : List S30) (hl : ls.length ≤ 10) : ∀ d i, i + d = ls.length → Ev (fun k => impl_NetValid.l0 k ls (ls.length : Int) i b ls) ((ls.drop i).all (lineOk b)) := by
  intro d
  induction d with
  | zero =>
    intro i hi
    refine Ev.step (fun k => by rw [impl_NetValid.l0]) ?_
    refine Ev.neg (by omega) (Ev.some ?_)
    rw [show i = ls.length by omega]; simp
  | succ d ih =>
    intro i hi
    rw [drop_at (show i < ls.length by omega) z30, List.all_cons]
    refine Ev.step (fun k => by rw [impl_NetValid.l0]) ?_
    refine Ev.pos (by omega) (Ev.pos (by omega) (Ev.pos (by omega) ?_))
    rw [show rd_T30 ls (i : Int) = ls.getD i z30 from rfl, w1 i (by omega)]
    generalize ls.getD i z30 = x
    by_cases hx : lineOk b x = true
    · rw [hx, Bool.true_and]
      have := ih (i + 1) (by omega)
      simp only [lineOk, decide_eq_true_eq] at hx
      exact Ev.thenC (hasBus_eq _ _ _) (Ev.pos (by rw [decide_eq_true_eq]; omega) (Ev.thenC (hasBus_eq _ _ _) (Ev.pos (by rw [decide_eq_true_eq]; omega) (Ev.neg (by omega) (Ev.neg (by omega) (Ev.neg (by omega) this))))))
    · rw [Bool.not_eq_true] at hx
      rw [hx, Bool.false_and]
      simp only [lineOk, decide_eq_false_iff_not] at hx
      refine Ev.thenC (hasBus_eq _ _ _) (Ev.ite (fun h1 => Ev.thenC (hasBus_eq _ _ _) (Ev.ite (fun h2 => Ev.ite (fun _ => Ev.some rfl) (fun h3 => Ev.ite (fun _ => Ev.some rfl) (fun h4 => Ev.ite (fun _ => Ev.some rfl) (fun h5 => ?_)))) fun _ => Ev.some rfl)) fun _ => Ev.some rfl)
      rw [decide_eq_true_eq] at h1 h2
      exact absurd (show _ ∧ _ from ⟨h1.1, h1.2, h2.1, h2.2, h3, by omega, by omega⟩) hx
theorem implNet_ev (b : Int) (ls : List S30) : Ev (fun k => impl_NetValid.f k b ls) (netOk b ls) := by
  unfold netOk
  refine Ev.ite (fun h1 => ?_) (fun h1 => Ev.ite (fun h2 => ?_) (fun h2 => ?_))
  · rw [decide_eq_false (by omega)]
    refine Ev.step (fun k => by rw [impl_NetValid.j0]) ?_
    exact Ev.pos rfl (Ev.some rfl)
  · rw [decide_eq_false (by omega)]
    refine Ev.step (fun k => by rw [impl_NetValid.j0]) ?_
    exact Ev.pos rfl (Ev.some rfl)
  · refine Ev.step (fun k => by rw [impl_NetValid.j0]) ?_
    refine Ev.ite (fun h3 => Ev.some ?_) (fun h3 => ?_)
    · rw [decide_eq_true_eq] at h3
      rw [decide_eq_false (by omega)]; rfl
    · rw [decide_eq_true_eq] at h3
      rw [decide_eq_true (by omega), Bool.true_and]
      exact implNet_l0 b ls (by omega) ls.length 0 (by omega)
def otherOf (x : S30) (bus : Int) : Int := if bus = x.f0 then x.f1 else if bus = x.f1 then x.f0 else -1
def otherEnd (b : Int) (ls : List S30) (line bus : Int) : Int := if netOk b ls = true ∧ 0 ≤ line ∧ line < ls.length then otherOf (ls.getD line.toNat z30) bus else -1
theorem other_eq (x : S30) (bus : Int) : impl_Line_other.f x.f0 x.f1 x.f2 bus = some (otherOf x bus) := by
  unfold impl_Line_other.f otherOf
  split
  · rfl
  · split <;> rfl
theorem implOther_ev (b : Int) (ls : List S30) (line bus : Int) : Ev (fun k => impl_OtherEnd.f k b ls line bus) (otherEnd b ls line bus) := by
  unfold otherEnd
  refine Ev.then (implNet_ev b ls) (Ev.ite (fun hn => Ev.thenC (hasLine_eq _ _ _) (Ev.ite (fun h1 => ?_) (fun h1 => Ev.some ?_))) (fun hn => Ev.some ?_))
  · rw [decide_eq_true_eq] at h1
    rw [if_pos (show netOk b ls = true ∧ 0 ≤ line ∧ line < ls.length from ⟨hn, h1.1, h1.2⟩)]
    exact Ev.pos h1.1 (Ev.pos h1.2 (Ev.thenC (other_eq _ _) (Ev.some rfl)))
  · rw [decide_eq_true_eq] at h1
    rw [if_neg fun z => h1 z.2]
  · rw [if_neg fun z => hn z.1]
end Go.Proofs.YtlahlfjhfmldaaaDoor.P
namespace Go.Proofs.YtlahlfjhfmldaaaDoor.P
open Go.RowKit Go.Proofs.YtlahlfjhfmldaaaDoorW.PrintWords Go.Proofs.YtlahlfjhfmldaaaDoorW.PrintLast Go.Proofs.YtlahlfjhfmldaaaDoorW.PrintMore
open Go.Proofs.YtlahlfjhfmldaaaDoorM

def ends (x : S30) : Nat × Nat := (x.f0.toNat, x.f1.toNat)
end Go.Proofs.YtlahlfjhfmldaaaDoor.P
namespace Go.Proofs.YtlahlfjhfmldaaaDoor.P
open Go.RowKit Go.Proofs.YtlahlfjhfmldaaaDoorW.PrintWords Go.Proofs.YtlahlfjhfmldaaaDoorW.PrintLast Go.Proofs.YtlahlfjhfmldaaaDoorW.PrintMore
/-- From some number of rounds on it answers, and the answer has a property. -/
def EvP {α : Type} (g : Nat → Option α) (P : α → Prop) : Prop := ∃ x, Ev g x ∧ P x
theorem EvP.then {α β : Type} {g : Nat → Option α} {f : Nat → α → Option β} {P : α → Prop} {Q : β → Prop} (h : EvP g P) (k : ∀ x, P x → EvP (fun n => f n x) Q) : EvP (fun n => (g n).bind fun x => f n x) Q := by
  obtain ⟨x, hx, hp⟩ := h
  obtain ⟨y, hy, hq⟩ := k x hp
  exact ⟨y, Ev.then hx hy, hq⟩
theorem EvP.thenE {α β : Type} {g : Nat → Option α} {f : Nat → α → Option β} {a : α} {Q : β → Prop} (h : Ev g a) (k : EvP (fun n => f n a) Q) : EvP (fun n => (g n).bind fun x => f n x) Q := by
  obtain ⟨y, hy, hq⟩ := k
  exact ⟨y, Ev.then h hy, hq⟩
theorem EvP.thenC {α β : Type} {g : Option α} {f : Nat → α → Option β} {a : α} {Q : β → Prop} (h : g = Option.some a) (k : EvP (fun n => f n a) Q) : EvP (fun n => g.bind fun x => f n x) Q := by
  obtain ⟨y, hy, hq⟩ := k
  exact ⟨y, Ev.thenC h hy, hq⟩
theorem EvP.ite {α : Type} {c : Prop} [Decidable c] {a b : Nat → Option α} {Q : α → Prop} (h1 : c → EvP a Q) (h2 : ¬ c → EvP b Q) : EvP (fun k => if c then a k else b k) Q := by
  by_cases hc : c
  · obtain ⟨y, hy, hq⟩ := h1 hc
    exact ⟨y, Ev.pos hc hy, hq⟩
  · obtain ⟨y, hy, hq⟩ := h2 hc
    exact ⟨y, Ev.neg hc hy, hq⟩
theorem EvP.pos {α : Type} {c : Prop} [Decidable c] {a b : Nat → Option α} {Q : α → Prop} (hc : c) (h1 : EvP a Q) : EvP (fun k => if c then a k else b k) Q := EvP.ite (fun _ => h1) fun h => absurd hc h
theorem EvP.neg {α : Type} {c : Prop} [Decidable c] {a b : Nat → Option α} {Q : α → Prop} (hc : ¬ c) (h1 : EvP b Q) : EvP (fun k => if c then a k else b k) Q := EvP.ite (fun h => absurd h hc) fun _ => h1
theorem EvP.some {α : Type} {r : α} {Q : α → Prop} (h : Q r) : EvP (fun _ => Option.some r) Q := ⟨r, Ev.some rfl, h⟩
theorem EvP.step {α : Type} {g f : Nat → Option α} {Q : α → Prop} (h : ∀ k, g (k + 1) = f k) (k : EvP f Q) : EvP g Q := by
  obtain ⟨y, hy, hq⟩ := k
  exact ⟨y, Ev.step h hy, hq⟩
theorem EvP.mono {α : Type} {g : Nat → Option α} {P Q : α → Prop} (h : EvP g P) (k : ∀ x, P x → Q x) : EvP g Q := by
  obtain ⟨y, hy, hq⟩ := h
  exact ⟨y, hy, k y hq⟩
theorem EvP.ev {α : Type} {g : Nat → Option α} {r : α} (h : EvP g (· = r)) : Ev g r := by
  obtain ⟨y, hy, rfl⟩ := h
  exact hy
theorem Ev.p {α : Type} {g : Nat → Option α} {r : α} {P : α → Prop} (h : Ev g r) (hp : P r) : EvP g P := ⟨r, h, hp⟩

/-- A code's bytes. -/
def Bytes (b : List Int) : Prop := ∀ z ∈ b, 0 ≤ z ∧ z ≤ 255
theorem Bytes.rd {b : List Int} (h : Bytes b) (i : Int) : 0 ≤ rd b i ∧ rd b i ≤ 255 := by
  unfold Go.Proofs.YtlahlfjhfmldaaaDoorW.PrintWords.rd
  rw [List.getD_eq_getElem?_getD]
  cases hi : b[i.toNat]? with
  | none => simp
  | some z => exact h z (List.mem_of_getElem? hi)
theorem bv_nat {x : Int} (h0 : 0 ≤ x) (h1 : x < 9223372036854775808) : (BitVec.ofInt 64 x).toNat = x.toNat := by
  rw [BitVec.toNat_ofInt]
  have : x % ((2 ^ 64 : Nat) : Int) = x := Int.emod_eq_of_lt h0 (by omega)
  rw [this]
theorem xor_nonneg {x y : Int} (hx : 0 ≤ x) (hx' : x < 9223372036854775808) (hy : 0 ≤ y) (hy' : y < 9223372036854775808) : 0 ≤ Go.bits .xor .i64 x y := by
  have h : ((BitVec.ofInt 64 x) ^^^ (BitVec.ofInt 64 y)).toNat < 2 ^ 63 := by
    rw [BitVec.toNat_xor, bv_nat hx hx', bv_nat hy hy']
    exact Nat.xor_lt_two_pow (by omega) (by omega)
  have e : Go.bits .xor .i64 x y = IntKind.wrap .i64 (((BitVec.ofInt 64 x) ^^^ (BitVec.ofInt 64 y)).toNat : Int) := rfl
  have e2 : ∀ m : Int, IntKind.wrap .i64 m = if m % 18446744073709551616 ≥ 9223372036854775808 then m % 18446744073709551616 - 18446744073709551616 else m % 18446744073709551616 := by
    intro m
    simp [IntKind.wrap, IntKind.bits, IntKind.signed]
  rw [e, e2]
  generalize ((BitVec.ofInt 64 x) ^^^ (BitVec.ofInt 64 y)).toNat = n at h
  split <;> omega
theorem tmod_lo {x n : Int} (h : 0 ≤ x) : 0 ≤ Int.tmod x n := Int.tmod_nonneg n h
theorem tmod_hi {x n : Int} (h : 1 ≤ n) (_h0 : 0 ≤ x) : Int.tmod x n < n := Int.tmod_lt_of_pos x (by omega)
theorem tdiv_lo {x n : Int} (h : 0 ≤ x) (hn : 0 ≤ n) : 0 ≤ Int.tdiv x n := Int.tdiv_nonneg h hn
theorem tdiv_hi {x n : Int} (h : 0 ≤ x) (hn : 0 ≤ n) : Int.tdiv x n ≤ x := by
  rw [Int.tdiv_eq_ediv_of_nonneg h]
  exact Int.ediv_le_self n h
theorem pick_p {b : List Int} (hb : Bytes b) (hl : b.length ≤ 2000) {p : Int} (hp : 0 ≤ p) (hp' : p ≤ 1000000) (n : Int) : EvP (fun k => spec_l20Rd_pick.f k b p n) fun x => 0 ≤ x.1 ∧ (1 ≤ n → x.1 < n) ∧ (n < 1 → x.1 = 0) ∧ x.2 = p + 1 := by
  have hw : wrap64 (p + 1) = p + 1 := wp _ (by omega) (by omega)
  have h0 : EvP (fun k => spec_l20Rd_pick.j0 k n true b (p + 1)) fun x => 0 ≤ x.1 ∧ (1 ≤ n → x.1 < n) ∧ (n < 1 → x.1 = 0) ∧ x.2 = p + 1 := by
    refine EvP.step (fun k => by rw [spec_l20Rd_pick.j0]) ?_
    exact EvP.pos rfl (EvP.some ⟨by simp, fun h => by simp; omega, fun _ => rfl, rfl⟩)
  unfold spec_l20Rd_pick.f
  rw [hw]
  refine EvP.ite (fun _ => h0) fun hn => ?_
  by_cases he : b.length = 0
  · rw [show ((b.length : Int) == 0) = true by simp [he]]
    exact h0
  rw [show ((b.length : Int) == 0) = false from beq_eq_false_iff_ne.2 (by omega)]
  refine EvP.step (fun k => by rw [spec_l20Rd_pick.j0]) ?_
  have hw2 : wrap64 (p + 1 - 1) = p := by rw [wp _ (by omega) (by omega)]; omega
  have hw3 : wrap64 (p * 7) = p * 7 := wp _ (by omega) (by omega)
  have hw4 : wrap64 (p * 7 + 3) = p * 7 + 3 := wp _ (by omega) (by omega)
  have a1 : 0 ≤ Int.tmod p (b.length : Int) := tmod_lo hp
  have a2 : Int.tmod p (b.length : Int) < (b.length : Int) := tmod_hi (by omega) hp
  have a3 : 0 ≤ Int.tmod (p * 7 + 3) (b.length : Int) := tmod_lo (by omega)
  have a4 : Int.tmod (p * 7 + 3) (b.length : Int) < (b.length : Int) := tmod_hi (by omega) (by omega)
  have a5 := tdiv_lo (n := (b.length : Int)) hp (by omega)
  have a6 := tdiv_hi (n := (b.length : Int)) hp (by omega)
  refine EvP.neg (by simp) ?_
  rw [hw2]
  refine EvP.ite (fun hlt => EvP.pos hp (EvP.neg (by omega) (EvP.some ?_))) (fun _ => EvP.neg (by omega) (EvP.pos a1 (EvP.pos a2 ?_)))
  · have := hb.rd p
    rw [wp _ (by omega) (by omega)]
    exact ⟨tmod_lo this.1, fun h => tmod_hi h this.1, fun h => absurd h hn, rfl⟩
  rw [hw3, hw4]
  refine EvP.pos a3 (EvP.pos a4 (EvP.neg (by omega) (EvP.some ?_)))
  have r1 := hb.rd (Int.tmod p (b.length : Int))
  have r2 := hb.rd (Int.tmod (p * 7 + 3) (b.length : Int))
  generalize Int.tdiv p (b.length : Int) = q at a5 a6
  generalize rd b (Int.tmod p (b.length : Int)) = x1 at r1
  generalize rd b (Int.tmod (p * 7 + 3) (b.length : Int)) = x2 at r2
  rw [wp x1 (by omega) (by omega), wp x2 (by omega) (by omega), wp (x1 * 131) (by omega) (by omega), wp (x2 * 1117) (by omega) (by omega), wp (x1 * 131 + x2 * 1117) (by omega) (by omega), wp (p * 29) (by omega) (by omega), wp (x1 * 131 + x2 * 1117 + p * 29) (by omega) (by omega), wp q (by omega) (by omega), wp (q * 53) (by omega) (by omega), wp (x1 * 131 + x2 * 1117 + p * 29 + q * 53) (by omega) (by omega)]
  have s0 : 0 ≤ x1 * 131 + x2 * 1117 + p * 29 + q * 53 := by omega
  have s1 : x1 * 131 + x2 * 1117 + p * 29 + q * 53 < 1000000000 := by omega
  generalize x1 * 131 + x2 * 1117 + p * 29 + q * 53 = s at s0 s1
  have d0 := tdiv_lo (n := 64) s0 (by omega)
  have d1 := tdiv_hi (n := 64) s0 (by omega)
  rw [wp (Int.tdiv s 64) (by omega) (by omega)]
  have hx := xor_nonneg (x := s) (y := Int.tdiv s 64) s0 (by omega) d0 (by omega)
  exact ⟨tmod_lo hx, fun h => tmod_hi h hx, fun h => absurd h hn, rfl⟩
theorem odd_p {b : List Int} (hb : Bytes b) (hl : b.length ≤ 2000) {p : Int} (hp : 0 ≤ p) (hp' : p ≤ 1000000) (n : Int) : EvP (fun k => spec_l20Rd_odd.f k b p n) fun x => p ≤ x.2 ∧ x.2 ≤ p + 1 ∧ (n ≤ 0 → x.1 = false) := by
  unfold spec_l20Rd_odd.f
  exact EvP.ite (fun h => EvP.then (pick_p hb hl hp hp' n) fun x hx => EvP.some ⟨by simp; omega, by simp; omega, fun h' => by omega⟩) fun h => EvP.some ⟨by simp, by simp; omega, fun _ => rfl⟩
theorem open_p {c : List Int} (hb : Bytes c) : ∃ b, spec_l20Open.f c = some (b, 0) ∧ Bytes b ∧ b.length ≤ 2000 := by
  unfold spec_l20Open.f
  by_cases h : (c.length : Int) > 2000
  · rw [if_pos h, if_pos (by omega)]
    exact ⟨_, rfl, fun z hz => hb z (List.mem_of_mem_take hz), by simp; omega⟩
  · rw [if_neg h]
    exact ⟨_, rfl, hb, by omega⟩
/-- What is known of a network that is drawn, and of the place in the code behind it. -/
def NetP (p m : Int) (x : Int × List S30 × Int) : Prop := -1 ≤ x.1 ∧ x.1 ≤ 9 ∧ x.2.1.length ≤ 11 ∧ p ≤ x.2.2 ∧ x.2.2 ≤ p + m
theorem net_end {b : List Int} (hb : Bytes b) (hl : b.length ≤ 2000) (n c : Int) {p B : Int} {L : List S30} (hp : 0 ≤ p) (hp' : p ≤ 100000) (hB : 1 ≤ B ∧ B ≤ 8) (hL : L.length ≤ 10) : EvP (fun k => spec_l20Net.j2 k n c false b p B L) (NetP p 3) := by
  refine EvP.step (fun k => by rw [spec_l20Net.j2]) ?_
  refine EvP.neg (by simp) (EvP.then (odd_p hb hl hp (by omega) n) fun x hx => EvP.ite (fun _ => EvP.then (pick_p hb hl (by omega) (by omega) 5) fun y hy => ?_) (fun _ => EvP.some ?_))
  · refine EvP.ite (fun _ => EvP.thenC rfl (EvP.then (pick_p hb hl (by omega) (by omega) 3) fun z hz => EvP.pos hz.1 (EvP.pos (by have := hz.2.1 (by omega); simp; omega) (EvP.some ?_)))) (fun _ => EvP.ite (fun _ => EvP.pos (by omega) (EvP.some ?_)) (fun _ => EvP.ite (fun _ => EvP.pos (by omega) (EvP.some ?_)) (fun _ => EvP.ite (fun _ => EvP.thenC rfl (EvP.then (pick_p hb hl (by omega) (by omega) 2) fun z hz => EvP.pos hz.1 (EvP.pos (by have := hz.2.1 (by omega); simp; omega) (EvP.pos (by omega) (EvP.some ?_))))) (fun _ => EvP.pos (by omega) (EvP.some ?_)))))
    · have h3 := hz.2.1 (by omega)
      have h0 := hz.1
      have : z.1 = 0 ∨ z.1 = 1 ∨ z.1 = 2 := by omega
      refine ⟨?_, ?_, by simp; omega, by simp; omega, by simp; omega⟩ <;> rcases this with h | h | h <;> rw [h] <;> simp [Go.Proofs.YtlahlfjhfmldaaaDoorW.PrintWords.rd]
    all_goals exact ⟨by simp; omega, by simp; omega, by simp; try omega, by simp; omega, by simp; omega⟩
  · exact ⟨by simp; omega, by simp; omega, by simp; omega, by simp; omega, by simp; omega⟩
theorem net_loop {b : List Int} (hb : Bytes b) (hl : b.length ≤ 2000) (n : Int) {B : Int} (hB : 1 ≤ B ∧ B ≤ 8) : ∀ (d : Nat) (p : Int) (L : List S30), 0 ≤ p → p + 3 * d ≤ 50000 → L.length + d ≤ 10 → EvP (fun k => spec_l20Net.l0 k n (d : Int) b p B L) (NetP p (3 * d + 3)) := by
  intro d
  induction d with
  | zero =>
    intro p L hp hp' hL
    refine EvP.step (fun k => by rw [spec_l20Net.l0]) ?_
    exact EvP.neg (by omega) ((net_end hb hl n _ hp (by omega) hB (by omega)).mono fun x hx => ⟨hx.1, hx.2.1, hx.2.2.1, hx.2.2.2.1, by have := hx.2.2.2.2; omega⟩)
  | succ d ih =>
    intro p L hp hp' hL
    refine EvP.step (fun k => by rw [spec_l20Net.l0]) ?_
    refine EvP.pos (by omega) ?_
    by_cases h1 : B > 1
    · rw [decide_eq_true h1]
      refine EvP.step (fun k => by rw [spec_l20Net.j2]) ?_
      refine EvP.pos rfl (EvP.then (pick_p hb hl hp (by omega) B) fun x hx => EvP.then (pick_p hb hl (by omega) (by omega) _) fun y hy => EvP.neg (by omega) (EvP.then (pick_p hb hl (by omega) (by omega) 40) fun z hz => EvP.pos (by omega) ?_))
      rw [show wrap64 (((d + 1 : Nat) : Int) - 1) = (d : Int) by rw [wp _ (by omega) (by omega)]; omega]
      exact (ih z.2 _ (by omega) (by omega) (by simp; omega)).mono fun x hx => ⟨hx.1, hx.2.1, hx.2.2.1, by have := hx.2.2.2; omega, by have := hx.2.2.2; omega⟩
    · rw [decide_eq_false h1]
      exact ((net_end hb hl n _ hp (by omega) hB (by omega)).mono fun x hx => ⟨hx.1, hx.2.1, hx.2.2.1, hx.2.2.2.1, by have := hx.2.2.2.2; omega⟩)
theorem net_p {b : List Int} (hb : Bytes b) (hl : b.length ≤ 2000) (n : Int) {p : Int} (hp : 0 ≤ p) (hp' : p ≤ 10000) : EvP (fun k => spec_l20Net.f k b p n) (NetP p 60) := by
  have go : ∀ q B : Int, p ≤ q → q ≤ p + 3 → 1 ≤ B ∧ B ≤ 8 → EvP (fun k => spec_l20Net.j0 k n b q B) (NetP p 60) := fun q B h1 h2 hB => by
    refine EvP.step (fun k => by rw [spec_l20Net.j0]) ?_
    refine EvP.then (pick_p hb hl (by omega) (by omega) 11) fun x hx => ?_
    have h3 := hx.2.1 (by omega)
    obtain ⟨d, hd⟩ : ∃ d : Nat, x.1 = (d : Int) := ⟨x.1.toNat, by omega⟩
    rw [hd]
    exact (net_loop hb hl n hB d x.2 [] (by omega) (by omega) (by simp; omega)).mono fun y hy => ⟨hy.1, hy.2.1, hy.2.2.1, by have := hy.2.2.2; omega, by have := hy.2.2.2; omega⟩
  refine EvP.then (pick_p hb hl hp (by omega) 8) fun x hx => EvP.then (pick_p hb hl (by omega) (by omega) 3) fun y hy => EvP.ite (fun _ => EvP.then (pick_p hb hl (by omega) (by omega) 4) fun z hz => ?_) (fun _ => ?_)
  · have := hz.2.1 (by omega)
    exact go _ _ (by omega) (by omega) (by rw [wp _ (by omega) (by omega)]; omega)
  · have := hx.2.1 (by omega)
    exact go _ _ (by omega) (by omega) (by rw [wp _ (by omega) (by omega)]; omega)
end Go.Proofs.YtlahlfjhfmldaaaDoor.P
namespace Go.Proofs.YtlahlfjhfmldaaaDoor.P
open Go.RowKit Go.Proofs.YtlahlfjhfmldaaaDoorW.PrintWords Go.Proofs.YtlahlfjhfmldaaaDoorW.PrintLast Go.Proofs.YtlahlfjhfmldaaaDoorW.PrintMore

theorem other2 : otherEnd 2 [(⟨0, 1, 1⟩ : S30)] 0 0 = 1 := by decide
theorem netNil : netOk 0 ([] : List S30) = false := by decide
theorem alive_ev : Ev (fun k => laws_alive.f k) true := by
  have h := implOther_ev 2 [(⟨0, 1, 1⟩ : S30)] 0 0
  rw [other2] at h
  have hn := implNet_ev 0 ([] : List S30)
  rw [netNil] at hn
  exact Ev.then h (Ev.pos rfl (Ev.then (Ev.then hn (Ev.neg (by simp) (Ev.some rfl))) (Ev.some (by rw [ByteArray.toList, ByteArray.toList.loop]; simp [ByteArray.size]))))
theorem d_NetValid (l0 : List Int) (hb : Bytes l0) : Ev (fun k => laws_FnNetValid.f k l0) true := by
  obtain ⟨b, hop, hb', hl⟩ := open_p hb
  refine Ev.ite (fun _ => Ev.some rfl) (fun _ => ?_)
  refine EvP.ev (EvP.then (P := fun x : Int × List S30 => x.2.length ≤ 11) (EvP.thenC hop (EvP.then (net_p hb' hl 2 (p := 0) (by omega) (by omega)) fun x hx => EvP.some (by simpa using hx.2.2.1))) fun x hx => ?_)
  obtain ⟨B, L⟩ := x
  have hx' : L.length ≤ 11 := hx
  have hn := implNet_ev B L
  refine EvP.thenE hn (EvP.thenE (specNet_ev B L (by omega)) (EvP.neg (by simp) (EvP.ite (fun ho => ?_) (fun ho => ?_))))
  · have hmore : netOk B ([] ++ L ++ [(⟨0, 0, 1⟩ : S30)]) = false := by
      simp [netOk, lineOk]
    have hm := implNet_ev B ([] ++ L ++ [(⟨0, 0, 1⟩ : S30)])
    rw [hmore] at hm
    refine EvP.thenC rfl (EvP.pos (by simp; omega) (EvP.thenC rfl (EvP.thenC rfl (EvP.pos (by simp; omega) (EvP.thenC rfl (EvP.thenC rfl (EvP.pos (by simp; omega) (EvP.thenC rfl ?_))))))))
    refine EvP.ite (fun h1 => ?_) (fun h1 => ?_)
    · replace h1 : (L.length : Int) > 0 := h1
      have hw : wrap64 ((L.length : Int) - 1) = ((L.length - 1 : Nat) : Int) := by rw [wp _ (by omega) (by omega)]; omega
      have hless : netOk B (([] ++ L).take (L.length - 1)) = true := by
        have ho' : netOk B L = true := ho
        rw [netOk, Bool.and_eq_true, decide_eq_true_eq, List.all_eq_true] at ho' ⊢
        refine ⟨⟨ho'.1.1, ho'.1.2.1, by simp; omega⟩, fun x hx => ho'.2 x ?_⟩
        exact List.mem_of_mem_take (by simpa using hx)
      have hs := implNet_ev B (([] ++ L).take (L.length - 1))
      rw [hless] at hs
      show EvP (fun k => if 0 ≤ wrap64 ((L.length : Int) - 1) then _ else none) _
      rw [hw]
      exact EvP.pos (by omega) (EvP.pos (by simp) (EvP.thenE hs (EvP.pos rfl (EvP.thenE hm (EvP.some rfl)))))
    · have hs := implNet_ev B ([] ++ L)
      rw [show netOk B ([] ++ L) = true from ho] at hs
      exact EvP.thenE hs (EvP.pos rfl (EvP.thenE hm (EvP.some rfl)))
  · have h0 := implNet_ev 0 ([] : List S30)
    rw [netNil] at h0
    exact EvP.thenE h0 (EvP.neg (by simp) (EvP.thenE alive_ev (EvP.some rfl)))
end Go.Proofs.YtlahlfjhfmldaaaDoor.P

/- The plain side of the law FnExactSwitchLine: what the printed functions come to, in plain Lean. -/
import Derived.Test.YtcchhgpdallpmaaP0
import Derived.Test.YtcchhgpdallpmaaP3
import Derived.Test.YtcchhgpdallpmaaP5
import Derived.Test.YtcchhgpdallpmaaP7
import Derived.Test.YtcchhgpdallpmaaP11
import Derived.Test.YtcchhgpdallpmaaP12
import Derived.Test.YtcchhgpdallpmaaP20
import Derived.Test.YtcchhgpdallpmaaP23
import Derived.Test.YtcchhgpdallpmaaP26
import Derived.Test.YtcchhgpdallpmaaP27
import Derived.Test.YtcchhgpdallpmaaP28
import Derived.Test.YtcchhgpdallpmaaP30
import Derived.Test.YtcchhgpdallpmaaP31
import Derived.Test.YtcchhgpdallpmaaP32
import Derived.Test.YtcchhgpdallpmaaP33
import Derived.Test.YtcchhgpdallpmaaP34
import Derived.Test.YtcchhgpdallpmaaP35
import Derived.Test.YtcchhgpdallpmaaP36
import Derived.Test.YtcchhgpdallpmaaP41
import Derived.Test.YtcchhgpdallpmaaP42
import Derived.Test.YtcchhgpdallpmaaP45
import Derived.Test.YtcchhgpdallpmaaP60
import Derived.Test.YtcchhgpdallpmaaP61
import Derived.Test.YtcchhgpdallpmaaP63
import Derived.Test.YtcchhgpdallpmaaP64
import Derived.Test.YtcchhgpdallpmaaP65
set_option linter.unusedVariables false
namespace Go.Proofs.YtcchhgpdallpmaaM

/-- Labels after one more line between a and b. -/
def joinL (c : Nat → Nat) (a b : Nat) : Nat → Nat := fun x => if c x = max (c a) (c b) then min (c a) (c b) else c x
theorem join_ends {c : Nat → Nat} (a b : Nat) : joinL c a b a = joinL c a b b := by
  unfold joinL
  rcases Nat.le_total (c a) (c b) with g | g
  · simp only [Nat.max_eq_right g, Nat.min_eq_left g]
    split <;> simp_all
  · simp only [Nat.max_eq_left g, Nat.min_eq_right g]
    split <;> simp_all
theorem join_keeps {c : Nat → Nat} {a b x y : Nat} (h : c x = c y) : joinL c a b x = joinL c a b y := by
  unfold joinL
  rw [h]
/-- What has one label after a join had one before, or the two ends' labels. -/
theorem join_inv {c : Nat → Nat} {a b x y : Nat} (h : joinL c a b x = joinL c a b y) : c x = c y ∨ (c x = c a ∧ c y = c b) ∨ (c x = c b ∧ c y = c a) := by
  unfold joinL at h
  rcases Nat.le_total (c a) (c b) with g | g
  · simp only [Nat.max_eq_right g, Nat.min_eq_left g] at h
    split at h <;> split at h <;> simp_all
  · simp only [Nat.max_eq_left g, Nat.min_eq_right g] at h
    split at h <;> split at h <;> simp_all

/-- The labels of a list of lines. -/
def labF (c : Nat → Nat) (es : List (Nat × Nat)) : Nat → Nat := es.foldl (fun c e => joinL c e.1 e.2) c
def lab (es : List (Nat × Nat)) : Nat → Nat := labF (fun x => x) es
theorem lab_nil : lab [] = fun x => x := rfl
theorem lab_snoc (es : List (Nat × Nat)) (e : Nat × Nat) : lab (es ++ [e]) = joinL (lab es) e.1 e.2 := by
  unfold lab labF
  rw [List.foldl_append]
  rfl
theorem snoc_ind {α : Type} {p : List α → Prop} (h0 : p []) (h1 : ∀ l a, p l → p (l ++ [a])) : ∀ l, p l := by
  intro l
  have : ∀ m : List α, p m.reverse := by
    intro m
    induction m with
    | nil => exact h0
    | cons a m ih => rw [List.reverse_cons]; exact h1 _ _ ih
  have h := this l.reverse
  rwa [List.reverse_reverse] at h
theorem lab_end {es : List (Nat × Nat)} {e : Nat × Nat} (h : e ∈ es) : lab es e.1 = lab es e.2 := by
  induction es using snoc_ind with
  | h0 => cases h
  | h1 l a ih =>
    rw [lab_snoc]
    rcases List.mem_append.1 h with h | h
    · exact join_keeps (ih h)
    · rw [List.mem_singleton.1 h]; exact join_ends _ _
/-- A set of buses that no line leaves holds whole islands. -/
theorem lab_closed {es : List (Nat × Nat)} {S : Nat → Prop} (hS : ∀ e, e ∈ es → (S e.1 ↔ S e.2)) : ∀ {x y}, lab es x = lab es y → (S x ↔ S y) := by
  induction es using snoc_ind with
  | h0 => intro x y h; rw [lab_nil] at h; rw [show x = y from h]
  | h1 l a ih =>
    intro x y h
    have hl : ∀ e, e ∈ l → (S e.1 ↔ S e.2) := fun e he => hS e (List.mem_append_left _ he)
    have ha : S a.1 ↔ S a.2 := hS a (List.mem_append_right _ (List.mem_singleton.2 rfl))
    rw [lab_snoc] at h
    rcases join_inv h with h | ⟨h1, h2⟩ | ⟨h1, h2⟩
    · exact ih hl h
    · exact (ih hl h1).trans (ha.trans (ih hl h2).symm)
    · exact (ih hl h1).trans (ha.symm.trans (ih hl h2).symm)
theorem lab_mono {es fs : List (Nat × Nat)} (h : ∀ e, e ∈ es → lab fs e.1 = lab fs e.2) {x y : Nat} (hx : lab es x = lab es y) : lab fs x = lab fs y := by
  have := lab_closed (es := es) (S := fun z => lab fs z = lab fs x) (fun e he => by simp only [h e he]) hx
  exact (this.1 rfl).symm
end Go.Proofs.YtcchhgpdallpmaaM
namespace Go.Proofs.YtcchhgpdallpmaaM

def tr (s : List Bool) (k : Nat) : Bool := s.getD k false
def LeB (s t : List Bool) : Prop := s.length = t.length ∧ ∀ k, tr s k = true → tr t k = true
theorem LeB.trans {s t u : List Bool} (h : LeB s t) (k : LeB t u) : LeB s u := ⟨h.1.trans k.1, fun i hi => k.2 i (h.2 i hi)⟩
end Go.Proofs.YtcchhgpdallpmaaM
namespace Go.Proofs.YtcchhgpdallpmaaM

def onE (L : List (Nat × Nat)) (on : List Bool) : List (Nat × Nat) := ((L.zip on).filter (·.2)).map (·.1)
theorem onE_nil (on : List Bool) : onE [] on = [] := by simp [onE]
theorem onE_nil' (L : List (Nat × Nat)) : onE L [] = [] := by simp [onE]
theorem onE_cons (e : Nat × Nat) (L : List (Nat × Nat)) (b : Bool) (on : List Bool) : onE (e :: L) (b :: on) = (if b then [e] else []) ++ onE L on := by
  cases b <;> simp [onE]
theorem onE_mem {L : List (Nat × Nat)} {on : List Bool} {e : Nat × Nat} : e ∈ onE L on ↔ ∃ k : Nat, L[k]? = some e ∧ on[k]? = some true := by
  induction L generalizing on with
  | nil => simp [onE_nil]
  | cons f L ih =>
    cases on with
    | nil => simp [onE_nil']
    | cons b on =>
      rw [onE_cons, List.mem_append, ih]
      constructor
      · rintro (h | ⟨k, h1, h2⟩)
        · cases b
          · simp at h
          · simp at h; exact ⟨0, by simp [h], by simp⟩
        · exact ⟨k + 1, by simpa using h1, by simpa using h2⟩
      · rintro ⟨k, h1, h2⟩
        cases k with
        | zero => left; simp at h1 h2; simp [h1, h2]
        | succ k => right; exact ⟨k, by simpa using h1, by simpa using h2⟩
/-- A line that is on joins two buses. -/
def Adj (L : List (Nat × Nat)) (on : List Bool) (k v w : Nat) : Prop := on[k]? = some true ∧ (L[k]? = some (v, w) ∨ L[k]? = some (w, v))
theorem Adj.symm {L : List (Nat × Nat)} {on : List Bool} {k v w : Nat} (h : Adj L on k v w) : Adj L on k w v := ⟨h.1, h.2.symm⟩
theorem Adj.ends {L : List (Nat × Nat)} {on : List Bool} {k v w a b : Nat} (h : Adj L on k v w) (g : Adj L on k a b) : (a = v ∧ b = w) ∨ (a = w ∧ b = v) := by
  obtain ⟨_, h⟩ := h
  obtain ⟨_, g⟩ := g
  rcases h with h | h <;> rcases g with g | g <;> rw [h] at g <;> simp at g <;> simp [g]
def Acyclic (L : List (Nat × Nat)) (on : List Bool) : Prop := ∀ k e, L[k]? = some e → on[k]? = some true → lab (onE L (on.set k false)) e.1 ≠ lab (onE L (on.set k false)) e.2
def OneFeed (L : List (Nat × Nat)) (on : List Bool) (fd : Nat → Bool) : Prop := ∀ u v, fd u = true → fd v = true → lab (onE L on) u = lab (onE L on) v → u = v
/-- Who is fed, through which line; d: how far from the feed. -/
structure Tree (L : List (Nat × Nat)) (on : List Bool) (fd : Nat → Bool) (fed : Nat → Prop) (par : Nat → Option Nat) (d : Nat → Nat) : Prop where
  root : ∀ v, fed v → par v = none → fd v = true
  feed : ∀ v, fd v = true → fed v ∧ par v = none
  up : ∀ v k, fed v → par v = some k → ∃ w, Adj L on k v w ∧ fed w ∧ d w < d v
  closed : ∀ k v w, Adj L on k v w → fed v → fed w
section
variable {L : List (Nat × Nat)} {on : List Bool} {fd : Nat → Bool} {fed : Nat → Prop} {par : Nat → Option Nat} {d : Nat → Nat}
theorem adj_conn {k v w : Nat} (h : Adj L on k v w) : lab (onE L on) v = lab (onE L on) w := by
  obtain ⟨h1, h2⟩ := h
  rcases h2 with h2 | h2
  · exact lab_end (e := (v, w)) (onE_mem.2 ⟨k, h2, h1⟩)
  · exact (lab_end (e := (w, v)) (onE_mem.2 ⟨k, h2, h1⟩)).symm
theorem adj_off {k j v w : Nat} (h : Adj L on j v w) (hne : j ≠ k) : Adj L (on.set k false) j v w := ⟨by rw [List.getElem?_set]; simp [hne.symm, h.1], h.2⟩
theorem adj_of_off {k j v w : Nat} (h : Adj L (on.set k false) j v w) : Adj L on j v w ∧ j ≠ k := by
  obtain ⟨h1, h2⟩ := h
  rw [List.getElem?_set] at h1
  by_cases e : k = j
  · subst e; split at h1 <;> simp_all
  · exact ⟨⟨by simpa [e] using h1, h2⟩, fun z => e z.symm⟩
theorem off_conn {k x y : Nat} (h : lab (onE L (on.set k false)) x = lab (onE L (on.set k false)) y) : lab (onE L on) x = lab (onE L on) y := by
  refine lab_mono (fun e he => ?_) h
  obtain ⟨j, h1, h2⟩ := onE_mem.1 he
  have : Adj L (on.set k false) j e.1 e.2 := ⟨h2, .inl h1⟩
  exact adj_conn (adj_of_off this).1
theorem adj_cycle (ha : Acyclic L on) {k v w : Nat} (h : Adj L on k v w) : lab (onE L (on.set k false)) v ≠ lab (onE L (on.set k false)) w := by
  obtain ⟨h1, h2⟩ := h
  rcases h2 with h2 | h2
  · exact ha k _ h2 h1
  · exact fun z => ha k _ h2 h1 z.symm
/-- Up to the feed, past lines other than k. -/
theorem Tree.to_feed (t : Tree L on fd fed par d) (k : Nat) : ∀ m v, d v < m → fed v → (∀ u, d u ≤ d v → fed u → par u ≠ some k) → ∃ r, fd r = true ∧ lab (onE L (on.set k false)) v = lab (onE L (on.set k false)) r := by
  intro m
  induction m with
  | zero => intro v h; omega
  | succ m ih =>
    intro v hm hv hk
    cases hp : par v with
    | none => exact ⟨v, t.root v hv hp, rfl⟩
    | some j =>
      obtain ⟨w, haw, hw, hd⟩ := t.up v j hv hp
      have hjk : j ≠ k := fun e => hk v (Nat.le_refl _) hv (by rw [hp, e])
      obtain ⟨r, hr, hc⟩ := ih w (by omega) hw (fun u hu => hk u (by omega))
      exact ⟨r, hr, (adj_conn (adj_off haw hjk)).trans hc⟩
/-- A line that is on and fed is the way to one of its ends. -/
theorem Tree.line (t : Tree L on fd fed par d) (ha : Acyclic L on) (ho : OneFeed L on fd) {k v w : Nat} (h : Adj L on k v w) (hv : fed v) : par v = some k ∨ par w = some k := by
  by_cases h1 : par v = some k
  · exact .inl h1
  by_cases h2 : par w = some k
  · exact .inr h2
  exfalso
  have hno : ∀ u, fed u → par u ≠ some k := by
    intro u hu hp
    obtain ⟨x, hax, _, _⟩ := t.up u k hu hp
    rcases h.ends hax with ⟨rfl, _⟩ | ⟨rfl, _⟩
    · exact h1 hp
    · exact h2 hp
  obtain ⟨r, hr, hc⟩ := t.to_feed k _ v (Nat.lt_succ_self _) hv (fun u _ hu => hno u hu)
  obtain ⟨s, hs, hc'⟩ := t.to_feed k _ w (Nat.lt_succ_self _) (t.closed _ _ _ h hv) (fun u _ hu => hno u hu)
  have hrs : r = s := ho r s hr hs (by rw [← off_conn hc, ← off_conn hc']; exact adj_conn h)
  subst hrs
  exact adj_cycle ha h (hc.trans hc'.symm)
end
end Go.Proofs.YtcchhgpdallpmaaM
namespace Go.Proofs.Ytcchhgpdallpmaa.P
open Go.RowKit Go.Proofs.YtcchhgpdallpmaaW.PrintWords Go.Proofs.YtcchhgpdallpmaaW.PrintLast Go.Proofs.YtcchhgpdallpmaaW.PrintMore
theorem Ev.pos {α : Type} {c : Prop} [Decidable c] {a b : Nat → Option α} {r : α} (hc : c) (h : Ev a r) : Ev (fun k => if c then a k else b k) r := by
  obtain ⟨K, h⟩ := h
  exact ⟨K, fun k hk => (if_pos hc).trans (h k hk)⟩
theorem Ev.neg {α : Type} {c : Prop} [Decidable c] {a b : Nat → Option α} {r : α} (hc : ¬ c) (h : Ev b r) : Ev (fun k => if c then a k else b k) r := by
  obtain ⟨K, h⟩ := h
  exact ⟨K, fun k hk => (if_neg hc).trans (h k hk)⟩
theorem Ev.some {α : Type} {r q : α} (h : r = q) : Ev (fun _ => Option.some r) q := ⟨0, fun _ _ => by rw [h]⟩
theorem Ev.then {α β : Type} {g : Nat → Option α} {f : Nat → α → Option β} {a : α} {r : β} (h : Ev g a) (k : Ev (fun n => f n a) r) : Ev (fun n => (g n).bind fun x => f n x) r := Ev.bind h k
theorem Ev.thenC {α β : Type} {g : Option α} {f : Nat → α → Option β} {a : α} {r : β} (h : g = Option.some a) (k : Ev (fun n => f n a) r) : Ev (fun n => g.bind fun x => f n x) r := by
  subst h
  exact k
theorem w1 (i : Nat) (h : i < 4611686018427387904) : wrap64 ((i : Int) + 1) = ((i + 1 : Nat) : Int) := by unfold wrap64; omega
theorem wp (x : Int) (h0 : -9223372036854775808 ≤ x) (h1 : x < 9223372036854775808) : wrap64 x = x := by unfold wrap64; omega
theorem rdOf_nat {α : Type} (d : α) (xs : List α) (i : Nat) : rdOf d xs (i : Int) = xs.getD i d := rfl
theorem getD_at {α : Type} {xs : List α} {i : Nat} (h : i < xs.length) (d : α) : xs.getD i d = xs[i] := by simp [List.getD_eq_getElem?_getD, h]
theorem fill_step {α β : Type} (f : β → α) (l : List β) (z : α) (d : β) (i : Nat) (h : i < l.length) : ((l.take i).map f ++ List.replicate (l.length - i) z).set i (f (l.getD i d)) = (l.take (i + 1)).map f ++ List.replicate (l.length - (i + 1)) z := by
  rw [List.take_succ_eq_append_getElem h, getD_at h, List.map_append, List.set_append_right _ _ (by simp; omega)]
  simp only [List.length_map, List.length_take, Nat.min_eq_left (Nat.le_of_lt h), Nat.sub_self, List.append_assoc]
  rw [show l.length - i = (l.length - (i + 1)) + 1 by omega, List.replicate_succ]
  simp
theorem Ev.ite {α : Type} {c : Prop} [Decidable c] {a b : Nat → Option α} {r : α} (h1 : c → Ev a r) (h2 : ¬ c → Ev b r) : Ev (fun k => if c then a k else b k) r := by
  by_cases hc : c
  · exact Ev.pos hc (h1 hc)
  · exact Ev.neg hc (h2 hc)
theorem drop_at {α : Type} {xs : List α} {i : Nat} (h : i < xs.length) (d : α) : xs.drop i = xs.getD i d :: xs.drop (i + 1) := by
  rw [getD_at h]; exact List.drop_eq_getElem_cons h
end Go.Proofs.Ytcchhgpdallpmaa.P
namespace Go.Proofs.Ytcchhgpdallpmaa.P
open Go.RowKit Go.Proofs.YtcchhgpdallpmaaW.PrintWords Go.Proofs.YtcchhgpdallpmaaW.PrintLast Go.Proofs.YtcchhgpdallpmaaW.PrintMore

theorem toBoolS_l0 (l : List Bool) (hl : l.length ≤ 1048576) : ∀ d i, i + d = l.length → Ev (fun k => laws_toBoolS.l0 k l ((l.take i).map (fun x => x) ++ List.replicate (l.length - i) false) i) l := by
  intro d
  induction d with
  | zero =>
    intro i hi
    refine Ev.step (fun k => by rw [laws_toBoolS.l0]) ?_
    refine Ev.neg (by omega) (Ev.some ?_)
    rw [show i = l.length by omega]; simp
  | succ d ih =>
    intro i hi
    refine Ev.step (fun k => by rw [laws_toBoolS.l0]) ?_
    refine Ev.pos (by omega) (Ev.pos (by omega) (Ev.pos (by simp; omega) ?_))
    rw [w1 i (by omega), rdOf_nat, Int.toNat_natCast, fill_step (fun x => x) l false false i (by omega)]
    exact ih (i + 1) (by omega)
theorem toBoolS_ev (l : List Bool) (hl : l.length ≤ 1048576) : Ev (fun k => laws_toBoolS.f k l) l := by
  refine Ev.pos (by omega) (Ev.pos (by omega) ?_)
  exact toBoolS_l0 l hl l.length 0 (by omega)
def toL (x : S82) : S70 := ⟨x.f0, x.f1, x.f2⟩
theorem toLineS_l0 (l : List S82) (hl : l.length ≤ 1048576) : ∀ d i, i + d = l.length → Ev (fun k => laws_toLineS.l0 k l ((l.take i).map toL ++ List.replicate (l.length - i) z70) i) (l.map toL) := by
  intro d
  induction d with
  | zero =>
    intro i hi
    refine Ev.step (fun k => by rw [laws_toLineS.l0]) ?_
    refine Ev.neg (by omega) (Ev.some ?_)
    rw [show i = l.length by omega]; simp
  | succ d ih =>
    intro i hi
    refine Ev.step (fun k => by rw [laws_toLineS.l0]) ?_
    refine Ev.pos (by omega) (Ev.pos (by omega) (Ev.thenC rfl (Ev.pos (by simp; omega) ?_)))
    rw [w1 i (by omega)]
    show Ev (fun k => laws_toLineS.l0 k l (((l.take i).map toL ++ List.replicate (l.length - i) z70).set i (toL (l.getD i z82))) _) _
    rw [fill_step toL l z70 z82 i (by omega)]
    exact ih (i + 1) (by omega)
theorem toLineS_ev (l : List S82) (hl : l.length ≤ 1048576) : Ev (fun k => laws_toLineS.f k l) (l.map toL) := by
  refine Ev.pos (by omega) (Ev.pos (by omega) ?_)
  exact toLineS_l0 l hl l.length 0 (by omega)
theorem toNet_ev (b : Int) (l : List S82) (hl : l.length ≤ 1048576) : Ev (fun k => laws_toNet.f k b l) (b, l.map toL) :=
  Ev.then (toLineS_ev l hl) (Ev.now _)
theorem eqBoolS_l0 (l : List Bool) (hl : l.length < 4611686018427387904) : ∀ d i, i + d = l.length → Ev (fun k => laws_eqBoolS.l0 k l l i) true := by
  intro d
  induction d with
  | zero => intro i hi; exact Ev.step (fun k => by rw [laws_eqBoolS.l0]) (Ev.neg (by omega) (Ev.some rfl))
  | succ d ih =>
    intro i hi
    refine Ev.step (fun k => by rw [laws_eqBoolS.l0]) ?_
    refine Ev.pos (by omega) (Ev.pos (by omega) (Ev.pos (by omega) (Ev.neg (by simp) ?_)))
    rw [w1 i (by omega)]; exact ih (i + 1) (by omega)
theorem eqBoolS_ev (l : List Bool) (hl : l.length < 4611686018427387904) : Ev (fun k => laws_eqBoolS.f k l l) true := Ev.pos rfl (eqBoolS_l0 l hl l.length 0 (by omega))
theorem eqLineS_l0 (l : List S70) (hl : l.length < 4611686018427387904) : ∀ d i, i + d = l.length → Ev (fun k => laws_eqLineS.l0 k l l i) true := by
  intro d
  induction d with
  | zero => intro i hi; exact Ev.step (fun k => by rw [laws_eqLineS.l0]) (Ev.neg (by omega) (Ev.some rfl))
  | succ d ih =>
    intro i hi
    refine Ev.step (fun k => by rw [laws_eqLineS.l0]) ?_
    refine Ev.pos (by omega) (Ev.pos (by omega) (Ev.pos (by omega) (Ev.thenC (a := true) (by simp [laws_eqLine.f]) (Ev.pos rfl ?_))))
    rw [w1 i (by omega)]; exact ih (i + 1) (by omega)
theorem eqNet_ev (b : Int) (l : List S70) (hl : l.length < 4611686018427387904) : Ev (fun k => laws_eqNet.f k b l b l) true :=
  Ev.pos rfl (Ev.then (a := true) (Ev.pos rfl (eqLineS_l0 l hl l.length 0 (by omega))) (Ev.pos rfl (Ev.some rfl)))
theorem szNet_ev (b : Int) (l : List S82) (m : Int) (hl : l.length ≤ 9223372036854775807) (hm0 : 0 ≤ m) (hm : m ≤ 1048576) : laws_szNet.f b l m = some (if m - l.length < 0 then -1 else m - l.length) := by
  unfold laws_szNet.f laws_szLineS.f
  rw [wp _ (by omega) (by omega)]
  by_cases h : m - (l.length : Int) < 0
  · simp [h]
  · simp [h]
end Go.Proofs.Ytcchhgpdallpmaa.P
namespace Go.Proofs.Ytcchhgpdallpmaa.P
open Go.RowKit Go.Proofs.YtcchhgpdallpmaaW.PrintWords Go.Proofs.YtcchhgpdallpmaaW.PrintLast Go.Proofs.YtcchhgpdallpmaaW.PrintMore

theorem l1In_eq (a b c : Int) : spec_l1In.f a b c = some (decide (b ≤ a ∧ a ≤ c)) := by
  unfold spec_l1In.f
  by_cases h : a ≥ b
  · rw [if_pos h]; simp [show b ≤ a from h]
  · rw [if_neg h]; simp [show ¬ b ≤ a from h]
def lineOk (b : Int) (x : S70) : Bool := decide (0 ≤ x.f0 ∧ x.f0 < b ∧ 0 ≤ x.f1 ∧ x.f1 < b ∧ x.f0 ≠ x.f1 ∧ 1 ≤ x.f2 ∧ x.f2 ≤ 999)
def netOk (b : Int) (ls : List S70) : Bool := decide (1 ≤ b ∧ b ≤ 8 ∧ ls.length ≤ 10) && ls.all (lineOk b)
theorem specNet_l0 (b : Int) (ls : List S70) (hb : 1 ≤ b ∧ b ≤ 8) (hl : ls.length ≤ 10) : ∀ d i, i + d = ls.length → Ev (fun k => spec_NetValid.l0 k i b ls) ((ls.drop i).all (lineOk b)) := by
  intro d
  induction d with
  | zero =>
    intro i hi
    refine Ev.step (fun k => by rw [spec_NetValid.l0]) ?_
    refine Ev.neg (by omega) (Ev.some ?_)
    rw [show i = ls.length by omega]; simp
  | succ d ih =>
    intro i hi
    rw [drop_at (show i < ls.length by omega) z70, List.all_cons]
    refine Ev.step (fun k => by rw [spec_NetValid.l0]) ?_
    refine Ev.pos (by omega) (Ev.pos (by omega) ?_)
    rw [show rd_T70 ls (i : Int) = ls.getD i z70 from rfl, w1 i (by omega), wp (b - 1) (by omega) (by omega)]
    generalize ls.getD i z70 = x
    by_cases hx : lineOk b x = true
    · rw [hx, Bool.true_and]
      have := ih (i + 1) (by omega)
      simp only [lineOk, decide_eq_true_eq] at hx
      exact Ev.thenC (l1In_eq _ _ _) (Ev.pos (by rw [decide_eq_true_eq]; omega) (Ev.thenC (l1In_eq _ _ _) (Ev.pos (by rw [decide_eq_true_eq]; omega) (Ev.neg (by omega) (Ev.thenC (l1In_eq _ _ _) (Ev.pos (by rw [decide_eq_true_eq]; omega) this))))))
    · rw [Bool.not_eq_true] at hx
      rw [hx, Bool.false_and]
      simp only [lineOk, decide_eq_false_iff_not] at hx
      refine Ev.thenC (l1In_eq _ _ _) (Ev.ite (fun h1 => Ev.thenC (l1In_eq _ _ _) (Ev.ite (fun h2 => Ev.ite (fun _ => Ev.some rfl) (fun h3 => Ev.thenC (l1In_eq _ _ _) (Ev.ite (fun h4 => ?_) fun _ => Ev.some rfl))) fun _ => Ev.some rfl)) fun _ => Ev.some rfl)
      rw [decide_eq_true_eq] at h1 h2 h4
      exact absurd (show _ ∧ _ from ⟨h1.1, by omega, h2.1, by omega, h3, h4.1, h4.2⟩) hx
theorem specNet_ev (b : Int) (ls : List S70) (hl : ls.length < 4611686018427387904) : Ev (fun k => spec_NetValid.f k b ls) (netOk b ls) := by
  unfold netOk
  refine Ev.thenC (l1In_eq _ _ _) (Ev.ite (fun h1 => ?_) (fun h1 => ?_))
  · rw [decide_eq_true_eq] at h1
    refine Ev.step (fun k => by rw [spec_NetValid.j0]) ?_
    refine Ev.ite (fun h2 => Ev.some ?_) (fun h2 => ?_)
    · rw [decide_eq_true_eq] at h2
      rw [decide_eq_false (by omega)]; rfl
    · rw [decide_eq_true_eq] at h2
      rw [decide_eq_true (by omega), Bool.true_and]
      exact specNet_l0 b ls h1 (by omega) ls.length 0 (by omega)
  · rw [decide_eq_true_eq] at h1
    rw [decide_eq_false (by omega)]
    refine Ev.step (fun k => by rw [spec_NetValid.j0]) ?_
    exact Ev.pos rfl (Ev.some rfl)
theorem hasBus_eq (b : Int) (ls : List S70) (x : Int) : impl_Net_hasBus.f b ls x = some (decide (0 ≤ x ∧ x < b)) := by
  unfold impl_Net_hasBus.f
  by_cases h : x ≥ 0
  · rw [if_pos h]; simp [show 0 ≤ x from h]
  · rw [if_neg h]; simp [show ¬ 0 ≤ x from h]
theorem hasLine_eq (b : Int) (ls : List S70) (x : Int) : impl_Net_hasLine.f b ls x = some (decide (0 ≤ x ∧ x < ls.length)) := by
  unfold impl_Net_hasLine.f
  by_cases h : x ≥ 0
  · rw [if_pos h]; simp [show 0 ≤ x from h]
  · rw [if_neg h]; simp [show ¬ 0 ≤ x from h]
theorem implNet_l0 (b : Int) (ls : List S70) (hl : ls.length ≤ 10) : ∀ d i, i + d = ls.length → Ev (fun k => impl_NetValid.l0 k ls (ls.length : Int) i b ls) ((ls.drop i).all (lineOk b)) := by
  intro d
  induction d with
  | zero =>
    intro i hi
    refine Ev.step (fun k => by rw [impl_NetValid.l0]) ?_
    refine Ev.neg (by omega) (Ev.some ?_)
    rw [show i = ls.length by omega]; simp
  | succ d ih =>
    intro i hi
    rw [drop_at (show i < ls.length by omega) z70, List.all_cons]
    refine Ev.step (fun k => by rw [impl_NetValid.l0]) ?_
    refine Ev.pos (by omega) (Ev.pos (by omega) (Ev.pos (by omega) ?_))
    rw [show rd_T70 ls (i : Int) = ls.getD i z70 from rfl, w1 i (by omega)]
    generalize ls.getD i z70 = x
    by_cases hx : lineOk b x = true
    · rw [hx, Bool.true_and]
      have := ih (i + 1) (by omega)
      simp only [lineOk, decide_eq_true_eq] at hx
      exact Ev.thenC (hasBus_eq _ _ _) (Ev.pos (by rw [decide_eq_true_eq]; omega) (Ev.thenC (hasBus_eq _ _ _) (Ev.pos (by rw [decide_eq_true_eq]; omega) (Ev.neg (by omega) (Ev.neg (by omega) (Ev.neg (by omega) this))))))
    · rw [Bool.not_eq_true] at hx
      rw [hx, Bool.false_and]
      simp only [lineOk, decide_eq_false_iff_not] at hx
      refine Ev.thenC (hasBus_eq _ _ _) (Ev.ite (fun h1 => Ev.thenC (hasBus_eq _ _ _) (Ev.ite (fun h2 => Ev.ite (fun _ => Ev.some rfl) (fun h3 => Ev.ite (fun _ => Ev.some rfl) (fun h4 => Ev.ite (fun _ => Ev.some rfl) (fun h5 => ?_)))) fun _ => Ev.some rfl)) fun _ => Ev.some rfl)
      rw [decide_eq_true_eq] at h1 h2
      exact absurd (show _ ∧ _ from ⟨h1.1, h1.2, h2.1, h2.2, h3, by omega, by omega⟩) hx
theorem implNet_ev (b : Int) (ls : List S70) : Ev (fun k => impl_NetValid.f k b ls) (netOk b ls) := by
  unfold netOk
  refine Ev.ite (fun h1 => ?_) (fun h1 => Ev.ite (fun h2 => ?_) (fun h2 => ?_))
  · rw [decide_eq_false (by omega)]
    refine Ev.step (fun k => by rw [impl_NetValid.j0]) ?_
    exact Ev.pos rfl (Ev.some rfl)
  · rw [decide_eq_false (by omega)]
    refine Ev.step (fun k => by rw [impl_NetValid.j0]) ?_
    exact Ev.pos rfl (Ev.some rfl)
  · refine Ev.step (fun k => by rw [impl_NetValid.j0]) ?_
    refine Ev.ite (fun h3 => Ev.some ?_) (fun h3 => ?_)
    · rw [decide_eq_true_eq] at h3
      rw [decide_eq_false (by omega)]; rfl
    · rw [decide_eq_true_eq] at h3
      rw [decide_eq_true (by omega), Bool.true_and]
      exact implNet_l0 b ls (by omega) ls.length 0 (by omega)
/-- A state fits a network. -/
def stOk (b : Int) (ls : List S70) (on : List Bool) : Bool := netOk b ls && ((on.length : Int) == (ls.length : Int))
theorem specSt_ev (b : Int) (ls : List S70) (on : List Bool) (hl : ls.length < 4611686018427387904) : Ev (fun k => spec_StateValid.f k b ls on) (stOk b ls on) := by
  unfold stOk
  refine Ev.then (specNet_ev b ls hl) ?_
  cases netOk b ls
  · exact Ev.neg (by simp) (Ev.some rfl)
  · exact Ev.pos rfl (Ev.some rfl)
theorem implSt_ev (b : Int) (ls : List S70) (on : List Bool) : Ev (fun k => impl_StateValid.f k b ls on) (stOk b ls on) := by
  unfold stOk
  refine Ev.then (implNet_ev b ls) ?_
  cases netOk b ls
  · exact Ev.neg (by simp) (Ev.some rfl)
  · exact Ev.pos rfl (Ev.some rfl)

end Go.Proofs.Ytcchhgpdallpmaa.P
namespace Go.Proofs.Ytcchhgpdallpmaa.P
open Go.RowKit Go.Proofs.YtcchhgpdallpmaaW.PrintWords Go.Proofs.YtcchhgpdallpmaaW.PrintLast Go.Proofs.YtcchhgpdallpmaaW.PrintMore

theorem copy_eq (on : List Bool) (hl : on.length < 140737488355328) : spec_l2Copy.f on = some on := by
  show (if ([] : List Bool).length + on.length < 140737488355328 then some ([] ++ on) else none) = some on
  rw [if_pos (by simpa using hl)]; rfl
def switchLine (b : Int) (ls : List S70) (on : List Bool) (line : Int) (tv : Bool) : List Bool × Bool := if stOk b ls on = true then (if 0 ≤ line ∧ line < on.length then (on.set line.toNat tv, true) else (on, false)) else ([], false)
theorem specSw_ev (b : Int) (ls : List S70) (on : List Bool) (line : Int) (tv : Bool) (hls : ls.length < 4611686018427387904) (hl : on.length ≤ 1048576) : Ev (fun k => spec_SwitchLine.f k b ls on line tv) (switchLine b ls on line tv) := by
  unfold switchLine
  refine Ev.then (specSt_ev b ls on hls) (Ev.ite (fun h => Ev.thenC (copy_eq on (by omega)) (Ev.thenC (l1In_eq _ _ _) ?_)) (fun h => Ev.some ?_))
  · rw [if_pos h, wp _ (by omega) (by omega)]
    refine Ev.ite (fun h1 => ?_) (fun h1 => Ev.some ?_)
    · rw [decide_eq_true_eq] at h1
      rw [if_pos (show 0 ≤ line ∧ line < on.length by omega)]
      exact Ev.pos (by omega) (Ev.pos (by omega) (Ev.some rfl))
    · rw [decide_eq_true_eq] at h1
      rw [if_neg (by omega)]
  · rw [if_neg h]

theorem clone_eq (on : List Bool) (hl : on.length < 140737488355328) : slices_Clone_bool_bool.f on = some on := if_pos hl
theorem implSw_ev (b : Int) (ls : List S70) (on : List Bool) (line : Int) (tv : Bool) (hl : on.length ≤ 1048576) : Ev (fun k => impl_SwitchLine.f k b ls on line tv) (switchLine b ls on line tv) := by
  unfold switchLine
  refine Ev.then (implSt_ev b ls on) (Ev.ite (fun h => Ev.thenC (clone_eq on (by omega)) (Ev.thenC (hasLine_eq _ _ _) ?_)) (fun h => Ev.some ?_))
  · rw [if_pos h]
    have hlen : on.length = ls.length := by
      simp only [stOk, Bool.and_eq_true, beq_iff_eq] at h
      omega
    refine Ev.ite (fun h1 => ?_) (fun h1 => Ev.some ?_)
    · rw [decide_eq_true_eq] at h1
      rw [if_pos (show 0 ≤ line ∧ line < on.length by omega)]
      exact Ev.pos (by omega) (Ev.pos (by omega) (Ev.some rfl))
    · rw [decide_eq_true_eq] at h1
      rw [if_neg (by omega)]
  · rw [if_neg h]
theorem switchLine_length (b : Int) (ls : List S70) (on : List Bool) (line : Int) (tv : Bool) : (switchLine b ls on line tv).1.length ≤ on.length := by
  unfold switchLine
  split
  · split <;> simp
  · simp

def marksB (m : Nat) (n : Nat) : List Bool := (List.range n).map fun i => (Int.tmod ((m + i : Nat) : Int) 3 == 0)
theorem set_mid {α : Type} (f : Nat → α) (l : List α) (i : Nat) (h : i < l.length) : ((List.range i).map f ++ l.drop i).set i (f i) = (List.range (i + 1)).map f ++ l.drop (i + 1) := by
  have e := List.drop_eq_getElem_cons h
  rw [List.set_append_right _ _ (by simp), List.range_succ, e]
  simp only [List.length_map, List.length_range, Nat.sub_self, List.set_cons_zero, List.map_append, List.map_cons, List.map_nil, List.append_assoc, List.cons_append, List.nil_append]
theorem markB_l0 (m n : Nat) (l : List Bool) (hn : l.length = n) (hs : m + n < 4611686018427387904) : ∀ d i, i + d = n → Ev (fun k => laws_markBoolS.l0 k (marksB m i ++ l.drop i) ((m + i : Nat) : Int) i) (((m + n : Nat) : Int), marksB m n) := by
  intro d
  induction d with
  | zero =>
    intro i hi
    refine Ev.step (fun k => by rw [laws_markBoolS.l0]) ?_
    refine Ev.neg (by simp [marksB]; omega) (Ev.some ?_)
    rw [show i = n by omega, List.drop_of_length_le (by omega)]; simp
  | succ d ih =>
    intro i hi
    refine Ev.step (fun k => by rw [laws_markBoolS.l0]) ?_
    refine Ev.pos (by simp [marksB]; omega) (Ev.pos (by omega) ?_)
    rw [w1 i (by omega), w1 (m + i) (by omega), Int.toNat_natCast]
    have := ih (i + 1) (by omega)
    unfold marksB at this ⊢
    rw [set_mid (fun i => (Int.tmod ((m + i : Nat) : Int) 3 == 0)) l i (by omega)]
    exact this
theorem markB_ev (l : List Bool) (m : Nat) (hs : m + l.length < 4611686018427387904) : Ev (fun k => laws_markBoolS.f k l (m : Int)) (((m + l.length : Nat) : Int), marksB m l.length) := markB_l0 m l.length l rfl hs l.length 0 (by omega)
theorem heldB_l0 (m n : Nat) (hs : m + n < 4611686018427387904) : ∀ d i, i + d = n → Ev (fun k => laws_heldBoolS.l0 k (marksB m n) ((m + i : Nat) : Int) i) (((m + n : Nat) : Int)) := by
  intro d
  induction d with
  | zero =>
    intro i hi
    refine Ev.step (fun k => by rw [laws_heldBoolS.l0]) ?_
    refine Ev.neg (by simp [marksB]; omega) (Ev.some (by rw [show i = n by omega]))
  | succ d ih =>
    intro i hi
    refine Ev.step (fun k => by rw [laws_heldBoolS.l0]) ?_
    refine Ev.pos (by simp [marksB]; omega) (Ev.pos (by omega) ?_)
    rw [w1 i (by omega), w1 (m + i) (by omega), rdOf_nat, show (marksB m n).getD i false = (Int.tmod ((m + i : Nat) : Int) 3 == 0) by
      unfold marksB
      rw [getD_at (by simp; omega)]; simp]
    exact Ev.neg (by simp) (ih (i + 1) (by omega))
theorem heldB_ev (m n : Nat) (hs : m + n < 4611686018427387904) : Ev (fun k => laws_heldBoolS.f k (marksB m n) (m : Int)) (((m + n : Nat) : Int)) := heldB_l0 m n hs n 0 (by omega)
/-- Marks of an argument: only their number counts. -/
theorem markL_l0 (n : Nat) (hn : n < 4611686018427387904) : ∀ d i m (l : List S70), i + d = n → l.length = n → m + 3 * d < 4611686018427387904 → ∃ l', Ev (fun k => laws_markLineS.l0 k l ((m : Nat) : Int) ((i : Nat) : Int)) (((m + 3 * d : Nat) : Int), l') := by
  intro d
  induction d with
  | zero =>
    intro i m l hi hl _
    refine ⟨l, Ev.step (fun k => by rw [laws_markLineS.l0]) ?_⟩
    exact Ev.neg (by omega) (Ev.some rfl)
  | succ d ih =>
    intro i m l hi hl hm
    have h3 : m + 3 * (d + 1) = m + 1 + 1 + 1 + 3 * d := by omega
    obtain ⟨l', h⟩ := ih (i + 1) (m + 1 + 1 + 1) (((l.set i _).set i _).set i _) (by omega) (by simp [hl]) (by omega)
    refine ⟨l', Ev.step (fun k => by rw [laws_markLineS.l0]) ?_⟩
    refine Ev.pos (by omega) (Ev.pos (by omega) (Ev.thenC rfl (Ev.thenC rfl ?_)))
    rw [w1 i (by omega), w1 m (by omega), w1 (m + 1) (by omega), w1 (m + 1 + 1) (by omega), h3]
    exact h
theorem markNet_ev (b : Int) (l : List S70) (m : Nat) (hs : m + 3 * l.length < 4611686018427387904) : ∃ l', Ev (fun k => laws_markNet.f k b l (m : Int)) (((m + 3 * l.length : Nat) : Int), l') := by
  obtain ⟨l', h⟩ := markL_l0 l.length (by omega) l.length 0 m l (by omega) rfl hs
  exact ⟨l', Ev.then (a := (((m + 3 * l.length : Nat) : Int), l')) h (Ev.some rfl)⟩
end Go.Proofs.Ytcchhgpdallpmaa.P
namespace Go.Proofs.Ytcchhgpdallpmaa.P
open Go.RowKit Go.Proofs.YtcchhgpdallpmaaW.PrintWords Go.Proofs.YtcchhgpdallpmaaW.PrintLast Go.Proofs.YtcchhgpdallpmaaW.PrintMore
open Go.Proofs.YtcchhgpdallpmaaM

def ends (x : S70) : Nat × Nat := (x.f0.toNat, x.f1.toNat)
end Go.Proofs.Ytcchhgpdallpmaa.P
namespace Go.Proofs.Ytcchhgpdallpmaa.P
open Go.RowKit Go.Proofs.YtcchhgpdallpmaaW.PrintWords Go.Proofs.YtcchhgpdallpmaaW.PrintLast Go.Proofs.YtcchhgpdallpmaaW.PrintMore

/-- The guard of a network's size. -/
theorem sz_guard {b : Int} {l : List S82} (hl : l.length ≤ 9223372036854775807) {g : Nat → Int → Option Bool} (h : l.length ≤ 1048576 → Ev (fun k => g k (1048576 - (l.length : Int))) true) :
    Ev (fun k => (laws_szNet.f b l 1048576).bind fun t => (if t < 0 then some true else g k t)) true := by
  refine Ev.thenC (szNet_ev b l 1048576 hl (by omega) (by omega)) ?_
  by_cases hc : 1048576 - (l.length : Int) < 0
  · exact Ev.pos (by rw [if_pos hc]; omega) (Ev.some rfl)
  · refine Ev.neg (by rw [if_neg hc]; exact hc) ?_
    rw [if_neg hc]
    exact h (by omega)
theorem x_SwitchLine (b : Int) (l : List S82) (on : List Bool) (line : Int) (tv : Bool) (hl : l.length ≤ 9223372036854775807) : Ev (fun k => laws_FnExactSwitchLine.f k b l on line tv) true := by
  refine Ev.ite (fun _ => Ev.some rfl) (fun h' => sz_guard hl fun h => ?_)
  have hn := toNet_ev b l h
  have ho := toBoolS_ev on (by omega)
  have h0 : (l.map toL).length < 4611686018427387904 := by rw [List.length_map]; omega
  have hlen := switchLine_length b (l.map toL) on line tv
  have hs := specSw_ev b (l.map toL) on line tv h0 (by omega)
  have hi := implSw_ev b (l.map toL) on line tv (by omega)
  have he := eqBoolS_ev (switchLine b (l.map toL) on line tv).1 (by omega)
  have h1 : Ev (fun k => laws_heldBoolS.f k (marksB 1 (switchLine b (l.map toL) on line tv).1.length) 1) (((1 + (switchLine b (l.map toL) on line tv).1.length : Nat) : Int)) := heldB_ev 1 _ (by omega)
  obtain ⟨l', hm⟩ := markNet_ev b (l.map toL) 1 (by simp; omega)
  refine Ev.then hn (Ev.then ho (Ev.then hs (Ev.then hn (Ev.then ho (Ev.then hi (Ev.then he (Ev.pos rfl ?_)))))))
  refine Ev.step (fun k => by rw [laws_FnExactSwitchLine.j0]) ?_
  refine Ev.neg (by simp) (Ev.then hn (Ev.then (eqNet_ev b _ h0) (Ev.pos rfl (Ev.then ho (Ev.then (eqBoolS_ev on (by omega)) (Ev.pos rfl (Ev.then hm (Ev.then (markB_ev on _ (by simp; omega)) (Ev.neg (by omega) (Ev.then he (Ev.pos rfl ?_)))))))))))
  refine Ev.step (fun k => by rw [laws_FnExactSwitchLine.j1]) ?_
  refine Ev.neg (by simp) (Ev.then (markB_ev _ 1 (by omega)) (Ev.then h1 (Ev.neg (by omega) (Ev.pos rfl (Ev.then hn (Ev.then ho (Ev.then hi (Ev.then he (Ev.pos rfl ?_)))))))))
  refine Ev.step (fun k => by rw [laws_FnExactSwitchLine.j2]) ?_
  exact Ev.neg (by simp) (Ev.then h1 (Ev.neg (by omega) (Ev.pos rfl (Ev.some rfl))))
end Go.Proofs.Ytcchhgpdallpmaa.P

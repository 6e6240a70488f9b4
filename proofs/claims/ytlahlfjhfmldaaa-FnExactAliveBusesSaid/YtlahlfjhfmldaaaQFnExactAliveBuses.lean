/- The plain side of the law FnExactAliveBuses: what the printed functions come to, in plain Lean. -/
import Derived.Test.YtlahlfjhfmldaaaP0
import Derived.Test.YtlahlfjhfmldaaaP4
import Derived.Test.YtlahlfjhfmldaaaP5
import Derived.Test.YtlahlfjhfmldaaaP8
import Derived.Test.YtlahlfjhfmldaaaP9
import Derived.Test.YtlahlfjhfmldaaaP10
import Derived.Test.YtlahlfjhfmldaaaP11
import Derived.Test.YtlahlfjhfmldaaaP13
import Derived.Test.YtlahlfjhfmldaaaP16
import Derived.Test.YtlahlfjhfmldaaaP19
import Derived.Test.YtlahlfjhfmldaaaP20
import Derived.Test.YtlahlfjhfmldaaaP23
import Derived.Test.YtlahlfjhfmldaaaP26
import Derived.Test.YtlahlfjhfmldaaaP28
import Derived.Test.YtlahlfjhfmldaaaP29
import Derived.Test.YtlahlfjhfmldaaaP31
import Derived.Test.YtlahlfjhfmldaaaP32
import Derived.Test.YtlahlfjhfmldaaaP33
import Derived.Test.YtlahlfjhfmldaaaP36
import Derived.Test.YtlahlfjhfmldaaaP37
import Derived.Test.YtlahlfjhfmldaaaP40
import Derived.Test.YtlahlfjhfmldaaaP43
import Derived.Test.YtlahlfjhfmldaaaP44
set_option linter.unusedVariables false
namespace Go.Proofs.YtlahlfjhfmldaaaM

/-- Labels after one more line between a and b. -/
def joinL (c : Nat → Nat) (a b : Nat) : Nat → Nat := fun x => if c x = max (c a) (c b) then min (c a) (c b) else c x
/-- A label is the least bus of its island. -/
structure GoodL (c : Nat → Nat) : Prop where
  le : ∀ x, c x ≤ x
  idem : ∀ x, c (c x) = c x
theorem good_id : GoodL (fun x => x) := ⟨fun _ => Nat.le_refl _, fun _ => rfl⟩
theorem good_join {c : Nat → Nat} (h : GoodL c) (a b : Nat) : GoodL (joinL c a b) := by
  have ha := h.idem a
  have hb := h.idem b
  constructor
  · intro x
    unfold joinL
    have := h.le x
    split <;> omega
  · intro x
    have hx := h.idem x
    unfold joinL
    by_cases e : c x = max (c a) (c b)
    · rw [if_pos e]
      have : c (min (c a) (c b)) = min (c a) (c b) := by
        rcases Nat.le_total (c a) (c b) with g | g
        · rw [Nat.min_eq_left g]; exact ha
        · rw [Nat.min_eq_right g]; exact hb
      rw [this]
      split <;> rfl
    · rw [if_neg e, hx, if_neg e]
theorem join_ends {c : Nat → Nat} (a b : Nat) : joinL c a b a = joinL c a b b := by
  unfold joinL
  rcases Nat.le_total (c a) (c b) with g | g
  · simp only [Nat.max_eq_right g, Nat.min_eq_left g]
    split <;> simp_all
  · simp only [Nat.max_eq_left g, Nat.min_eq_right g]
    split <;> simp_all
theorem join_keeps {c : Nat → Nat} {a b x y : Nat} (h : c x = c y) : joinL c a b x = joinL c a b y := by
  unfold joinL
  rw [h]
/-- What has one label after a join had one before, or the two ends' labels. -/
theorem join_inv {c : Nat → Nat} {a b x y : Nat} (h : joinL c a b x = joinL c a b y) : c x = c y ∨ (c x = c a ∧ c y = c b) ∨ (c x = c b ∧ c y = c a) := by
  unfold joinL at h
  rcases Nat.le_total (c a) (c b) with g | g
  · simp only [Nat.max_eq_right g, Nat.min_eq_left g] at h
    split at h <;> split at h <;> simp_all
  · simp only [Nat.max_eq_left g, Nat.min_eq_right g] at h
    split at h <;> split at h <;> simp_all

/-- The labels of a list of lines. -/
def labF (c : Nat → Nat) (es : List (Nat × Nat)) : Nat → Nat := es.foldl (fun c e => joinL c e.1 e.2) c
def lab (es : List (Nat × Nat)) : Nat → Nat := labF (fun x => x) es
theorem lab_nil : lab [] = fun x => x := rfl
theorem lab_snoc (es : List (Nat × Nat)) (e : Nat × Nat) : lab (es ++ [e]) = joinL (lab es) e.1 e.2 := by
  unfold lab labF
  rw [List.foldl_append]
  rfl
theorem snoc_ind {α : Type} {p : List α → Prop} (h0 : p []) (h1 : ∀ l a, p l → p (l ++ [a])) : ∀ l, p l := by
  intro l
  have : ∀ m : List α, p m.reverse := by
    intro m
    induction m with
    | nil => exact h0
    | cons a m ih => rw [List.reverse_cons]; exact h1 _ _ ih
  have h := this l.reverse
  rwa [List.reverse_reverse] at h
theorem lab_good (es : List (Nat × Nat)) : GoodL (lab es) := by
  induction es using snoc_ind with
  | h0 => exact good_id
  | h1 l a ih => rw [lab_snoc]; exact good_join ih _ _
theorem lab_end {es : List (Nat × Nat)} {e : Nat × Nat} (h : e ∈ es) : lab es e.1 = lab es e.2 := by
  induction es using snoc_ind with
  | h0 => cases h
  | h1 l a ih =>
    rw [lab_snoc]
    rcases List.mem_append.1 h with h | h
    · exact join_keeps (ih h)
    · rw [List.mem_singleton.1 h]; exact join_ends _ _
/-- A set of buses that no line leaves holds whole islands. -/
theorem lab_closed {es : List (Nat × Nat)} {S : Nat → Prop} (hS : ∀ e, e ∈ es → (S e.1 ↔ S e.2)) : ∀ {x y}, lab es x = lab es y → (S x ↔ S y) := by
  induction es using snoc_ind with
  | h0 => intro x y h; rw [lab_nil] at h; rw [show x = y from h]
  | h1 l a ih =>
    intro x y h
    have hl : ∀ e, e ∈ l → (S e.1 ↔ S e.2) := fun e he => hS e (List.mem_append_left _ he)
    have ha : S a.1 ↔ S a.2 := hS a (List.mem_append_right _ (List.mem_singleton.2 rfl))
    rw [lab_snoc] at h
    rcases join_inv h with h | ⟨h1, h2⟩ | ⟨h1, h2⟩
    · exact ih hl h
    · exact (ih hl h1).trans (ha.trans (ih hl h2).symm)
    · exact (ih hl h1).trans (ha.symm.trans (ih hl h2).symm)
def In (n : Nat) (es : List (Nat × Nat)) : Prop := ∀ e, e ∈ es → e.1 < n ∧ e.2 < n
end Go.Proofs.YtlahlfjhfmldaaaM
namespace Go.Proofs.YtlahlfjhfmldaaaM

def tr (s : List Bool) (k : Nat) : Bool := s.getD k false
def stepR (s : List Bool) (e : Nat × Nat) : List Bool := if tr s e.1 || tr s e.2 then (s.set e.1 true).set e.2 true else s
def passR (es : List (Nat × Nat)) (s : List Bool) : List Bool := es.foldl stepR s
def iterR (es : List (Nat × Nat)) : Nat → List Bool → List Bool
  | 0, s => s
  | m + 1, s => iterR es m (passR es s)
def LeB (s t : List Bool) : Prop := s.length = t.length ∧ ∀ k, tr s k = true → tr t k = true
theorem LeB.refl (s : List Bool) : LeB s s := ⟨rfl, fun _ h => h⟩
theorem LeB.trans {s t u : List Bool} (h : LeB s t) (k : LeB t u) : LeB s u := ⟨h.1.trans k.1, fun i hi => k.2 i (h.2 i hi)⟩
theorem tr_set {s : List Bool} {i : Nat} (hi : i < s.length) (k : Nat) : tr (s.set i true) k = (if k = i then true else tr s k) := by
  unfold tr
  rw [List.getD_eq_getElem?_getD, List.getD_eq_getElem?_getD, List.getElem?_set]
  by_cases h : i = k
  · subst h; simp [hi]
  · simp [h, Ne.symm h]
theorem leB_set {s : List Bool} {i : Nat} (hi : i < s.length) : LeB s (s.set i true) := ⟨by simp, fun k hk => by rw [tr_set hi]; split <;> simp_all⟩
theorem leB_step {s : List Bool} {e : Nat × Nat} (h1 : e.1 < s.length) (h2 : e.2 < s.length) : LeB s (stepR s e) := by
  unfold stepR
  split
  · exact (leB_set h1).trans (leB_set (by simpa using h2))
  · exact LeB.refl s
theorem leB_pass {es : List (Nat × Nat)} : ∀ {s : List Bool}, In s.length es → LeB s (passR es s) := by
  induction es with
  | nil => intro s _; exact LeB.refl s
  | cons e es ih =>
    intro s h
    have he := h e (by simp)
    have hs := leB_step he.1 he.2
    exact hs.trans (ih (s := stepR s e) (fun f hf => by rw [← hs.1]; exact h f (by simp [hf])))
theorem leB_count {s : List Bool} : ∀ {t : List Bool}, LeB s t → s.count true ≤ t.count true ∧ (s.count true = t.count true → s = t) := by
  induction s with
  | nil => intro t h; have := h.1; cases t with | nil => simp | cons _ _ => simp at this
  | cons a s ih =>
    intro t h
    cases t with
    | nil => have := h.1; simp at this
    | cons b t =>
      have hst : LeB s t := ⟨by simpa using h.1, fun k hk => by simpa [tr] using h.2 (k + 1) (by simpa [tr] using hk)⟩
      obtain ⟨h1, h2⟩ := ih hst
      have hab : a = true → b = true := fun ha => by simpa [tr] using h.2 0 (by simpa [tr] using ha)
      cases a <;> cases b
      · simpa using ⟨h1, h2⟩
      · simp; omega
      · simp at hab
      · simpa using ⟨h1, h2⟩
theorem leB_antisymm {s t : List Bool} (h : LeB s t) (k : LeB t s) : s = t := (leB_count h).2 (Nat.le_antisymm (leB_count h).1 (leB_count k).1)
theorem pass_closed {es : List (Nat × Nat)} : ∀ {s : List Bool}, In s.length es → passR es s = s → ∀ e, e ∈ es → tr s e.1 = tr s e.2 := by
  induction es with
  | nil => intro s _ _ e he; cases he
  | cons f es ih =>
    intro s h hp e he
    have hf := h f (by simp)
    have hs := leB_step hf.1 hf.2
    have hin : In (stepR s f).length es := fun g hg => by rw [← hs.1]; exact h g (by simp [hg])
    have hps : passR es (stepR s f) = s := hp
    have hst : stepR s f = s := leB_antisymm (by have := leB_pass hin; rw [hps] at this; exact this) hs
    rw [hst] at hps
    rcases List.mem_cons.1 he with rfl | he
    · unfold stepR at hst
      by_cases hc : (tr s e.1 || tr s e.2) = true
      · rw [if_pos hc] at hst
        have h1 : tr ((s.set e.1 true).set e.2 true) e.1 = true := by rw [tr_set (by simpa using hf.2), tr_set hf.1]; simp
        have h2 : tr ((s.set e.1 true).set e.2 true) e.2 = true := by rw [tr_set (by simpa using hf.2)]; simp
        rw [hst] at h1 h2
        rw [h1, h2]
      · simp at hc
        rw [hc.1, hc.2]
    · exact ih (fun g hg => h g (by simp [hg])) hps e he
theorem iter_fix {es : List (Nat × Nat)} {s : List Bool} (h : passR es s = s) : ∀ m, iterR es m s = s
  | 0 => rfl
  | m + 1 => by
    show iterR es m (passR es s) = s
    rw [h]; exact iter_fix h m
theorem iter_grows {es : List (Nat × Nat)} : ∀ (m : Nat) {s : List Bool}, In s.length es → LeB s (iterR es m s) ∧ (passR es (iterR es m s) = iterR es m s ∨ s.count true + m ≤ (iterR es m s).count true) := by
  intro m
  induction m with
  | zero => intro s _; exact ⟨LeB.refl _, .inr (Nat.le_refl _)⟩
  | succ m ih =>
    intro s h
    have hp := leB_pass h
    obtain ⟨h1, h2⟩ := ih (s := passR es s) (by rw [← hp.1]; exact h)
    refine ⟨hp.trans h1, ?_⟩
    rcases h2 with h2 | h2
    · exact .inl h2
    · by_cases hf : passR es s = s
      · left
        show passR es (iterR es m (passR es s)) = iterR es m (passR es s)
        rw [hf, iter_fix hf, hf]
      · right
        have hc := leB_count hp
        have : s.count true ≠ (passR es s).count true := fun z => hf (hc.2 z).symm
        show s.count true + (m + 1) ≤ (iterR es m (passR es s)).count true
        omega
/-- What is seen stays in one island. -/
theorem iter_sound {es fs : List (Nat × Nat)} {b : Nat} (hfs : ∀ e, e ∈ es → lab fs e.1 = lab fs e.2) : ∀ (m : Nat) {s : List Bool}, In s.length es → (∀ k, tr s k = true → lab fs k = lab fs b) → ∀ k, tr (iterR es m s) k = true → lab fs k = lab fs b := by
  have hstep : ∀ (s : List Bool) (e : Nat × Nat), e ∈ es → e.1 < s.length → e.2 < s.length → (∀ k, tr s k = true → lab fs k = lab fs b) → ∀ k, tr (stepR s e) k = true → lab fs k = lab fs b := by
    intro s e he h1 h2 hs k hk
    unfold stepR at hk
    split at hk
    · rename_i hc
      rw [tr_set (by simpa using h2), tr_set h1] at hk
      have hee := hfs e he
      have : lab fs e.1 = lab fs b := by
        rcases Bool.or_eq_true_iff.1 hc with hc | hc
        · exact hs _ hc
        · rw [hee]; exact hs _ hc
      split at hk
      · rename_i hk2; rw [hk2, ← hee]; exact this
      · split at hk
        · rename_i hk2; rw [hk2]; exact this
        · exact hs k hk
    · exact hs k hk
  have hpass : ∀ (l : List (Nat × Nat)) (s : List Bool), (∀ e, e ∈ l → e ∈ es) → In s.length l → (∀ k, tr s k = true → lab fs k = lab fs b) → ∀ k, tr (passR l s) k = true → lab fs k = lab fs b := by
    intro l
    induction l with
    | nil => intro s _ _ hs; exact hs
    | cons e l ih =>
      intro s hl hin hs
      have he := hin e (by simp)
      exact ih (stepR s e) (fun f hf => hl f (by simp [hf])) (fun f hf => by rw [← (leB_step he.1 he.2).1]; exact hin f (by simp [hf])) (hstep s e (hl e (by simp)) he.1 he.2 hs)
  intro m
  induction m with
  | zero => intro s _ hs; exact hs
  | succ m ih =>
    intro s hin hs
    exact ih (s := passR es s) (by rw [← (leB_pass hin).1]; exact hin) (hpass es s (fun _ h => h) hin hs)
/-- THE SEARCH: after as many passes as there are buses, what is seen is the island. -/
theorem reach_iter {es : List (Nat × Nat)} {n b : Nat} (hin : In n es) (hb : b < n) (k : Nat) :
    tr (iterR es n ((List.replicate n false).set b true)) k = decide (lab es k = lab es b) := by
  have hlen : ((List.replicate n false).set b true).length = n := by simp
  have h0 : ∀ j, tr ((List.replicate n false).set b true) j = true → j = b := by
    intro j hj
    rw [tr_set (by simpa using hb)] at hj
    split at hj
    · assumption
    · simp [tr, List.getD_eq_getElem?_getD, List.getElem?_replicate] at hj
      split at hj <;> simp at hj
  have hc1 : 1 ≤ ((List.replicate n false).set b true).count true := by
    apply List.count_pos_iff.2
    exact List.mem_iff_getElem?.2 ⟨b, by rw [List.getElem?_set]; simp [hb]⟩
  obtain ⟨hle, hfix⟩ := iter_grows (es := es) n (s := (List.replicate n false).set b true) (by rw [hlen]; exact hin)
  have hfix' : passR es (iterR es n ((List.replicate n false).set b true)) = iterR es n ((List.replicate n false).set b true) := by
    rcases hfix with h | h
    · exact h
    · have : (iterR es n ((List.replicate n false).set b true)).count true ≤ (iterR es n ((List.replicate n false).set b true)).length := List.count_le_length
      rw [← hle.1, hlen] at this
      omega
  have hlen2 : (iterR es n ((List.replicate n false).set b true)).length = n := by rw [← hle.1, hlen]
  rw [Bool.eq_iff_iff, decide_eq_true_iff]
  constructor
  · exact iter_sound (fun e he => lab_end he) n (by rw [hlen]; exact hin) (fun j hj => by rw [h0 j hj]) k
  · intro h
    have hcl := pass_closed (by rw [hlen2]; exact hin) hfix'
    have hb' : tr (iterR es n ((List.replicate n false).set b true)) b = true := hle.2 b (by rw [tr_set (by simpa using hb)]; simp)
    exact (lab_closed (S := fun z => tr (iterR es n ((List.replicate n false).set b true)) z = true) (fun e he => by simp only [hcl e he]) h).2 hb'
end Go.Proofs.YtlahlfjhfmldaaaM
namespace Go.Proofs.YtlahlfjhfmldaaaM

def onE (L : List (Nat × Nat)) (on : List Bool) : List (Nat × Nat) := ((L.zip on).filter (·.2)).map (·.1)
theorem onE_nil (on : List Bool) : onE [] on = [] := by simp [onE]
theorem onE_nil' (L : List (Nat × Nat)) : onE L [] = [] := by simp [onE]
theorem onE_cons (e : Nat × Nat) (L : List (Nat × Nat)) (b : Bool) (on : List Bool) : onE (e :: L) (b :: on) = (if b then [e] else []) ++ onE L on := by
  cases b <;> simp [onE]
theorem onE_mem {L : List (Nat × Nat)} {on : List Bool} {e : Nat × Nat} : e ∈ onE L on ↔ ∃ k : Nat, L[k]? = some e ∧ on[k]? = some true := by
  induction L generalizing on with
  | nil => simp [onE_nil]
  | cons f L ih =>
    cases on with
    | nil => simp [onE_nil']
    | cons b on =>
      rw [onE_cons, List.mem_append, ih]
      constructor
      · rintro (h | ⟨k, h1, h2⟩)
        · cases b
          · simp at h
          · simp at h; exact ⟨0, by simp [h], by simp⟩
        · exact ⟨k + 1, by simpa using h1, by simpa using h2⟩
      · rintro ⟨k, h1, h2⟩
        cases k with
        | zero => left; simp at h1 h2; simp [h1, h2]
        | succ k => right; exact ⟨k, by simpa using h1, by simpa using h2⟩
theorem onE_set {L : List (Nat × Nat)} : ∀ {on : List Bool} {k : Nat} {e : Nat × Nat}, L[k]? = some e → k < on.length → ∀ b, onE L (on.set k b) = onE (L.take k) (on.take k) ++ ((if b then [e] else []) ++ onE (L.drop (k + 1)) (on.drop (k + 1))) := by
  induction L with
  | nil => intro on k e h; simp at h
  | cons f L ih =>
    intro on k e h hk b
    cases on with
    | nil => simp at hk
    | cons c on =>
      cases k with
      | zero => simp at h; subst h; simp [onE_cons, onE_nil]
      | succ k =>
        simp only [List.set_cons_succ, onE_cons, List.take_succ_cons, List.drop_succ_cons, List.append_assoc]
        rw [ih (by simpa using h) (by simpa using hk) b]
theorem onE_at {L : List (Nat × Nat)} {on : List Bool} {k : Nat} {e : Nat × Nat} (h : L[k]? = some e) {b : Bool} (hk : on[k]? = some b) : onE L on = onE (L.take k) (on.take k) ++ ((if b then [e] else []) ++ onE (L.drop (k + 1)) (on.drop (k + 1))) := by
  have hl : k < on.length := (List.getElem?_eq_some_iff.1 hk).1
  have := onE_set h hl b
  rwa [show on.set k b = on from by
    apply List.ext_getElem?
    intro i
    rw [List.getElem?_set]
    by_cases hi : k = i
    · subst hi; rw [hk]; simp [hl]
    · simp [hi]] at this
theorem onE_take {L : List (Nat × Nat)} {on : List Bool} {k : Nat} {e : Nat × Nat} (h : L[k]? = some e) {b : Bool} (hk : on[k]? = some b) : onE (L.take (k + 1)) (on.take (k + 1)) = onE (L.take k) (on.take k) ++ (if b then [e] else []) := by
  have h1 : (L.take (k + 1))[k]? = some e := by simp [h]
  have h2 : (on.take (k + 1))[k]? = some b := by simp [hk]
  rw [onE_at h1 h2]
  simp [List.take_take, onE_nil]
theorem onE_in {n : Nat} {L : List (Nat × Nat)} (hL : In n L) (on : List Bool) : In n (onE L on) := by
  intro e he
  obtain ⟨k, h, _⟩ := onE_mem.1 he
  exact hL e (List.mem_iff_getElem?.2 ⟨k, h⟩)

/-- A line that is on joins two buses. -/
def Adj (L : List (Nat × Nat)) (on : List Bool) (k v w : Nat) : Prop := on[k]? = some true ∧ (L[k]? = some (v, w) ∨ L[k]? = some (w, v))
theorem Adj.symm {L : List (Nat × Nat)} {on : List Bool} {k v w : Nat} (h : Adj L on k v w) : Adj L on k w v := ⟨h.1, h.2.symm⟩
theorem Adj.ends {L : List (Nat × Nat)} {on : List Bool} {k v w a b : Nat} (h : Adj L on k v w) (g : Adj L on k a b) : (a = v ∧ b = w) ∨ (a = w ∧ b = v) := by
  obtain ⟨_, h⟩ := h
  obtain ⟨_, g⟩ := g
  rcases h with h | h <;> rcases g with g | g <;> rw [h] at g <;> simp at g <;> simp [g]
end Go.Proofs.YtlahlfjhfmldaaaM
namespace Go.Proofs.Ytlahlfjhfmldaaa.P
open Go.RowKit Go.Proofs.YtlahlfjhfmldaaaW.PrintWords Go.Proofs.YtlahlfjhfmldaaaW.PrintLast Go.Proofs.YtlahlfjhfmldaaaW.PrintMore
theorem Ev.pos {α : Type} {c : Prop} [Decidable c] {a b : Nat → Option α} {r : α} (hc : c) (h : Ev a r) : Ev (fun k => if c then a k else b k) r := by
  obtain ⟨K, h⟩ := h
  exact ⟨K, fun k hk => (if_pos hc).trans (h k hk)⟩
theorem Ev.neg {α : Type} {c : Prop} [Decidable c] {a b : Nat → Option α} {r : α} (hc : ¬ c) (h : Ev b r) : Ev (fun k => if c then a k else b k) r := by
  obtain ⟨K, h⟩ := h
  exact ⟨K, fun k hk => (if_neg hc).trans (h k hk)⟩
theorem Ev.some {α : Type} {r q : α} (h : r = q) : Ev (fun _ => Option.some r) q := ⟨0, fun _ _ => by rw [h]⟩
theorem Ev.then {α β : Type} {g : Nat → Option α} {f : Nat → α → Option β} {a : α} {r : β} (h : Ev g a) (k : Ev (fun n => f n a) r) : Ev (fun n => (g n).bind fun x => f n x) r := Ev.bind h k
theorem Ev.thenC {α β : Type} {g : Option α} {f : Nat → α → Option β} {a : α} {r : β} (h : g = Option.some a) (k : Ev (fun n => f n a) r) : Ev (fun n => g.bind fun x => f n x) r := by
  subst h
  exact k
theorem Ev.eq {α : Type} {g : Nat → Option α} {r q : α} (h : Ev g r) (e : r = q) : Ev g q := e ▸ h
theorem w1 (i : Nat) (h : i < 4611686018427387904) : wrap64 ((i : Int) + 1) = ((i + 1 : Nat) : Int) := by unfold wrap64; omega
theorem wp (x : Int) (h0 : -9223372036854775808 ≤ x) (h1 : x < 9223372036854775808) : wrap64 x = x := by unfold wrap64; omega
theorem rd_nat (xs : List Int) (i : Nat) : rd xs (i : Int) = xs.getD i 0 := rfl
theorem rdOf_nat {α : Type} (d : α) (xs : List α) (i : Nat) : rdOf d xs (i : Int) = xs.getD i d := rfl
theorem getD_at {α : Type} {xs : List α} {i : Nat} (h : i < xs.length) (d : α) : xs.getD i d = xs[i] := by simp [List.getD_eq_getElem?_getD, h]
theorem fill_step {α β : Type} (f : β → α) (l : List β) (z : α) (d : β) (i : Nat) (h : i < l.length) : ((l.take i).map f ++ List.replicate (l.length - i) z).set i (f (l.getD i d)) = (l.take (i + 1)).map f ++ List.replicate (l.length - (i + 1)) z := by
  rw [List.take_succ_eq_append_getElem h, getD_at h, List.map_append, List.set_append_right _ _ (by simp; omega)]
  simp only [List.length_map, List.length_take, Nat.min_eq_left (Nat.le_of_lt h), Nat.sub_self, List.append_assoc]
  rw [show l.length - i = (l.length - (i + 1)) + 1 by omega, List.replicate_succ]
  simp
theorem Ev.ite {α : Type} {c : Prop} [Decidable c] {a b : Nat → Option α} {r : α} (h1 : c → Ev a r) (h2 : ¬ c → Ev b r) : Ev (fun k => if c then a k else b k) r := by
  by_cases hc : c
  · exact Ev.pos hc (h1 hc)
  · exact Ev.neg hc (h2 hc)
theorem drop_at {α : Type} {xs : List α} {i : Nat} (h : i < xs.length) (d : α) : xs.drop i = xs.getD i d :: xs.drop (i + 1) := by
  rw [getD_at h]; exact List.drop_eq_getElem_cons h
/-- The numbers from i on, of d numbers, that have a property. -/
def pickK (p : Nat → Bool) (i d : Nat) : List Int := ((List.range' i d).filter p).map fun k : Nat => (k : Int)
theorem pickK_zero (p : Nat → Bool) (i : Nat) : pickK p i 0 = [] := rfl
theorem pickK_yes {p : Nat → Bool} {i d : Nat} (h : p i = true) : pickK p i (d + 1) = (i : Int) :: pickK p (i + 1) d := by
  simp [pickK, List.range'_succ, h]
theorem pickK_no {p : Nat → Bool} {i d : Nat} (h : p i = false) : pickK p i (d + 1) = pickK p (i + 1) d := by
  simp [pickK, List.range'_succ, h]
theorem pickK_length (p : Nat → Bool) (i d : Nat) : (pickK p i d).length ≤ d := by
  unfold pickK
  rw [List.length_map]
  exact Nat.le_trans (List.length_filter_le _ _) (by simp)
end Go.Proofs.Ytlahlfjhfmldaaa.P
namespace Go.Proofs.Ytlahlfjhfmldaaa.P
open Go.RowKit Go.Proofs.YtlahlfjhfmldaaaW.PrintWords Go.Proofs.YtlahlfjhfmldaaaW.PrintLast Go.Proofs.YtlahlfjhfmldaaaW.PrintMore

theorem toBoolS_l0 (l : List Bool) (hl : l.length ≤ 1048576) : ∀ d i, i + d = l.length → Ev (fun k => laws_toBoolS.l0 k l ((l.take i).map (fun x => x) ++ List.replicate (l.length - i) false) i) l := by
  intro d
  induction d with
  | zero =>
    intro i hi
    refine Ev.step (fun k => by rw [laws_toBoolS.l0]) ?_
    refine Ev.neg (by omega) (Ev.some ?_)
    rw [show i = l.length by omega]; simp
  | succ d ih =>
    intro i hi
    refine Ev.step (fun k => by rw [laws_toBoolS.l0]) ?_
    refine Ev.pos (by omega) (Ev.pos (by omega) (Ev.pos (by simp; omega) ?_))
    rw [w1 i (by omega), rdOf_nat, Int.toNat_natCast, fill_step (fun x => x) l false false i (by omega)]
    exact ih (i + 1) (by omega)
theorem toBoolS_ev (l : List Bool) (hl : l.length ≤ 1048576) : Ev (fun k => laws_toBoolS.f k l) l := by
  refine Ev.pos (by omega) (Ev.pos (by omega) ?_)
  exact toBoolS_l0 l hl l.length 0 (by omega)
def toL (x : S79) : S77 := ⟨x.f0, x.f1, x.f2⟩
theorem toLineS_l0 (l : List S79) (hl : l.length ≤ 1048576) : ∀ d i, i + d = l.length → Ev (fun k => laws_toLineS.l0 k l ((l.take i).map toL ++ List.replicate (l.length - i) z77) i) (l.map toL) := by
  intro d
  induction d with
  | zero =>
    intro i hi
    refine Ev.step (fun k => by rw [laws_toLineS.l0]) ?_
    refine Ev.neg (by omega) (Ev.some ?_)
    rw [show i = l.length by omega]; simp
  | succ d ih =>
    intro i hi
    refine Ev.step (fun k => by rw [laws_toLineS.l0]) ?_
    refine Ev.pos (by omega) (Ev.pos (by omega) (Ev.thenC rfl (Ev.pos (by simp; omega) ?_)))
    rw [w1 i (by omega)]
    show Ev (fun k => laws_toLineS.l0 k l (((l.take i).map toL ++ List.replicate (l.length - i) z77).set i (toL (l.getD i z79))) _) _
    rw [fill_step toL l z77 z79 i (by omega)]
    exact ih (i + 1) (by omega)
theorem toLineS_ev (l : List S79) (hl : l.length ≤ 1048576) : Ev (fun k => laws_toLineS.f k l) (l.map toL) := by
  refine Ev.pos (by omega) (Ev.pos (by omega) ?_)
  exact toLineS_l0 l hl l.length 0 (by omega)
theorem toNet_ev (b : Int) (l : List S79) (hl : l.length ≤ 1048576) : Ev (fun k => laws_toNet.f k b l) (b, l.map toL) :=
  Ev.then (toLineS_ev l hl) (Ev.now _)
def toB (x : S55) : S53 := ⟨x.f0, x.f1⟩
theorem toBusS_l0 (l : List S55) (hl : l.length ≤ 1048576) : ∀ d i, i + d = l.length → Ev (fun k => laws_toBusS.l0 k l ((l.take i).map toB ++ List.replicate (l.length - i) z53) i) (l.map toB) := by
  intro d
  induction d with
  | zero =>
    intro i hi
    refine Ev.step (fun k => by rw [laws_toBusS.l0]) ?_
    refine Ev.neg (by omega) (Ev.some ?_)
    rw [show i = l.length by omega]; simp
  | succ d ih =>
    intro i hi
    refine Ev.step (fun k => by rw [laws_toBusS.l0]) ?_
    refine Ev.pos (by omega) (Ev.pos (by omega) (Ev.thenC rfl (Ev.pos (by simp; omega) ?_)))
    rw [w1 i (by omega)]
    show Ev (fun k => laws_toBusS.l0 k l (((l.take i).map toB ++ List.replicate (l.length - i) z53).set i (toB (l.getD i z55))) _) _
    rw [fill_step toB l z53 z55 i (by omega)]
    exact ih (i + 1) (by omega)
theorem toBusS_ev (l : List S55) (hl : l.length ≤ 1048576) : Ev (fun k => laws_toBusS.f k l) (l.map toB) := by
  refine Ev.pos (by omega) (Ev.pos (by omega) ?_)
  exact toBusS_l0 l hl l.length 0 (by omega)

theorem eqBoolS_l0 (l : List Bool) (hl : l.length < 4611686018427387904) : ∀ d i, i + d = l.length → Ev (fun k => laws_eqBoolS.l0 k l l i) true := by
  intro d
  induction d with
  | zero => intro i hi; exact Ev.step (fun k => by rw [laws_eqBoolS.l0]) (Ev.neg (by omega) (Ev.some rfl))
  | succ d ih =>
    intro i hi
    refine Ev.step (fun k => by rw [laws_eqBoolS.l0]) ?_
    refine Ev.pos (by omega) (Ev.pos (by omega) (Ev.pos (by omega) (Ev.neg (by simp) ?_)))
    rw [w1 i (by omega)]; exact ih (i + 1) (by omega)
theorem eqBoolS_ev (l : List Bool) (hl : l.length < 4611686018427387904) : Ev (fun k => laws_eqBoolS.f k l l) true := Ev.pos rfl (eqBoolS_l0 l hl l.length 0 (by omega))
theorem eqIntS_l0 (l : List Int) (hl : l.length < 4611686018427387904) : ∀ d i, i + d = l.length → Ev (fun k => laws_eqIntS.l0 k l l i) true := by
  intro d
  induction d with
  | zero => intro i hi; exact Ev.step (fun k => by rw [laws_eqIntS.l0]) (Ev.neg (by omega) (Ev.some rfl))
  | succ d ih =>
    intro i hi
    refine Ev.step (fun k => by rw [laws_eqIntS.l0]) ?_
    refine Ev.pos (by omega) (Ev.pos (by omega) (Ev.pos (by omega) (Ev.pos rfl ?_)))
    rw [w1 i (by omega)]; exact ih (i + 1) (by omega)
theorem eqIntS_ev (l : List Int) (hl : l.length < 4611686018427387904) : Ev (fun k => laws_eqIntS.f k l l) true := Ev.pos rfl (eqIntS_l0 l hl l.length 0 (by omega))
theorem eqLineS_l0 (l : List S77) (hl : l.length < 4611686018427387904) : ∀ d i, i + d = l.length → Ev (fun k => laws_eqLineS.l0 k l l i) true := by
  intro d
  induction d with
  | zero => intro i hi; exact Ev.step (fun k => by rw [laws_eqLineS.l0]) (Ev.neg (by omega) (Ev.some rfl))
  | succ d ih =>
    intro i hi
    refine Ev.step (fun k => by rw [laws_eqLineS.l0]) ?_
    refine Ev.pos (by omega) (Ev.pos (by omega) (Ev.pos (by omega) (Ev.thenC (a := true) (by simp [laws_eqLine.f]) (Ev.pos rfl ?_))))
    rw [w1 i (by omega)]; exact ih (i + 1) (by omega)
theorem eqNet_ev (b : Int) (l : List S77) (hl : l.length < 4611686018427387904) : Ev (fun k => laws_eqNet.f k b l b l) true :=
  Ev.pos rfl (Ev.then (a := true) (Ev.pos rfl (eqLineS_l0 l hl l.length 0 (by omega))) (Ev.pos rfl (Ev.some rfl)))
theorem eqBusS_l0 (l : List S53) (hl : l.length < 4611686018427387904) : ∀ d i, i + d = l.length → Ev (fun k => laws_eqBusS.l0 k l l i) true := by
  intro d
  induction d with
  | zero => intro i hi; exact Ev.step (fun k => by rw [laws_eqBusS.l0]) (Ev.neg (by omega) (Ev.some rfl))
  | succ d ih =>
    intro i hi
    refine Ev.step (fun k => by rw [laws_eqBusS.l0]) ?_
    refine Ev.pos (by omega) (Ev.pos (by omega) (Ev.pos (by omega) (Ev.thenC (a := true) (by simp [laws_eqBus.f]) (Ev.pos rfl ?_))))
    rw [w1 i (by omega)]; exact ih (i + 1) (by omega)
theorem eqBusS_ev (l : List S53) (hl : l.length < 4611686018427387904) : Ev (fun k => laws_eqBusS.f k l l) true := Ev.pos rfl (eqBusS_l0 l hl l.length 0 (by omega))
theorem szNet_ev (b : Int) (l : List S79) (m : Int) (hl : l.length ≤ 9223372036854775807) (hm0 : 0 ≤ m) (hm : m ≤ 1048576) : laws_szNet.f b l m = some (if m - l.length < 0 then -1 else m - l.length) := by
  unfold laws_szNet.f laws_szLineS.f
  rw [wp _ (by omega) (by omega)]
  by_cases h : m - (l.length : Int) < 0
  · simp [h]
  · simp [h]
theorem szBusS_ev (l : List S55) (m : Int) (hl : l.length ≤ 9223372036854775807) (hm0 : 0 ≤ m) (hm : m ≤ 1048576) : laws_szBusS.f l m = some (if m - l.length < 0 then -1 else m - l.length) := by
  unfold laws_szBusS.f
  rw [wp _ (by omega) (by omega)]
  by_cases h : m - (l.length : Int) < 0
  · simp [h]
  · simp [h]
end Go.Proofs.Ytlahlfjhfmldaaa.P
namespace Go.Proofs.Ytlahlfjhfmldaaa.P
open Go.RowKit Go.Proofs.YtlahlfjhfmldaaaW.PrintWords Go.Proofs.YtlahlfjhfmldaaaW.PrintLast Go.Proofs.YtlahlfjhfmldaaaW.PrintMore

theorem l1In_eq (a b c : Int) : spec_l1In.f a b c = some (decide (b ≤ a ∧ a ≤ c)) := by
  unfold spec_l1In.f
  by_cases h : a ≥ b
  · rw [if_pos h]; simp [show b ≤ a from h]
  · rw [if_neg h]; simp [show ¬ b ≤ a from h]
def lineOk (b : Int) (x : S77) : Bool := decide (0 ≤ x.f0 ∧ x.f0 < b ∧ 0 ≤ x.f1 ∧ x.f1 < b ∧ x.f0 ≠ x.f1 ∧ 1 ≤ x.f2 ∧ x.f2 ≤ 999)
def netOk (b : Int) (ls : List S77) : Bool := decide (1 ≤ b ∧ b ≤ 8 ∧ ls.length ≤ 10) && ls.all (lineOk b)
theorem specNet_l0 (b : Int) (ls : List S77) (hb : 1 ≤ b ∧ b ≤ 8) (hl : ls.length ≤ 10) : ∀ d i, i + d = ls.length → Ev (fun k => spec_NetValid.l0 k i b ls) ((ls.drop i).all (lineOk b)) := by
  intro d
  induction d with
  | zero =>
    intro i hi
    refine Ev.step (fun k => by rw [spec_NetValid.l0]) ?_
    refine Ev.neg (by omega) (Ev.some ?_)
    rw [show i = ls.length by omega]; simp
  | succ d ih =>
    intro i hi
    rw [drop_at (show i < ls.length by omega) z77, List.all_cons]
    refine Ev.step (fun k => by rw [spec_NetValid.l0]) ?_
    refine Ev.pos (by omega) (Ev.pos (by omega) ?_)
    rw [show rd_T77 ls (i : Int) = ls.getD i z77 from rfl, w1 i (by omega), wp (b - 1) (by omega) (by omega)]
    generalize ls.getD i z77 = x
    by_cases hx : lineOk b x = true
    · rw [hx, Bool.true_and]
      have := ih (i + 1) (by omega)
      simp only [lineOk, decide_eq_true_eq] at hx
      exact Ev.thenC (l1In_eq _ _ _) (Ev.pos (by rw [decide_eq_true_eq]; omega) (Ev.thenC (l1In_eq _ _ _) (Ev.pos (by rw [decide_eq_true_eq]; omega) (Ev.neg (by omega) (Ev.thenC (l1In_eq _ _ _) (Ev.pos (by rw [decide_eq_true_eq]; omega) this))))))
    · rw [Bool.not_eq_true] at hx
      rw [hx, Bool.false_and]
      simp only [lineOk, decide_eq_false_iff_not] at hx
      refine Ev.thenC (l1In_eq _ _ _) (Ev.ite (fun h1 => Ev.thenC (l1In_eq _ _ _) (Ev.ite (fun h2 => Ev.ite (fun _ => Ev.some rfl) (fun h3 => Ev.thenC (l1In_eq _ _ _) (Ev.ite (fun h4 => ?_) fun _ => Ev.some rfl))) fun _ => Ev.some rfl)) fun _ => Ev.some rfl)
      rw [decide_eq_true_eq] at h1 h2 h4
      exact absurd (show _ ∧ _ from ⟨h1.1, by omega, h2.1, by omega, h3, h4.1, h4.2⟩) hx
theorem specNet_ev (b : Int) (ls : List S77) (hl : ls.length < 4611686018427387904) : Ev (fun k => spec_NetValid.f k b ls) (netOk b ls) := by
  unfold netOk
  refine Ev.thenC (l1In_eq _ _ _) (Ev.ite (fun h1 => ?_) (fun h1 => ?_))
  · rw [decide_eq_true_eq] at h1
    refine Ev.step (fun k => by rw [spec_NetValid.j0]) ?_
    refine Ev.ite (fun h2 => Ev.some ?_) (fun h2 => ?_)
    · rw [decide_eq_true_eq] at h2
      rw [decide_eq_false (by omega)]; rfl
    · rw [decide_eq_true_eq] at h2
      rw [decide_eq_true (by omega), Bool.true_and]
      exact specNet_l0 b ls h1 (by omega) ls.length 0 (by omega)
  · rw [decide_eq_true_eq] at h1
    rw [decide_eq_false (by omega)]
    refine Ev.step (fun k => by rw [spec_NetValid.j0]) ?_
    exact Ev.pos rfl (Ev.some rfl)
theorem hasBus_eq (b : Int) (ls : List S77) (x : Int) : impl_Net_hasBus.f b ls x = some (decide (0 ≤ x ∧ x < b)) := by
  unfold impl_Net_hasBus.f
  by_cases h : x ≥ 0
  · rw [if_pos h]; simp [show 0 ≤ x from h]
  · rw [if_neg h]; simp [show ¬ 0 ≤ x from h]
theorem implNet_l0 (b : Int) (ls : List S77) (hl : ls.length ≤ 10) : ∀ d i, i + d = ls.length → Ev (fun k => impl_NetValid.l0 k ls (ls.length : Int) i b ls) ((ls.drop i).all (lineOk b)) := by
  intro d
  induction d with
  | zero =>
    intro i hi
    refine Ev.step (fun k => by rw [impl_NetValid.l0]) ?_
    refine Ev.neg (by omega) (Ev.some ?_)
    rw [show i = ls.length by omega]; simp
  | succ d ih =>
    intro i hi
    rw [drop_at (show i < ls.length by omega) z77, List.all_cons]
    refine Ev.step (fun k => by rw [impl_NetValid.l0]) ?_
    refine Ev.pos (by omega) (Ev.pos (by omega) (Ev.pos (by omega) ?_))
    rw [show rd_T77 ls (i : Int) = ls.getD i z77 from rfl, w1 i (by omega)]
    generalize ls.getD i z77 = x
    by_cases hx : lineOk b x = true
    · rw [hx, Bool.true_and]
      have := ih (i + 1) (by omega)
      simp only [lineOk, decide_eq_true_eq] at hx
      exact Ev.thenC (hasBus_eq _ _ _) (Ev.pos (by rw [decide_eq_true_eq]; omega) (Ev.thenC (hasBus_eq _ _ _) (Ev.pos (by rw [decide_eq_true_eq]; omega) (Ev.neg (by omega) (Ev.neg (by omega) (Ev.neg (by omega) this))))))
    · rw [Bool.not_eq_true] at hx
      rw [hx, Bool.false_and]
      simp only [lineOk, decide_eq_false_iff_not] at hx
      refine Ev.thenC (hasBus_eq _ _ _) (Ev.ite (fun h1 => Ev.thenC (hasBus_eq _ _ _) (Ev.ite (fun h2 => Ev.ite (fun _ => Ev.some rfl) (fun h3 => Ev.ite (fun _ => Ev.some rfl) (fun h4 => Ev.ite (fun _ => Ev.some rfl) (fun h5 => ?_)))) fun _ => Ev.some rfl)) fun _ => Ev.some rfl)
      rw [decide_eq_true_eq] at h1 h2
      exact absurd (show _ ∧ _ from ⟨h1.1, h1.2, h2.1, h2.2, h3, by omega, by omega⟩) hx
theorem implNet_ev (b : Int) (ls : List S77) : Ev (fun k => impl_NetValid.f k b ls) (netOk b ls) := by
  unfold netOk
  refine Ev.ite (fun h1 => ?_) (fun h1 => Ev.ite (fun h2 => ?_) (fun h2 => ?_))
  · rw [decide_eq_false (by omega)]
    refine Ev.step (fun k => by rw [impl_NetValid.j0]) ?_
    exact Ev.pos rfl (Ev.some rfl)
  · rw [decide_eq_false (by omega)]
    refine Ev.step (fun k => by rw [impl_NetValid.j0]) ?_
    exact Ev.pos rfl (Ev.some rfl)
  · refine Ev.step (fun k => by rw [impl_NetValid.j0]) ?_
    refine Ev.ite (fun h3 => Ev.some ?_) (fun h3 => ?_)
    · rw [decide_eq_true_eq] at h3
      rw [decide_eq_false (by omega)]; rfl
    · rw [decide_eq_true_eq] at h3
      rw [decide_eq_true (by omega), Bool.true_and]
      exact implNet_l0 b ls (by omega) ls.length 0 (by omega)
/-- A state fits a network. -/
def stOk (b : Int) (ls : List S77) (on : List Bool) : Bool := netOk b ls && ((on.length : Int) == (ls.length : Int))
theorem specSt_ev (b : Int) (ls : List S77) (on : List Bool) (hl : ls.length < 4611686018427387904) : Ev (fun k => spec_StateValid.f k b ls on) (stOk b ls on) := by
  unfold stOk
  refine Ev.then (specNet_ev b ls hl) ?_
  cases netOk b ls
  · exact Ev.neg (by simp) (Ev.some rfl)
  · exact Ev.pos rfl (Ev.some rfl)
theorem implSt_ev (b : Int) (ls : List S77) (on : List Bool) : Ev (fun k => impl_StateValid.f k b ls on) (stOk b ls on) := by
  unfold stOk
  refine Ev.then (implNet_ev b ls) ?_
  cases netOk b ls
  · exact Ev.neg (by simp) (Ev.some rfl)
  · exact Ev.pos rfl (Ev.some rfl)

theorem netOk_len {b : Int} {ls : List S77} (h : netOk b ls = true) : ls.length ≤ 10 ∧ 1 ≤ b ∧ b ≤ 8 := by
  simp only [netOk, Bool.and_eq_true, decide_eq_true_eq] at h
  exact ⟨h.1.2.2, h.1.1, h.1.2.1⟩
theorem netOk_line {b : Int} {ls : List S77} (h : netOk b ls = true) {k : Nat} (hk : k < ls.length) : 0 ≤ (ls.getD k z77).f0 ∧ (ls.getD k z77).f0 < b ∧ 0 ≤ (ls.getD k z77).f1 ∧ (ls.getD k z77).f1 < b ∧ (ls.getD k z77).f0 ≠ (ls.getD k z77).f1 ∧ 1 ≤ (ls.getD k z77).f2 ∧ (ls.getD k z77).f2 ≤ 999 := by
  simp only [netOk, Bool.and_eq_true, List.all_eq_true] at h
  have := h.2 (ls.getD k z77) (by rw [getD_at hk]; exact List.getElem_mem hk)
  simpa only [lineOk, decide_eq_true_eq] using this
def busOk (x : S53) : Bool := decide (0 ≤ x.f0 ∧ x.f0 ≤ 999 ∧ 0 ≤ x.f1 ∧ x.f1 ≤ 999)
def busesOk (b : Int) (ls : List S77) (bs : List S53) : Bool := netOk b ls && ((bs.length : Int) == b) && bs.all busOk
theorem power_eq (x : Int) : impl_powerValid.f x = some (decide (0 ≤ x ∧ x ≤ 999)) := by
  unfold impl_powerValid.f
  by_cases h : x ≥ 0
  · rw [if_pos h]; simp [show 0 ≤ x from h]
  · rw [if_neg h]; simp [show ¬ 0 ≤ x from h]
theorem implBuses_l0 (bs : List S53) (hl : bs.length ≤ 8) : ∀ d i, i + d = bs.length → Ev (fun k => impl_BusesValid.l0 k bs (bs.length : Int) i) ((bs.drop i).all busOk) := by
  intro d
  induction d with
  | zero =>
    intro i hi
    refine Ev.step (fun k => by rw [impl_BusesValid.l0]) ?_
    refine Ev.neg (by omega) (Ev.some ?_)
    rw [show i = bs.length by omega]; simp
  | succ d ih =>
    intro i hi
    rw [drop_at (show i < bs.length by omega) z53, List.all_cons]
    refine Ev.step (fun k => by rw [impl_BusesValid.l0]) ?_
    refine Ev.pos (by omega) (Ev.pos (by omega) (Ev.pos (by omega) ?_))
    rw [show rd_T53 bs (i : Int) = bs.getD i z53 from rfl, w1 i (by omega)]
    generalize bs.getD i z53 = x
    by_cases hx : busOk x = true
    · rw [hx, Bool.true_and]
      have := ih (i + 1) (by omega)
      simp only [busOk, decide_eq_true_eq] at hx
      exact Ev.thenC (power_eq _) (Ev.pos (by rw [decide_eq_true_eq]; omega) (Ev.thenC (power_eq _) (Ev.pos (by rw [decide_eq_true_eq]; omega) this)))
    · rw [Bool.not_eq_true] at hx
      rw [hx, Bool.false_and]
      simp only [busOk, decide_eq_false_iff_not] at hx
      refine Ev.thenC (power_eq _) (Ev.ite (fun h1 => Ev.thenC (power_eq _) (Ev.ite (fun h2 => ?_) fun _ => Ev.some rfl)) fun _ => Ev.some rfl)
      rw [decide_eq_true_eq] at h1 h2
      exact absurd (show _ ∧ _ from ⟨h1.1, h1.2, h2.1, h2.2⟩) hx
theorem implBuses_ev (b : Int) (ls : List S77) (bs : List S53) : Ev (fun k => impl_BusesValid.f k b ls bs) (busesOk b ls bs) := by
  unfold busesOk
  refine Ev.then (implNet_ev b ls) (Ev.ite (fun hn => ?_) (fun hn => ?_))
  · rw [hn, Bool.true_and]
    refine Ev.step (fun k => by rw [impl_BusesValid.j0]) ?_
    refine Ev.ite (fun h => Ev.some ?_) (fun h => ?_)
    · rw [bne_iff_ne] at h
      rw [show ((bs.length : Int) == b) = false from beq_eq_false_iff_ne.2 h]; rfl
    · rw [bne_iff_ne, Decidable.not_not] at h
      rw [show ((bs.length : Int) == b) = true from beq_iff_eq.2 h, Bool.true_and]
      have := netOk_len hn
      exact implBuses_l0 bs (by omega) bs.length 0 (by omega)
  · rw [Bool.not_eq_true] at hn
    rw [hn]
    refine Ev.step (fun k => by rw [impl_BusesValid.j0]) ?_
    exact Ev.pos rfl (Ev.some rfl)
theorem specBuses_l0 (b : Int) (ls : List S77) (bs : List S53) (hls : ls.length < 4611686018427387904) (hl : bs.length < 4611686018427387904) : ∀ d i, i + d = bs.length → Ev (fun k => spec_BusesValid.l0 k bs i b ls) (netOk b ls && ((bs.length : Int) == b) && (bs.drop i).all busOk) := by
  intro d
  induction d with
  | zero =>
    intro i hi
    refine Ev.step (fun k => by rw [spec_BusesValid.l0]) ?_
    refine Ev.neg (by omega) (Ev.then (specNet_ev b ls hls) ?_)
    rw [show i = bs.length by omega, List.drop_length, List.all_nil, Bool.and_true]
    cases netOk b ls
    · exact Ev.neg (by simp) (Ev.some rfl)
    · exact Ev.pos rfl (Ev.some rfl)
  | succ d ih =>
    intro i hi
    rw [drop_at (show i < bs.length by omega) z53, List.all_cons]
    refine Ev.step (fun k => by rw [spec_BusesValid.l0]) ?_
    refine Ev.pos (by omega) (Ev.pos (by omega) ?_)
    rw [show rd_T53 bs (i : Int) = bs.getD i z53 from rfl, w1 i (by omega)]
    generalize bs.getD i z53 = x
    by_cases hx : busOk x = true
    · rw [hx, Bool.true_and]
      have := ih (i + 1) (by omega)
      simp only [busOk, decide_eq_true_eq] at hx
      exact Ev.thenC (l1In_eq _ _ _) (Ev.pos (by rw [decide_eq_true_eq]; omega) (Ev.thenC (l1In_eq _ _ _) (Ev.pos (by rw [decide_eq_true_eq]; omega) this)))
    · rw [Bool.not_eq_true] at hx
      rw [hx, Bool.false_and, Bool.and_false]
      simp only [busOk, decide_eq_false_iff_not] at hx
      refine Ev.thenC (l1In_eq _ _ _) (Ev.ite (fun h1 => Ev.thenC (l1In_eq _ _ _) (Ev.ite (fun h2 => ?_) fun _ => Ev.some rfl)) fun _ => Ev.some rfl)
      rw [decide_eq_true_eq] at h1 h2
      exact absurd (show _ ∧ _ from ⟨h1.1, h1.2, h2.1, h2.2⟩) hx
theorem specBuses_ev (b : Int) (ls : List S77) (bs : List S53) (hls : ls.length < 4611686018427387904) (hl : bs.length < 4611686018427387904) : Ev (fun k => spec_BusesValid.f k b ls bs) (busesOk b ls bs) :=
  specBuses_l0 b ls bs hls hl bs.length 0 (by omega)
end Go.Proofs.Ytlahlfjhfmldaaa.P
namespace Go.Proofs.Ytlahlfjhfmldaaa.P
open Go.RowKit Go.Proofs.YtlahlfjhfmldaaaW.PrintWords Go.Proofs.YtlahlfjhfmldaaaW.PrintLast Go.Proofs.YtlahlfjhfmldaaaW.PrintMore

def marksB (m : Nat) (n : Nat) : List Bool := (List.range n).map fun i => (Int.tmod ((m + i : Nat) : Int) 3 == 0)
theorem set_mid {α : Type} (f : Nat → α) (l : List α) (i : Nat) (h : i < l.length) : ((List.range i).map f ++ l.drop i).set i (f i) = (List.range (i + 1)).map f ++ l.drop (i + 1) := by
  have e := List.drop_eq_getElem_cons h
  rw [List.set_append_right _ _ (by simp), List.range_succ, e]
  simp only [List.length_map, List.length_range, Nat.sub_self, List.set_cons_zero, List.map_append, List.map_cons, List.map_nil, List.append_assoc, List.cons_append, List.nil_append]
theorem markB_l0 (m n : Nat) (l : List Bool) (hn : l.length = n) (hs : m + n < 4611686018427387904) : ∀ d i, i + d = n → Ev (fun k => laws_markBoolS.l0 k (marksB m i ++ l.drop i) ((m + i : Nat) : Int) i) (((m + n : Nat) : Int), marksB m n) := by
  intro d
  induction d with
  | zero =>
    intro i hi
    refine Ev.step (fun k => by rw [laws_markBoolS.l0]) ?_
    refine Ev.neg (by simp [marksB]; omega) (Ev.some ?_)
    rw [show i = n by omega, List.drop_of_length_le (by omega)]; simp
  | succ d ih =>
    intro i hi
    refine Ev.step (fun k => by rw [laws_markBoolS.l0]) ?_
    refine Ev.pos (by simp [marksB]; omega) (Ev.pos (by omega) ?_)
    rw [w1 i (by omega), w1 (m + i) (by omega), Int.toNat_natCast]
    have := ih (i + 1) (by omega)
    unfold marksB at this ⊢
    rw [set_mid (fun i => (Int.tmod ((m + i : Nat) : Int) 3 == 0)) l i (by omega)]
    exact this
theorem markB_ev (l : List Bool) (m : Nat) (hs : m + l.length < 4611686018427387904) : Ev (fun k => laws_markBoolS.f k l (m : Int)) (((m + l.length : Nat) : Int), marksB m l.length) := markB_l0 m l.length l rfl hs l.length 0 (by omega)
def marksI (m : Nat) (n : Nat) : List Int := (List.range n).map fun i => ((m + i : Nat) : Int)
theorem markI_l0 (m n : Nat) (l : List Int) (hn : l.length = n) (hs : m + n < 4611686018427387904) : ∀ d i, i + d = n → Ev (fun k => laws_markIntS.l0 k (marksI m i ++ l.drop i) ((m + i : Nat) : Int) i) (((m + n : Nat) : Int), marksI m n) := by
  intro d
  induction d with
  | zero =>
    intro i hi
    refine Ev.step (fun k => by rw [laws_markIntS.l0]) ?_
    refine Ev.neg (by simp [marksI]; omega) (Ev.some ?_)
    rw [show i = n by omega, List.drop_of_length_le (by omega)]; simp
  | succ d ih =>
    intro i hi
    refine Ev.step (fun k => by rw [laws_markIntS.l0]) ?_
    refine Ev.pos (by simp [marksI]; omega) (Ev.pos (by omega) ?_)
    rw [w1 i (by omega), w1 (m + i) (by omega), Int.toNat_natCast]
    have := ih (i + 1) (by omega)
    unfold marksI at this ⊢
    rw [set_mid (fun i => ((m + i : Nat) : Int)) l i (by omega)]
    exact this
theorem markI_ev (l : List Int) (m : Nat) (hs : m + l.length < 4611686018427387904) : Ev (fun k => laws_markIntS.f k l (m : Int)) (((m + l.length : Nat) : Int), marksI m l.length) := markI_l0 m l.length l rfl hs l.length 0 (by omega)
theorem heldI_l0 (m n : Nat) (hs : m + n < 4611686018427387904) : ∀ d i, i + d = n → Ev (fun k => laws_heldIntS.l0 k (marksI m n) ((m + i : Nat) : Int) i) (((m + n : Nat) : Int)) := by
  intro d
  induction d with
  | zero =>
    intro i hi
    refine Ev.step (fun k => by rw [laws_heldIntS.l0]) ?_
    refine Ev.neg (by simp [marksI]; omega) (Ev.some (by rw [show i = n by omega]))
  | succ d ih =>
    intro i hi
    refine Ev.step (fun k => by rw [laws_heldIntS.l0]) ?_
    refine Ev.pos (by simp [marksI]; omega) (Ev.pos (by omega) ?_)
    rw [w1 i (by omega), w1 (m + i) (by omega), rd_nat, show (marksI m n).getD i 0 = ((m + i : Nat) : Int) by
      unfold marksI
      rw [getD_at (by simp; omega)]; simp]
    exact Ev.pos rfl (ih (i + 1) (by omega))
theorem heldI_ev (m n : Nat) (hs : m + n < 4611686018427387904) : Ev (fun k => laws_heldIntS.f k (marksI m n) (m : Int)) (((m + n : Nat) : Int)) := heldI_l0 m n hs n 0 (by omega)
/-- Marks of an argument: only their number counts. -/
theorem markL_l0 (n : Nat) (hn : n < 4611686018427387904) : ∀ d i m (l : List S77), i + d = n → l.length = n → m + 3 * d < 4611686018427387904 → ∃ l', Ev (fun k => laws_markLineS.l0 k l ((m : Nat) : Int) ((i : Nat) : Int)) (((m + 3 * d : Nat) : Int), l') := by
  intro d
  induction d with
  | zero =>
    intro i m l hi hl _
    refine ⟨l, Ev.step (fun k => by rw [laws_markLineS.l0]) ?_⟩
    exact Ev.neg (by omega) (Ev.some rfl)
  | succ d ih =>
    intro i m l hi hl hm
    have h3 : m + 3 * (d + 1) = m + 1 + 1 + 1 + 3 * d := by omega
    obtain ⟨l', h⟩ := ih (i + 1) (m + 1 + 1 + 1) (((l.set i _).set i _).set i _) (by omega) (by simp [hl]) (by omega)
    refine ⟨l', Ev.step (fun k => by rw [laws_markLineS.l0]) ?_⟩
    refine Ev.pos (by omega) (Ev.pos (by omega) (Ev.thenC rfl (Ev.thenC rfl ?_)))
    rw [w1 i (by omega), w1 m (by omega), w1 (m + 1) (by omega), w1 (m + 1 + 1) (by omega), h3]
    exact h
theorem markNet_ev (b : Int) (l : List S77) (m : Nat) (hs : m + 3 * l.length < 4611686018427387904) : ∃ l', Ev (fun k => laws_markNet.f k b l (m : Int)) (((m + 3 * l.length : Nat) : Int), l') := by
  obtain ⟨l', h⟩ := markL_l0 l.length (by omega) l.length 0 m l (by omega) rfl hs
  exact ⟨l', Ev.then (a := (((m + 3 * l.length : Nat) : Int), l')) h (Ev.some rfl)⟩
end Go.Proofs.Ytlahlfjhfmldaaa.P
namespace Go.Proofs.Ytlahlfjhfmldaaa.P
open Go.RowKit Go.Proofs.YtlahlfjhfmldaaaW.PrintWords Go.Proofs.YtlahlfjhfmldaaaW.PrintLast Go.Proofs.YtlahlfjhfmldaaaW.PrintMore
open Go.Proofs.YtlahlfjhfmldaaaM

def ends (x : S77) : Nat × Nat := (x.f0.toNat, x.f1.toNat)
def EL (ls : List S77) : List (Nat × Nat) := ls.map ends
/-- The labels of a network in a state. -/
def islc (ls : List S77) (on : List Bool) : Nat → Nat := lab (onE (EL ls) on)
theorem EL_length (ls : List S77) : (EL ls).length = ls.length := by simp [EL]
theorem EL_at {ls : List S77} {k : Nat} (h : k < ls.length) : (EL ls)[k]? = some (ends (ls.getD k z77)) := by simp [EL, h, List.getD_eq_getElem?_getD]
theorem EL_in {b : Int} {ls : List S77} (h : netOk b ls = true) : In b.toNat (EL ls) := by
  intro e he
  simp only [EL, List.mem_map] at he
  obtain ⟨x, hx, rfl⟩ := he
  obtain ⟨k, hk, rfl⟩ := List.mem_iff_getElem.1 hx
  have := netOk_line h hk
  rw [getD_at hk] at this
  simp only [ends]
  omega

structure Rep (u : List Int) (c : Nat → Nat) (n : Nat) : Prop where
  len : u.length = n
  at_ : ∀ x, x < n → ∃ y : Nat, u.getD x 0 = (y : Int) ∧ y ≤ x ∧ c y = c x ∧ (y = x ↔ c x = x)
theorem getD_set {α : Type} (l : List α) (i j : Nat) (v d : α) (h : i < l.length) : (l.set i v).getD j d = if j = i then v else l.getD j d := by
  rw [List.getD_eq_getElem?_getD, List.getD_eq_getElem?_getD, List.getElem?_set]
  by_cases e : i = j
  · subst e; simp [h]
  · rw [if_neg e, if_neg fun z => e z.symm]
theorem Rep.halve {u : List Int} {c : Nat → Nat} {n x y z : Nat} (hr : Rep u c n) (hx : x < n) (hy : u.getD x 0 = (y : Int)) (hyx : y < x) (hzy : z ≤ y) (hcy : c y = c x) (hcz : c z = c y) (hcx : c x ≠ x) : Rep (u.set x (z : Int)) c n := by
  refine ⟨by rw [List.length_set]; exact hr.len, fun w hw => ?_⟩
  rw [getD_set _ _ _ _ _ (by rw [hr.len]; exact hx)]
  by_cases e : w = x
  · subst e
    rw [if_pos rfl]
    exact ⟨z, rfl, by omega, by rw [hcz, hcy], by constructor <;> (intro h; omega)⟩
  · rw [if_neg e]
    exact hr.at_ w hw
theorem find_l0 {c : Nat → Nat} {n : Nat} : ∀ m x, x < m → ∀ u : List Int, Rep u c n → x < n → ∃ u', Rep u' c n ∧ Ev (fun k => impl_union_find.l0 k u (x : Int)) (((c x : Nat) : Int), u') := by
  intro m
  induction m with
  | zero => intro x h; omega
  | succ m ih =>
    intro x hm u hr hx
    obtain ⟨y, hy, hyx, hcy, hroot⟩ := hr.at_ x hx
    have hlen := hr.len
    by_cases e : y = x
    · subst e
      refine ⟨u, hr, Ev.step (fun k => by rw [impl_union_find.l0]) ?_⟩
      refine Ev.pos (by omega) (Ev.pos (by omega) ?_)
      rw [rd_nat, hy]
      exact Ev.pos rfl (Ev.some (by rw [hroot.1 rfl]))
    · obtain ⟨z, hz, hzy, hcz, _⟩ := hr.at_ y (by omega)
      have hr' := hr.halve hx hy (by omega) hzy hcy hcz (fun h => e (hroot.2 h))
      obtain ⟨u', hu', hev⟩ := ih z (by omega) _ hr' (by omega)
      refine ⟨u', hu', Ev.step (fun k => by rw [impl_union_find.l0]) ?_⟩
      refine Ev.pos (by omega) (Ev.pos (by omega) ?_)
      rw [rd_nat, hy]
      refine Ev.neg (by omega) (Ev.pos (by omega) (Ev.pos (by omega) (Ev.thenC rfl ?_)))
      rw [rd_nat, hz, Int.toNat_natCast]
      show Ev (fun k => impl_union_find.l0 k (u.set x (z : Int)) (rd (u.set x (z : Int)) (x : Int))) _
      rw [rd_nat, getD_set _ _ _ _ _ (by omega), if_pos rfl]
      rw [hcz, hcy] at hev
      exact hev
theorem find_ev {c : Nat → Nat} {n x : Nat} {u : List Int} (hr : Rep u c n) (hx : x < n) : ∃ u', Rep u' c n ∧ Ev (fun k => impl_union_find.f k u (x : Int)) (((c x : Nat) : Int), u') :=
  find_l0 _ x (Nat.lt_succ_self _) u hr hx
theorem mx_nat (a b : Nat) : mx (a : Int) (b : Int) = ((max a b : Nat) : Int) := by unfold mx; split <;> omega
theorem mn_nat (a b : Nat) : mn (a : Int) (b : Int) = ((min a b : Nat) : Int) := by unfold mn; split <;> omega
theorem Rep.join {u : List Int} {c : Nat → Nat} {n a b : Nat} (hc : GoodL c) (hr : Rep u c n) (ha : a < n) (hb : b < n) : Rep (u.set (max (c a) (c b)) ((min (c a) (c b) : Nat) : Int)) (joinL c a b) n := by
  have la := hc.le a
  have lb := hc.le b
  have ia := hc.idem a
  have ib := hc.idem b
  have hg := good_join hc a b
  refine ⟨by rw [List.length_set]; exact hr.len, fun w hw => ?_⟩
  rw [getD_set _ _ _ _ _ (by rw [hr.len]; omega)]
  by_cases e : w = max (c a) (c b)
  · rw [if_pos e]
    have hcw : c w = w := by
      rw [e]
      rcases Nat.le_total (c a) (c b) with g | g
      · rw [Nat.max_eq_right g]; exact ib
      · rw [Nat.max_eq_left g]; exact ia
    have hcq : c (min (c a) (c b)) = min (c a) (c b) := by
      rcases Nat.le_total (c a) (c b) with g | g
      · rw [Nat.min_eq_left g]; exact ia
      · rw [Nat.min_eq_right g]; exact ib
    have h1 : joinL c a b w = min (c a) (c b) := by unfold joinL; rw [hcw, if_pos e]
    have h2 : joinL c a b (min (c a) (c b)) = min (c a) (c b) := by
      unfold joinL
      rw [hcq]
      split <;> rfl
    exact ⟨_, rfl, by omega, by rw [h1, h2], by rw [h1]⟩
  · rw [if_neg e]
    obtain ⟨y, hy, hyx, hcy, hroot⟩ := hr.at_ w hw
    refine ⟨y, hy, hyx, by unfold joinL; rw [hcy], ?_⟩
    rw [hroot]
    unfold joinL
    by_cases g : c w = max (c a) (c b)
    · rw [if_pos g]
      constructor
      · intro h; omega
      · intro h
        exfalso
        have hcq : c (min (c a) (c b)) = min (c a) (c b) := by
          rcases Nat.le_total (c a) (c b) with g | g
          · rw [Nat.min_eq_left g]; exact ia
          · rw [Nat.min_eq_right g]; exact ib
        rw [h] at hcq
        omega
    · rw [if_neg g]
theorem join_ev {c : Nat → Nat} {n a b : Nat} {u : List Int} (hn : n ≤ 8) (hc : GoodL c) (hr : Rep u c n) (ha : a < n) (hb : b < n) : ∃ u', Rep u' (joinL c a b) n ∧ Ev (fun k => impl_union_join.f k u (a : Int) (b : Int)) u' := by
  obtain ⟨u1, h1, e1⟩ := find_ev hr ha
  obtain ⟨u2, h2, e2⟩ := find_ev h1 hb
  have la := hc.le a
  have lb := hc.le b
  have hl := hr.len
  refine ⟨_, h2.join hc ha hb, Ev.then e1 (Ev.then e2 ?_)⟩
  rw [mx_nat, mn_nat]
  exact Ev.pos (by omega) (Ev.pos (by omega) (Ev.some (by rw [Int.toNat_natCast])))
theorem newUnion_l0 (n : Nat) (hn : n ≤ 8) : ∀ d i, i + d = n → Ev (fun k => impl_newUnion.l0 k ((List.range i).map (fun x : Nat => (x : Int)) ++ List.replicate (n - i) 0) (n : Int) i) ((List.range n).map fun x : Nat => (x : Int)) := by
  intro d
  induction d with
  | zero =>
    intro i hi
    refine Ev.step (fun k => by rw [impl_newUnion.l0]) ?_
    refine Ev.neg (by omega) (Ev.some ?_)
    rw [show i = n by omega]; simp
  | succ d ih =>
    intro i hi
    refine Ev.step (fun k => by rw [impl_newUnion.l0]) ?_
    refine Ev.pos (by omega) (Ev.pos (by omega) (Ev.pos (by simp; omega) ?_))
    have := ih (i + 1) (by omega)
    rw [w1 i (by omega), Int.toNat_natCast, show List.set ((List.range i).map (fun x : Nat => (x : Int)) ++ List.replicate (n - i) (0 : Int)) i (i : Int) = (List.range (i + 1)).map (fun x : Nat => (x : Int)) ++ List.replicate (n - (i + 1)) (0 : Int) by
      rw [List.set_append_right _ _ (by simp), show n - i = (n - (i + 1)) + 1 by omega, List.replicate_succ, List.range_succ]
      simp]
    exact this
theorem newUnion_ev (b : Int) (h0 : 0 ≤ b) (hb : b ≤ 8) : ∃ u, Rep u (fun x => x) b.toNat ∧ Ev (fun k => impl_newUnion.f k b) u := by
  refine ⟨(List.range b.toNat).map fun x : Nat => (x : Int), ⟨by simp, fun x hx => ⟨x, by rw [getD_at (by simp; omega)]; simp, Nat.le_refl _, rfl, by simp⟩⟩, ?_⟩
  refine Ev.pos h0 (Ev.pos (by omega) (Ev.thenC rfl ?_))
  have := newUnion_l0 b.toNat (by omega) b.toNat 0 (by omega)
  simpa using this
theorem stOk_net {b : Int} {ls : List S77} {on : List Bool} (h : stOk b ls on = true) : netOk b ls = true ∧ on.length = ls.length := by
  simp only [stOk, Bool.and_eq_true, beq_iff_eq] at h
  exact ⟨h.1, by omega⟩
theorem ends_cast {b : Int} {ls : List S77} (h : netOk b ls = true) {i : Nat} (hi : i < ls.length) : (ls.getD i z77).f0 = ((ends (ls.getD i z77)).1 : Int) ∧ (ls.getD i z77).f1 = ((ends (ls.getD i z77)).2 : Int) ∧ (ends (ls.getD i z77)).1 < b.toNat ∧ (ends (ls.getD i z77)).2 < b.toNat := by
  have := netOk_line h hi
  simp only [ends]
  omega
theorem unionOf_l0 {b : Int} {ls : List S77} {on : List Bool} (h : stOk b ls on = true) : ∀ d i u, i + d = ls.length → Rep u (lab (onE ((EL ls).take i) (on.take i))) b.toNat → ∃ u', Rep u' (islc ls on) b.toNat ∧ Ev (fun k => impl_unionOf.l0 k on u ls (ls.length : Int) i) u' := by
  obtain ⟨hn, hlen⟩ := stOk_net h
  have hk := netOk_len hn
  intro d
  induction d with
  | zero =>
    intro i u hi hr
    refine ⟨u, ?_, Ev.step (fun k => by rw [impl_unionOf.l0]) (Ev.neg (by omega) (Ev.some rfl))⟩
    rw [List.take_of_length_le (by rw [EL_length]; omega), List.take_of_length_le (by omega)] at hr
    exact hr
  | succ d ih =>
    intro i u hi hr
    have hi' : i < ls.length := by omega
    obtain ⟨e0, e1, l0, l1⟩ := ends_cast hn hi'
    have hat := EL_at hi'
    have hon : on[i]? = some (on.getD i false) := by rw [getD_at (by omega)]; simp [hlen, hi']
    have ht := onE_take hat hon
    cases hb : on.getD i false with
    | true =>
      rw [hb, if_pos rfl] at ht
      obtain ⟨u1, h1, ev1⟩ := join_ev (by omega) (lab_good _) hr l0 l1
      rw [← lab_snoc, ← ht] at h1
      obtain ⟨u', hu', hev⟩ := ih (i + 1) u1 (by omega) h1
      refine ⟨u', hu', Ev.step (fun k => by rw [impl_unionOf.l0]) ?_⟩
      refine Ev.pos (by omega) (Ev.pos (by omega) (Ev.pos (by omega) (Ev.pos (by omega) ?_)))
      rw [rdOf_nat, hb, w1 i (by omega), show rd_T77 ls (i : Int) = ls.getD i z77 from rfl, e0, e1]
      exact Ev.pos rfl (Ev.then ev1 hev)
    | false =>
      rw [hb, if_neg (by simp), List.append_nil] at ht
      rw [← ht] at hr
      obtain ⟨u', hu', hev⟩ := ih (i + 1) u (by omega) hr
      refine ⟨u', hu', Ev.step (fun k => by rw [impl_unionOf.l0]) ?_⟩
      refine Ev.pos (by omega) (Ev.pos (by omega) (Ev.pos (by omega) (Ev.pos (by omega) ?_)))
      rw [rdOf_nat, hb, w1 i (by omega)]
      exact Ev.neg (by simp) hev
theorem unionOf_ev {b : Int} {ls : List S77} {on : List Bool} (h : stOk b ls on = true) : ∃ u, Rep u (islc ls on) b.toNat ∧ Ev (fun k => impl_unionOf.f k b ls on) u := by
  obtain ⟨hn, hlen⟩ := stOk_net h
  have hk := netOk_len hn
  obtain ⟨u0, h0, e0⟩ := newUnion_ev b (by omega) (by omega)
  obtain ⟨u, hu, hev⟩ := unionOf_l0 h ls.length 0 u0 (by omega) (by simpa [onE_nil, lab_nil] using h0)
  exact ⟨u, hu, Ev.then e0 hev⟩
def reached (b : Int) (ls : List S77) (on : List Bool) (x : Int) : List Int := if stOk b ls on = true ∧ 0 ≤ x ∧ x < b then pickK (fun k => islc ls on k == islc ls on x.toNat) 0 b.toNat else []
theorem drop_onE {ls : List S77} {on : List Bool} {i : Nat} (hi : i < ls.length) (hlen : on.length = ls.length) : onE ((EL ls).drop i) (on.drop i) = (if on.getD i false then [ends (ls.getD i z77)] else []) ++ onE ((EL ls).drop (i + 1)) (on.drop (i + 1)) := by
  rw [drop_at (show i < (EL ls).length by rw [EL_length]; exact hi) (0, 0), drop_at (show i < on.length by omega) false, onE_cons]
  have := EL_at hi
  rw [getD_at (xs := EL ls) (by rw [EL_length]; exact hi)]
  rw [List.getElem?_eq_getElem (by rw [EL_length]; exact hi)] at this
  rw [Option.some.inj this]
theorem reach_l1 {b : Int} {ls : List S77} {on : List Bool} (h : stOk b ls on = true) (step : Int) {r : List Bool} : ∀ d i (s : List Bool), i + d = ls.length → s.length = b.toNat → Ev (fun k => spec_l3Reach.l0 k on (passR (onE ((EL ls).drop i) (on.drop i)) s) (wrap64 (step + 1)) b ls) r → Ev (fun k => spec_l3Reach.l1 k on s step (i : Int) b ls) r := by
  obtain ⟨hn, hlen⟩ := stOk_net h
  have hk := netOk_len hn
  intro d
  induction d with
  | zero =>
    intro i s hi hs hev
    refine Ev.step (fun k => by rw [spec_l3Reach.l1]) ?_
    refine Ev.neg (by omega) ?_
    rw [List.drop_of_length_le (by rw [EL_length]; omega), onE_nil] at hev
    exact hev
  | succ d ih =>
    intro i s hi hs hev
    have hi' : i < ls.length := by omega
    obtain ⟨e0, e1, l0, l1⟩ := ends_cast hn hi'
    rw [drop_onE hi' hlen] at hev
    refine Ev.step (fun k => by rw [spec_l3Reach.l1]) ?_
    refine Ev.pos (by omega) (Ev.pos (by omega) (Ev.pos (by omega) ?_))
    rw [rdOf_nat, w1 i (by omega), show rd_T77 ls (i : Int) = ls.getD i z77 from rfl, e0, e1, rdOf_nat, rdOf_nat, Int.toNat_natCast, Int.toNat_natCast]
    cases hb : on.getD i false with
    | false =>
      rw [hb, if_neg (by simp), List.nil_append] at hev
      exact Ev.neg (by simp) (ih (i + 1) s (by omega) hs hev)
    | true =>
      rw [hb, if_pos rfl] at hev
      have hev' : Ev (fun k => spec_l3Reach.l0 k on (passR (onE ((EL ls).drop (i + 1)) (on.drop (i + 1))) (stepR s (ends (ls.getD i z77)))) (wrap64 (step + 1)) b ls) r := hev
      have hst : stepR s (ends (ls.getD i z77)) = if s.getD (ends (ls.getD i z77)).1 false || s.getD (ends (ls.getD i z77)).2 false then (s.set (ends (ls.getD i z77)).1 true).set (ends (ls.getD i z77)).2 true else s := rfl
      refine Ev.pos rfl (Ev.pos (by omega) (Ev.pos (by omega) (Ev.ite (fun h1 => Ev.pos (by omega) (Ev.pos (by omega) ?_)) (fun h1 => Ev.pos (by omega) (Ev.pos (by omega) (Ev.ite (fun h2 => ?_) (fun h2 => ?_)))))))
      · rw [hst, h1, Bool.true_or, if_pos rfl] at hev'
        exact ih (i + 1) _ (by omega) (by simpa using hs) hev'
      · rw [hst, h2, Bool.or_true, if_pos rfl] at hev'
        exact ih (i + 1) _ (by omega) (by simpa using hs) hev'
      · rw [Bool.not_eq_true] at h1 h2
        rw [hst, h1, h2, Bool.or_false, if_neg (by simp)] at hev'
        exact ih (i + 1) _ (by omega) hs hev'
theorem reach_l0 {b : Int} {ls : List S77} {on : List Bool} (h : stOk b ls on = true) : ∀ d i (s : List Bool), i + d = b.toNat → s.length = b.toNat → Ev (fun k => spec_l3Reach.l0 k on s (i : Int) b ls) (iterR (onE (EL ls) on) d s) := by
  obtain ⟨hn, hlen⟩ := stOk_net h
  have hk := netOk_len hn
  intro d
  induction d with
  | zero =>
    intro i s hi hs
    refine Ev.step (fun k => by rw [spec_l3Reach.l0]) ?_
    exact Ev.neg (by omega) (Ev.some rfl)
  | succ d ih =>
    intro i s hi hs
    refine Ev.step (fun k => by rw [spec_l3Reach.l0]) ?_
    refine Ev.pos (by omega) ?_
    refine reach_l1 h i ls.length 0 s (by omega) hs ?_
    rw [w1 i (by omega)]
    exact ih (i + 1) _ (by omega) (by rw [← (leB_pass (s := s) (by rw [hs]; exact onE_in (EL_in hn) on)).1]; exact hs)
theorem list_tr {s : List Bool} {n : Nat} (hs : s.length = n) (f : Nat → Bool) (h : ∀ k, k < n → tr s k = f k) : s = (List.range n).map f := by
  apply List.ext_getElem
  · simp [hs]
  · intro k h1 h2
    have := h k (by omega)
    unfold tr at this
    rw [getD_at h1] at this
    simpa using this
theorem l3Reach_ev {b : Int} {ls : List S77} {on : List Bool} (h : stOk b ls on = true) {x : Int} (h0 : 0 ≤ x) (hx : x < b) : Ev (fun k => spec_l3Reach.f k b ls on x) ((List.range b.toNat).map fun k => islc ls on k == islc ls on x.toNat) := by
  obtain ⟨hn, hlen⟩ := stOk_net h
  have hk := netOk_len hn
  refine Ev.pos (by omega) (Ev.pos (by omega) (Ev.thenC rfl (Ev.pos h0 (Ev.pos (by simp; omega) ?_))))
  have hev := reach_l0 h b.toNat 0 ((List.replicate b.toNat false).set x.toNat true) (by omega) (by simp)
  refine Ev.eq hev ?_
  have hin := onE_in (EL_in hn) on
  refine list_tr ?_ _ (fun k hk' => ?_)
  · rw [← (iter_grows (es := onE (EL ls) on) b.toNat (s := (List.replicate b.toNat false).set x.toNat true) (by simpa using hin)).1.1]; simp
  · rw [reach_iter hin (by omega) k, Bool.eq_iff_iff, decide_eq_true_eq, beq_iff_eq]
    rfl
theorem specReached_l0 {b : Int} (hb : 0 ≤ b ∧ b ≤ 8) (ls : List S77) (f : Nat → Bool) : ∀ d i (acc : List Int), i + d = b.toNat → acc.length + d ≤ 8 → Ev (fun k => spec_Reached.l0 k acc ((List.range b.toNat).map f) (i : Int) b ls) (acc ++ pickK f i d) := by
  intro d
  induction d with
  | zero =>
    intro i acc hi _
    refine Ev.step (fun k => by rw [spec_Reached.l0]) ?_
    exact Ev.neg (by omega) (Ev.some (by rw [pickK_zero, List.append_nil]))
  | succ d ih =>
    intro i acc hi ha
    refine Ev.step (fun k => by rw [spec_Reached.l0]) ?_
    refine Ev.pos (by omega) (Ev.pos (by omega) (Ev.pos (by simp; omega) ?_))
    rw [rdOf_nat, getD_at (by simp; omega), w1 i (by omega)]
    simp only [List.getElem_map, List.getElem_range]
    refine Ev.ite (fun h1 => Ev.pos (by omega) ?_) (fun h1 => ?_)
    · rw [pickK_yes h1]
      have := ih (i + 1) (acc ++ [(i : Int)]) (by omega) (by simp; omega)
      simpa using this
    · rw [Bool.not_eq_true] at h1
      rw [pickK_no h1]
      exact ih (i + 1) acc (by omega) (by omega)
theorem specReached_ev (b : Int) (ls : List S77) (on : List Bool) (x : Int) (hls : ls.length < 4611686018427387904) : Ev (fun k => spec_Reached.f k b ls on x) (reached b ls on x) := by
  unfold reached
  refine Ev.thenC rfl (Ev.then (specSt_ev b ls on hls) (Ev.ite (fun h => Ev.thenC (l1In_eq _ _ _) ?_) (fun h => ?_)))
  · have hk := netOk_len (stOk_net h).1
    rw [wp _ (by omega) (by omega)]
    refine Ev.step (fun k => by rw [spec_Reached.j0]) ?_
    refine Ev.ite (fun h1 => Ev.some ?_) (fun h1 => ?_)
    · simp only [Bool.not_eq_true', decide_eq_false_iff_not] at h1
      rw [if_neg fun z => h1 (by omega)]
    · simp only [Bool.not_eq_true', decide_eq_false_iff_not, Decidable.not_not] at h1
      rw [if_pos (show stOk b ls on = true ∧ 0 ≤ x ∧ x < b from ⟨h, by omega⟩)]
      exact Ev.then (l3Reach_ev h (by omega) (by omega)) (specReached_l0 (by omega) ls _ b.toNat 0 [] (by omega) (by simp; omega))
  · rw [if_neg fun z => h z.1]
    refine Ev.step (fun k => by rw [spec_Reached.j0]) ?_
    exact Ev.pos rfl (Ev.some rfl)

theorem mem_pickK {p : Nat → Bool} {i d : Nat} {y : Int} : y ∈ pickK p i d ↔ ∃ k : Nat, y = (k : Int) ∧ i ≤ k ∧ k < i + d ∧ p k = true := by
  unfold pickK
  simp only [List.mem_map, List.mem_filter, List.mem_range'_1]
  constructor
  · rintro ⟨k, ⟨⟨h1, h2⟩, h3⟩, rfl⟩
    exact ⟨k, rfl, h1, h2, h3⟩
  · rintro ⟨k, rfl, h1, h2, h3⟩
    exact ⟨k, ⟨⟨h1, h2⟩, h3⟩, rfl⟩
theorem reached_len (b : Int) (ls : List S77) (on : List Bool) (x : Int) : (reached b ls on x).length ≤ 8 := by
  unfold reached
  split
  · rename_i h
    have hk := netOk_len (stOk_net h.1).1
    exact Nat.le_trans (pickK_length _ _ _) (by omega)
  · simp
end Go.Proofs.Ytlahlfjhfmldaaa.P
namespace Go.Proofs.Ytlahlfjhfmldaaa.P
open Go.RowKit Go.Proofs.YtlahlfjhfmldaaaW.PrintWords Go.Proofs.YtlahlfjhfmldaaaW.PrintLast Go.Proofs.YtlahlfjhfmldaaaW.PrintMore
open Go.Proofs.YtlahlfjhfmldaaaM

/-- The sum of g k over the k from i on, of d numbers, that have a property. -/
def sumP (p : Nat → Bool) (g : Nat → Int) : Nat → Nat → Int
  | _, 0 => 0
  | i, d + 1 => (if p i then g i else 0) + sumP p g (i + 1) d
def sumO (g : Nat → Int) : List Int → Int
  | [] => 0
  | y :: t => g y.toNat + sumO g t
theorem sumO_pick (p : Nat → Bool) (g : Nat → Int) : ∀ d i, sumO g (pickK p i d) = sumP p g i d
  | 0, i => by rw [pickK_zero]; rfl
  | d + 1, i => by
    cases hp : p i with
    | true => rw [pickK_yes hp, sumO, sumO_pick p g d (i + 1), sumP, hp, if_pos rfl, Int.toNat_natCast]
    | false => rw [pickK_no hp, sumO_pick p g d (i + 1), sumP, hp, if_neg (by simp)]; omega
theorem busesOk_len {b : Int} {ls : List S77} {bs : List S53} (h : busesOk b ls bs = true) : (bs.length : Int) = b := by
  simp only [busesOk, Bool.and_eq_true, beq_iff_eq] at h
  exact h.1.2
theorem busesOk_at {b : Int} {ls : List S77} {bs : List S53} (h : busesOk b ls bs = true) {k : Nat} (hk : k < bs.length) : (0 ≤ (bs.getD k z53).f0 ∧ (bs.getD k z53).f0 ≤ 999) ∧ 0 ≤ (bs.getD k z53).f1 ∧ (bs.getD k z53).f1 ≤ 999 := by
  simp only [busesOk, Bool.and_eq_true] at h
  have := List.all_eq_true.mp h.2 (bs.getD k z53) (by rw [getD_at hk]; exact List.getElem_mem hk)
  simp only [busOk, decide_eq_true_eq] at this
  omega
def fedOk (b : Int) (ls : List S77) (on : List Bool) (bs : List S53) : Bool := stOk b ls on && busesOk b ls bs
theorem fedOk_iff {b : Int} {ls : List S77} {on : List Bool} {bs : List S53} : fedOk b ls on bs = true ↔ stOk b ls on = true ∧ busesOk b ls bs = true := by simp [fedOk]
theorem implFed_ev (b : Int) (ls : List S77) (on : List Bool) (bs : List S53) : Ev (fun k => impl_fedValid.f k b ls on bs) (fedOk b ls on bs) := by
  refine Ev.then (implSt_ev b ls on) (Ev.ite (fun h => Ev.then (implBuses_ev b ls bs) (Ev.some ?_)) (fun h => Ev.some ?_))
  · rw [fedOk, h, Bool.true_and]
  · rw [Bool.not_eq_true] at h; rw [fedOk, h, Bool.false_and]
theorem specFed_ev (b : Int) (ls : List S77) (on : List Bool) (bs : List S53) (hls : ls.length < 4611686018427387904) (hl : bs.length < 4611686018427387904) : Ev (fun k => spec_l5Ok.f k b ls on bs) (fedOk b ls on bs) := by
  refine Ev.then (specSt_ev b ls on hls) (Ev.ite (fun h => Ev.then (specBuses_ev b ls bs hls hl) (Ev.some ?_)) (fun h => Ev.some ?_))
  · rw [fedOk, h, Bool.true_and]
  · rw [Bool.not_eq_true] at h; rw [fedOk, h, Bool.false_and]
theorem sAt_set (s : List Int) (j i : Nat) (v : Int) (h : j < s.length) : sAt (s.set j v) i = if i = j then v else sAt s i := getD_set s j i v 0 h
/-- The sum of an island: of the feeds (f0) or of the loads (f1). -/
def islSum (g : S53 → Int) (b : Int) (ls : List S77) (on : List Bool) (bs : List S53) (x : Int) : Int := if fedOk b ls on bs = true ∧ 0 ≤ x ∧ x < b then sumP (fun k => islc ls on k == islc ls on x.toNat) (fun k => g (bs.getD k z53)) 0 b.toNat else -1
theorem implSums_l0 {c : Nat → Nat} {n : Nat} (hn : n ≤ 8) (hc : ∀ x, c x ≤ x) (bs : List S53) (hbs : bs.length = n) (hg : ∀ k, k < n → (0 ≤ (bs.getD k z53).f0 ∧ (bs.getD k z53).f0 ≤ 999) ∧ 0 ≤ (bs.getD k z53).f1 ∧ (bs.getD k z53).f1 ≤ 999) (TF TL : Nat → Int) : ∀ d i u s, i + d = n → Rep u c n → s.length = 16 → (∀ x, x < 8 → 0 ≤ sAt s x ∧ sAt s x ≤ 999 * i ∧ sAt s x + sumP (fun k => c k == x) (fun k => (bs.getD k z53).f0) i d = TF x) → (∀ x, x < 8 → 0 ≤ sAt s (8 + x) ∧ sAt s (8 + x) ≤ 999 * i ∧ sAt s (8 + x) + sumP (fun k => c k == x) (fun k => (bs.getD k z53).f1) i d = TL x) → ∃ s', (∀ x, x < 8 → sAt s' x = TF x ∧ sAt s' (8 + x) = TL x) ∧ Ev (fun k => impl_sumsOf.l0 k u bs s (i : Int)) s' := by
  intro d
  induction d with
  | zero =>
    intro i u s hi _ _ h1 h2
    refine ⟨s, fun x hx => ⟨?_, ?_⟩, Ev.step (fun k => by rw [impl_sumsOf.l0]) (Ev.neg (by omega) (Ev.some rfl))⟩
    · have := (h1 x hx).2.2; simp only [sumP] at this; omega
    · have := (h2 x hx).2.2; simp only [sumP] at this; omega
  | succ d ih =>
    intro i u s hi hr hs h1 h2
    obtain ⟨u', hr', ev⟩ := find_ev hr (show i < n by omega)
    have hci := hc i
    have b1 := h1 (c i) (by omega)
    have b2 := h2 (c i) (by omega)
    have g1 := hg i (by omega)
    have e1 : wrap64 (sAt s (c i) + (rd_T53 bs (i : Int)).f0) = sAt s (c i) + (bs.getD i z53).f0 := wp _ (by rw [show rd_T53 bs (i : Int) = bs.getD i z53 from rfl]; omega) (by rw [show rd_T53 bs (i : Int) = bs.getD i z53 from rfl]; omega)
    have e2 : wrap64 (sAt s (8 + c i) + (rd_T53 bs (i : Int)).f1) = sAt s (8 + c i) + (bs.getD i z53).f1 := wp _ (by rw [show rd_T53 bs (i : Int) = bs.getD i z53 from rfl]; omega) (by rw [show rd_T53 bs (i : Int) = bs.getD i z53 from rfl]; omega)
    have hA : ∀ x, x < 8 → sAt ((s.set (c i) (sAt s (c i) + (bs.getD i z53).f0)).set (8 + c i) (sAt s (8 + c i) + (bs.getD i z53).f1)) x = sAt s x + (if (c i == x) = true then (bs.getD i z53).f0 else 0) := fun x hx => by
      rw [sAt_set _ _ _ _ (by simp; omega), if_neg (by omega), sAt_set _ _ _ _ (by omega)]
      by_cases e : x = c i
      · subst e; rw [if_pos rfl, if_pos (by simp)]
      · rw [if_neg e, if_neg (by simp; omega)]; omega
    have hB : ∀ x, x < 8 → sAt ((s.set (c i) (sAt s (c i) + (bs.getD i z53).f0)).set (8 + c i) (sAt s (8 + c i) + (bs.getD i z53).f1)) (8 + x) = sAt s (8 + x) + (if (c i == x) = true then (bs.getD i z53).f1 else 0) := fun x hx => by
      rw [sAt_set _ _ _ _ (by simp; omega)]
      by_cases e : x = c i
      · subst e; rw [if_pos rfl, if_pos (by simp)]
      · rw [if_neg (by omega), sAt_set _ _ _ _ (by omega), if_neg (by omega), if_neg (by simp; omega)]; omega
    obtain ⟨s', hs', hev⟩ := ih (i + 1) u' ((s.set (c i) (sAt s (c i) + (bs.getD i z53).f0)).set (8 + c i) (sAt s (8 + c i) + (bs.getD i z53).f1)) (by omega) hr' (by simp [hs]) (fun x hx => by
      rw [hA x hx]; have := h1 x hx; simp only [sumP] at this; split <;> (rename_i e; first | rw [if_pos e] at this | rw [if_neg e] at this) <;> omega) (fun x hx => by
      rw [hB x hx]; have := h2 x hx; simp only [sumP] at this; split <;> (rename_i e; first | rw [if_pos e] at this | rw [if_neg e] at this) <;> omega)
    refine ⟨s', hs', Ev.step (fun k => by rw [impl_sumsOf.l0]) ?_⟩
    refine Ev.pos (by omega) (Ev.pos (by omega) (Ev.then ev (Ev.pos (by omega) (Ev.pos (by omega) ?_))))
    rw [Int.toNat_natCast, e1, e2, w1 i (by omega)]
    exact hev
theorem implSums_ev {b : Int} {ls : List S77} {on : List Bool} {bs : List S53} (h : fedOk b ls on bs = true) : ∃ s, (∀ x, x < 8 → sAt s x = sumP (fun k => islc ls on k == x) (fun k => (bs.getD k z53).f0) 0 b.toNat ∧ sAt s (8 + x) = sumP (fun k => islc ls on k == x) (fun k => (bs.getD k z53).f1) 0 b.toNat) ∧ Ev (fun k => impl_sumsOf.f k b ls on bs) s := by
  obtain ⟨hst, hb⟩ := fedOk_iff.mp h
  have hk := netOk_len (stOk_net hst).1
  have hl := busesOk_len hb
  obtain ⟨u, hu, eu⟩ := unionOf_ev hst
  have hz : ∀ x, x < 16 → sAt (List.replicate 16 0) x = 0 := fun x _ => by unfold sAt; rw [List.getD_eq_getElem?_getD, List.getElem?_replicate]; split <;> rfl
  obtain ⟨s, hs, hev⟩ := implSums_l0 (c := islc ls on) (n := b.toNat) (by omega) (fun x => (lab_good _).le x) bs (by omega) (fun k hk' => busesOk_at hb (by omega)) (fun x => sumP (fun k => islc ls on k == x) (fun k => (bs.getD k z53).f0) 0 b.toNat) (fun x => sumP (fun k => islc ls on k == x) (fun k => (bs.getD k z53).f1) 0 b.toNat) b.toNat 0 u (List.replicate 16 0) (by omega) hu (by simp) (fun x hx => by rw [hz x (by omega)]; omega) (fun x hx => by rw [hz (8 + x) (by omega)]; omega)
  exact ⟨s, hs, Ev.then eu hev⟩
theorem specFeed_l0 (bs : List S53) (l : List Int) (hl : l.length ≤ 8) (hb : ∀ y, y ∈ l → 0 ≤ y ∧ y < bs.length) (hg : ∀ k, k < bs.length → 0 ≤ (bs.getD k z53).f0 ∧ (bs.getD k z53).f0 ≤ 999) : ∀ d i (acc : Int), i + d = l.length → 0 ≤ acc → acc + 999 * d ≤ 8000 → Ev (fun k => spec_IslandFeed.l0 k bs acc l (i : Int)) (acc + sumO (fun k => (bs.getD k z53).f0) (l.drop i)) := by
  intro d
  induction d with
  | zero =>
    intro i acc hi _ _
    refine Ev.step (fun k => by rw [spec_IslandFeed.l0]) (Ev.neg (by omega) (Ev.some ?_))
    rw [List.drop_of_length_le (by omega), sumO]; omega
  | succ d ih =>
    intro i acc hi h0 h1
    have hi' : i < l.length := by omega
    have hy := hb (l.getD i 0) (by rw [getD_at hi']; exact List.getElem_mem hi')
    have g1 := hg (l.getD i 0).toNat (by omega)
    have hd := drop_at hi' (0 : Int)
    refine Ev.step (fun k => by rw [spec_IslandFeed.l0]) ?_
    rw [rd_nat]
    refine Ev.pos (by omega) (Ev.pos (by omega) (Ev.pos (by omega) (Ev.pos (by omega) ?_)))
    rw [show rd_T53 bs (l.getD i 0) = bs.getD (l.getD i 0).toNat z53 from rfl, wp (acc + _) (by omega) (by omega), w1 i (by omega), hd, sumO]
    have := ih (i + 1) (acc + (bs.getD (l.getD i 0).toNat z53).f0) (by omega) (by omega) (by omega)
    exact Ev.eq this (by omega)
theorem specIslandFeed_ev (b : Int) (ls : List S77) (on : List Bool) (bs : List S53) (x : Int) (hls : ls.length < 4611686018427387904) (hbl : bs.length < 4611686018427387904) : Ev (fun k => spec_IslandFeed.f k b ls on bs x) (islSum (·.f0) b ls on bs x) := by
  unfold islSum
  refine Ev.then (specFed_ev b ls on bs hls hbl) (Ev.ite (fun h => Ev.thenC (l1In_eq _ _ _) ?_) (fun h => ?_))
  · obtain ⟨hst, hb⟩ := fedOk_iff.mp h
    have hk := netOk_len (stOk_net hst).1
    have hl := busesOk_len hb
    rw [wp (b - 1) (by omega) (by omega)]
    refine Ev.step (fun k => by rw [spec_IslandFeed.j0]) ?_
    by_cases hx : 0 ≤ x ∧ x ≤ b - 1
    · rw [if_pos ⟨h, hx.1, by omega⟩]
      refine Ev.neg (by simp; omega) (Ev.then (specReached_ev b ls on x hls) ?_)
      have hr : reached b ls on x = pickK (fun k => islc ls on k == islc ls on x.toNat) 0 b.toNat := by unfold reached; rw [if_pos ⟨hst, hx.1, by omega⟩]
      have hlen := reached_len b ls on x
      have := specFeed_l0 bs (reached b ls on x) hlen (fun y hy => by
        rw [hr] at hy
        obtain ⟨k, rfl, _, hk', _⟩ := mem_pickK.mp hy
        omega) (fun k hk' => by have := busesOk_at hb hk'; omega) (reached b ls on x).length 0 0 (by omega) (by omega) (by omega)
      refine Ev.eq this ?_
      rw [List.drop_zero, hr, sumO_pick]; exact Int.zero_add _
    · rw [if_neg (by omega)]
      exact Ev.pos (by simp; omega) (Ev.some rfl)
  · rw [if_neg (fun hh => h hh.1)]
    refine Ev.step (fun k => by rw [spec_IslandFeed.j0]) ?_
    exact Ev.pos rfl (Ev.some rfl)
end Go.Proofs.Ytlahlfjhfmldaaa.P
namespace Go.Proofs.Ytlahlfjhfmldaaa.P
open Go.RowKit Go.Proofs.YtlahlfjhfmldaaaW.PrintWords Go.Proofs.YtlahlfjhfmldaaaW.PrintLast Go.Proofs.YtlahlfjhfmldaaaW.PrintMore
open Go.Proofs.YtlahlfjhfmldaaaM

/-- Whether the island of a bus has a feed. -/
def aliveAt (b : Int) (ls : List S77) (on : List Bool) (bs : List S53) (x : Nat) : Bool := decide (0 < sumP (fun k => islc ls on k == islc ls on x) (fun k => (bs.getD k z53).f0) 0 b.toNat)
def aliveOf (b : Int) (ls : List S77) (on : List Bool) (bs : List S53) : List Int := if fedOk b ls on bs = true then pickK (aliveAt b ls on bs) 0 b.toNat else []
theorem alive_len (b : Int) (ls : List S77) (on : List Bool) (bs : List S53) : (aliveOf b ls on bs).length ≤ 8 := by
  unfold aliveOf
  split
  · rename_i h
    have hk := netOk_len (stOk_net (fedOk_iff.mp h).1).1
    exact Nat.le_trans (pickK_length _ _ _) (by omega)
  · simp
theorem implAlive_l0 {b : Int} {ls : List S77} {on : List Bool} {bs : List S53} (h : fedOk b ls on bs = true) {s : List Int} (hs : ∀ x, x < 8 → sAt s x = sumP (fun k => islc ls on k == x) (fun k => (bs.getD k z53).f0) 0 b.toNat) : ∀ d i u (acc : List Int), i + d = b.toNat → acc.length + d ≤ 8 → Rep u (islc ls on) b.toNat → Ev (fun k => impl_AliveBuses.l0 k bs s u acc (i : Int)) (acc ++ pickK (aliveAt b ls on bs) i d) := by
  obtain ⟨hst, hb⟩ := fedOk_iff.mp h
  have hk := netOk_len (stOk_net hst).1
  have hl := busesOk_len hb
  intro d
  induction d with
  | zero =>
    intro i u acc hi _ _
    refine Ev.step (fun k => by rw [impl_AliveBuses.l0]) (Ev.neg (by omega) (Ev.some ?_))
    rw [pickK_zero, List.append_nil]
  | succ d ih =>
    intro i u acc hi ha hr
    obtain ⟨u', hr', ef⟩ := find_ev hr (show i < b.toNat by omega)
    have hc : islc ls on i ≤ i := (lab_good _).le i
    refine Ev.step (fun k => by rw [impl_AliveBuses.l0]) (Ev.pos (by omega) (Ev.then ef ?_))
    refine Ev.pos (show (0:Int) ≤ ((islc ls on i : Nat):Int) by omega) (Ev.pos (show ((islc ls on i : Nat):Int) < 8 by omega) ?_)
    rw [Int.toNat_natCast, hs _ (by omega), w1 i (by omega)]
    refine Ev.ite (fun hp => Ev.pos (by omega) ?_) (fun hp => ?_)
    · rw [pickK_yes (p := aliveAt b ls on bs) (by unfold aliveAt; simpa using hp)]
      have := ih (i + 1) u' (acc ++ [(i : Int)]) (by omega) (by simp; omega) hr'
      simpa using this
    · rw [pickK_no (p := aliveAt b ls on bs) (by unfold aliveAt; simpa using hp)]
      exact ih (i + 1) u' acc (by omega) (by omega) hr'
theorem implAlive_ev (b : Int) (ls : List S77) (on : List Bool) (bs : List S53) : Ev (fun k => impl_AliveBuses.f k b ls on bs) (aliveOf b ls on bs) := by
  unfold aliveOf
  refine Ev.then (implFed_ev b ls on bs) (Ev.ite (fun h => ?_) (fun h => Ev.some (by rw [if_neg h])))
  rw [if_pos h]
  obtain ⟨hst, hb⟩ := fedOk_iff.mp h
  have hk := netOk_len (stOk_net hst).1
  obtain ⟨u, hu, eu⟩ := unionOf_ev hst
  obtain ⟨s, hs, es⟩ := implSums_ev h
  exact Ev.then eu (Ev.then es (implAlive_l0 h (fun x hx => (hs x hx).1) b.toNat 0 u [] (by omega) (by simp; omega) hu))
theorem specAlive_l0 {b : Int} {ls : List S77} {on : List Bool} {bs : List S53} (h : fedOk b ls on bs = true) : ∀ d i (acc : List Int), i + d = b.toNat → acc.length + d ≤ 8 → Ev (fun k => spec_AliveBuses.l0 k on bs acc (i : Int) b ls) (acc ++ pickK (aliveAt b ls on bs) i d) := by
  obtain ⟨hst, hb⟩ := fedOk_iff.mp h
  have hk := netOk_len (stOk_net hst).1
  have hl := busesOk_len hb
  intro d
  induction d with
  | zero =>
    intro i acc hi _
    refine Ev.step (fun k => by rw [spec_AliveBuses.l0]) (Ev.neg (by omega) ?_)
    refine Ev.step (fun k => by rw [spec_AliveBuses.j1]) (Ev.neg (by simp) (Ev.some ?_))
    rw [pickK_zero, List.append_nil]
  | succ d ih =>
    intro i acc hi ha
    have eF := specIslandFeed_ev b ls on bs (i : Int) (by omega) (by omega)
    unfold islSum at eF
    rw [if_pos ⟨h, by omega, by omega⟩, Int.toNat_natCast] at eF
    refine Ev.step (fun k => by rw [spec_AliveBuses.l0]) (Ev.pos (by omega) (Ev.then (specFed_ev b ls on bs (by omega) (by omega)) ?_))
    rw [h]
    refine Ev.step (fun k => by rw [spec_AliveBuses.j1]) (Ev.pos rfl (Ev.then eF ?_))
    rw [w1 i (by omega)]
    refine Ev.ite (fun hp => Ev.pos (by omega) ?_) (fun hp => ?_)
    · rw [pickK_yes (p := aliveAt b ls on bs) (by unfold aliveAt; simpa using hp)]
      have := ih (i + 1) (acc ++ [(i : Int)]) (by omega) (by simp; omega)
      simpa using this
    · rw [pickK_no (p := aliveAt b ls on bs) (by unfold aliveAt; simpa using hp)]
      exact ih (i + 1) acc (by omega) (by omega)
theorem specAlive_ev (b : Int) (ls : List S77) (on : List Bool) (bs : List S53) (hls : ls.length < 4611686018427387904) (hbl : bs.length < 4611686018427387904) : Ev (fun k => spec_AliveBuses.f k b ls on bs) (aliveOf b ls on bs) := by
  by_cases h : fedOk b ls on bs = true
  · have hk := netOk_len (stOk_net (fedOk_iff.mp h).1).1
    unfold aliveOf
    rw [if_pos h]
    exact specAlive_l0 h b.toNat 0 [] (by omega) (by simp; omega)
  · unfold aliveOf
    rw [if_neg h]
    rw [Bool.not_eq_true] at h
    refine Ev.step (fun k => by unfold spec_AliveBuses.f; rw [spec_AliveBuses.l0]) ?_
    refine Ev.ite (fun _ => Ev.then (specFed_ev b ls on bs hls hbl) ?_) (fun _ => ?_)
    · rw [h]
      exact Ev.step (fun k => by rw [spec_AliveBuses.j1]) (Ev.neg (by simp) (Ev.some rfl))
    · exact Ev.step (fun k => by rw [spec_AliveBuses.j1]) (Ev.neg (by simp) (Ev.some rfl))
theorem markBus_l0 (n : Nat) (hn : n < 4611686018427387904) : ∀ d i m (l : List S53), i + d = n → l.length = n → m + 2 * d < 4611686018427387904 → ∃ l', Ev (fun k => laws_markBusS.l0 k l ((m : Nat) : Int) ((i : Nat) : Int)) (((m + 2 * d : Nat) : Int), l') := by
  intro d
  induction d with
  | zero =>
    intro i m l hi hl hm
    refine ⟨l, Ev.step (fun k => by rw [laws_markBusS.l0]) ?_⟩
    exact Ev.neg (by omega) (Ev.some rfl)
  | succ d ih =>
    intro i m l hi hl hm
    have h3 : m + 2 * (d + 1) = m + 1 + 1 + 2 * d := by omega
    obtain ⟨l', h⟩ := ih (i + 1) (m + 1 + 1) ((l.set i _).set i _) (by omega) (by simp [hl]) (by omega)
    refine ⟨l', Ev.step (fun k => by rw [laws_markBusS.l0]) ?_⟩
    refine Ev.pos (by omega) (Ev.pos (by omega) (Ev.thenC rfl ?_))
    rw [w1 i (by omega), w1 m (by omega), w1 (m + 1) (by omega), h3]
    exact h
theorem markBus_ev (l : List S53) (m : Nat) (hs : m + 2 * l.length < 4611686018427387904) : ∃ l', Ev (fun k => laws_markBusS.f k l (m : Int)) (((m + 2 * l.length : Nat) : Int), l') := markBus_l0 l.length (by omega) l.length 0 m l (by omega) rfl hs
end Go.Proofs.Ytlahlfjhfmldaaa.P
namespace Go.Proofs.Ytlahlfjhfmldaaa.P
open Go.RowKit Go.Proofs.YtlahlfjhfmldaaaW.PrintWords Go.Proofs.YtlahlfjhfmldaaaW.PrintLast Go.Proofs.YtlahlfjhfmldaaaW.PrintMore
/-- From some number of rounds on it answers, and the answer has a property. -/
def EvP {α : Type} (g : Nat → Option α) (P : α → Prop) : Prop := ∃ x, Ev g x ∧ P x
theorem EvP.then {α β : Type} {g : Nat → Option α} {f : Nat → α → Option β} {P : α → Prop} {Q : β → Prop} (h : EvP g P) (k : ∀ x, P x → EvP (fun n => f n x) Q) : EvP (fun n => (g n).bind fun x => f n x) Q := by
  obtain ⟨x, hx, hp⟩ := h
  obtain ⟨y, hy, hq⟩ := k x hp
  exact ⟨y, Ev.then hx hy, hq⟩
theorem EvP.thenC {α β : Type} {g : Option α} {f : Nat → α → Option β} {a : α} {Q : β → Prop} (h : g = Option.some a) (k : EvP (fun n => f n a) Q) : EvP (fun n => g.bind fun x => f n x) Q := by
  obtain ⟨y, hy, hq⟩ := k
  exact ⟨y, Ev.thenC h hy, hq⟩
theorem EvP.ite {α : Type} {c : Prop} [Decidable c] {a b : Nat → Option α} {Q : α → Prop} (h1 : c → EvP a Q) (h2 : ¬ c → EvP b Q) : EvP (fun k => if c then a k else b k) Q := by
  by_cases hc : c
  · obtain ⟨y, hy, hq⟩ := h1 hc
    exact ⟨y, Ev.pos hc hy, hq⟩
  · obtain ⟨y, hy, hq⟩ := h2 hc
    exact ⟨y, Ev.neg hc hy, hq⟩
theorem EvP.pos {α : Type} {c : Prop} [Decidable c] {a b : Nat → Option α} {Q : α → Prop} (hc : c) (h1 : EvP a Q) : EvP (fun k => if c then a k else b k) Q := EvP.ite (fun _ => h1) fun h => absurd hc h
theorem EvP.neg {α : Type} {c : Prop} [Decidable c] {a b : Nat → Option α} {Q : α → Prop} (hc : ¬ c) (h1 : EvP b Q) : EvP (fun k => if c then a k else b k) Q := EvP.ite (fun h => absurd h hc) fun _ => h1
theorem EvP.some {α : Type} {r : α} {Q : α → Prop} (h : Q r) : EvP (fun _ => Option.some r) Q := ⟨r, Ev.some rfl, h⟩
theorem EvP.step {α : Type} {g f : Nat → Option α} {Q : α → Prop} (h : ∀ k, g (k + 1) = f k) (k : EvP f Q) : EvP g Q := by
  obtain ⟨y, hy, hq⟩ := k
  exact ⟨y, Ev.step h hy, hq⟩
theorem EvP.ev {α : Type} {g : Nat → Option α} {r : α} (h : EvP g (· = r)) : Ev g r := by
  obtain ⟨y, hy, rfl⟩ := h
  exact hy
theorem Ev.p {α : Type} {g : Nat → Option α} {r : α} {P : α → Prop} (h : Ev g r) (hp : P r) : EvP g P := ⟨r, h, hp⟩

/-- A code's bytes. -/
def Bytes (b : List Int) : Prop := ∀ z ∈ b, 0 ≤ z ∧ z ≤ 255
theorem Bytes.rd {b : List Int} (h : Bytes b) (i : Int) : 0 ≤ rd b i ∧ rd b i ≤ 255 := by
  unfold Go.Proofs.YtlahlfjhfmldaaaW.PrintWords.rd
  rw [List.getD_eq_getElem?_getD]
  cases hi : b[i.toNat]? with
  | none => simp
  | some z => exact h z (List.mem_of_getElem? hi)
end Go.Proofs.Ytlahlfjhfmldaaa.P
namespace Go.Proofs.Ytlahlfjhfmldaaa.P
open Go.RowKit Go.Proofs.YtlahlfjhfmldaaaW.PrintWords Go.Proofs.YtlahlfjhfmldaaaW.PrintLast Go.Proofs.YtlahlfjhfmldaaaW.PrintMore

/-- The guard of a network's size. -/
theorem sz_guard {b : Int} {l : List S79} (hl : l.length ≤ 9223372036854775807) {g : Nat → Int → Option Bool} (h : l.length ≤ 1048576 → Ev (fun k => g k (1048576 - (l.length : Int))) true) :
    Ev (fun k => (laws_szNet.f b l 1048576).bind fun t => (if t < 0 then some true else g k t)) true := by
  refine Ev.thenC (szNet_ev b l 1048576 hl (by omega) (by omega)) ?_
  by_cases hc : 1048576 - (l.length : Int) < 0
  · exact Ev.pos (by rw [if_pos hc]; omega) (Ev.some rfl)
  · refine Ev.neg (by rw [if_neg hc]; exact hc) ?_
    rw [if_neg hc]
    exact h (by omega)
end Go.Proofs.Ytlahlfjhfmldaaa.P
namespace Go.Proofs.Ytlahlfjhfmldaaa.P
open Go.RowKit Go.Proofs.YtlahlfjhfmldaaaW.PrintWords Go.Proofs.YtlahlfjhfmldaaaW.PrintLast Go.Proofs.YtlahlfjhfmldaaaW.PrintMore
theorem x_AliveBuses (b : Int) (l : List S79) (on : List Bool) (bs : List S55) (hl : l.length ≤ 9223372036854775807) (hb : bs.length ≤ 9223372036854775807) : Ev (fun k => laws_FnExactAliveBuses.f k b l on bs) true := by
  refine Ev.ite (fun _ => Ev.some rfl) (fun h' => sz_guard hl fun h => ?_)
  refine Ev.thenC (szBusS_ev bs _ hb (by omega) (by omega)) ?_
  by_cases hc : 1048576 - (l.length : Int) - (bs.length : Int) < 0
  · exact Ev.pos (by rw [if_pos hc]; omega) (Ev.some rfl)
  refine Ev.neg (by rw [if_neg hc]; exact hc) ?_
  have hn := toNet_ev b l h
  have ho := toBoolS_ev on (by omega)
  have hs := toBusS_ev bs (by omega)
  have h0 : (l.map toL).length < 4611686018427387904 := by rw [List.length_map]; omega
  have h1 : (bs.map toB).length < 4611686018427387904 := by rw [List.length_map]; omega
  have hlen := alive_len b (l.map toL) on (bs.map toB)
  have e1 := specAlive_ev b (l.map toL) on (bs.map toB) h0 h1
  have e2 := implAlive_ev b (l.map toL) on (bs.map toB)
  have he := eqIntS_ev (aliveOf b (l.map toL) on (bs.map toB)) (by omega)
  have h2 : Ev (fun k => laws_heldIntS.f k (marksI 1 (aliveOf b (l.map toL) on (bs.map toB)).length) 1) (((1 + (aliveOf b (l.map toL) on (bs.map toB)).length : Nat) : Int)) := heldI_ev 1 _ (by omega)
  obtain ⟨l', hm⟩ := markNet_ev b (l.map toL) 1 (by simp; omega)
  obtain ⟨l2', hm2⟩ := markBus_ev (bs.map toB) (1 + 3 * (l.map toL).length + on.length) (by simp; omega)
  refine Ev.then hn (Ev.then ho (Ev.then hs (Ev.then e1 (Ev.then hn (Ev.then ho (Ev.then hs (Ev.then e2 (Ev.then he (Ev.pos rfl (Ev.then hn (Ev.then (eqNet_ev b _ h0) (Ev.pos rfl (Ev.then ho (Ev.then (eqBoolS_ev on (by omega)) (Ev.pos rfl (Ev.then hs (Ev.then (eqBusS_ev _ h1) (Ev.pos rfl (Ev.then hm (Ev.then (markB_ev on _ (by simp; omega)) (Ev.then hm2 (Ev.neg (by omega) (Ev.then he ?_)))))))))))))))))))))))
  refine Ev.step (fun k => by rw [laws_FnExactAliveBuses.j0]) ?_
  exact Ev.neg (by simp) (Ev.then (markI_ev _ 1 (by omega)) (Ev.then h2 (Ev.neg (by omega) (Ev.pos rfl (Ev.then hn (Ev.then ho (Ev.then hs (Ev.then e2 (Ev.then he (Ev.pos rfl (Ev.then h2 (Ev.neg (by omega) (Ev.pos rfl (Ev.some rfl))))))))))))))
end Go.Proofs.Ytlahlfjhfmldaaa.P

/- The plain side of the law FnSpanningLines: what the printed functions come to, in plain Lean. -/
import Derived.Test.YtpgjgbjkfgbpaaaDoorP0
import Derived.Test.YtpgjgbjkfgbpaaaDoorP5
import Derived.Test.YtpgjgbjkfgbpaaaDoorP9
import Derived.Test.YtpgjgbjkfgbpaaaDoorP10
import Derived.Test.YtpgjgbjkfgbpaaaDoorP12
import Derived.Test.YtpgjgbjkfgbpaaaDoorP16
import Derived.Test.YtpgjgbjkfgbpaaaDoorP17
import Derived.Test.YtpgjgbjkfgbpaaaDoorP25
import Derived.Test.YtpgjgbjkfgbpaaaDoorP27
import Derived.Test.YtpgjgbjkfgbpaaaDoorP30
import Derived.Test.YtpgjgbjkfgbpaaaDoorP34
import Derived.Test.YtpgjgbjkfgbpaaaDoorP39
import Derived.Test.YtpgjgbjkfgbpaaaDoorP44
import Derived.Test.YtpgjgbjkfgbpaaaDoorP49
import Derived.Test.YtpgjgbjkfgbpaaaDoorP53
import Derived.Test.YtpgjgbjkfgbpaaaDoorP62
import Derived.Test.YtpgjgbjkfgbpaaaDoorP63
import Derived.Test.YtpgjgbjkfgbpaaaDoorP64
import Derived.Test.YtpgjgbjkfgbpaaaDoorP65
import Derived.Test.YtpgjgbjkfgbpaaaDoorP67
import Derived.Test.YtpgjgbjkfgbpaaaDoorP68
import Derived.Test.YtpgjgbjkfgbpaaaDoorP69
set_option linter.unusedVariables false
namespace Go.Proofs.YtpgjgbjkfgbpaaaDoorM

/-- Labels after one more line between a and b. -/
def joinL (c : Nat → Nat) (a b : Nat) : Nat → Nat := fun x => if c x = max (c a) (c b) then min (c a) (c b) else c x
/-- A label is the least bus of its island. -/
structure GoodL (c : Nat → Nat) : Prop where
  le : ∀ x, c x ≤ x
  idem : ∀ x, c (c x) = c x
theorem good_id : GoodL (fun x => x) := ⟨fun _ => Nat.le_refl _, fun _ => rfl⟩
theorem joinL_same {c : Nat → Nat} {a b : Nat} (h : c a = c b) : joinL c a b = c := by
  funext x
  unfold joinL
  rw [h]
  simp only [Nat.max_self, Nat.min_self]
  split <;> simp_all
theorem good_join {c : Nat → Nat} (h : GoodL c) (a b : Nat) : GoodL (joinL c a b) := by
  have ha := h.idem a
  have hb := h.idem b
  constructor
  · intro x
    unfold joinL
    have := h.le x
    split <;> omega
  · intro x
    have hx := h.idem x
    unfold joinL
    by_cases e : c x = max (c a) (c b)
    · rw [if_pos e]
      have : c (min (c a) (c b)) = min (c a) (c b) := by
        rcases Nat.le_total (c a) (c b) with g | g
        · rw [Nat.min_eq_left g]; exact ha
        · rw [Nat.min_eq_right g]; exact hb
      rw [this]
      split <;> rfl
    · rw [if_neg e, hx, if_neg e]
theorem join_ends {c : Nat → Nat} (a b : Nat) : joinL c a b a = joinL c a b b := by
  unfold joinL
  rcases Nat.le_total (c a) (c b) with g | g
  · simp only [Nat.max_eq_right g, Nat.min_eq_left g]
    split <;> simp_all
  · simp only [Nat.max_eq_left g, Nat.min_eq_right g]
    split <;> simp_all
theorem join_keeps {c : Nat → Nat} {a b x y : Nat} (h : c x = c y) : joinL c a b x = joinL c a b y := by
  unfold joinL
  rw [h]
/-- What has one label after a join had one before, or the two ends' labels. -/
theorem join_inv {c : Nat → Nat} {a b x y : Nat} (h : joinL c a b x = joinL c a b y) : c x = c y ∨ (c x = c a ∧ c y = c b) ∨ (c x = c b ∧ c y = c a) := by
  unfold joinL at h
  rcases Nat.le_total (c a) (c b) with g | g
  · simp only [Nat.max_eq_right g, Nat.min_eq_left g] at h
    split at h <;> split at h <;> simp_all
  · simp only [Nat.max_eq_left g, Nat.min_eq_right g] at h
    split at h <;> split at h <;> simp_all

/-- The labels of a list of lines. -/
def labF (c : Nat → Nat) (es : List (Nat × Nat)) : Nat → Nat := es.foldl (fun c e => joinL c e.1 e.2) c
def lab (es : List (Nat × Nat)) : Nat → Nat := labF (fun x => x) es
theorem lab_nil : lab [] = fun x => x := rfl
theorem lab_snoc (es : List (Nat × Nat)) (e : Nat × Nat) : lab (es ++ [e]) = joinL (lab es) e.1 e.2 := by
  unfold lab labF
  rw [List.foldl_append]
  rfl
theorem snoc_ind {α : Type} {p : List α → Prop} (h0 : p []) (h1 : ∀ l a, p l → p (l ++ [a])) : ∀ l, p l := by
  intro l
  have : ∀ m : List α, p m.reverse := by
    intro m
    induction m with
    | nil => exact h0
    | cons a m ih => rw [List.reverse_cons]; exact h1 _ _ ih
  have h := this l.reverse
  rwa [List.reverse_reverse] at h
theorem lab_good (es : List (Nat × Nat)) : GoodL (lab es) := by
  induction es using snoc_ind with
  | h0 => exact good_id
  | h1 l a ih => rw [lab_snoc]; exact good_join ih _ _
theorem lab_end {es : List (Nat × Nat)} {e : Nat × Nat} (h : e ∈ es) : lab es e.1 = lab es e.2 := by
  induction es using snoc_ind with
  | h0 => cases h
  | h1 l a ih =>
    rw [lab_snoc]
    rcases List.mem_append.1 h with h | h
    · exact join_keeps (ih h)
    · rw [List.mem_singleton.1 h]; exact join_ends _ _
/-- A set of buses that no line leaves holds whole islands. -/
theorem lab_closed {es : List (Nat × Nat)} {S : Nat → Prop} (hS : ∀ e, e ∈ es → (S e.1 ↔ S e.2)) : ∀ {x y}, lab es x = lab es y → (S x ↔ S y) := by
  induction es using snoc_ind with
  | h0 => intro x y h; rw [lab_nil] at h; rw [show x = y from h]
  | h1 l a ih =>
    intro x y h
    have hl : ∀ e, e ∈ l → (S e.1 ↔ S e.2) := fun e he => hS e (List.mem_append_left _ he)
    have ha : S a.1 ↔ S a.2 := hS a (List.mem_append_right _ (List.mem_singleton.2 rfl))
    rw [lab_snoc] at h
    rcases join_inv h with h | ⟨h1, h2⟩ | ⟨h1, h2⟩
    · exact ih hl h
    · exact (ih hl h1).trans (ha.trans (ih hl h2).symm)
    · exact (ih hl h1).trans (ha.symm.trans (ih hl h2).symm)
theorem lab_mono {es fs : List (Nat × Nat)} (h : ∀ e, e ∈ es → lab fs e.1 = lab fs e.2) {x y : Nat} (hx : lab es x = lab es y) : lab fs x = lab fs y := by
  have := lab_closed (es := es) (S := fun z => lab fs z = lab fs x) (fun e he => by simp only [h e he]) hx
  exact (this.1 rfl).symm
def roots (n : Nat) (c : Nat → Nat) : Nat := ((List.range n).filter fun x => c x == x).length
theorem filter_change {n p : Nat} {f g : Nat → Bool} (hp : p < n) (h : ∀ x, x ≠ p → f x = g x) (hf : f p = true) (hg : g p = false) : ((List.range n).filter f).length = ((List.range n).filter g).length + 1 := by
  induction n with
  | zero => omega
  | succ n ih =>
    rw [List.range_succ, List.filter_append, List.filter_append, List.length_append, List.length_append]
    by_cases e : p = n
    · subst e
      have : (List.range p).filter f = (List.range p).filter g := List.filter_congr fun x hx => h x (by have := List.mem_range.1 hx; omega)
      rw [this]
      simp [hf, hg]
    · have h1 := ih (by omega)
      have h2 := h n (fun z => e z.symm)
      rw [h1]
      simp [List.filter_cons, h2]
      omega
theorem roots_join {n a b : Nat} {c : Nat → Nat} (hc : GoodL c) (ha : a < n) (hb : b < n) (hne : c a ≠ c b) : roots n c = roots n (joinL c a b) + 1 := by
  have la := hc.le a
  have lb := hc.le b
  have ia := hc.idem a
  have ib := hc.idem b
  refine filter_change (p := max (c a) (c b)) (by omega) (fun x hx => ?_) ?_ ?_
  · have ix := hc.idem x
    rw [Bool.eq_iff_iff, beq_iff_eq, beq_iff_eq]
    unfold joinL
    split
    · rename_i e
      rcases Nat.le_total (c a) (c b) with g | g
      · simp only [Nat.max_eq_right g, Nat.min_eq_left g] at *
        constructor
        · intro h; omega
        · intro h; rw [← h] at e hx; rw [ia] at e; omega
      · simp only [Nat.max_eq_left g, Nat.min_eq_right g] at *
        constructor
        · intro h; omega
        · intro h; rw [← h] at e hx; rw [ib] at e; omega
    · rfl
  · rw [beq_iff_eq]
    rcases Nat.le_total (c a) (c b) with g | g
    · rw [Nat.max_eq_right g]; exact ib
    · rw [Nat.max_eq_left g]; exact ia
  · rw [beq_eq_false_iff_ne]
    unfold joinL
    rcases Nat.le_total (c a) (c b) with g | g
    · simp only [Nat.max_eq_right g, Nat.min_eq_left g, ib, if_true]; omega
    · simp only [Nat.max_eq_left g, Nat.min_eq_right g, ia, if_true]; omega
/-- Does some line join two buses that the lines before it join already? -/
def cyc (pre : List (Nat × Nat)) : List (Nat × Nat) → Bool
  | [] => false
  | e :: es => if lab pre e.1 = lab pre e.2 then true else cyc (pre ++ [e]) es
def In (n : Nat) (es : List (Nat × Nat)) : Prop := ∀ e, e ∈ es → e.1 < n ∧ e.2 < n
theorem roots_id (n : Nat) : roots n (fun x => x) = n := by
  unfold roots
  rw [List.filter_eq_self.2 (by simp)]
  simp
/-- Islands and lines together are at least as many as the buses; exactly as many where there is no cycle. -/
theorem count_from {n : Nat} {es : List (Nat × Nat)} : ∀ pre, In n (pre ++ es) → (cyc pre es = true → roots n (lab pre) < roots n (lab (pre ++ es)) + es.length) ∧ (cyc pre es = false → roots n (lab pre) = roots n (lab (pre ++ es)) + es.length) ∧ roots n (lab pre) ≤ roots n (lab (pre ++ es)) + es.length := by
  induction es with
  | nil => intro pre _; simp [cyc]
  | cons e es ih =>
    intro pre hin
    have hin' : In n ((pre ++ [e]) ++ es) := by simpa using hin
    obtain ⟨h1, h2, h3⟩ := ih (pre ++ [e]) hin'
    have hap : pre ++ e :: es = (pre ++ [e]) ++ es := by simp
    rw [hap]
    obtain ⟨he1, he2⟩ := hin e (by simp)
    simp only [cyc, List.length_cons]
    by_cases hc : lab pre e.1 = lab pre e.2
    · have hl : lab (pre ++ [e]) = lab pre := by rw [lab_snoc, joinL_same hc]
      rw [hl] at h3
      rw [if_pos hc]
      exact ⟨fun _ => by omega, fun h => by simp at h, by omega⟩
    · have hl := roots_join (lab_good pre) he1 he2 hc
      rw [← lab_snoc] at hl
      rw [if_neg hc]
      exact ⟨fun h => by have := h1 h; omega, fun h => by have := h2 h; omega, by omega⟩
theorem count_cyc {n : Nat} {es : List (Nat × Nat)} (hin : In n es) : (cyc [] es = true ↔ n < roots n (lab es) + es.length) ∧ (cyc [] es = false ↔ n = roots n (lab es) + es.length) ∧ n ≤ roots n (lab es) + es.length := by
  obtain ⟨h1, h2, h3⟩ := count_from (n := n) (es := es) [] (by simpa using hin)
  rw [lab_nil, roots_id] at h1 h2 h3
  simp only [List.nil_append] at h1 h2 h3
  refine ⟨⟨h1, fun h => ?_⟩, ⟨h2, fun h => ?_⟩, h3⟩
  · cases hc : cyc [] es with
    | true => rfl
    | false => have := h2 hc; omega
  · cases hc : cyc [] es with
    | false => rfl
    | true => have := h1 hc; omega
end Go.Proofs.YtpgjgbjkfgbpaaaDoorM
namespace Go.Proofs.YtpgjgbjkfgbpaaaDoorM

def tr (s : List Bool) (k : Nat) : Bool := s.getD k false
def stepR (s : List Bool) (e : Nat × Nat) : List Bool := if tr s e.1 || tr s e.2 then (s.set e.1 true).set e.2 true else s
def passR (es : List (Nat × Nat)) (s : List Bool) : List Bool := es.foldl stepR s
def iterR (es : List (Nat × Nat)) : Nat → List Bool → List Bool
  | 0, s => s
  | m + 1, s => iterR es m (passR es s)
def LeB (s t : List Bool) : Prop := s.length = t.length ∧ ∀ k, tr s k = true → tr t k = true
theorem LeB.refl (s : List Bool) : LeB s s := ⟨rfl, fun _ h => h⟩
theorem LeB.trans {s t u : List Bool} (h : LeB s t) (k : LeB t u) : LeB s u := ⟨h.1.trans k.1, fun i hi => k.2 i (h.2 i hi)⟩
theorem tr_set {s : List Bool} {i : Nat} (hi : i < s.length) (k : Nat) : tr (s.set i true) k = (if k = i then true else tr s k) := by
  unfold tr
  rw [List.getD_eq_getElem?_getD, List.getD_eq_getElem?_getD, List.getElem?_set]
  by_cases h : i = k
  · subst h; simp [hi]
  · simp [h, Ne.symm h]
theorem leB_set {s : List Bool} {i : Nat} (hi : i < s.length) : LeB s (s.set i true) := ⟨by simp, fun k hk => by rw [tr_set hi]; split <;> simp_all⟩
theorem leB_step {s : List Bool} {e : Nat × Nat} (h1 : e.1 < s.length) (h2 : e.2 < s.length) : LeB s (stepR s e) := by
  unfold stepR
  split
  · exact (leB_set h1).trans (leB_set (by simpa using h2))
  · exact LeB.refl s
theorem leB_pass {es : List (Nat × Nat)} : ∀ {s : List Bool}, In s.length es → LeB s (passR es s) := by
  induction es with
  | nil => intro s _; exact LeB.refl s
  | cons e es ih =>
    intro s h
    have he := h e (by simp)
    have hs := leB_step he.1 he.2
    exact hs.trans (ih (s := stepR s e) (fun f hf => by rw [← hs.1]; exact h f (by simp [hf])))
theorem leB_count {s : List Bool} : ∀ {t : List Bool}, LeB s t → s.count true ≤ t.count true ∧ (s.count true = t.count true → s = t) := by
  induction s with
  | nil => intro t h; have := h.1; cases t with | nil => simp | cons _ _ => simp at this
  | cons a s ih =>
    intro t h
    cases t with
    | nil => have := h.1; simp at this
    | cons b t =>
      have hst : LeB s t := ⟨by simpa using h.1, fun k hk => by simpa [tr] using h.2 (k + 1) (by simpa [tr] using hk)⟩
      obtain ⟨h1, h2⟩ := ih hst
      have hab : a = true → b = true := fun ha => by simpa [tr] using h.2 0 (by simpa [tr] using ha)
      cases a <;> cases b
      · simpa using ⟨h1, h2⟩
      · simp; omega
      · simp at hab
      · simpa using ⟨h1, h2⟩
theorem leB_antisymm {s t : List Bool} (h : LeB s t) (k : LeB t s) : s = t := (leB_count h).2 (Nat.le_antisymm (leB_count h).1 (leB_count k).1)
theorem pass_closed {es : List (Nat × Nat)} : ∀ {s : List Bool}, In s.length es → passR es s = s → ∀ e, e ∈ es → tr s e.1 = tr s e.2 := by
  induction es with
  | nil => intro s _ _ e he; cases he
  | cons f es ih =>
    intro s h hp e he
    have hf := h f (by simp)
    have hs := leB_step hf.1 hf.2
    have hin : In (stepR s f).length es := fun g hg => by rw [← hs.1]; exact h g (by simp [hg])
    have hps : passR es (stepR s f) = s := hp
    have hst : stepR s f = s := leB_antisymm (by have := leB_pass hin; rw [hps] at this; exact this) hs
    rw [hst] at hps
    rcases List.mem_cons.1 he with rfl | he
    · unfold stepR at hst
      by_cases hc : (tr s e.1 || tr s e.2) = true
      · rw [if_pos hc] at hst
        have h1 : tr ((s.set e.1 true).set e.2 true) e.1 = true := by rw [tr_set (by simpa using hf.2), tr_set hf.1]; simp
        have h2 : tr ((s.set e.1 true).set e.2 true) e.2 = true := by rw [tr_set (by simpa using hf.2)]; simp
        rw [hst] at h1 h2
        rw [h1, h2]
      · simp at hc
        rw [hc.1, hc.2]
    · exact ih (fun g hg => h g (by simp [hg])) hps e he
theorem iter_fix {es : List (Nat × Nat)} {s : List Bool} (h : passR es s = s) : ∀ m, iterR es m s = s
  | 0 => rfl
  | m + 1 => by
    show iterR es m (passR es s) = s
    rw [h]; exact iter_fix h m
theorem iter_grows {es : List (Nat × Nat)} : ∀ (m : Nat) {s : List Bool}, In s.length es → LeB s (iterR es m s) ∧ (passR es (iterR es m s) = iterR es m s ∨ s.count true + m ≤ (iterR es m s).count true) := by
  intro m
  induction m with
  | zero => intro s _; exact ⟨LeB.refl _, .inr (Nat.le_refl _)⟩
  | succ m ih =>
    intro s h
    have hp := leB_pass h
    obtain ⟨h1, h2⟩ := ih (s := passR es s) (by rw [← hp.1]; exact h)
    refine ⟨hp.trans h1, ?_⟩
    rcases h2 with h2 | h2
    · exact .inl h2
    · by_cases hf : passR es s = s
      · left
        show passR es (iterR es m (passR es s)) = iterR es m (passR es s)
        rw [hf, iter_fix hf, hf]
      · right
        have hc := leB_count hp
        have : s.count true ≠ (passR es s).count true := fun z => hf (hc.2 z).symm
        show s.count true + (m + 1) ≤ (iterR es m (passR es s)).count true
        omega
/-- What is seen stays in one island. -/
theorem iter_sound {es fs : List (Nat × Nat)} {b : Nat} (hfs : ∀ e, e ∈ es → lab fs e.1 = lab fs e.2) : ∀ (m : Nat) {s : List Bool}, In s.length es → (∀ k, tr s k = true → lab fs k = lab fs b) → ∀ k, tr (iterR es m s) k = true → lab fs k = lab fs b := by
  have hstep : ∀ (s : List Bool) (e : Nat × Nat), e ∈ es → e.1 < s.length → e.2 < s.length → (∀ k, tr s k = true → lab fs k = lab fs b) → ∀ k, tr (stepR s e) k = true → lab fs k = lab fs b := by
    intro s e he h1 h2 hs k hk
    unfold stepR at hk
    split at hk
    · rename_i hc
      rw [tr_set (by simpa using h2), tr_set h1] at hk
      have hee := hfs e he
      have : lab fs e.1 = lab fs b := by
        rcases Bool.or_eq_true_iff.1 hc with hc | hc
        · exact hs _ hc
        · rw [hee]; exact hs _ hc
      split at hk
      · rename_i hk2; rw [hk2, ← hee]; exact this
      · split at hk
        · rename_i hk2; rw [hk2]; exact this
        · exact hs k hk
    · exact hs k hk
  have hpass : ∀ (l : List (Nat × Nat)) (s : List Bool), (∀ e, e ∈ l → e ∈ es) → In s.length l → (∀ k, tr s k = true → lab fs k = lab fs b) → ∀ k, tr (passR l s) k = true → lab fs k = lab fs b := by
    intro l
    induction l with
    | nil => intro s _ _ hs; exact hs
    | cons e l ih =>
      intro s hl hin hs
      have he := hin e (by simp)
      exact ih (stepR s e) (fun f hf => hl f (by simp [hf])) (fun f hf => by rw [← (leB_step he.1 he.2).1]; exact hin f (by simp [hf])) (hstep s e (hl e (by simp)) he.1 he.2 hs)
  intro m
  induction m with
  | zero => intro s _ hs; exact hs
  | succ m ih =>
    intro s hin hs
    exact ih (s := passR es s) (by rw [← (leB_pass hin).1]; exact hin) (hpass es s (fun _ h => h) hin hs)
/-- THE SEARCH: after as many passes as there are buses, what is seen is the island. -/
theorem reach_iter {es : List (Nat × Nat)} {n b : Nat} (hin : In n es) (hb : b < n) (k : Nat) :
    tr (iterR es n ((List.replicate n false).set b true)) k = decide (lab es k = lab es b) := by
  have hlen : ((List.replicate n false).set b true).length = n := by simp
  have h0 : ∀ j, tr ((List.replicate n false).set b true) j = true → j = b := by
    intro j hj
    rw [tr_set (by simpa using hb)] at hj
    split at hj
    · assumption
    · simp [tr, List.getD_eq_getElem?_getD, List.getElem?_replicate] at hj
      split at hj <;> simp at hj
  have hc1 : 1 ≤ ((List.replicate n false).set b true).count true := by
    apply List.count_pos_iff.2
    exact List.mem_iff_getElem?.2 ⟨b, by rw [List.getElem?_set]; simp [hb]⟩
  obtain ⟨hle, hfix⟩ := iter_grows (es := es) n (s := (List.replicate n false).set b true) (by rw [hlen]; exact hin)
  have hfix' : passR es (iterR es n ((List.replicate n false).set b true)) = iterR es n ((List.replicate n false).set b true) := by
    rcases hfix with h | h
    · exact h
    · have : (iterR es n ((List.replicate n false).set b true)).count true ≤ (iterR es n ((List.replicate n false).set b true)).length := List.count_le_length
      rw [← hle.1, hlen] at this
      omega
  have hlen2 : (iterR es n ((List.replicate n false).set b true)).length = n := by rw [← hle.1, hlen]
  rw [Bool.eq_iff_iff, decide_eq_true_iff]
  constructor
  · exact iter_sound (fun e he => lab_end he) n (by rw [hlen]; exact hin) (fun j hj => by rw [h0 j hj]) k
  · intro h
    have hcl := pass_closed (by rw [hlen2]; exact hin) hfix'
    have hb' : tr (iterR es n ((List.replicate n false).set b true)) b = true := hle.2 b (by rw [tr_set (by simpa using hb)]; simp)
    exact (lab_closed (S := fun z => tr (iterR es n ((List.replicate n false).set b true)) z = true) (fun e he => by simp only [hcl e he]) h).2 hb'
end Go.Proofs.YtpgjgbjkfgbpaaaDoorM
namespace Go.Proofs.YtpgjgbjkfgbpaaaDoorM

def onE (L : List (Nat × Nat)) (on : List Bool) : List (Nat × Nat) := ((L.zip on).filter (·.2)).map (·.1)
theorem onE_nil (on : List Bool) : onE [] on = [] := by simp [onE]
theorem onE_nil' (L : List (Nat × Nat)) : onE L [] = [] := by simp [onE]
theorem onE_cons (e : Nat × Nat) (L : List (Nat × Nat)) (b : Bool) (on : List Bool) : onE (e :: L) (b :: on) = (if b then [e] else []) ++ onE L on := by
  cases b <;> simp [onE]
theorem onE_mem {L : List (Nat × Nat)} {on : List Bool} {e : Nat × Nat} : e ∈ onE L on ↔ ∃ k : Nat, L[k]? = some e ∧ on[k]? = some true := by
  induction L generalizing on with
  | nil => simp [onE_nil]
  | cons f L ih =>
    cases on with
    | nil => simp [onE_nil']
    | cons b on =>
      rw [onE_cons, List.mem_append, ih]
      constructor
      · rintro (h | ⟨k, h1, h2⟩)
        · cases b
          · simp at h
          · simp at h; exact ⟨0, by simp [h], by simp⟩
        · exact ⟨k + 1, by simpa using h1, by simpa using h2⟩
      · rintro ⟨k, h1, h2⟩
        cases k with
        | zero => left; simp at h1 h2; simp [h1, h2]
        | succ k => right; exact ⟨k, by simpa using h1, by simpa using h2⟩
theorem onE_set {L : List (Nat × Nat)} : ∀ {on : List Bool} {k : Nat} {e : Nat × Nat}, L[k]? = some e → k < on.length → ∀ b, onE L (on.set k b) = onE (L.take k) (on.take k) ++ ((if b then [e] else []) ++ onE (L.drop (k + 1)) (on.drop (k + 1))) := by
  induction L with
  | nil => intro on k e h; simp at h
  | cons f L ih =>
    intro on k e h hk b
    cases on with
    | nil => simp at hk
    | cons c on =>
      cases k with
      | zero => simp at h; subst h; simp [onE_cons, onE_nil]
      | succ k =>
        simp only [List.set_cons_succ, onE_cons, List.take_succ_cons, List.drop_succ_cons, List.append_assoc]
        rw [ih (by simpa using h) (by simpa using hk) b]
theorem onE_at {L : List (Nat × Nat)} {on : List Bool} {k : Nat} {e : Nat × Nat} (h : L[k]? = some e) {b : Bool} (hk : on[k]? = some b) : onE L on = onE (L.take k) (on.take k) ++ ((if b then [e] else []) ++ onE (L.drop (k + 1)) (on.drop (k + 1))) := by
  have hl : k < on.length := (List.getElem?_eq_some_iff.1 hk).1
  have := onE_set h hl b
  rwa [show on.set k b = on from by
    apply List.ext_getElem?
    intro i
    rw [List.getElem?_set]
    by_cases hi : k = i
    · subst hi; rw [hk]; simp [hl]
    · simp [hi]] at this
theorem onE_take {L : List (Nat × Nat)} {on : List Bool} {k : Nat} {e : Nat × Nat} (h : L[k]? = some e) {b : Bool} (hk : on[k]? = some b) : onE (L.take (k + 1)) (on.take (k + 1)) = onE (L.take k) (on.take k) ++ (if b then [e] else []) := by
  have h1 : (L.take (k + 1))[k]? = some e := by simp [h]
  have h2 : (on.take (k + 1))[k]? = some b := by simp [hk]
  rw [onE_at h1 h2]
  simp [List.take_take, onE_nil]
theorem onE_length {L : List (Nat × Nat)} : ∀ {on : List Bool}, L.length = on.length → (onE L on).length = on.count true := by
  induction L with
  | nil => intro on h; cases on with | nil => rfl | cons _ _ => simp at h
  | cons e L ih =>
    intro on h
    cases on with
    | nil => simp at h
    | cons b on =>
      rw [onE_cons, List.length_append, ih (by simpa using h)]
      cases b <;> simp
      omega
theorem onE_in {n : Nat} {L : List (Nat × Nat)} (hL : In n L) (on : List Bool) : In n (onE L on) := by
  intro e he
  obtain ⟨k, h, _⟩ := onE_mem.1 he
  exact hL e (List.mem_iff_getElem?.2 ⟨k, h⟩)

/-- A line that is on joins two buses. -/
def Adj (L : List (Nat × Nat)) (on : List Bool) (k v w : Nat) : Prop := on[k]? = some true ∧ (L[k]? = some (v, w) ∨ L[k]? = some (w, v))
theorem Adj.symm {L : List (Nat × Nat)} {on : List Bool} {k v w : Nat} (h : Adj L on k v w) : Adj L on k w v := ⟨h.1, h.2.symm⟩
theorem Adj.ends {L : List (Nat × Nat)} {on : List Bool} {k v w a b : Nat} (h : Adj L on k v w) (g : Adj L on k a b) : (a = v ∧ b = w) ∨ (a = w ∧ b = v) := by
  obtain ⟨_, h⟩ := h
  obtain ⟨_, g⟩ := g
  rcases h with h | h <;> rcases g with g | g <;> rw [h] at g <;> simp at g <;> simp [g]
def Acyclic (L : List (Nat × Nat)) (on : List Bool) : Prop := ∀ k e, L[k]? = some e → on[k]? = some true → lab (onE L (on.set k false)) e.1 ≠ lab (onE L (on.set k false)) e.2
def OneFeed (L : List (Nat × Nat)) (on : List Bool) (fd : Nat → Bool) : Prop := ∀ u v, fd u = true → fd v = true → lab (onE L on) u = lab (onE L on) v → u = v
/-- Who is fed, through which line; d: how far from the feed. -/
structure Tree (L : List (Nat × Nat)) (on : List Bool) (fd : Nat → Bool) (fed : Nat → Prop) (par : Nat → Option Nat) (d : Nat → Nat) : Prop where
  root : ∀ v, fed v → par v = none → fd v = true
  feed : ∀ v, fd v = true → fed v ∧ par v = none
  up : ∀ v k, fed v → par v = some k → ∃ w, Adj L on k v w ∧ fed w ∧ d w < d v
  closed : ∀ k v w, Adj L on k v w → fed v → fed w
section
variable {L : List (Nat × Nat)} {on : List Bool} {fd : Nat → Bool} {fed : Nat → Prop} {par : Nat → Option Nat} {d : Nat → Nat}
theorem adj_conn {k v w : Nat} (h : Adj L on k v w) : lab (onE L on) v = lab (onE L on) w := by
  obtain ⟨h1, h2⟩ := h
  rcases h2 with h2 | h2
  · exact lab_end (e := (v, w)) (onE_mem.2 ⟨k, h2, h1⟩)
  · exact (lab_end (e := (w, v)) (onE_mem.2 ⟨k, h2, h1⟩)).symm
theorem adj_off {k j v w : Nat} (h : Adj L on j v w) (hne : j ≠ k) : Adj L (on.set k false) j v w := ⟨by rw [List.getElem?_set]; simp [hne.symm, h.1], h.2⟩
theorem adj_of_off {k j v w : Nat} (h : Adj L (on.set k false) j v w) : Adj L on j v w ∧ j ≠ k := by
  obtain ⟨h1, h2⟩ := h
  rw [List.getElem?_set] at h1
  by_cases e : k = j
  · subst e; split at h1 <;> simp_all
  · exact ⟨⟨by simpa [e] using h1, h2⟩, fun z => e z.symm⟩
theorem off_conn {k x y : Nat} (h : lab (onE L (on.set k false)) x = lab (onE L (on.set k false)) y) : lab (onE L on) x = lab (onE L on) y := by
  refine lab_mono (fun e he => ?_) h
  obtain ⟨j, h1, h2⟩ := onE_mem.1 he
  have : Adj L (on.set k false) j e.1 e.2 := ⟨h2, .inl h1⟩
  exact adj_conn (adj_of_off this).1
theorem adj_cycle (ha : Acyclic L on) {k v w : Nat} (h : Adj L on k v w) : lab (onE L (on.set k false)) v ≠ lab (onE L (on.set k false)) w := by
  obtain ⟨h1, h2⟩ := h
  rcases h2 with h2 | h2
  · exact ha k _ h2 h1
  · exact fun z => ha k _ h2 h1 z.symm
/-- Up to the feed, past lines other than k. -/
theorem Tree.to_feed (t : Tree L on fd fed par d) (k : Nat) : ∀ m v, d v < m → fed v → (∀ u, d u ≤ d v → fed u → par u ≠ some k) → ∃ r, fd r = true ∧ lab (onE L (on.set k false)) v = lab (onE L (on.set k false)) r := by
  intro m
  induction m with
  | zero => intro v h; omega
  | succ m ih =>
    intro v hm hv hk
    cases hp : par v with
    | none => exact ⟨v, t.root v hv hp, rfl⟩
    | some j =>
      obtain ⟨w, haw, hw, hd⟩ := t.up v j hv hp
      have hjk : j ≠ k := fun e => hk v (Nat.le_refl _) hv (by rw [hp, e])
      obtain ⟨r, hr, hc⟩ := ih w (by omega) hw (fun u hu => hk u (by omega))
      exact ⟨r, hr, (adj_conn (adj_off haw hjk)).trans hc⟩
/-- A line that is on and fed is the way to one of its ends. -/
theorem Tree.line (t : Tree L on fd fed par d) (ha : Acyclic L on) (ho : OneFeed L on fd) {k v w : Nat} (h : Adj L on k v w) (hv : fed v) : par v = some k ∨ par w = some k := by
  by_cases h1 : par v = some k
  · exact .inl h1
  by_cases h2 : par w = some k
  · exact .inr h2
  exfalso
  have hno : ∀ u, fed u → par u ≠ some k := by
    intro u hu hp
    obtain ⟨x, hax, _, _⟩ := t.up u k hu hp
    rcases h.ends hax with ⟨rfl, _⟩ | ⟨rfl, _⟩
    · exact h1 hp
    · exact h2 hp
  obtain ⟨r, hr, hc⟩ := t.to_feed k _ v (Nat.lt_succ_self _) hv (fun u _ hu => hno u hu)
  obtain ⟨s, hs, hc'⟩ := t.to_feed k _ w (Nat.lt_succ_self _) (t.closed _ _ _ h hv) (fun u _ hu => hno u hu)
  have hrs : r = s := ho r s hr hs (by rw [← off_conn hc, ← off_conn hc']; exact adj_conn h)
  subst hrs
  exact adj_cycle ha h (hc.trans hc'.symm)
end
end Go.Proofs.YtpgjgbjkfgbpaaaDoorM
namespace Go.Proofs.YtpgjgbjkfgbpaaaDoor.P
open Go.RowKit Go.Proofs.YtpgjgbjkfgbpaaaDoorW.PrintWords Go.Proofs.YtpgjgbjkfgbpaaaDoorW.PrintLast Go.Proofs.YtpgjgbjkfgbpaaaDoorW.PrintMore
theorem Ev.pos {α : Type} {c : Prop} [Decidable c] {a b : Nat → Option α} {r : α} (hc : c) (h : Ev a r) : Ev (fun k => if c then a k else b k) r := by
  obtain ⟨K, h⟩ := h
  exact ⟨K, fun k hk => (if_pos hc).trans (h k hk)⟩
theorem Ev.neg {α : Type} {c : Prop} [Decidable c] {a b : Nat → Option α} {r : α} (hc : ¬ c) (h : Ev b r) : Ev (fun k => if c then a k else b k) r := by
  obtain ⟨K, h⟩ := h
  exact ⟨K, fun k hk => (if_neg hc).trans (h k hk)⟩
theorem Ev.some {α : Type} {r q : α} (h : r = q) : Ev (fun _ => Option.some r) q := ⟨0, fun _ _ => by rw [h]⟩
theorem Ev.then {α β : Type} {g : Nat → Option α} {f : Nat → α → Option β} {a : α} {r : β} (h : Ev g a) (k : Ev (fun n => f n a) r) : Ev (fun n => (g n).bind fun x => f n x) r := Ev.bind h k
theorem Ev.thenC {α β : Type} {g : Option α} {f : Nat → α → Option β} {a : α} {r : β} (h : g = Option.some a) (k : Ev (fun n => f n a) r) : Ev (fun n => g.bind fun x => f n x) r := by
  subst h
  exact k
theorem Ev.eq {α : Type} {g : Nat → Option α} {r q : α} (h : Ev g r) (e : r = q) : Ev g q := e ▸ h
theorem w1 (i : Nat) (h : i < 4611686018427387904) : wrap64 ((i : Int) + 1) = ((i + 1 : Nat) : Int) := by unfold wrap64; omega
theorem wp (x : Int) (h0 : -9223372036854775808 ≤ x) (h1 : x < 9223372036854775808) : wrap64 x = x := by unfold wrap64; omega
theorem rd_nat (xs : List Int) (i : Nat) : rd xs (i : Int) = xs.getD i 0 := rfl
theorem rdOf_nat {α : Type} (d : α) (xs : List α) (i : Nat) : rdOf d xs (i : Int) = xs.getD i d := rfl
theorem getD_at {α : Type} {xs : List α} {i : Nat} (h : i < xs.length) (d : α) : xs.getD i d = xs[i] := by simp [List.getD_eq_getElem?_getD, h]
theorem Ev.ite {α : Type} {c : Prop} [Decidable c] {a b : Nat → Option α} {r : α} (h1 : c → Ev a r) (h2 : ¬ c → Ev b r) : Ev (fun k => if c then a k else b k) r := by
  by_cases hc : c
  · exact Ev.pos hc (h1 hc)
  · exact Ev.neg hc (h2 hc)
theorem drop_at {α : Type} {xs : List α} {i : Nat} (h : i < xs.length) (d : α) : xs.drop i = xs.getD i d :: xs.drop (i + 1) := by
  rw [getD_at h]; exact List.drop_eq_getElem_cons h
/-- The numbers from i on, of d numbers, that have a property. -/
def pickK (p : Nat → Bool) (i d : Nat) : List Int := ((List.range' i d).filter p).map fun k : Nat => (k : Int)
theorem pickK_zero (p : Nat → Bool) (i : Nat) : pickK p i 0 = [] := rfl
theorem pickK_yes {p : Nat → Bool} {i d : Nat} (h : p i = true) : pickK p i (d + 1) = (i : Int) :: pickK p (i + 1) d := by
  simp [pickK, List.range'_succ, h]
theorem pickK_no {p : Nat → Bool} {i d : Nat} (h : p i = false) : pickK p i (d + 1) = pickK p (i + 1) d := by
  simp [pickK, List.range'_succ, h]
theorem pickK_length (p : Nat → Bool) (i d : Nat) : (pickK p i d).length ≤ d := by
  unfold pickK
  rw [List.length_map]
  exact Nat.le_trans (List.length_filter_le _ _) (by simp)
end Go.Proofs.YtpgjgbjkfgbpaaaDoor.P
namespace Go.Proofs.YtpgjgbjkfgbpaaaDoor.P
open Go.RowKit Go.Proofs.YtpgjgbjkfgbpaaaDoorW.PrintWords Go.Proofs.YtpgjgbjkfgbpaaaDoorW.PrintLast Go.Proofs.YtpgjgbjkfgbpaaaDoorW.PrintMore

theorem l1In_eq (a b c : Int) : spec_l1In.f a b c = some (decide (b ≤ a ∧ a ≤ c)) := by
  unfold spec_l1In.f
  by_cases h : a ≥ b
  · rw [if_pos h]; simp [show b ≤ a from h]
  · rw [if_neg h]; simp [show ¬ b ≤ a from h]
def lineOk (b : Int) (x : S79) : Bool := decide (0 ≤ x.f0 ∧ x.f0 < b ∧ 0 ≤ x.f1 ∧ x.f1 < b ∧ x.f0 ≠ x.f1 ∧ 1 ≤ x.f2 ∧ x.f2 ≤ 999)
def netOk (b : Int) (ls : List S79) : Bool := decide (1 ≤ b ∧ b ≤ 8 ∧ ls.length ≤ 10) && ls.all (lineOk b)
theorem specNet_l0 (b : Int) (ls : List S79) (hb : 1 ≤ b ∧ b ≤ 8) (hl : ls.length ≤ 10) : ∀ d i, i + d = ls.length → Ev (fun k => spec_NetValid.l0 k i b ls) ((ls.drop i).all (lineOk b)) := by
  intro d
  induction d with
  | zero =>
    intro i hi
    refine Ev.step (fun k => by rw [spec_NetValid.l0]) ?_
    refine Ev.neg (by omega) (Ev.some ?_)
    rw [show i = ls.length by omega]; simp
  | succ d ih =>
    intro i hi
    rw [drop_at (show i < ls.length by omega) z79, List.all_cons]
    refine Ev.step (fun k => by rw [spec_NetValid.l0]) ?_
    refine Ev.pos (by omega) (Ev.pos (by omega) ?_)
    rw [show rd_T79 ls (i : Int) = ls.getD i z79 from rfl, w1 i (by omega), wp (b - 1) (by omega) (by omega)]
    generalize ls.getD i z79 = x
    by_cases hx : lineOk b x = true
    · rw [hx, Bool.true_and]
      have := ih (i + 1) (by omega)
      simp only [lineOk, decide_eq_true_eq] at hx
      exact Ev.thenC (l1In_eq _ _ _) (Ev.pos (by rw [decide_eq_true_eq]; omega) (Ev.thenC (l1In_eq _ _ _) (Ev.pos (by rw [decide_eq_true_eq]; omega) (Ev.neg (by omega) (Ev.thenC (l1In_eq _ _ _) (Ev.pos (by rw [decide_eq_true_eq]; omega) this))))))
    · rw [Bool.not_eq_true] at hx
      rw [hx, Bool.false_and]
      simp only [lineOk, decide_eq_false_iff_not] at hx
      refine Ev.thenC (l1In_eq _ _ _) (Ev.ite (fun h1 => Ev.thenC (l1In_eq _ _ _) (Ev.ite (fun h2 => Ev.ite (fun _ => Ev.some rfl) (fun h3 => Ev.thenC (l1In_eq _ _ _) (Ev.ite (fun h4 => ?_) fun _ => Ev.some rfl))) fun _ => Ev.some rfl)) fun _ => Ev.some rfl)
      rw [decide_eq_true_eq] at h1 h2 h4
      exact absurd (show _ ∧ _ from ⟨h1.1, by omega, h2.1, by omega, h3, h4.1, h4.2⟩) hx
theorem specNet_ev (b : Int) (ls : List S79) (hl : ls.length < 4611686018427387904) : Ev (fun k => spec_NetValid.f k b ls) (netOk b ls) := by
  unfold netOk
  refine Ev.thenC (l1In_eq _ _ _) (Ev.ite (fun h1 => ?_) (fun h1 => ?_))
  · rw [decide_eq_true_eq] at h1
    refine Ev.step (fun k => by rw [spec_NetValid.j0]) ?_
    refine Ev.ite (fun h2 => Ev.some ?_) (fun h2 => ?_)
    · rw [decide_eq_true_eq] at h2
      rw [decide_eq_false (by omega)]; rfl
    · rw [decide_eq_true_eq] at h2
      rw [decide_eq_true (by omega), Bool.true_and]
      exact specNet_l0 b ls h1 (by omega) ls.length 0 (by omega)
  · rw [decide_eq_true_eq] at h1
    rw [decide_eq_false (by omega)]
    refine Ev.step (fun k => by rw [spec_NetValid.j0]) ?_
    exact Ev.pos rfl (Ev.some rfl)
theorem hasBus_eq (b : Int) (ls : List S79) (x : Int) : impl_Net_hasBus.f b ls x = some (decide (0 ≤ x ∧ x < b)) := by
  unfold impl_Net_hasBus.f
  by_cases h : x ≥ 0
  · rw [if_pos h]; simp [show 0 ≤ x from h]
  · rw [if_neg h]; simp [show ¬ 0 ≤ x from h]
theorem hasLine_eq (b : Int) (ls : List S79) (x : Int) : impl_Net_hasLine.f b ls x = some (decide (0 ≤ x ∧ x < ls.length)) := by
  unfold impl_Net_hasLine.f
  by_cases h : x ≥ 0
  · rw [if_pos h]; simp [show 0 ≤ x from h]
  · rw [if_neg h]; simp [show ¬ 0 ≤ x from h]
theorem implNet_l0 (b : Int) (ls : List S79) (hl : ls.length ≤ 10) : ∀ d i, i + d = ls.length → Ev (fun k => impl_NetValid.l0 k ls (ls.length : Int) i b ls) ((ls.drop i).all (lineOk b)) := by
  intro d
  induction d with
  | zero =>
    intro i hi
    refine Ev.step (fun k => by rw [impl_NetValid.l0]) ?_
    refine Ev.neg (by omega) (Ev.some ?_)
    rw [show i = ls.length by omega]; simp
  | succ d ih =>
    intro i hi
    rw [drop_at (show i < ls.length by omega) z79, List.all_cons]
    refine Ev.step (fun k => by rw [impl_NetValid.l0]) ?_
    refine Ev.pos (by omega) (Ev.pos (by omega) (Ev.pos (by omega) ?_))
    rw [show rd_T79 ls (i : Int) = ls.getD i z79 from rfl, w1 i (by omega)]
    generalize ls.getD i z79 = x
    by_cases hx : lineOk b x = true
    · rw [hx, Bool.true_and]
      have := ih (i + 1) (by omega)
      simp only [lineOk, decide_eq_true_eq] at hx
      exact Ev.thenC (hasBus_eq _ _ _) (Ev.pos (by rw [decide_eq_true_eq]; omega) (Ev.thenC (hasBus_eq _ _ _) (Ev.pos (by rw [decide_eq_true_eq]; omega) (Ev.neg (by omega) (Ev.neg (by omega) (Ev.neg (by omega) this))))))
    · rw [Bool.not_eq_true] at hx
      rw [hx, Bool.false_and]
      simp only [lineOk, decide_eq_false_iff_not] at hx
      refine Ev.thenC (hasBus_eq _ _ _) (Ev.ite (fun h1 => Ev.thenC (hasBus_eq _ _ _) (Ev.ite (fun h2 => Ev.ite (fun _ => Ev.some rfl) (fun h3 => Ev.ite (fun _ => Ev.some rfl) (fun h4 => Ev.ite (fun _ => Ev.some rfl) (fun h5 => ?_)))) fun _ => Ev.some rfl)) fun _ => Ev.some rfl)
      rw [decide_eq_true_eq] at h1 h2
      exact absurd (show _ ∧ _ from ⟨h1.1, h1.2, h2.1, h2.2, h3, by omega, by omega⟩) hx
theorem implNet_ev (b : Int) (ls : List S79) : Ev (fun k => impl_NetValid.f k b ls) (netOk b ls) := by
  unfold netOk
  refine Ev.ite (fun h1 => ?_) (fun h1 => Ev.ite (fun h2 => ?_) (fun h2 => ?_))
  · rw [decide_eq_false (by omega)]
    refine Ev.step (fun k => by rw [impl_NetValid.j0]) ?_
    exact Ev.pos rfl (Ev.some rfl)
  · rw [decide_eq_false (by omega)]
    refine Ev.step (fun k => by rw [impl_NetValid.j0]) ?_
    exact Ev.pos rfl (Ev.some rfl)
  · refine Ev.step (fun k => by rw [impl_NetValid.j0]) ?_
    refine Ev.ite (fun h3 => Ev.some ?_) (fun h3 => ?_)
    · rw [decide_eq_true_eq] at h3
      rw [decide_eq_false (by omega)]; rfl
    · rw [decide_eq_true_eq] at h3
      rw [decide_eq_true (by omega), Bool.true_and]
      exact implNet_l0 b ls (by omega) ls.length 0 (by omega)
/-- A state fits a network. -/
def stOk (b : Int) (ls : List S79) (on : List Bool) : Bool := netOk b ls && ((on.length : Int) == (ls.length : Int))
theorem specSt_ev (b : Int) (ls : List S79) (on : List Bool) (hl : ls.length < 4611686018427387904) : Ev (fun k => spec_StateValid.f k b ls on) (stOk b ls on) := by
  unfold stOk
  refine Ev.then (specNet_ev b ls hl) ?_
  cases netOk b ls
  · exact Ev.neg (by simp) (Ev.some rfl)
  · exact Ev.pos rfl (Ev.some rfl)
theorem implSt_ev (b : Int) (ls : List S79) (on : List Bool) : Ev (fun k => impl_StateValid.f k b ls on) (stOk b ls on) := by
  unfold stOk
  refine Ev.then (implNet_ev b ls) ?_
  cases netOk b ls
  · exact Ev.neg (by simp) (Ev.some rfl)
  · exact Ev.pos rfl (Ev.some rfl)

theorem netOk_len {b : Int} {ls : List S79} (h : netOk b ls = true) : ls.length ≤ 10 ∧ 1 ≤ b ∧ b ≤ 8 := by
  simp only [netOk, Bool.and_eq_true, decide_eq_true_eq] at h
  exact ⟨h.1.2.2, h.1.1, h.1.2.1⟩
theorem netOk_line {b : Int} {ls : List S79} (h : netOk b ls = true) {k : Nat} (hk : k < ls.length) : 0 ≤ (ls.getD k z79).f0 ∧ (ls.getD k z79).f0 < b ∧ 0 ≤ (ls.getD k z79).f1 ∧ (ls.getD k z79).f1 < b ∧ (ls.getD k z79).f0 ≠ (ls.getD k z79).f1 ∧ 1 ≤ (ls.getD k z79).f2 ∧ (ls.getD k z79).f2 ≤ 999 := by
  simp only [netOk, Bool.and_eq_true, List.all_eq_true] at h
  have := h.2 (ls.getD k z79) (by rw [getD_at hk]; exact List.getElem_mem hk)
  simpa only [lineOk, decide_eq_true_eq] using this
def otherOf (x : S79) (bus : Int) : Int := if bus = x.f0 then x.f1 else if bus = x.f1 then x.f0 else -1
def otherEnd (b : Int) (ls : List S79) (line bus : Int) : Int := if netOk b ls = true ∧ 0 ≤ line ∧ line < ls.length then otherOf (ls.getD line.toNat z79) bus else -1
theorem other_eq (x : S79) (bus : Int) : impl_Line_other.f x.f0 x.f1 x.f2 bus = some (otherOf x bus) := by
  unfold impl_Line_other.f otherOf
  split
  · rfl
  · split <;> rfl
theorem implOther_ev (b : Int) (ls : List S79) (line bus : Int) : Ev (fun k => impl_OtherEnd.f k b ls line bus) (otherEnd b ls line bus) := by
  unfold otherEnd
  refine Ev.then (implNet_ev b ls) (Ev.ite (fun hn => Ev.thenC (hasLine_eq _ _ _) (Ev.ite (fun h1 => ?_) (fun h1 => Ev.some ?_))) (fun hn => Ev.some ?_))
  · rw [decide_eq_true_eq] at h1
    rw [if_pos (show netOk b ls = true ∧ 0 ≤ line ∧ line < ls.length from ⟨hn, h1.1, h1.2⟩)]
    exact Ev.pos h1.1 (Ev.pos h1.2 (Ev.thenC (other_eq _ _) (Ev.some rfl)))
  · rw [decide_eq_true_eq] at h1
    rw [if_neg fun z => h1 z.2]
  · rw [if_neg fun z => hn z.1]
end Go.Proofs.YtpgjgbjkfgbpaaaDoor.P
namespace Go.Proofs.YtpgjgbjkfgbpaaaDoor.P
open Go.RowKit Go.Proofs.YtpgjgbjkfgbpaaaDoorW.PrintWords Go.Proofs.YtpgjgbjkfgbpaaaDoorW.PrintLast Go.Proofs.YtpgjgbjkfgbpaaaDoorW.PrintMore
open Go.Proofs.YtpgjgbjkfgbpaaaDoorM

def ends (x : S79) : Nat × Nat := (x.f0.toNat, x.f1.toNat)
def EL (ls : List S79) : List (Nat × Nat) := ls.map ends
/-- The labels of a network in a state. -/
def islc (ls : List S79) (on : List Bool) : Nat → Nat := lab (onE (EL ls) on)
theorem EL_length (ls : List S79) : (EL ls).length = ls.length := by simp [EL]
theorem EL_at {ls : List S79} {k : Nat} (h : k < ls.length) : (EL ls)[k]? = some (ends (ls.getD k z79)) := by simp [EL, h, List.getD_eq_getElem?_getD]
theorem EL_in {b : Int} {ls : List S79} (h : netOk b ls = true) : In b.toNat (EL ls) := by
  intro e he
  simp only [EL, List.mem_map] at he
  obtain ⟨x, hx, rfl⟩ := he
  obtain ⟨k, hk, rfl⟩ := List.mem_iff_getElem.1 hx
  have := netOk_line h hk
  rw [getD_at hk] at this
  simp only [ends]
  omega

structure Rep (u : List Int) (c : Nat → Nat) (n : Nat) : Prop where
  len : u.length = n
  at_ : ∀ x, x < n → ∃ y : Nat, u.getD x 0 = (y : Int) ∧ y ≤ x ∧ c y = c x ∧ (y = x ↔ c x = x)
theorem getD_set {α : Type} (l : List α) (i j : Nat) (v d : α) (h : i < l.length) : (l.set i v).getD j d = if j = i then v else l.getD j d := by
  rw [List.getD_eq_getElem?_getD, List.getD_eq_getElem?_getD, List.getElem?_set]
  by_cases e : i = j
  · subst e; simp [h]
  · rw [if_neg e, if_neg fun z => e z.symm]
theorem Rep.halve {u : List Int} {c : Nat → Nat} {n x y z : Nat} (hr : Rep u c n) (hx : x < n) (hy : u.getD x 0 = (y : Int)) (hyx : y < x) (hzy : z ≤ y) (hcy : c y = c x) (hcz : c z = c y) (hcx : c x ≠ x) : Rep (u.set x (z : Int)) c n := by
  refine ⟨by rw [List.length_set]; exact hr.len, fun w hw => ?_⟩
  rw [getD_set _ _ _ _ _ (by rw [hr.len]; exact hx)]
  by_cases e : w = x
  · subst e
    rw [if_pos rfl]
    exact ⟨z, rfl, by omega, by rw [hcz, hcy], by constructor <;> (intro h; omega)⟩
  · rw [if_neg e]
    exact hr.at_ w hw
theorem find_l0 {c : Nat → Nat} {n : Nat} : ∀ m x, x < m → ∀ u : List Int, Rep u c n → x < n → ∃ u', Rep u' c n ∧ Ev (fun k => impl_union_find.l0 k u (x : Int)) (((c x : Nat) : Int), u') := by
  intro m
  induction m with
  | zero => intro x h; omega
  | succ m ih =>
    intro x hm u hr hx
    obtain ⟨y, hy, hyx, hcy, hroot⟩ := hr.at_ x hx
    have hlen := hr.len
    by_cases e : y = x
    · subst e
      refine ⟨u, hr, Ev.step (fun k => by rw [impl_union_find.l0]) ?_⟩
      refine Ev.pos (by omega) (Ev.pos (by omega) ?_)
      rw [rd_nat, hy]
      exact Ev.pos rfl (Ev.some (by rw [hroot.1 rfl]))
    · obtain ⟨z, hz, hzy, hcz, _⟩ := hr.at_ y (by omega)
      have hr' := hr.halve hx hy (by omega) hzy hcy hcz (fun h => e (hroot.2 h))
      obtain ⟨u', hu', hev⟩ := ih z (by omega) _ hr' (by omega)
      refine ⟨u', hu', Ev.step (fun k => by rw [impl_union_find.l0]) ?_⟩
      refine Ev.pos (by omega) (Ev.pos (by omega) ?_)
      rw [rd_nat, hy]
      refine Ev.neg (by omega) (Ev.pos (by omega) (Ev.pos (by omega) (Ev.thenC rfl ?_)))
      rw [rd_nat, hz, Int.toNat_natCast]
      show Ev (fun k => impl_union_find.l0 k (u.set x (z : Int)) (rd (u.set x (z : Int)) (x : Int))) _
      rw [rd_nat, getD_set _ _ _ _ _ (by omega), if_pos rfl]
      rw [hcz, hcy] at hev
      exact hev
theorem find_ev {c : Nat → Nat} {n x : Nat} {u : List Int} (hr : Rep u c n) (hx : x < n) : ∃ u', Rep u' c n ∧ Ev (fun k => impl_union_find.f k u (x : Int)) (((c x : Nat) : Int), u') :=
  find_l0 _ x (Nat.lt_succ_self _) u hr hx
theorem mx_nat (a b : Nat) : mx (a : Int) (b : Int) = ((max a b : Nat) : Int) := by unfold mx; split <;> omega
theorem mn_nat (a b : Nat) : mn (a : Int) (b : Int) = ((min a b : Nat) : Int) := by unfold mn; split <;> omega
theorem Rep.join {u : List Int} {c : Nat → Nat} {n a b : Nat} (hc : GoodL c) (hr : Rep u c n) (ha : a < n) (hb : b < n) : Rep (u.set (max (c a) (c b)) ((min (c a) (c b) : Nat) : Int)) (joinL c a b) n := by
  have la := hc.le a
  have lb := hc.le b
  have ia := hc.idem a
  have ib := hc.idem b
  have hg := good_join hc a b
  refine ⟨by rw [List.length_set]; exact hr.len, fun w hw => ?_⟩
  rw [getD_set _ _ _ _ _ (by rw [hr.len]; omega)]
  by_cases e : w = max (c a) (c b)
  · rw [if_pos e]
    have hcw : c w = w := by
      rw [e]
      rcases Nat.le_total (c a) (c b) with g | g
      · rw [Nat.max_eq_right g]; exact ib
      · rw [Nat.max_eq_left g]; exact ia
    have hcq : c (min (c a) (c b)) = min (c a) (c b) := by
      rcases Nat.le_total (c a) (c b) with g | g
      · rw [Nat.min_eq_left g]; exact ia
      · rw [Nat.min_eq_right g]; exact ib
    have h1 : joinL c a b w = min (c a) (c b) := by unfold joinL; rw [hcw, if_pos e]
    have h2 : joinL c a b (min (c a) (c b)) = min (c a) (c b) := by
      unfold joinL
      rw [hcq]
      split <;> rfl
    exact ⟨_, rfl, by omega, by rw [h1, h2], by rw [h1]⟩
  · rw [if_neg e]
    obtain ⟨y, hy, hyx, hcy, hroot⟩ := hr.at_ w hw
    refine ⟨y, hy, hyx, by unfold joinL; rw [hcy], ?_⟩
    rw [hroot]
    unfold joinL
    by_cases g : c w = max (c a) (c b)
    · rw [if_pos g]
      constructor
      · intro h; omega
      · intro h
        exfalso
        have hcq : c (min (c a) (c b)) = min (c a) (c b) := by
          rcases Nat.le_total (c a) (c b) with g | g
          · rw [Nat.min_eq_left g]; exact ia
          · rw [Nat.min_eq_right g]; exact ib
        rw [h] at hcq
        omega
    · rw [if_neg g]
theorem join_ev {c : Nat → Nat} {n a b : Nat} {u : List Int} (hn : n ≤ 8) (hc : GoodL c) (hr : Rep u c n) (ha : a < n) (hb : b < n) : ∃ u', Rep u' (joinL c a b) n ∧ Ev (fun k => impl_union_join.f k u (a : Int) (b : Int)) u' := by
  obtain ⟨u1, h1, e1⟩ := find_ev hr ha
  obtain ⟨u2, h2, e2⟩ := find_ev h1 hb
  have la := hc.le a
  have lb := hc.le b
  have hl := hr.len
  refine ⟨_, h2.join hc ha hb, Ev.then e1 (Ev.then e2 ?_)⟩
  rw [mx_nat, mn_nat]
  exact Ev.pos (by omega) (Ev.pos (by omega) (Ev.some (by rw [Int.toNat_natCast])))
theorem newUnion_l0 (n : Nat) (hn : n ≤ 8) : ∀ d i, i + d = n → Ev (fun k => impl_newUnion.l0 k ((List.range i).map (fun x : Nat => (x : Int)) ++ List.replicate (n - i) 0) (n : Int) i) ((List.range n).map fun x : Nat => (x : Int)) := by
  intro d
  induction d with
  | zero =>
    intro i hi
    refine Ev.step (fun k => by rw [impl_newUnion.l0]) ?_
    refine Ev.neg (by omega) (Ev.some ?_)
    rw [show i = n by omega]; simp
  | succ d ih =>
    intro i hi
    refine Ev.step (fun k => by rw [impl_newUnion.l0]) ?_
    refine Ev.pos (by omega) (Ev.pos (by omega) (Ev.pos (by simp; omega) ?_))
    have := ih (i + 1) (by omega)
    rw [w1 i (by omega), Int.toNat_natCast, show List.set ((List.range i).map (fun x : Nat => (x : Int)) ++ List.replicate (n - i) (0 : Int)) i (i : Int) = (List.range (i + 1)).map (fun x : Nat => (x : Int)) ++ List.replicate (n - (i + 1)) (0 : Int) by
      rw [List.set_append_right _ _ (by simp), show n - i = (n - (i + 1)) + 1 by omega, List.replicate_succ, List.range_succ]
      simp]
    exact this
theorem newUnion_ev (b : Int) (h0 : 0 ≤ b) (hb : b ≤ 8) : ∃ u, Rep u (fun x => x) b.toNat ∧ Ev (fun k => impl_newUnion.f k b) u := by
  refine ⟨(List.range b.toNat).map fun x : Nat => (x : Int), ⟨by simp, fun x hx => ⟨x, by rw [getD_at (by simp; omega)]; simp, Nat.le_refl _, rfl, by simp⟩⟩, ?_⟩
  refine Ev.pos h0 (Ev.pos (by omega) (Ev.thenC rfl ?_))
  have := newUnion_l0 b.toNat (by omega) b.toNat 0 (by omega)
  simpa using this
theorem stOk_net {b : Int} {ls : List S79} {on : List Bool} (h : stOk b ls on = true) : netOk b ls = true ∧ on.length = ls.length := by
  simp only [stOk, Bool.and_eq_true, beq_iff_eq] at h
  exact ⟨h.1, by omega⟩
theorem ends_cast {b : Int} {ls : List S79} (h : netOk b ls = true) {i : Nat} (hi : i < ls.length) : (ls.getD i z79).f0 = ((ends (ls.getD i z79)).1 : Int) ∧ (ls.getD i z79).f1 = ((ends (ls.getD i z79)).2 : Int) ∧ (ends (ls.getD i z79)).1 < b.toNat ∧ (ends (ls.getD i z79)).2 < b.toNat := by
  have := netOk_line h hi
  simp only [ends]
  omega
theorem unionOf_l0 {b : Int} {ls : List S79} {on : List Bool} (h : stOk b ls on = true) : ∀ d i u, i + d = ls.length → Rep u (lab (onE ((EL ls).take i) (on.take i))) b.toNat → ∃ u', Rep u' (islc ls on) b.toNat ∧ Ev (fun k => impl_unionOf.l0 k on u ls (ls.length : Int) i) u' := by
  obtain ⟨hn, hlen⟩ := stOk_net h
  have hk := netOk_len hn
  intro d
  induction d with
  | zero =>
    intro i u hi hr
    refine ⟨u, ?_, Ev.step (fun k => by rw [impl_unionOf.l0]) (Ev.neg (by omega) (Ev.some rfl))⟩
    rw [List.take_of_length_le (by rw [EL_length]; omega), List.take_of_length_le (by omega)] at hr
    exact hr
  | succ d ih =>
    intro i u hi hr
    have hi' : i < ls.length := by omega
    obtain ⟨e0, e1, l0, l1⟩ := ends_cast hn hi'
    have hat := EL_at hi'
    have hon : on[i]? = some (on.getD i false) := by rw [getD_at (by omega)]; simp [hlen, hi']
    have ht := onE_take hat hon
    cases hb : on.getD i false with
    | true =>
      rw [hb, if_pos rfl] at ht
      obtain ⟨u1, h1, ev1⟩ := join_ev (by omega) (lab_good _) hr l0 l1
      rw [← lab_snoc, ← ht] at h1
      obtain ⟨u', hu', hev⟩ := ih (i + 1) u1 (by omega) h1
      refine ⟨u', hu', Ev.step (fun k => by rw [impl_unionOf.l0]) ?_⟩
      refine Ev.pos (by omega) (Ev.pos (by omega) (Ev.pos (by omega) (Ev.pos (by omega) ?_)))
      rw [rdOf_nat, hb, w1 i (by omega), show rd_T79 ls (i : Int) = ls.getD i z79 from rfl, e0, e1]
      exact Ev.pos rfl (Ev.then ev1 hev)
    | false =>
      rw [hb, if_neg (by simp), List.append_nil] at ht
      rw [← ht] at hr
      obtain ⟨u', hu', hev⟩ := ih (i + 1) u (by omega) hr
      refine ⟨u', hu', Ev.step (fun k => by rw [impl_unionOf.l0]) ?_⟩
      refine Ev.pos (by omega) (Ev.pos (by omega) (Ev.pos (by omega) (Ev.pos (by omega) ?_)))
      rw [rdOf_nat, hb, w1 i (by omega)]
      exact Ev.neg (by simp) hev
theorem unionOf_ev {b : Int} {ls : List S79} {on : List Bool} (h : stOk b ls on = true) : ∃ u, Rep u (islc ls on) b.toNat ∧ Ev (fun k => impl_unionOf.f k b ls on) u := by
  obtain ⟨hn, hlen⟩ := stOk_net h
  have hk := netOk_len hn
  obtain ⟨u0, h0, e0⟩ := newUnion_ev b (by omega) (by omega)
  obtain ⟨u, hu, hev⟩ := unionOf_l0 h ls.length 0 u0 (by omega) (by simpa [onE_nil, lab_nil] using h0)
  exact ⟨u, hu, Ev.then e0 hev⟩
theorem same_ev {c : Nat → Nat} {n a b : Nat} {u : List Int} (hn : n ≤ 8) (hr : Rep u c n) (ha : a < n) (hb : b < n) : ∃ u', Rep u' c n ∧ Ev (fun k => impl_union_same.f k u (a : Int) (b : Int)) (c a == c b, u') := by
  obtain ⟨u1, h1, e1⟩ := find_ev hr ha
  obtain ⟨u2, h2, e2⟩ := find_ev h1 hb
  refine ⟨u2, h2, Ev.then e1 (Ev.then e2 (Ev.some ?_))⟩
  rw [show (((c a : Nat) : Int) == ((c b : Nat) : Int)) = (c a == c b) by rw [Bool.eq_iff_iff, beq_iff_eq, beq_iff_eq]; omega]
theorem members_l0 {c : Nat → Nat} {n x : Nat} (hn : n ≤ 8) (hx : x < n) : ∀ d i (u acc : List Int), i + d = n → acc.length + d ≤ 8 → Rep u c n → ∃ u', Rep u' c n ∧ Ev (fun k => impl_union_members.l0 k u (x : Int) acc (n : Int) i) (acc ++ pickK (fun k => c k == c x) i d, u') := by
  intro d
  induction d with
  | zero =>
    intro i u acc hi _ hr
    refine ⟨u, hr, Ev.step (fun k => by rw [impl_union_members.l0]) ?_⟩
    exact Ev.neg (by omega) (Ev.some (by rw [pickK_zero, List.append_nil]))
  | succ d ih =>
    intro i u acc hi ha hr
    obtain ⟨u1, h1, e1⟩ := same_ev hn hr (show i < n by omega) hx
    by_cases hc : (c i == c x) = true
    · obtain ⟨u', hu', hev⟩ := ih (i + 1) u1 (acc ++ [(i : Int)]) (by omega) (by simp; omega) h1
      refine ⟨u', hu', Ev.step (fun k => by rw [impl_union_members.l0]) ?_⟩
      refine Ev.pos (by omega) (Ev.then e1 (Ev.pos hc (Ev.pos (by omega) ?_)))
      rw [w1 i (by omega), pickK_yes (p := fun k => c k == c x) hc]
      simpa using hev
    · rw [Bool.not_eq_true] at hc
      obtain ⟨u', hu', hev⟩ := ih (i + 1) u1 acc (by omega) (by omega) h1
      refine ⟨u', hu', Ev.step (fun k => by rw [impl_union_members.l0]) ?_⟩
      refine Ev.pos (by omega) (Ev.then e1 (Ev.neg (by rw [hc]; simp) ?_))
      rw [w1 i (by omega), pickK_no (p := fun k => c k == c x) hc]
      exact hev
theorem members_ev {c : Nat → Nat} {n x : Nat} {u : List Int} (hn : n ≤ 8) (hr : Rep u c n) (hx : x < n) : ∃ u', Rep u' c n ∧ Ev (fun k => impl_union_members.f k u (x : Int)) (pickK (fun k => c k == c x) 0 n, u') := by
  obtain ⟨u', hu', hev⟩ := members_l0 hn hx n 0 u [] (by omega) (by simpa using hn) hr
  refine ⟨u', hu', ?_⟩
  rw [show ((n : Nat) : Int) = (u.length : Int) by rw [hr.len]] at hev
  exact hev

def reached (b : Int) (ls : List S79) (on : List Bool) (x : Int) : List Int := if stOk b ls on = true ∧ 0 ≤ x ∧ x < b then pickK (fun k => islc ls on k == islc ls on x.toNat) 0 b.toNat else []
theorem drop_onE {ls : List S79} {on : List Bool} {i : Nat} (hi : i < ls.length) (hlen : on.length = ls.length) : onE ((EL ls).drop i) (on.drop i) = (if on.getD i false then [ends (ls.getD i z79)] else []) ++ onE ((EL ls).drop (i + 1)) (on.drop (i + 1)) := by
  rw [drop_at (show i < (EL ls).length by rw [EL_length]; exact hi) (0, 0), drop_at (show i < on.length by omega) false, onE_cons]
  have := EL_at hi
  rw [getD_at (xs := EL ls) (by rw [EL_length]; exact hi)]
  rw [List.getElem?_eq_getElem (by rw [EL_length]; exact hi)] at this
  rw [Option.some.inj this]
theorem reach_l1 {b : Int} {ls : List S79} {on : List Bool} (h : stOk b ls on = true) (step : Int) {r : List Bool} : ∀ d i (s : List Bool), i + d = ls.length → s.length = b.toNat → Ev (fun k => spec_l3Reach.l0 k on (passR (onE ((EL ls).drop i) (on.drop i)) s) (wrap64 (step + 1)) b ls) r → Ev (fun k => spec_l3Reach.l1 k on s step (i : Int) b ls) r := by
  obtain ⟨hn, hlen⟩ := stOk_net h
  have hk := netOk_len hn
  intro d
  induction d with
  | zero =>
    intro i s hi hs hev
    refine Ev.step (fun k => by rw [spec_l3Reach.l1]) ?_
    refine Ev.neg (by omega) ?_
    rw [List.drop_of_length_le (by rw [EL_length]; omega), onE_nil] at hev
    exact hev
  | succ d ih =>
    intro i s hi hs hev
    have hi' : i < ls.length := by omega
    obtain ⟨e0, e1, l0, l1⟩ := ends_cast hn hi'
    rw [drop_onE hi' hlen] at hev
    refine Ev.step (fun k => by rw [spec_l3Reach.l1]) ?_
    refine Ev.pos (by omega) (Ev.pos (by omega) (Ev.pos (by omega) ?_))
    rw [rdOf_nat, w1 i (by omega), show rd_T79 ls (i : Int) = ls.getD i z79 from rfl, e0, e1, rdOf_nat, rdOf_nat, Int.toNat_natCast, Int.toNat_natCast]
    cases hb : on.getD i false with
    | false =>
      rw [hb, if_neg (by simp), List.nil_append] at hev
      exact Ev.neg (by simp) (ih (i + 1) s (by omega) hs hev)
    | true =>
      rw [hb, if_pos rfl] at hev
      have hev' : Ev (fun k => spec_l3Reach.l0 k on (passR (onE ((EL ls).drop (i + 1)) (on.drop (i + 1))) (stepR s (ends (ls.getD i z79)))) (wrap64 (step + 1)) b ls) r := hev
      have hst : stepR s (ends (ls.getD i z79)) = if s.getD (ends (ls.getD i z79)).1 false || s.getD (ends (ls.getD i z79)).2 false then (s.set (ends (ls.getD i z79)).1 true).set (ends (ls.getD i z79)).2 true else s := rfl
      refine Ev.pos rfl (Ev.pos (by omega) (Ev.pos (by omega) (Ev.ite (fun h1 => Ev.pos (by omega) (Ev.pos (by omega) ?_)) (fun h1 => Ev.pos (by omega) (Ev.pos (by omega) (Ev.ite (fun h2 => ?_) (fun h2 => ?_)))))))
      · rw [hst, h1, Bool.true_or, if_pos rfl] at hev'
        exact ih (i + 1) _ (by omega) (by simpa using hs) hev'
      · rw [hst, h2, Bool.or_true, if_pos rfl] at hev'
        exact ih (i + 1) _ (by omega) (by simpa using hs) hev'
      · rw [Bool.not_eq_true] at h1 h2
        rw [hst, h1, h2, Bool.or_false, if_neg (by simp)] at hev'
        exact ih (i + 1) _ (by omega) hs hev'
theorem reach_l0 {b : Int} {ls : List S79} {on : List Bool} (h : stOk b ls on = true) : ∀ d i (s : List Bool), i + d = b.toNat → s.length = b.toNat → Ev (fun k => spec_l3Reach.l0 k on s (i : Int) b ls) (iterR (onE (EL ls) on) d s) := by
  obtain ⟨hn, hlen⟩ := stOk_net h
  have hk := netOk_len hn
  intro d
  induction d with
  | zero =>
    intro i s hi hs
    refine Ev.step (fun k => by rw [spec_l3Reach.l0]) ?_
    exact Ev.neg (by omega) (Ev.some rfl)
  | succ d ih =>
    intro i s hi hs
    refine Ev.step (fun k => by rw [spec_l3Reach.l0]) ?_
    refine Ev.pos (by omega) ?_
    refine reach_l1 h i ls.length 0 s (by omega) hs ?_
    rw [w1 i (by omega)]
    exact ih (i + 1) _ (by omega) (by rw [← (leB_pass (s := s) (by rw [hs]; exact onE_in (EL_in hn) on)).1]; exact hs)
theorem list_tr {s : List Bool} {n : Nat} (hs : s.length = n) (f : Nat → Bool) (h : ∀ k, k < n → tr s k = f k) : s = (List.range n).map f := by
  apply List.ext_getElem
  · simp [hs]
  · intro k h1 h2
    have := h k (by omega)
    unfold tr at this
    rw [getD_at h1] at this
    simpa using this
theorem l3Reach_ev {b : Int} {ls : List S79} {on : List Bool} (h : stOk b ls on = true) {x : Int} (h0 : 0 ≤ x) (hx : x < b) : Ev (fun k => spec_l3Reach.f k b ls on x) ((List.range b.toNat).map fun k => islc ls on k == islc ls on x.toNat) := by
  obtain ⟨hn, hlen⟩ := stOk_net h
  have hk := netOk_len hn
  refine Ev.pos (by omega) (Ev.pos (by omega) (Ev.thenC rfl (Ev.pos h0 (Ev.pos (by simp; omega) ?_))))
  have hev := reach_l0 h b.toNat 0 ((List.replicate b.toNat false).set x.toNat true) (by omega) (by simp)
  refine Ev.eq hev ?_
  have hin := onE_in (EL_in hn) on
  refine list_tr ?_ _ (fun k hk' => ?_)
  · rw [← (iter_grows (es := onE (EL ls) on) b.toNat (s := (List.replicate b.toNat false).set x.toNat true) (by simpa using hin)).1.1]; simp
  · rw [reach_iter hin (by omega) k, Bool.eq_iff_iff, decide_eq_true_eq, beq_iff_eq]
    rfl
theorem specReached_l0 {b : Int} (hb : 0 ≤ b ∧ b ≤ 8) (ls : List S79) (f : Nat → Bool) : ∀ d i (acc : List Int), i + d = b.toNat → acc.length + d ≤ 8 → Ev (fun k => spec_Reached.l0 k acc ((List.range b.toNat).map f) (i : Int) b ls) (acc ++ pickK f i d) := by
  intro d
  induction d with
  | zero =>
    intro i acc hi _
    refine Ev.step (fun k => by rw [spec_Reached.l0]) ?_
    exact Ev.neg (by omega) (Ev.some (by rw [pickK_zero, List.append_nil]))
  | succ d ih =>
    intro i acc hi ha
    refine Ev.step (fun k => by rw [spec_Reached.l0]) ?_
    refine Ev.pos (by omega) (Ev.pos (by omega) (Ev.pos (by simp; omega) ?_))
    rw [rdOf_nat, getD_at (by simp; omega), w1 i (by omega)]
    simp only [List.getElem_map, List.getElem_range]
    refine Ev.ite (fun h1 => Ev.pos (by omega) ?_) (fun h1 => ?_)
    · rw [pickK_yes h1]
      have := ih (i + 1) (acc ++ [(i : Int)]) (by omega) (by simp; omega)
      simpa using this
    · rw [Bool.not_eq_true] at h1
      rw [pickK_no h1]
      exact ih (i + 1) acc (by omega) (by omega)
theorem specReached_ev (b : Int) (ls : List S79) (on : List Bool) (x : Int) (hls : ls.length < 4611686018427387904) : Ev (fun k => spec_Reached.f k b ls on x) (reached b ls on x) := by
  unfold reached
  refine Ev.thenC rfl (Ev.then (specSt_ev b ls on hls) (Ev.ite (fun h => Ev.thenC (l1In_eq _ _ _) ?_) (fun h => ?_)))
  · have hk := netOk_len (stOk_net h).1
    rw [wp _ (by omega) (by omega)]
    refine Ev.step (fun k => by rw [spec_Reached.j0]) ?_
    refine Ev.ite (fun h1 => Ev.some ?_) (fun h1 => ?_)
    · simp only [Bool.not_eq_true', decide_eq_false_iff_not] at h1
      rw [if_neg fun z => h1 (by omega)]
    · simp only [Bool.not_eq_true', decide_eq_false_iff_not, Decidable.not_not] at h1
      rw [if_pos (show stOk b ls on = true ∧ 0 ≤ x ∧ x < b from ⟨h, by omega⟩)]
      exact Ev.then (l3Reach_ev h (by omega) (by omega)) (specReached_l0 (by omega) ls _ b.toNat 0 [] (by omega) (by simp; omega))
  · rw [if_neg fun z => h z.1]
    refine Ev.step (fun k => by rw [spec_Reached.j0]) ?_
    exact Ev.pos rfl (Ev.some rfl)

def sameIsl (b : Int) (ls : List S79) (on : List Bool) (x y : Int) : Bool := stOk b ls on && decide (0 ≤ x ∧ x < b) && decide (0 ≤ y ∧ y < b) && (islc ls on x.toNat == islc ls on y.toNat)
theorem has_l0 (l : List Int) (y : Int) (hl : l.length < 4611686018427387904) : ∀ d i, i + d = l.length → Ev (fun k => spec_l1Has.l0 k l y i) (decide (y ∈ l.drop i)) := by
  intro d
  induction d with
  | zero =>
    intro i hi
    refine Ev.step (fun k => by rw [spec_l1Has.l0]) ?_
    refine Ev.neg (by omega) (Ev.some ?_)
    rw [List.drop_of_length_le (by omega)]; simp
  | succ d ih =>
    intro i hi
    refine Ev.step (fun k => by rw [spec_l1Has.l0]) ?_
    refine Ev.pos (by omega) (Ev.pos (by omega) ?_)
    rw [rd_nat, w1 i (by omega), drop_at (show i < l.length by omega) 0]
    refine Ev.ite (fun h => Ev.some ?_) (fun h => Ev.eq (ih (i + 1) (by omega)) ?_)
    · rw [h]; simp
    · rw [decide_eq_decide, List.mem_cons]
      exact ⟨.inr, fun z => z.elim (fun z => absurd z.symm h) id⟩
theorem has_ev (l : List Int) (y : Int) (hl : l.length < 4611686018427387904) : Ev (fun k => spec_l1Has.f k l y) (decide (y ∈ l)) := has_l0 l y hl l.length 0 (by omega)
theorem mem_pickK {p : Nat → Bool} {i d : Nat} {y : Int} : y ∈ pickK p i d ↔ ∃ k : Nat, y = (k : Int) ∧ i ≤ k ∧ k < i + d ∧ p k = true := by
  unfold pickK
  simp only [List.mem_map, List.mem_filter, List.mem_range'_1]
  constructor
  · rintro ⟨k, ⟨⟨h1, h2⟩, h3⟩, rfl⟩
    exact ⟨k, rfl, h1, h2, h3⟩
  · rintro ⟨k, rfl, h1, h2, h3⟩
    exact ⟨k, ⟨⟨h1, h2⟩, h3⟩, rfl⟩
theorem reached_len (b : Int) (ls : List S79) (on : List Bool) (x : Int) : (reached b ls on x).length ≤ 8 := by
  unfold reached
  split
  · rename_i h
    have hk := netOk_len (stOk_net h.1).1
    exact Nat.le_trans (pickK_length _ _ _) (by omega)
  · simp
theorem specSame_ev (b : Int) (ls : List S79) (on : List Bool) (x y : Int) (hls : ls.length < 4611686018427387904) : Ev (fun k => spec_SameIsland.f k b ls on x y) (sameIsl b ls on x y) := by
  have hl := reached_len b ls on x
  refine Ev.then (specReached_ev b ls on x hls) (Ev.then (has_ev _ y (by omega)) (Ev.some ?_))
  unfold reached sameIsl
  by_cases h : stOk b ls on = true ∧ 0 ≤ x ∧ x < b
  · rw [if_pos h, h.1, decide_eq_true h.2, Bool.true_and, Bool.true_and, Bool.eq_iff_iff, decide_eq_true_eq, mem_pickK, Bool.and_eq_true, decide_eq_true_eq, beq_iff_eq]
    constructor
    · rintro ⟨k, rfl, _, h2, h3⟩
      rw [beq_iff_eq] at h3
      exact ⟨by omega, by rw [Int.toNat_natCast]; exact h3.symm⟩
    · rintro ⟨h1, h2⟩
      exact ⟨y.toNat, by omega, by omega, by omega, by rw [beq_iff_eq]; exact h2.symm⟩
  · rw [if_neg h]
    have : (stOk b ls on && decide (0 ≤ x ∧ x < b)) = false := by
      rw [Bool.and_eq_false_iff, decide_eq_false_iff_not]
      by_cases g : stOk b ls on = true
      · exact .inr fun z => h ⟨g, z⟩
      · exact .inl (by simpa using g)
    rw [this]; simp

def islNums (b : Int) (ls : List S79) (on : List Bool) : List Int := if stOk b ls on = true then (List.range b.toNat).map fun k => ((islc ls on k : Nat) : Int) else []
theorem implNums_l0 {c : Nat → Nat} {n : Nat} (hn : n ≤ 8) : ∀ d i (u : List Int), i + d = n → Rep u c n → Ev (fun k => impl_IslandNumbers.l0 k u ((List.range i).map (fun k => ((c k : Nat) : Int)) ++ List.replicate (n - i) 0) (n : Int) i) ((List.range n).map fun k => ((c k : Nat) : Int)) := by
  intro d
  induction d with
  | zero =>
    intro i u hi hr
    refine Ev.step (fun k => by rw [impl_IslandNumbers.l0]) ?_
    refine Ev.neg (by omega) (Ev.some ?_)
    rw [show i = n by omega]; simp
  | succ d ih =>
    intro i u hi hr
    obtain ⟨u1, h1, e1⟩ := find_ev hr (show i < n by omega)
    refine Ev.step (fun k => by rw [impl_IslandNumbers.l0]) ?_
    refine Ev.pos (by omega) (Ev.then e1 (Ev.pos (by omega) (Ev.pos (by simp; omega) ?_)))
    have := ih (i + 1) u1 (by omega) h1
    rw [w1 i (by omega), Int.toNat_natCast]
    rw [show List.set ((List.range i).map (fun k => ((c k : Nat) : Int)) ++ List.replicate (n - i) (0 : Int)) i ((c i : Nat) : Int) = (List.range (i + 1)).map (fun k => ((c k : Nat) : Int)) ++ List.replicate (n - (i + 1)) (0 : Int) by
      rw [List.set_append_right _ _ (by simp), show n - i = (n - (i + 1)) + 1 by omega, List.replicate_succ, List.range_succ]
      simp]
    exact this
theorem implNums_ev (b : Int) (ls : List S79) (on : List Bool) : Ev (fun k => impl_IslandNumbers.f k b ls on) (islNums b ls on) := by
  unfold islNums
  refine Ev.then (implSt_ev b ls on) (Ev.ite (fun h => ?_) (fun h => Ev.some ?_))
  · have hk := netOk_len (stOk_net h).1
    rw [if_pos h]
    obtain ⟨u, hu, eu⟩ := unionOf_ev h
    refine Ev.then eu (Ev.pos (by omega) (Ev.pos (by omega) (Ev.thenC rfl ?_)))
    have := implNums_l0 (show b.toNat ≤ 8 by omega) b.toNat 0 u (by omega) hu
    simpa using this
  · rw [if_neg h]
end Go.Proofs.YtpgjgbjkfgbpaaaDoor.P
namespace Go.Proofs.YtpgjgbjkfgbpaaaDoor.P
open Go.RowKit Go.Proofs.YtpgjgbjkfgbpaaaDoorW.PrintWords Go.Proofs.YtpgjgbjkfgbpaaaDoorW.PrintLast Go.Proofs.YtpgjgbjkfgbpaaaDoorW.PrintMore
open Go.Proofs.YtpgjgbjkfgbpaaaDoorM

theorem sameIsl_ends {b : Int} {ls : List S79} {on : List Bool} (h : stOk b ls on = true) {i : Nat} (hi : i < ls.length) : sameIsl b ls on (ls.getD i z79).f0 (ls.getD i z79).f1 = (islc ls on (ends (ls.getD i z79)).1 == islc ls on (ends (ls.getD i z79)).2) := by
  have hl := netOk_line (stOk_net h).1 hi
  unfold sameIsl
  rw [h, decide_eq_true (by omega), decide_eq_true (by omega)]
  rfl
def hasCyc (b : Int) (ls : List S79) (on : List Bool) : Bool := stOk b ls on && cyc [] (onE (EL ls) on)
theorem onE_on {ls : List S79} {on : List Bool} {k : Nat} (hk : k < ls.length) (hlen : on.length = ls.length) : onE (EL ls) on = onE ((EL ls).take k) (on.take k) ++ ((if on.getD k false then [ends (ls.getD k z79)] else []) ++ onE ((EL ls).drop (k + 1)) (on.drop (k + 1))) :=
  onE_at (EL_at hk) (by rw [getD_at (by omega)]; simp [hlen, hk])
theorem implHas_l0 {b : Int} {ls : List S79} {on : List Bool} (h : stOk b ls on = true) : ∀ d i u, i + d = ls.length → Rep u (lab (onE ((EL ls).take i) (on.take i))) b.toNat → Ev (fun k => impl_hasCycle.l0 k on u ls (ls.length : Int) i) (cyc (onE ((EL ls).take i) (on.take i)) (onE ((EL ls).drop i) (on.drop i))) := by
  obtain ⟨hn, hlen⟩ := stOk_net h
  have hk := netOk_len hn
  intro d
  induction d with
  | zero =>
    intro i u hi hr
    refine Ev.step (fun k => by rw [impl_hasCycle.l0]) ?_
    refine Ev.neg (by omega) (Ev.some ?_)
    rw [List.drop_of_length_le (by rw [EL_length]; omega), onE_nil]; rfl
  | succ d ih =>
    intro i u hi hr
    have hi' : i < ls.length := by omega
    obtain ⟨e0, e1, l0, l1⟩ := ends_cast hn hi'
    have ht := onE_take (EL_at hi') (show on[i]? = some (on.getD i false) by rw [getD_at (by omega)]; simp [hlen, hi'])
    rw [drop_onE hi' hlen]
    refine Ev.step (fun k => by rw [impl_hasCycle.l0]) ?_
    refine Ev.pos (by omega) (Ev.pos (by omega) (Ev.pos (by omega) (Ev.pos (by omega) ?_)))
    rw [rdOf_nat, w1 i (by omega), show rd_T79 ls (i : Int) = ls.getD i z79 from rfl, e0, e1]
    cases hb : on.getD i false with
    | false =>
      rw [hb, if_neg (by simp), List.append_nil] at ht
      rw [if_neg (by simp), List.nil_append, ← ht]
      exact Ev.neg (by simp) (ih (i + 1) u (by omega) (by rw [ht]; exact hr))
    | true =>
      rw [hb, if_pos rfl] at ht
      rw [if_pos rfl]
      obtain ⟨u1, h1, ev1⟩ := same_ev (by omega) hr l0 l1
      refine Ev.pos rfl (Ev.then ev1 ?_)
      show Ev _ (if _ then true else _)
      by_cases hc : lab (onE ((EL ls).take i) (on.take i)) (ends (ls.getD i z79)).1 = lab (onE ((EL ls).take i) (on.take i)) (ends (ls.getD i z79)).2
      · rw [if_pos hc]
        exact Ev.pos (by rw [beq_iff_eq]; exact hc) (Ev.some rfl)
      · rw [if_neg hc]
        obtain ⟨u2, h2, ev2⟩ := join_ev (by omega) (lab_good _) h1 l0 l1
        rw [← lab_snoc, ← ht] at h2
        refine Ev.neg (by rw [beq_iff_eq]; exact hc) (Ev.then ev2 ?_)
        have := ih (i + 1) u2 (by omega) h2
        rw [ht] at this
        exact this
theorem implHas'_ev {b : Int} {ls : List S79} {on : List Bool} (h : stOk b ls on = true) : Ev (fun k => impl_hasCycle.f k b ls on) (cyc [] (onE (EL ls) on)) := by
  have hk := netOk_len (stOk_net h).1
  obtain ⟨u0, h0, e0⟩ := newUnion_ev b (by omega) (by omega)
  have := implHas_l0 h ls.length 0 u0 (by omega) (by simpa [onE_nil, lab_nil] using h0)
  simp only [List.take_zero, List.drop_zero, onE_nil] at this
  exact Ev.then e0 this
theorem implHas_ev (b : Int) (ls : List S79) (on : List Bool) : Ev (fun k => impl_HasCycle.f k b ls on) (hasCyc b ls on) := by
  unfold hasCyc
  refine Ev.then (implSt_ev b ls on) (Ev.ite (fun h => ?_) (fun h => Ev.some ?_))
  · rw [h, Bool.true_and]
    exact Ev.then (implHas'_ev h) (Ev.some rfl)
  · rw [Bool.not_eq_true] at h
    rw [h]; rfl

def spanAt (ls : List S79) (on : List Bool) (k : Nat) : Bool := on.getD k false && !(lab (onE ((EL ls).take k) (on.take k)) (ends (ls.getD k z79)).1 == lab (onE ((EL ls).take k) (on.take k)) (ends (ls.getD k z79)).2)
def spanLines (b : Int) (ls : List S79) (on : List Bool) : List Int := if stOk b ls on = true then pickK (spanAt ls on) 0 ls.length else []
/-- The lines taken before line i. -/
def spanSt (ls : List S79) (on : List Bool) (i : Nat) : List Bool := (List.range i).map (spanAt ls on) ++ List.replicate (ls.length - i) false
theorem onE_falses (L : List (Nat × Nat)) : ∀ m, onE L (List.replicate m false) = [] := by
  intro m
  cases h : onE L (List.replicate m false) with
  | nil => rfl
  | cons e l =>
    obtain ⟨k, _, h2⟩ := onE_mem.1 (show e ∈ onE L (List.replicate m false) by rw [h]; simp)
    simp [List.getElem?_replicate] at h2
theorem spanSt_length {ls : List S79} {on : List Bool} {i : Nat} (hi : i ≤ ls.length) : (spanSt ls on i).length = ls.length := by simp [spanSt]; omega
theorem spanSt_lab {b : Int} {ls : List S79} {on : List Bool} (h : stOk b ls on = true) : ∀ i, i ≤ ls.length → lab (onE ((EL ls).take i) ((List.range i).map (spanAt ls on))) = lab (onE ((EL ls).take i) (on.take i)) := by
  obtain ⟨hn, hlen⟩ := stOk_net h
  intro i
  induction i with
  | zero => intro _; simp [onE_nil]
  | succ i ih =>
    intro hi
    have hi' : i < ls.length := by omega
    have ht := onE_take (EL_at hi') (show on[i]? = some (on.getD i false) by rw [getD_at (by omega)]; simp [hlen, hi'])
    have hs : onE ((EL ls).take (i + 1)) ((List.range (i + 1)).map (spanAt ls on)) = onE ((EL ls).take i) ((List.range i).map (spanAt ls on)) ++ (if spanAt ls on i then [ends (ls.getD i z79)] else []) := by
      have := onE_take (L := EL ls) (on := (List.range (i + 1)).map (spanAt ls on)) (EL_at hi') (b := spanAt ls on i) (by simp)
      rw [List.take_of_length_le (l := (List.range (i + 1)).map (spanAt ls on)) (by simp)] at this
      rw [this, ← List.map_take, List.take_range, Nat.min_eq_left (by omega)]
    rw [hs, ht]
    have hi2 := ih (by omega)
    cases hsp : spanAt ls on i with
    | true =>
      have hon : on.getD i false = true := by unfold spanAt at hsp; rw [Bool.and_eq_true] at hsp; exact hsp.1
      rw [if_pos rfl, hon, if_pos rfl, lab_snoc, lab_snoc, hi2]
    | false =>
      rw [if_neg (by simp), List.append_nil, hi2]
      cases hon : on.getD i false with
      | false => rw [if_neg (by simp), List.append_nil]
      | true =>
        rw [if_pos rfl, lab_snoc]
        unfold spanAt at hsp
        rw [hon, Bool.true_and, Bool.not_eq_false', beq_iff_eq] at hsp
        rw [joinL_same hsp]
theorem spanSt_islc {b : Int} {ls : List S79} {on : List Bool} (h : stOk b ls on = true) {i : Nat} (hi : i ≤ ls.length) : islc ls (spanSt ls on i) = lab (onE ((EL ls).take i) (on.take i)) := by
  rw [← spanSt_lab h i hi]
  unfold islc
  congr 1
  by_cases he : i = ls.length
  · subst he
    unfold spanSt
    rw [Nat.sub_self, List.replicate_zero, List.append_nil, List.take_of_length_le (by rw [EL_length]; exact Nat.le_refl _)]
  · have hi' : i < ls.length := by omega
    rw [onE_on hi' (spanSt_length hi)]
    have h1 : (spanSt ls on i).take i = (List.range i).map (spanAt ls on) := by unfold spanSt; rw [List.take_left' (by simp)]
    have h2 : (spanSt ls on i).getD i false = false := by
      unfold spanSt
      rw [List.getD_eq_getElem?_getD, List.getElem?_append_right (by simp)]
      simp [List.getElem?_replicate]
      split <;> rfl
    have h3 : (spanSt ls on i).drop (i + 1) = List.replicate (ls.length - i - 1) false := by
      unfold spanSt
      rw [List.drop_append]
      simp
    rw [h1, h2, h3, onE_falses]
    simp
theorem specSpan_l0 {b : Int} {ls : List S79} {on : List Bool} (h : stOk b ls on = true) : ∀ d i (acc : List Int), i + d = ls.length → acc.length + d ≤ 10 → Ev (fun k => spec_SpanningLines.l0 k on acc (spanSt ls on i) (i : Int) b ls) (acc ++ pickK (spanAt ls on) i d) := by
  obtain ⟨hn, hlen⟩ := stOk_net h
  have hk := netOk_len hn
  intro d
  induction d with
  | zero =>
    intro i acc hi _
    refine Ev.step (fun k => by rw [spec_SpanningLines.l0]) ?_
    refine Ev.neg (by omega) ?_
    refine Ev.step (fun k => by rw [spec_SpanningLines.j1]) ?_
    exact Ev.neg (by simp) (Ev.some (by rw [pickK_zero, List.append_nil]))
  | succ d ih =>
    intro i acc hi ha
    have hi' : i < ls.length := by omega
    have hok : stOk b ls (spanSt ls on i) = true := by
      simp only [stOk, Bool.and_eq_true, beq_iff_eq]
      exact ⟨hn, by rw [spanSt_length (by omega)]⟩
    have hs := specSame_ev b ls (spanSt ls on i) (ls.getD i z79).f0 (ls.getD i z79).f1 (by omega)
    rw [sameIsl_ends hok hi', spanSt_islc h (by omega)] at hs
    have hset : (spanSt ls on i).set i (spanAt ls on i) = spanSt ls on (i + 1) := by
      unfold spanSt
      rw [List.set_append_right _ _ (by simp), show ls.length - i = (ls.length - (i + 1)) + 1 by omega, List.replicate_succ, List.range_succ]
      simp
    have hsame : spanAt ls on i = false → spanSt ls on i = spanSt ls on (i + 1) := fun hf => by
      unfold spanSt
      rw [List.range_succ, List.map_append, List.map_cons, List.map_nil, hf, show ls.length - i = (ls.length - (i + 1)) + 1 by omega, List.replicate_succ]
      simp
    refine Ev.step (fun k => by rw [spec_SpanningLines.l0]) ?_
    refine Ev.pos (by omega) (Ev.then (specSt_ev b ls on (by omega)) ?_)
    rw [h]
    refine Ev.step (fun k => by rw [spec_SpanningLines.j1]) ?_
    refine Ev.pos rfl (Ev.pos (by omega) (Ev.pos (by omega) ?_))
    rw [rdOf_nat, w1 i (by omega), show rd_T79 ls (i : Int) = ls.getD i z79 from rfl]
    have hno : spanAt ls on i = false → Ev (fun k => spec_SpanningLines.l0 k on acc (spanSt ls on i) ((i + 1 : Nat) : Int) b ls) (acc ++ pickK (spanAt ls on) i (d + 1)) := fun hc => by
      rw [pickK_no hc, hsame hc]
      exact ih (i + 1) acc (by omega) (by omega)
    refine Ev.ite (fun h1 => Ev.pos (by omega) (Ev.then hs (Ev.ite (fun h2 => hno ?_) (fun h2 => Ev.pos (by rw [spanSt_length (by omega)]; omega) (Ev.pos (by omega) ?_))))) (fun h1 => hno ?_)
    · unfold spanAt; rw [h1, h2]; rfl
    · have hsp : spanAt ls on i = true := by unfold spanAt; rw [h1]; rw [Bool.not_eq_true] at h2; rw [h2]; rfl
      rw [pickK_yes hsp, Int.toNat_natCast, show (spanSt ls on i).set i true = spanSt ls on (i + 1) by rw [← hset, hsp]]
      have := ih (i + 1) (acc ++ [(i : Int)]) (by omega) (by simp; omega)
      simpa using this
    · unfold spanAt; rw [Bool.not_eq_true] at h1; rw [h1]; rfl
theorem specSpan_ev (b : Int) (ls : List S79) (on : List Bool) (hls : ls.length < 4611686018427387904) (hon : on.length ≤ 1048576) : Ev (fun k => spec_SpanningLines.f k b ls on) (spanLines b ls on) := by
  unfold spanLines
  refine Ev.pos (by omega) (Ev.pos (by omega) ?_)
  by_cases h : stOk b ls on = true
  · rw [if_pos h]
    obtain ⟨hn, hlen⟩ := stOk_net h
    have hk := netOk_len hn
    have := specSpan_l0 h ls.length 0 [] (by omega) (by simpa using hk.1)
    rw [show spanSt ls on 0 = List.replicate ((on.length : Int)).toNat false by simp [spanSt, hlen]] at this
    exact this
  · rw [if_neg h]
    rw [Bool.not_eq_true] at h
    refine Ev.step (fun k => by rw [spec_SpanningLines.l0]) ?_
    refine Ev.ite (fun _ => Ev.then (specSt_ev b ls on hls) ?_) (fun _ => ?_)
    · rw [h]
      refine Ev.step (fun k => by rw [spec_SpanningLines.j1]) ?_
      exact Ev.neg (by simp) (Ev.some rfl)
    · refine Ev.step (fun k => by rw [spec_SpanningLines.j1]) ?_
      exact Ev.neg (by simp) (Ev.some rfl)
end Go.Proofs.YtpgjgbjkfgbpaaaDoor.P
namespace Go.Proofs.YtpgjgbjkfgbpaaaDoor.P
open Go.RowKit Go.Proofs.YtpgjgbjkfgbpaaaDoorW.PrintWords Go.Proofs.YtpgjgbjkfgbpaaaDoorW.PrintLast Go.Proofs.YtpgjgbjkfgbpaaaDoorW.PrintMore
/-- From some number of rounds on it answers, and the answer has a property. -/
def EvP {α : Type} (g : Nat → Option α) (P : α → Prop) : Prop := ∃ x, Ev g x ∧ P x
theorem EvP.then {α β : Type} {g : Nat → Option α} {f : Nat → α → Option β} {P : α → Prop} {Q : β → Prop} (h : EvP g P) (k : ∀ x, P x → EvP (fun n => f n x) Q) : EvP (fun n => (g n).bind fun x => f n x) Q := by
  obtain ⟨x, hx, hp⟩ := h
  obtain ⟨y, hy, hq⟩ := k x hp
  exact ⟨y, Ev.then hx hy, hq⟩
theorem EvP.thenE {α β : Type} {g : Nat → Option α} {f : Nat → α → Option β} {a : α} {Q : β → Prop} (h : Ev g a) (k : EvP (fun n => f n a) Q) : EvP (fun n => (g n).bind fun x => f n x) Q := by
  obtain ⟨y, hy, hq⟩ := k
  exact ⟨y, Ev.then h hy, hq⟩
theorem EvP.thenC {α β : Type} {g : Option α} {f : Nat → α → Option β} {a : α} {Q : β → Prop} (h : g = Option.some a) (k : EvP (fun n => f n a) Q) : EvP (fun n => g.bind fun x => f n x) Q := by
  obtain ⟨y, hy, hq⟩ := k
  exact ⟨y, Ev.thenC h hy, hq⟩
theorem EvP.ite {α : Type} {c : Prop} [Decidable c] {a b : Nat → Option α} {Q : α → Prop} (h1 : c → EvP a Q) (h2 : ¬ c → EvP b Q) : EvP (fun k => if c then a k else b k) Q := by
  by_cases hc : c
  · obtain ⟨y, hy, hq⟩ := h1 hc
    exact ⟨y, Ev.pos hc hy, hq⟩
  · obtain ⟨y, hy, hq⟩ := h2 hc
    exact ⟨y, Ev.neg hc hy, hq⟩
theorem EvP.pos {α : Type} {c : Prop} [Decidable c] {a b : Nat → Option α} {Q : α → Prop} (hc : c) (h1 : EvP a Q) : EvP (fun k => if c then a k else b k) Q := EvP.ite (fun _ => h1) fun h => absurd hc h
theorem EvP.neg {α : Type} {c : Prop} [Decidable c] {a b : Nat → Option α} {Q : α → Prop} (hc : ¬ c) (h1 : EvP b Q) : EvP (fun k => if c then a k else b k) Q := EvP.ite (fun h => absurd h hc) fun _ => h1
theorem EvP.some {α : Type} {r : α} {Q : α → Prop} (h : Q r) : EvP (fun _ => Option.some r) Q := ⟨r, Ev.some rfl, h⟩
theorem EvP.step {α : Type} {g f : Nat → Option α} {Q : α → Prop} (h : ∀ k, g (k + 1) = f k) (k : EvP f Q) : EvP g Q := by
  obtain ⟨y, hy, hq⟩ := k
  exact ⟨y, Ev.step h hy, hq⟩
theorem EvP.mono {α : Type} {g : Nat → Option α} {P Q : α → Prop} (h : EvP g P) (k : ∀ x, P x → Q x) : EvP g Q := by
  obtain ⟨y, hy, hq⟩ := h
  exact ⟨y, hy, k y hq⟩
theorem EvP.ev {α : Type} {g : Nat → Option α} {r : α} (h : EvP g (· = r)) : Ev g r := by
  obtain ⟨y, hy, rfl⟩ := h
  exact hy
theorem Ev.p {α : Type} {g : Nat → Option α} {r : α} {P : α → Prop} (h : Ev g r) (hp : P r) : EvP g P := ⟨r, h, hp⟩

/-- A code's bytes. -/
def Bytes (b : List Int) : Prop := ∀ z ∈ b, 0 ≤ z ∧ z ≤ 255
theorem Bytes.rd {b : List Int} (h : Bytes b) (i : Int) : 0 ≤ rd b i ∧ rd b i ≤ 255 := by
  unfold Go.Proofs.YtpgjgbjkfgbpaaaDoorW.PrintWords.rd
  rw [List.getD_eq_getElem?_getD]
  cases hi : b[i.toNat]? with
  | none => simp
  | some z => exact h z (List.mem_of_getElem? hi)
theorem bv_nat {x : Int} (h0 : 0 ≤ x) (h1 : x < 9223372036854775808) : (BitVec.ofInt 64 x).toNat = x.toNat := by
  rw [BitVec.toNat_ofInt]
  have : x % ((2 ^ 64 : Nat) : Int) = x := Int.emod_eq_of_lt h0 (by omega)
  rw [this]
theorem xor_nonneg {x y : Int} (hx : 0 ≤ x) (hx' : x < 9223372036854775808) (hy : 0 ≤ y) (hy' : y < 9223372036854775808) : 0 ≤ Go.bits .xor .i64 x y := by
  have h : ((BitVec.ofInt 64 x) ^^^ (BitVec.ofInt 64 y)).toNat < 2 ^ 63 := by
    rw [BitVec.toNat_xor, bv_nat hx hx', bv_nat hy hy']
    exact Nat.xor_lt_two_pow (by omega) (by omega)
  have e : Go.bits .xor .i64 x y = IntKind.wrap .i64 (((BitVec.ofInt 64 x) ^^^ (BitVec.ofInt 64 y)).toNat : Int) := rfl
  have e2 : ∀ m : Int, IntKind.wrap .i64 m = if m % 18446744073709551616 ≥ 9223372036854775808 then m % 18446744073709551616 - 18446744073709551616 else m % 18446744073709551616 := by
    intro m
    simp [IntKind.wrap, IntKind.bits, IntKind.signed]
  rw [e, e2]
  generalize ((BitVec.ofInt 64 x) ^^^ (BitVec.ofInt 64 y)).toNat = n at h
  split <;> omega
theorem tmod_lo {x n : Int} (h : 0 ≤ x) : 0 ≤ Int.tmod x n := Int.tmod_nonneg n h
theorem tmod_hi {x n : Int} (h : 1 ≤ n) (_h0 : 0 ≤ x) : Int.tmod x n < n := Int.tmod_lt_of_pos x (by omega)
theorem tdiv_lo {x n : Int} (h : 0 ≤ x) (hn : 0 ≤ n) : 0 ≤ Int.tdiv x n := Int.tdiv_nonneg h hn
theorem tdiv_hi {x n : Int} (h : 0 ≤ x) (hn : 0 ≤ n) : Int.tdiv x n ≤ x := by
  rw [Int.tdiv_eq_ediv_of_nonneg h]
  exact Int.ediv_le_self n h
theorem pick_p {b : List Int} (hb : Bytes b) (hl : b.length ≤ 2000) {p : Int} (hp : 0 ≤ p) (hp' : p ≤ 1000000) (n : Int) : EvP (fun k => spec_l20Rd_pick.f k b p n) fun x => 0 ≤ x.1 ∧ (1 ≤ n → x.1 < n) ∧ (n < 1 → x.1 = 0) ∧ x.2 = p + 1 := by
  have hw : wrap64 (p + 1) = p + 1 := wp _ (by omega) (by omega)
  have h0 : EvP (fun k => spec_l20Rd_pick.j0 k n true b (p + 1)) fun x => 0 ≤ x.1 ∧ (1 ≤ n → x.1 < n) ∧ (n < 1 → x.1 = 0) ∧ x.2 = p + 1 := by
    refine EvP.step (fun k => by rw [spec_l20Rd_pick.j0]) ?_
    exact EvP.pos rfl (EvP.some ⟨by simp, fun h => by simp; omega, fun _ => rfl, rfl⟩)
  unfold spec_l20Rd_pick.f
  rw [hw]
  refine EvP.ite (fun _ => h0) fun hn => ?_
  by_cases he : b.length = 0
  · rw [show ((b.length : Int) == 0) = true by simp [he]]
    exact h0
  rw [show ((b.length : Int) == 0) = false from beq_eq_false_iff_ne.2 (by omega)]
  refine EvP.step (fun k => by rw [spec_l20Rd_pick.j0]) ?_
  have hw2 : wrap64 (p + 1 - 1) = p := by rw [wp _ (by omega) (by omega)]; omega
  have hw3 : wrap64 (p * 7) = p * 7 := wp _ (by omega) (by omega)
  have hw4 : wrap64 (p * 7 + 3) = p * 7 + 3 := wp _ (by omega) (by omega)
  have a1 : 0 ≤ Int.tmod p (b.length : Int) := tmod_lo hp
  have a2 : Int.tmod p (b.length : Int) < (b.length : Int) := tmod_hi (by omega) hp
  have a3 : 0 ≤ Int.tmod (p * 7 + 3) (b.length : Int) := tmod_lo (by omega)
  have a4 : Int.tmod (p * 7 + 3) (b.length : Int) < (b.length : Int) := tmod_hi (by omega) (by omega)
  have a5 := tdiv_lo (n := (b.length : Int)) hp (by omega)
  have a6 := tdiv_hi (n := (b.length : Int)) hp (by omega)
  refine EvP.neg (by simp) ?_
  rw [hw2]
  refine EvP.ite (fun hlt => EvP.pos hp (EvP.neg (by omega) (EvP.some ?_))) (fun _ => EvP.neg (by omega) (EvP.pos a1 (EvP.pos a2 ?_)))
  · have := hb.rd p
    rw [wp _ (by omega) (by omega)]
    exact ⟨tmod_lo this.1, fun h => tmod_hi h this.1, fun h => absurd h hn, rfl⟩
  rw [hw3, hw4]
  refine EvP.pos a3 (EvP.pos a4 (EvP.neg (by omega) (EvP.some ?_)))
  have r1 := hb.rd (Int.tmod p (b.length : Int))
  have r2 := hb.rd (Int.tmod (p * 7 + 3) (b.length : Int))
  generalize Int.tdiv p (b.length : Int) = q at a5 a6
  generalize rd b (Int.tmod p (b.length : Int)) = x1 at r1
  generalize rd b (Int.tmod (p * 7 + 3) (b.length : Int)) = x2 at r2
  rw [wp x1 (by omega) (by omega), wp x2 (by omega) (by omega), wp (x1 * 131) (by omega) (by omega), wp (x2 * 1117) (by omega) (by omega), wp (x1 * 131 + x2 * 1117) (by omega) (by omega), wp (p * 29) (by omega) (by omega), wp (x1 * 131 + x2 * 1117 + p * 29) (by omega) (by omega), wp q (by omega) (by omega), wp (q * 53) (by omega) (by omega), wp (x1 * 131 + x2 * 1117 + p * 29 + q * 53) (by omega) (by omega)]
  have s0 : 0 ≤ x1 * 131 + x2 * 1117 + p * 29 + q * 53 := by omega
  have s1 : x1 * 131 + x2 * 1117 + p * 29 + q * 53 < 1000000000 := by omega
  generalize x1 * 131 + x2 * 1117 + p * 29 + q * 53 = s at s0 s1
  have d0 := tdiv_lo (n := 64) s0 (by omega)
  have d1 := tdiv_hi (n := 64) s0 (by omega)
  rw [wp (Int.tdiv s 64) (by omega) (by omega)]
  have hx := xor_nonneg (x := s) (y := Int.tdiv s 64) s0 (by omega) d0 (by omega)
  exact ⟨tmod_lo hx, fun h => tmod_hi h hx, fun h => absurd h hn, rfl⟩
theorem odd_p {b : List Int} (hb : Bytes b) (hl : b.length ≤ 2000) {p : Int} (hp : 0 ≤ p) (hp' : p ≤ 1000000) (n : Int) : EvP (fun k => spec_l20Rd_odd.f k b p n) fun x => p ≤ x.2 ∧ x.2 ≤ p + 1 ∧ (n ≤ 0 → x.1 = false) := by
  unfold spec_l20Rd_odd.f
  exact EvP.ite (fun h => EvP.then (pick_p hb hl hp hp' n) fun x hx => EvP.some ⟨by simp; omega, by simp; omega, fun h' => by omega⟩) fun h => EvP.some ⟨by simp, by simp; omega, fun _ => rfl⟩
theorem open_p {c : List Int} (hb : Bytes c) : ∃ b, spec_l20Open.f c = some (b, 0) ∧ Bytes b ∧ b.length ≤ 2000 := by
  unfold spec_l20Open.f
  by_cases h : (c.length : Int) > 2000
  · rw [if_pos h, if_pos (by omega)]
    exact ⟨_, rfl, fun z hz => hb z (List.mem_of_mem_take hz), by simp; omega⟩
  · rw [if_neg h]
    exact ⟨_, rfl, hb, by omega⟩
/-- What is known of a network that is drawn, and of the place in the code behind it. -/
def NetP (p m : Int) (x : Int × List S79 × Int) : Prop := -1 ≤ x.1 ∧ x.1 ≤ 9 ∧ x.2.1.length ≤ 11 ∧ p ≤ x.2.2 ∧ x.2.2 ≤ p + m
theorem net_end {b : List Int} (hb : Bytes b) (hl : b.length ≤ 2000) (n c : Int) {p B : Int} {L : List S79} (hp : 0 ≤ p) (hp' : p ≤ 100000) (hB : 1 ≤ B ∧ B ≤ 8) (hL : L.length ≤ 10) : EvP (fun k => spec_l20Net.j2 k n c false b p B L) (NetP p 3) := by
  refine EvP.step (fun k => by rw [spec_l20Net.j2]) ?_
  refine EvP.neg (by simp) (EvP.then (odd_p hb hl hp (by omega) n) fun x hx => EvP.ite (fun _ => EvP.then (pick_p hb hl (by omega) (by omega) 5) fun y hy => ?_) (fun _ => EvP.some ?_))
  · refine EvP.ite (fun _ => EvP.thenC rfl (EvP.then (pick_p hb hl (by omega) (by omega) 3) fun z hz => EvP.pos hz.1 (EvP.pos (by have := hz.2.1 (by omega); simp; omega) (EvP.some ?_)))) (fun _ => EvP.ite (fun _ => EvP.pos (by omega) (EvP.some ?_)) (fun _ => EvP.ite (fun _ => EvP.pos (by omega) (EvP.some ?_)) (fun _ => EvP.ite (fun _ => EvP.thenC rfl (EvP.then (pick_p hb hl (by omega) (by omega) 2) fun z hz => EvP.pos hz.1 (EvP.pos (by have := hz.2.1 (by omega); simp; omega) (EvP.pos (by omega) (EvP.some ?_))))) (fun _ => EvP.pos (by omega) (EvP.some ?_)))))
    · have h3 := hz.2.1 (by omega)
      have h0 := hz.1
      have : z.1 = 0 ∨ z.1 = 1 ∨ z.1 = 2 := by omega
      refine ⟨?_, ?_, by simp; omega, by simp; omega, by simp; omega⟩ <;> rcases this with h | h | h <;> rw [h] <;> simp [Go.Proofs.YtpgjgbjkfgbpaaaDoorW.PrintWords.rd]
    all_goals exact ⟨by simp; omega, by simp; omega, by simp; try omega, by simp; omega, by simp; omega⟩
  · exact ⟨by simp; omega, by simp; omega, by simp; omega, by simp; omega, by simp; omega⟩
theorem net_loop {b : List Int} (hb : Bytes b) (hl : b.length ≤ 2000) (n : Int) {B : Int} (hB : 1 ≤ B ∧ B ≤ 8) : ∀ (d : Nat) (p : Int) (L : List S79), 0 ≤ p → p + 3 * d ≤ 50000 → L.length + d ≤ 10 → EvP (fun k => spec_l20Net.l0 k n (d : Int) b p B L) (NetP p (3 * d + 3)) := by
  intro d
  induction d with
  | zero =>
    intro p L hp hp' hL
    refine EvP.step (fun k => by rw [spec_l20Net.l0]) ?_
    exact EvP.neg (by omega) ((net_end hb hl n _ hp (by omega) hB (by omega)).mono fun x hx => ⟨hx.1, hx.2.1, hx.2.2.1, hx.2.2.2.1, by have := hx.2.2.2.2; omega⟩)
  | succ d ih =>
    intro p L hp hp' hL
    refine EvP.step (fun k => by rw [spec_l20Net.l0]) ?_
    refine EvP.pos (by omega) ?_
    by_cases h1 : B > 1
    · rw [decide_eq_true h1]
      refine EvP.step (fun k => by rw [spec_l20Net.j2]) ?_
      refine EvP.pos rfl (EvP.then (pick_p hb hl hp (by omega) B) fun x hx => EvP.then (pick_p hb hl (by omega) (by omega) _) fun y hy => EvP.neg (by omega) (EvP.then (pick_p hb hl (by omega) (by omega) 40) fun z hz => EvP.pos (by omega) ?_))
      rw [show wrap64 (((d + 1 : Nat) : Int) - 1) = (d : Int) by rw [wp _ (by omega) (by omega)]; omega]
      exact (ih z.2 _ (by omega) (by omega) (by simp; omega)).mono fun x hx => ⟨hx.1, hx.2.1, hx.2.2.1, by have := hx.2.2.2; omega, by have := hx.2.2.2; omega⟩
    · rw [decide_eq_false h1]
      exact ((net_end hb hl n _ hp (by omega) hB (by omega)).mono fun x hx => ⟨hx.1, hx.2.1, hx.2.2.1, hx.2.2.2.1, by have := hx.2.2.2.2; omega⟩)
theorem net_p {b : List Int} (hb : Bytes b) (hl : b.length ≤ 2000) (n : Int) {p : Int} (hp : 0 ≤ p) (hp' : p ≤ 10000) : EvP (fun k => spec_l20Net.f k b p n) (NetP p 60) := by
  have go : ∀ q B : Int, p ≤ q → q ≤ p + 3 → 1 ≤ B ∧ B ≤ 8 → EvP (fun k => spec_l20Net.j0 k n b q B) (NetP p 60) := fun q B h1 h2 hB => by
    refine EvP.step (fun k => by rw [spec_l20Net.j0]) ?_
    refine EvP.then (pick_p hb hl (by omega) (by omega) 11) fun x hx => ?_
    have h3 := hx.2.1 (by omega)
    obtain ⟨d, hd⟩ : ∃ d : Nat, x.1 = (d : Int) := ⟨x.1.toNat, by omega⟩
    rw [hd]
    exact (net_loop hb hl n hB d x.2 [] (by omega) (by omega) (by simp; omega)).mono fun y hy => ⟨hy.1, hy.2.1, hy.2.2.1, by have := hy.2.2.2; omega, by have := hy.2.2.2; omega⟩
  refine EvP.then (pick_p hb hl hp (by omega) 8) fun x hx => EvP.then (pick_p hb hl (by omega) (by omega) 3) fun y hy => EvP.ite (fun _ => EvP.then (pick_p hb hl (by omega) (by omega) 4) fun z hz => ?_) (fun _ => ?_)
  · have := hz.2.1 (by omega)
    exact go _ _ (by omega) (by omega) (by rw [wp _ (by omega) (by omega)]; omega)
  · have := hx.2.1 (by omega)
    exact go _ _ (by omega) (by omega) (by rw [wp _ (by omega) (by omega)]; omega)
/-- What is known of a list of truths that is drawn, and of the place behind it. -/
def StP (p m : Int) (n : Nat) (x : List Bool × Int) : Prop := n ≤ x.1.length ∧ x.1.length ≤ n + 1 ∧ p ≤ x.2 ∧ x.2 ≤ p + m
theorem state_loop {b : List Int} (hb : Bytes b) (hl : b.length ≤ 2000) (n many : Int) (B : Int) {L : List S79} (hL : L.length ≤ 11) : ∀ (d i : Nat) (p : Int) (l : List Bool), i + d = L.length → l.length = i → 0 ≤ p → p + d ≤ 50000 → EvP (fun k => spec_l20State.l0 k n l many (i : Int) b p B L) fun x => StP p (d + 1) L.length x ∧ (n ≤ 0 → x.1.length = L.length) := by
  intro d
  induction d with
  | zero =>
    intro i p l hi hll hp hp'
    refine EvP.step (fun k => by rw [spec_l20State.l0]) ?_
    refine EvP.neg (by omega) (EvP.then (odd_p hb hl hp (by omega) n) fun x hx => EvP.ite (fun hx1 => EvP.pos (by omega) (EvP.some ⟨⟨by simp; omega, by simp; omega, by simp; omega, by simp; omega⟩, fun hn => ?_⟩)) (fun _ => EvP.some ⟨⟨by simp; omega, by simp; omega, by simp; omega, by simp; omega⟩, fun hn => by simp; omega⟩))
    rw [hx.2.2 hn] at hx1
    cases hx1
  | succ d ih =>
    intro i p l hi hll hp hp'
    refine EvP.step (fun k => by rw [spec_l20State.l0]) ?_
    refine EvP.pos (by omega) (EvP.then (pick_p hb hl hp (by omega) 4) fun x hx => EvP.pos (by omega) ?_)
    rw [w1 i (by omega)]
    refine (ih (i + 1) x.2 _ (by omega) (by simp; omega) (by omega) (by omega)).mono fun y hy => ?_
    obtain ⟨⟨h1, h2, h3, h4⟩, h5⟩ := hy
    exact ⟨⟨h1, h2, by omega, by omega⟩, h5⟩
theorem state_p {b : List Int} (hb : Bytes b) (hl : b.length ≤ 2000) (n : Int) (B : Int) {L : List S79} (hL : L.length ≤ 11) {p : Int} (hp : 0 ≤ p) (hp' : p ≤ 40000) : EvP (fun k => spec_l20State.f k b p B L n) fun x => StP p 20 L.length x ∧ (n ≤ 0 → x.1.length = L.length) := by
  refine EvP.then (pick_p hb hl hp (by omega) 4) fun x hx => ?_
  refine (state_loop hb hl n _ B hL L.length 0 x.2 [] (by omega) rfl (by omega) (by omega)).mono fun y hy => ?_
  obtain ⟨⟨h1, h2, h3, h4⟩, h5⟩ := hy
  exact ⟨⟨h1, h2, by omega, by omega⟩, h5⟩
/-- What is known of a network and a state that are drawn. -/
def SwP (x : Int × List S79 × List Bool) : Prop := -1 ≤ x.1 ∧ x.1 ≤ 9 ∧ x.2.1.length ≤ 11 ∧ x.2.2.length ≤ 12
theorem switched_p {b : List Int} (hb : Bytes b) (hl : b.length ≤ 2000) (n : Int) {p : Int} (hp : 0 ≤ p) (hp' : p ≤ 5000) : EvP (fun k => spec_l20Switched.f k b p n) fun x => SwP (x.1, x.2.1, x.2.2.1) ∧ p ≤ x.2.2.2 ∧ x.2.2.2 ≤ p + 80 := by
  refine EvP.then (net_p hb hl _ hp (by omega)) fun x hx => ?_
  obtain ⟨x1, x2, x3, x4, x5⟩ := hx
  refine EvP.then (state_p hb hl _ _ x3 (by omega) (by omega)) fun y hy => EvP.some ?_
  obtain ⟨⟨h1, h2, h3, h4⟩, h5⟩ := hy
  exact ⟨⟨by simpa using x1, by simpa using x2, by simpa using x3, by simp; omega⟩, by simp; omega, by simp; omega⟩
end Go.Proofs.YtpgjgbjkfgbpaaaDoor.P
namespace Go.Proofs.YtpgjgbjkfgbpaaaDoor.P
open Go.RowKit Go.Proofs.YtpgjgbjkfgbpaaaDoorW.PrintWords Go.Proofs.YtpgjgbjkfgbpaaaDoorW.PrintLast Go.Proofs.YtpgjgbjkfgbpaaaDoorW.PrintMore

theorem other2 : otherEnd 2 [(⟨0, 1, 1⟩ : S79)] 0 0 = 1 := by decide
theorem netNil : netOk 0 ([] : List S79) = false := by decide
theorem alive_ev : Ev (fun k => laws_alive.f k) true := by
  have h := implOther_ev 2 [(⟨0, 1, 1⟩ : S79)] 0 0
  rw [other2] at h
  have hn := implNet_ev 0 ([] : List S79)
  rw [netNil] at hn
  exact Ev.then h (Ev.pos rfl (Ev.then (Ev.then hn (Ev.neg (by simp) (Ev.some rfl))) (Ev.some (by rw [ByteArray.toList, ByteArray.toList.loop]; simp [ByteArray.size]))))
theorem sameI_l0 (l : List Int) (hl : l.length < 4611686018427387904) : ∀ d i, i + d = l.length → Ev (fun k => laws_sameInts.l0 k l l (i : Int)) true := by
  intro d
  induction d with
  | zero =>
    intro i hi
    refine Ev.step (fun k => by rw [laws_sameInts.l0]) ?_
    exact Ev.neg (by omega) (Ev.some rfl)
  | succ d ih =>
    intro i hi
    refine Ev.step (fun k => by rw [laws_sameInts.l0]) ?_
    refine Ev.pos (by omega) (Ev.pos (by omega) (Ev.pos (by omega) (Ev.pos rfl ?_)))
    rw [w1 i (by omega)]
    exact ih (i + 1) (by omega)
theorem sameI_ev (l : List Int) (hl : l.length < 4611686018427387904) : Ev (fun k => laws_sameInts.f k l l) true := Ev.pos rfl (sameI_l0 l hl l.length 0 (by omega))
theorem asc_l0 (l : List Int) (hl : l.length < 4611686018427387904) (h : ∀ i, i + 1 < l.length → l.getD i 0 < l.getD (i + 1) 0) : ∀ d i, i + 1 + d = l.length → Ev (fun k => laws_ascend.l0 k l ((i + 1 : Nat) : Int)) true := by
  intro d
  induction d with
  | zero =>
    intro i hi
    refine Ev.step (fun k => by rw [laws_ascend.l0]) ?_
    exact Ev.neg (by omega) (Ev.some rfl)
  | succ d ih =>
    intro i hi
    have hw : wrap64 (((i + 1 : Nat) : Int) - 1) = (i : Int) := by rw [wp _ (by omega) (by omega)]; omega
    refine Ev.step (fun k => by rw [laws_ascend.l0]) ?_
    rw [hw, w1 (i + 1) (by omega), rd_nat, rd_nat]
    have := h i (by omega)
    exact Ev.pos (by omega) (Ev.pos (by omega) (Ev.pos (by omega) (Ev.pos (by omega) (Ev.neg (by omega) (ih (i + 1) (by omega))))))
theorem asc_ev (l : List Int) (hl : l.length < 4611686018427387904) (h : ∀ i, i + 1 < l.length → l.getD i 0 < l.getD (i + 1) 0) : Ev (fun k => laws_ascend.f k l) true := by
  by_cases h0 : l.length = 0
  · refine Ev.step (fun k => by rw [laws_ascend.f, laws_ascend.l0]) ?_
    exact Ev.neg (by omega) (Ev.some rfl)
  · exact asc_l0 l hl h (l.length - 1) 0 (by omega)
theorem asc_of (l : List Int) (h : l.Pairwise (· < ·)) : ∀ i, i + 1 < l.length → l.getD i 0 < l.getD (i + 1) 0 := by
  intro i hi
  rw [getD_at (show i < l.length by omega), getD_at hi]
  exact List.pairwise_iff_getElem.1 h i (i + 1) _ _ (by omega)
theorem pickK_asc (p : Nat → Bool) (i d : Nat) : (pickK p i d).Pairwise (· < ·) := by
  unfold pickK
  rw [List.pairwise_map]
  exact (List.Pairwise.filter p List.pairwise_lt_range').imp fun h => by omega
theorem pickK_mem (p : Nat → Bool) (i d : Nat) (x : Int) : x ∈ pickK p i d ↔ ∃ k : Nat, x = (k : Int) ∧ i ≤ k ∧ k < i + d ∧ p k = true := by
  unfold pickK
  simp only [List.mem_map, List.mem_filter, List.mem_range'_1]
  constructor
  · rintro ⟨k, ⟨⟨h1, h2⟩, h3⟩, rfl⟩
    exact ⟨k, rfl, h1, h2, h3⟩
  · rintro ⟨k, rfl, h1, h2, h3⟩
    exact ⟨k, ⟨⟨h1, h2⟩, h3⟩, rfl⟩

end Go.Proofs.YtpgjgbjkfgbpaaaDoor.P
namespace Go.Proofs.YtpgjgbjkfgbpaaaDoor.P
open Go.RowKit Go.Proofs.YtpgjgbjkfgbpaaaDoorW.PrintWords Go.Proofs.YtpgjgbjkfgbpaaaDoorW.PrintLast Go.Proofs.YtpgjgbjkfgbpaaaDoorW.PrintMore
open Go.Proofs.YtpgjgbjkfgbpaaaDoorM

def isleAt (c : Nat → Nat) (n : Nat) (x : Nat) : List Int := pickK (fun k => c k == c x) 0 n
def islesK (c : Nat → Nat) (n i d : Nat) : List (List Int) := ((List.range' i d).filter fun x => c x == x).map (isleAt c n)
theorem islesK_zero (c : Nat → Nat) (n i : Nat) : islesK c n i 0 = [] := rfl
theorem islesK_yes {c : Nat → Nat} {n i d : Nat} (h : c i = i) : islesK c n i (d + 1) = isleAt c n i :: islesK c n (i + 1) d := by
  simp [islesK, List.range'_succ, h]
theorem islesK_no {c : Nat → Nat} {n i d : Nat} (h : ¬ c i = i) : islesK c n i (d + 1) = islesK c n (i + 1) d := by
  simp [islesK, List.range'_succ, h]
def islesOf (b : Int) (ls : List S79) (on : List Bool) : List (List Int) := if stOk b ls on = true then islesK (islc ls on) b.toNat 0 b.toNat else []
theorem implOf_l0 {c : Nat → Nat} {n : Nat} (hn : n ≤ 8) : ∀ d i (u : List Int) (acc : List (List Int)), i + d = n → acc.length + d ≤ 8 → Rep u c n → Ev (fun k => impl_IslandsOf.l0 k u acc (n : Int) (i : Int)) (acc ++ islesK c n i d) := by
  intro d
  induction d with
  | zero =>
    intro i u acc hi _ hr
    refine Ev.step (fun k => by rw [impl_IslandsOf.l0]) ?_
    exact Ev.neg (by omega) (Ev.some (by rw [islesK_zero, List.append_nil]))
  | succ d ih =>
    intro i u acc hi ha hr
    obtain ⟨u1, h1, e1⟩ := find_ev hr (show i < n by omega)
    by_cases hc : c i = i
    · obtain ⟨u2, h2, e2⟩ := members_ev hn h1 (show i < n by omega)
      refine Ev.step (fun k => by rw [impl_IslandsOf.l0]) ?_
      refine Ev.pos (by omega) (Ev.then e1 (Ev.pos (by show ((c i : Nat) : Int) = (i : Int); rw [hc]) (Ev.then e2 (Ev.pos (by omega) ?_))))
      rw [w1 i (by omega), islesK_yes hc]
      have := ih (i + 1) u2 (acc ++ [isleAt c n i]) (by omega) (by simp; omega) h2
      rw [List.append_assoc] at this
      exact this
    · refine Ev.step (fun k => by rw [impl_IslandsOf.l0]) ?_
      refine Ev.pos (by omega) (Ev.then e1 (Ev.neg (by show ¬ ((c i : Nat) : Int) = (i : Int); omega) ?_))
      rw [w1 i (by omega), islesK_no hc]
      exact ih (i + 1) u1 acc (by omega) (by omega) h1
theorem implOf_ev (b : Int) (ls : List S79) (on : List Bool) : Ev (fun k => impl_IslandsOf.f k b ls on) (islesOf b ls on) := by
  unfold islesOf
  refine Ev.then (implSt_ev b ls on) (Ev.ite (fun h => ?_) (fun h => Ev.some ?_))
  · rw [if_pos h]
    have hk := netOk_len (stOk_net h).1
    obtain ⟨u, hu, eu⟩ := unionOf_ev h
    refine Ev.then eu ?_
    have := implOf_l0 (show b.toNat ≤ 8 by omega) b.toNat 0 u [] (by omega) (by simp; omega) hu
    rw [Int.toNat_of_nonneg (show 0 ≤ b by omega)] at this
    exact this
  · rw [if_neg h]
theorem islesK_len (c : Nat → Nat) (n : Nat) : (islesK c n 0 n).length = roots n c := by
  unfold islesK roots
  rw [List.length_map, List.range_eq_range']
end Go.Proofs.YtpgjgbjkfgbpaaaDoor.P
namespace Go.Proofs.YtpgjgbjkfgbpaaaDoor.P
open Go.RowKit Go.Proofs.YtpgjgbjkfgbpaaaDoorW.PrintWords Go.Proofs.YtpgjgbjkfgbpaaaDoorW.PrintLast Go.Proofs.YtpgjgbjkfgbpaaaDoorW.PrintMore
open Go.Proofs.YtpgjgbjkfgbpaaaDoorM

theorem SwP.small {x : Int × List S79 × List Bool} (h : SwP x) : x.2.1.length ≤ 11 ∧ x.2.2.length ≤ 12 := ⟨h.2.2.1, h.2.2.2⟩
theorem islands_ev {b : Int} {ls : List S79} {on : List Bool} (h : stOk b ls on = true) : Ev (fun k => laws_islands.f k b ls on) ((roots b.toNat (islc ls on) : Nat) : Int) := by
  refine Ev.then (implOf_ev b ls on) (Ev.some ?_)
  unfold islesOf
  rw [if_pos h, islesK_len]
theorem roots_le (n : Nat) (c : Nat → Nat) : roots n c ≤ n := by
  unfold roots
  refine Nat.le_trans (List.length_filter_le _ _) ?_
  rw [List.length_range]
  exact Nat.le_refl _
theorem in_lines {b : Int} {ls : List S79} (hn : netOk b ls = true) (on : List Bool) : In b.toNat (onE (EL ls) on) := by
  refine onE_in (fun e he => ?_) on
  unfold EL at he
  rw [List.mem_map] at he
  obtain ⟨x, hx, rfl⟩ := he
  obtain ⟨j, hj⟩ := List.getElem?_of_mem hx
  have hjl : j < ls.length := (List.getElem?_eq_some_iff.1 hj).1
  have := netOk_line hn hjl
  rw [List.getD_eq_getElem?_getD, hj] at this
  simp only [Option.getD_some] at this
  unfold ends
  exact ⟨by show x.f0.toNat < b.toNat; omega, by show x.f1.toNat < b.toNat; omega⟩
end Go.Proofs.YtpgjgbjkfgbpaaaDoor.P
namespace Go.Proofs.YtpgjgbjkfgbpaaaDoor.P
open Go.RowKit Go.Proofs.YtpgjgbjkfgbpaaaDoorW.PrintWords Go.Proofs.YtpgjgbjkfgbpaaaDoorW.PrintLast Go.Proofs.YtpgjgbjkfgbpaaaDoorW.PrintMore
open Go.Proofs.YtpgjgbjkfgbpaaaDoorM

theorem linesW2 {σ : Type} {P : Nat → σ → Int → Option (Bool × σ)} {Rel : Nat → σ → Prop} {p : Nat → Bool} {n : Nat} (hn : n ≤ 10) (hstep : ∀ i s, i < n → Rel i s → ∃ s', Rel (i + 1) s' ∧ Ev (fun k => P k s (i : Int)) (p i, s')) :
    ∀ d i s (acc : List Int), i + d = n → acc.length + d ≤ 10 → Rel i s → ∃ s' K, ∀ m k, K ≤ m → K ≤ k → impl_linesWhere.l (P m) k s acc (n : Int) (i : Int) = some (acc ++ pickK p i d, s') := by
  intro d
  induction d with
  | zero =>
    intro i s acc hi _ _
    refine ⟨s, 1, fun m k _ hk => ?_⟩
    obtain ⟨k, rfl⟩ : ∃ j, k = j + 1 := ⟨k - 1, by omega⟩
    rw [impl_linesWhere.l, if_neg (by omega)]
    simp [pickK_zero]
  | succ d ih =>
    intro i s acc hi ha hr
    obtain ⟨s', hr', K1, h1⟩ := hstep i s (by omega) hr
    cases hp : p i with
    | true =>
      obtain ⟨s2, K2, h2⟩ := ih (i + 1) s' (acc ++ [(i : Int)]) (by omega) (by simp; omega) hr'
      refine ⟨s2, max K1 K2 + 1, fun m k hm hk => ?_⟩
      obtain ⟨k, rfl⟩ : ∃ j, k = j + 1 := ⟨k - 1, by omega⟩
      rw [impl_linesWhere.l, if_pos (by omega), show P m s (i : Int) = some (p i, s') from h1 m (by omega), hp]
      simp only [Option.bind_some, if_true]
      rw [if_pos (by omega), w1 i (by omega), h2 m k (by omega) (by omega), pickK_yes hp]
      simp
    | false =>
      obtain ⟨s2, K2, h2⟩ := ih (i + 1) s' acc (by omega) (by omega) hr'
      refine ⟨s2, max K1 K2 + 1, fun m k hm hk => ?_⟩
      obtain ⟨k, rfl⟩ : ∃ j, k = j + 1 := ⟨k - 1, by omega⟩
      rw [impl_linesWhere.l, if_pos (by omega), show P m s (i : Int) = some (p i, s') from h1 m (by omega), hp]
      simp only [Option.bind_some, if_neg (show ¬ (false = true) by decide)]
      rw [w1 i (by omega), h2 m k (by omega) (by omega), pickK_no hp]
theorem linesW_ev {σ : Type} {P : Nat → σ → Int → Option (Bool × σ)} {Rel : Nat → σ → Prop} {p : Nat → Bool} {n : Nat} {s : σ} (hn : n ≤ 10) (hs : Rel 0 s) (hstep : ∀ i s, i < n → Rel i s → ∃ s', Rel (i + 1) s' ∧ Ev (fun k => P k s (i : Int)) (p i, s')) : Ev (fun k => (impl_linesWhere.l (P k) k s [] (n : Int) 0).map fun x => x.1) (pickK p 0 n) := by
  obtain ⟨s', K, h⟩ := linesW2 hn hstep n 0 s [] (by omega) (by simpa using hn) hs
  refine ⟨K, fun k hk => ?_⟩
  show (impl_linesWhere.l (P k) k s [] (n : Int) ((0 : Nat) : Int)).map _ = _
  rw [h k k hk hk]
  simp
theorem ev_map {α β : Type} {g : Nat → Option α} {a : α} (f : α → β) (h : Ev g a) : Ev (fun k => (g k).map f) (f a) := by
  obtain ⟨K, h⟩ := h
  exact ⟨K, fun k hk => by show (g k).map f = some (f a); rw [h k hk]; rfl⟩
theorem implSpan_ev (b : Int) (ls : List S79) (on : List Bool) : Ev (fun k => impl_SpanningLines.f k b ls on) (spanLines b ls on) := by
  unfold spanLines
  refine Ev.then (implSt_ev b ls on) (Ev.ite (fun h => ?_) (fun h => Ev.some (by rw [if_neg h])))
  rw [if_pos h]
  obtain ⟨hn, hlen⟩ := stOk_net h
  have hk := netOk_len hn
  obtain ⟨u0, h0, e0⟩ := newUnion_ev b (by omega) (by omega)
  refine Ev.then e0 (linesW_ev (Rel := fun i u => Rep u (lab (onE ((EL ls).take i) (on.take i))) b.toNat) hk.1 (by simpa [onE_nil, lab_nil] using h0) (fun i u hi hr => ?_))
  obtain ⟨e0, e1, l0, l1⟩ := ends_cast hn hi
  have hat := EL_at hi
  have hon : on[i]? = some (on.getD i false) := by rw [getD_at (by omega)]; simp [hlen, hi]
  have ht := onE_take hat hon
  cases hb : on.getD i false with
  | false =>
    rw [hb, if_neg (by simp), List.append_nil] at ht
    refine ⟨u, by rw [ht]; exact hr, Ev.pos (by omega) (Ev.pos (by omega) (Ev.pos (by omega) (Ev.neg (by rw [rdOf_nat, hb]; simp) (Ev.some ?_))))⟩
    unfold spanAt; rw [hb, Bool.false_and]
  | true =>
    rw [hb, if_pos rfl] at ht
    obtain ⟨u1, h1, ev1⟩ := same_ev (by omega) hr l0 l1
    cases hs : (lab (onE ((EL ls).take i) (on.take i)) (ends (ls.getD i z79)).1 == lab (onE ((EL ls).take i) (on.take i)) (ends (ls.getD i z79)).2) with
    | true =>
      rw [hs] at ev1
      refine ⟨u1, ?_, Ev.pos (by omega) (Ev.pos (by omega) (Ev.pos (by omega) (Ev.pos (by rw [rdOf_nat, hb]) ?_)))⟩
      · rw [ht, lab_snoc, joinL_same (by simpa using hs)]; exact h1
      · rw [show rd_T79 ls (i : Int) = ls.getD i z79 from rfl, e0, e1]
        refine Ev.then ev1 (Ev.pos rfl (Ev.some ?_))
        unfold spanAt; rw [hb, hs]; rfl
    | false =>
      rw [hs] at ev1
      obtain ⟨u2, h2, ev2⟩ := join_ev (by omega) (lab_good _) h1 l0 l1
      rw [← lab_snoc, ← ht] at h2
      refine ⟨u2, h2, Ev.pos (by omega) (Ev.pos (by omega) (Ev.pos (by omega) (Ev.pos (by rw [rdOf_nat, hb]) ?_)))⟩
      rw [show rd_T79 ls (i : Int) = ls.getD i z79 from rfl, e0, e1]
      refine Ev.then ev1 (Ev.neg (by simp) (Ev.eq (ev_map (fun u2 => (true, u2)) ev2) ?_))
      unfold spanAt; rw [hb, hs]; rfl
theorem pickLines_len {p : Nat → Bool} {n : Nat} (h : n ≤ 10) : (pickK p 0 n).length ≤ 10 := Nat.le_trans (pickK_length _ _ _) h
theorem spanLines_len (b : Int) (ls : List S79) (on : List Bool) : (spanLines b ls on).length ≤ 10 := by
  unfold spanLines; split
  · rename_i h; exact pickLines_len (netOk_len (stOk_net h).1).1
  · simp
end Go.Proofs.YtpgjgbjkfgbpaaaDoor.P
namespace Go.Proofs.YtpgjgbjkfgbpaaaDoor.P
open Go.RowKit Go.Proofs.YtpgjgbjkfgbpaaaDoorW.PrintWords Go.Proofs.YtpgjgbjkfgbpaaaDoorW.PrintLast Go.Proofs.YtpgjgbjkfgbpaaaDoorW.PrintMore
open Go.Proofs.YtpgjgbjkfgbpaaaDoorM

theorem islNums_c {b : Int} {ls : List S79} {on on' : List Bool} (h : stOk b ls on = true) (h' : stOk b ls on' = true) (e : islc ls on = islc ls on') : islNums b ls on = islNums b ls on' := by
  unfold islNums
  rw [if_pos h, if_pos h', e]
theorem islNums_small (b : Int) (ls : List S79) (on : List Bool) : (islNums b ls on).length ≤ 8 := by
  unfold islNums
  split
  · rename_i h
    have hk := netOk_len (stOk_net h).1
    simp; omega
  · simp
end Go.Proofs.YtpgjgbjkfgbpaaaDoor.P
namespace Go.Proofs.YtpgjgbjkfgbpaaaDoor.P
open Go.RowKit Go.Proofs.YtpgjgbjkfgbpaaaDoorW.PrintWords Go.Proofs.YtpgjgbjkfgbpaaaDoorW.PrintLast Go.Proofs.YtpgjgbjkfgbpaaaDoorW.PrintMore
open Go.Proofs.YtpgjgbjkfgbpaaaDoorM

/-- A list of bools, those of some places being put to true. -/
def setAll : List Bool → List Int → List Bool
  | s, [] => s
  | s, y :: t => setAll (s.set y.toNat true) t
theorem setAll_len : ∀ (t : List Int) (s : List Bool), (setAll s t).length = s.length
  | [], _ => rfl
  | y :: t, s => by rw [setAll, setAll_len t, List.length_set]
theorem setAll_at {j : Nat} : ∀ (t : List Int) (s : List Bool), j < s.length → (∀ y, y ∈ t → 0 ≤ y ∧ y < s.length) → (setAll s t).getD j false = (s.getD j false || decide ((j : Int) ∈ t))
  | [], s, _, _ => by simp [setAll]
  | y :: t, s, hj, h => by
    have hy := h y List.mem_cons_self
    rw [setAll, setAll_at t _ (by rw [List.length_set]; exact hj) (fun z hz => by rw [List.length_set]; exact h z (List.mem_cons_of_mem _ hz)), getD_set s y.toNat j true false (by omega)]
    by_cases e : j = y.toNat
    · have e' : (j : Int) = y := by omega
      rw [if_pos e, e']
      simp
    · have e' : ¬ (j : Int) = y := by omega
      rw [if_neg e]
      simp [e']
theorem onOnly_l0 {n : Nat} (l : List Int) (hll : l.length < 1000000) (hl : ∀ y, y ∈ l → 0 ≤ y ∧ y < (n : Int)) : ∀ d i (s : List Bool), i + d = l.length → s.length = n → Ev (fun k => laws_onOnly.l0 k (n : Int) l s (i : Int)) (setAll s (l.drop i)) := by
  intro d
  induction d with
  | zero =>
    intro i s hi hs
    refine Ev.step (fun k => by rw [laws_onOnly.l0]) (Ev.neg (by omega) (Ev.some ?_))
    rw [List.drop_of_length_le (by omega)]
    rfl
  | succ d ih =>
    intro i s hi hs
    have hlt : i < l.length := by omega
    have hy := hl _ (List.getElem_mem hlt)
    have hn := ih (i + 1) (s.set (l[i]).toNat true) (by omega) (by rw [List.length_set]; exact hs)
    refine Ev.step (fun k => by rw [laws_onOnly.l0]) ?_
    rw [List.drop_eq_getElem_cons hlt, setAll, rd_nat, getD_at hlt, w1 i (by omega)]
    exact Ev.pos (by omega) (Ev.pos (by omega) (Ev.pos hy.1 (Ev.pos hy.2 (Ev.pos hy.1 (Ev.pos (by omega) hn)))))
theorem onOnly_ev (p : Nat → Bool) (n : Nat) (hn : n ≤ 10) : Ev (fun k => laws_onOnly.f k (n : Int) (pickK p 0 n)) ((List.range n).map p) := by
  have hlen := pickK_length p 0 n
  have hm : ∀ y, y ∈ pickK p 0 n → 0 ≤ y ∧ y < (n : Int) := fun y hy => by
    obtain ⟨k, h1, _, h2, _⟩ := (pickK_mem _ _ _ _).1 hy
    omega
  have h := onOnly_l0 (n := n) (pickK p 0 n) (by omega) hm (pickK p 0 n).length 0 (List.replicate n false) (by omega) (by simp)
  rw [List.drop_zero] at h
  have e : setAll (List.replicate n false) (pickK p 0 n) = (List.range n).map p := by
    refine List.ext_getElem (by rw [setAll_len]; simp) fun j h1 h2 => ?_
    have hj : j < n := by rw [setAll_len, List.length_replicate] at h1; exact h1
    have h3 := setAll_at (j := j) (pickK p 0 n) (List.replicate n false) (by simpa using hj) (by simpa using hm)
    rw [getD_at h1] at h3
    rw [h3, List.getElem_map, List.getElem_range, List.getD_eq_getElem?_getD, List.getElem?_replicate, if_pos hj, Option.getD_some, Bool.false_or, Bool.eq_iff_iff, decide_eq_true_eq, pickK_mem]
    constructor
    · rintro ⟨k, h4, _, _, h5⟩
      obtain rfl : j = k := by omega
      exact h5
    · intro h4
      exact ⟨j, rfl, Nat.zero_le _, by omega, h4⟩
  rw [e] at h
  refine Ev.pos (by omega) (Ev.pos (by omega) ?_)
  rw [Int.toNat_natCast]
  exact h
theorem span_count {b : Int} {ls : List S79} {on : List Bool} (h : stOk b ls on = true) : ∀ i, i ≤ ls.length → roots b.toNat (lab (onE ((EL ls).take i) (on.take i))) + ((List.range i).filter (spanAt ls on)).length = b.toNat := by
  obtain ⟨hn, hlen⟩ := stOk_net h
  intro i
  induction i with
  | zero => intro _; simp [onE_nil, lab_nil, roots_id]
  | succ i ih =>
    intro hi
    have hi' : i < ls.length := by omega
    have ht := onE_take (EL_at hi') (show on[i]? = some (on.getD i false) by rw [getD_at (by omega)]; simp [hlen, hi'])
    have h0 := ih (by omega)
    rw [ht, List.range_succ, List.filter_append, List.length_append]
    cases hon : on.getD i false with
    | false =>
      have hsp : spanAt ls on i = false := by unfold spanAt; rw [hon]; rfl
      rw [if_neg (by simp), List.append_nil, List.filter_cons, if_neg (by rw [hsp]; simp)]
      exact h0
    | true =>
      rw [if_pos rfl, lab_snoc]
      by_cases hc : lab (onE ((EL ls).take i) (on.take i)) (ends (ls.getD i z79)).1 = lab (onE ((EL ls).take i) (on.take i)) (ends (ls.getD i z79)).2
      · have hsp : spanAt ls on i = false := by unfold spanAt; rw [beq_iff_eq.2 hc]; simp
        rw [joinL_same hc, List.filter_cons, if_neg (by rw [hsp]; simp)]
        exact h0
      · have hsp : spanAt ls on i = true := by unfold spanAt; rw [beq_eq_false_iff_ne.2 hc, hon]; rfl
        have hok := netOk_line hn hi'
        have hj := roots_join (n := b.toNat) (lab_good (onE ((EL ls).take i) (on.take i))) (a := (ends (ls.getD i z79)).1) (b := (ends (ls.getD i z79)).2) (by show (ls.getD i z79).f0.toNat < b.toNat; omega) (by show (ls.getD i z79).f1.toNat < b.toNat; omega) hc
        rw [List.filter_cons, if_pos hsp, List.filter_nil, List.length_singleton]
        omega
theorem span_sum {b : Int} {ls : List S79} {on : List Bool} (h : stOk b ls on = true) : roots b.toNat (islc ls on) + (pickK (spanAt ls on) 0 ls.length).length = b.toNat := by
  obtain ⟨hn, hlen⟩ := stOk_net h
  have := span_count h ls.length (Nat.le_refl _)
  rw [List.take_of_length_le (by rw [EL_length]; exact Nat.le_refl _), List.take_of_length_le (by omega)] at this
  unfold pickK
  rw [List.length_map, ← List.range_eq_range']
  exact this
theorem span_islc {b : Int} {ls : List S79} {on : List Bool} (h : stOk b ls on = true) : islc ls ((List.range ls.length).map (spanAt ls on)) = islc ls on := by
  obtain ⟨hn, hlen⟩ := stOk_net h
  have := spanSt_lab h ls.length (Nat.le_refl _)
  rw [List.take_of_length_le (by rw [EL_length]; exact Nat.le_refl _), List.take_of_length_le (by omega)] at this
  exact this
theorem span_tree {b : Int} {ls : List S79} {on : List Bool} (h : stOk b ls on = true) : cyc [] (onE (EL ls) ((List.range ls.length).map (spanAt ls on))) = false := by
  obtain ⟨hn, hlen⟩ := stOk_net h
  refine (count_cyc (in_lines hn _)).2.1.2 ?_
  have e := span_islc h
  unfold islc at e
  rw [e, onE_length (by rw [EL_length]; simp)]
  have h1 := span_sum h
  have h2 : (pickK (spanAt ls on) 0 ls.length).length = ((List.range ls.length).map (spanAt ls on)).count true := by
    unfold pickK
    rw [List.length_map, ← List.range_eq_range', List.count_eq_length_filter, List.filter_map, List.length_map]
    congr 1
    refine List.filter_congr fun k _ => ?_
    simp
  rw [← h2]
  exact h1.symm
theorem d_SpanningLines (l0 : List Int) (hb : Bytes l0) : Ev (fun k => laws_FnSpanningLines.f k l0) true := by
  obtain ⟨b, hop, hb', hl⟩ := open_p hb
  refine Ev.ite (fun _ => Ev.some rfl) (fun _ => ?_)
  refine EvP.ev (EvP.then (P := fun x : Int × List S79 × List Bool => x.2.1.length ≤ 11 ∧ x.2.2.length ≤ 12) (EvP.thenC hop (EvP.then (switched_p hb' hl 6 (p := 0) (by omega) (by omega)) fun x hx => EvP.some ⟨hx.1.small.1, hx.1.small.2⟩)) fun x hx => ?_)
  obtain ⟨B, L, on⟩ := x
  obtain ⟨hL, hon⟩ : L.length ≤ 11 ∧ on.length ≤ 12 := hx
  have hsz := spanLines_len B L on
  refine EvP.thenE (implSpan_ev B L on) (EvP.thenE (specSpan_ev B L on (by omega) (by omega)) (EvP.thenE (sameI_ev _ (by omega)) (EvP.pos rfl (EvP.thenE (specSt_ev B L on (by omega)) (EvP.ite (fun hs => ?_) (fun hs => ?_))))))
  · have hs' : stOk B L on = true := hs
    obtain ⟨hn, hlen⟩ := stOk_net hs'
    have hk := netOk_len hn
    have e0 : spanLines B L on = pickK (spanAt L on) 0 L.length := by unfold spanLines; rw [if_pos hs']
    have hx : stOk B L ((List.range L.length).map (spanAt L on)) = true := by
      have hs2 := hs'
      unfold stOk at hs2 ⊢
      rw [List.length_map, List.length_range]
      rw [hlen] at hs2
      exact hs2
    have e1 := onOnly_ev (spanAt L on) L.length (by omega)
    rw [← hlen, hlen, ← e0] at e1
    have e2 := implNums_ev B L ((List.range L.length).map (spanAt L on))
    rw [islNums_c hx hs' (span_islc hs')] at e2
    have e3 := implHas_ev B L ((List.range L.length).map (spanAt L on))
    have h0 : hasCyc B L ((List.range L.length).map (spanAt L on)) = false := by unfold hasCyc; rw [hx, span_tree hs']; rfl
    rw [h0] at e3
    have hsm := islNums_small B L on
    have hcnt := span_sum hs'
    rw [← e0] at hcnt
    have hr := roots_le B.toNat (islc L on)
    have hea : Ev (fun k => laws_onOnly.f k ((on.length : Nat) : Int) (spanLines B L on)) ((List.range L.length).map (spanAt L on)) := by rw [hlen]; exact e1
    refine EvP.thenE hea (EvP.thenE e2 (EvP.thenE (implNums_ev B L on) (EvP.thenE (sameI_ev _ (by omega)) (EvP.pos rfl (EvP.thenE e3 (EvP.neg (by simp) (EvP.thenE (islands_ev hs') (EvP.pos ?_ (EvP.thenE (asc_ev _ (by omega) (asc_of _ ?_)) (EvP.some rfl))))))))))
    · show ((spanLines B L on).length : Int) = wrap64 (B - ((roots B.toNat (islc L on) : Nat) : Int))
      rw [wp _ (by omega) (by omega)]
      omega
    · rw [e0]
      exact pickK_asc _ _ _
  · have e : spanLines B L on = [] := by unfold spanLines; rw [if_neg hs]
    rw [e]
    exact EvP.pos rfl (EvP.thenE alive_ev (EvP.some rfl))
end Go.Proofs.YtpgjgbjkfgbpaaaDoor.P

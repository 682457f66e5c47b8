/- Plain laws: routes added in whatever order. -/
import Derived.Test.YtmedkjiabieloaaRtOne
namespace Go.Proofs.Ytmedkjiabieloaa.Rt
open Go.RowKit Go.Proofs.YtmedkjiabieloaaW.PrintWords Go.Proofs.YtmedkjiabieloaaW.PrintLast Go.Proofs.YtmedkjiabieloaaW.PrintMore Go.Proofs.Ytmedkjiabieloaa.QRd
open Go.Proofs.Ytmedkjiabieloaa
set_option linter.unusedVariables false
set_option linter.unusedSimpArgs false
theorem sorted_ext : ∀ (a b : List S28), Sorted a → Sorted b → (∀ y, y ∈ a ↔ y ∈ b) → a = b
  | [], [], _, _, _ => rfl
  | [], y :: b, _, _, h => absurd ((h y).2 List.mem_cons_self) (by simp)
  | x :: a, [], _, _, h => absurd ((h x).1 List.mem_cons_self) (by simp)
  | x :: a, y :: b, ha, hb, h => by
    obtain ⟨ha1, ha2⟩ := List.pairwise_cons.1 ha
    obtain ⟨hb1, hb2⟩ := List.pairwise_cons.1 hb
    have hxy : x = y := by
      rcases List.mem_cons.1 ((h x).1 List.mem_cons_self) with e | e
      · exact e
      · rcases List.mem_cons.1 ((h y).2 List.mem_cons_self) with e' | e'
        · exact e'.symm
        · exact (rlt_asymm (ha1 y e') (hb1 x e)).elim
    subst hxy
    rw [sorted_ext a b ha2 hb2 (fun z => ?_)]
    constructor
    · intro hz
      rcases List.mem_cons.1 ((h z).1 (List.mem_cons_of_mem _ hz)) with e | e
      · rw [e] at hz
        exact absurd (ha1 x hz) (rlt_irr _)
      · exact e
    · intro hz
      rcases List.mem_cons.1 ((h z).2 (List.mem_cons_of_mem _ hz)) with e | e
      · rw [e] at hz
        exact absurd (hb1 x hz) (rlt_irr _)
      · exact e
/-- The routes of f, one behind the other. -/
def addN (f : Nat → S28) : Nat → List S28
  | 0 => []
  | i + 1 => (addF (addN f i) (f i)).1
theorem addN_good (f : Nat → S28) : ∀ i, Good (addN f i)
  | 0 => good_nil
  | i + 1 => good_addF (addN_good f i) (f i)
theorem addF_len {l : List S28} (hg : Good l) (r : S28) : (addF l r).1.length ≤ l.length + 1 := by
  unfold addF
  have hp := (posF_pos hg.srt (normR r).f0).1
  split
  · exact Nat.le_succ _
  · split
    · simp
    · split
      · exact Nat.le_succ _
      · simp only [List.length_append, List.length_cons, List.length_take, List.length_drop]
        omega
theorem addF_mem {l : List S28} (hg : Good l) (r : S28) (hl : l.length < 64) (hn : ∀ x ∈ l, x.f0 ≠ (normR r).f0) (y : S28) : y ∈ (addF l r).1 ↔ y ∈ l ∨ (¬ badR r ∧ y = normR r) := by
  unfold addF
  by_cases hb : badR r
  · rw [if_pos hb]
    simp [hb]
  · rw [if_neg hb]
    have hat : isAt l (normR r).f0 (posF l (normR r).f0) = false := by
      cases h : isAt l (normR r).f0 (posF l (normR r).f0) with
      | false => rfl
      | true =>
        obtain ⟨hi, he⟩ := (isAt_iff _ _ _).1 h
        exact absurd he (hn _ (getD_mem hi))
    rw [hat, if_neg (by decide), if_neg (by omega)]
    have e : y ∈ l ↔ y ∈ l.take (posF l (normR r).f0) ∨ y ∈ l.drop (posF l (normR r).f0) := by
      rw [← List.mem_append, List.take_append_drop]
    simp only [List.mem_append, List.mem_cons]
    rw [e]
    simp only [hb, not_false_eq_true, true_and]
    constructor
    · rintro (h | h | h)
      · exact .inl (.inl h)
      · exact .inr h
      · exact .inl (.inr h)
    · rintro ((h | h) | h)
      · exact .inl h
      · exact .inr (.inr h)
      · exact .inr (.inl h)
theorem addN_mem (f : Nat → S28) : ∀ i, i ≤ 64 → (∀ a b, b < a → a < i → (normR (f a)).f0 ≠ (normR (f b)).f0) → (addN f i).length ≤ i ∧ ∀ y, y ∈ addN f i ↔ ∃ a, a < i ∧ ¬ badR (f a) ∧ y = normR (f a)
  | 0, _, _ => ⟨Nat.le_refl _, fun y => ⟨(fun h => by cases h), fun ⟨a, h, _⟩ => by omega⟩⟩
  | i + 1, hi, hd => by
    obtain ⟨h1, h2⟩ := addN_mem f i (by omega) (fun a b hb ha => hd a b hb (by omega))
    have hg := addN_good f i
    refine ⟨Nat.le_trans (addF_len hg (f i)) (by omega), fun y => ?_⟩
    show y ∈ (addF (addN f i) (f i)).1 ↔ _
    rw [addF_mem hg (f i) (by omega) (fun x hx => ?_) y, h2]
    · constructor
      · rintro (⟨a, h, h'⟩ | h)
        · exact ⟨a, by omega, h'⟩
        · exact ⟨i, by omega, h⟩
      · rintro ⟨a, h, h'⟩
        rcases Nat.lt_succ_iff_lt_or_eq.1 h with h3 | h3
        · exact .inl ⟨a, h3, h'⟩
        · rw [h3] at h'
          exact .inr h'
    · obtain ⟨a, ha, _, rfl⟩ := (h2 x).1 hx
      exact fun e => hd i a ha (by omega) e.symm
/-- In whatever order: the same rows. -/
theorem order_same (f : Nat → S28) (n b : Nat) (hn : n ≤ 60) (hd : ∀ i k, k < i → i < n → (normR (f i)).f0 ≠ (normR (f k)).f0) : addN f n = addN (fun i => f ((i + b) % n)) n := by
  have hne : ∀ i k, i < n → k < n → i ≠ k → (normR (f i)).f0 ≠ (normR (f k)).f0 := fun i k hi hk h => by
    rcases Nat.lt_or_gt_of_ne h with h1 | h1
    · exact fun e => hd k i h1 hk e.symm
    · exact hd i k h1 hi
  rcases Nat.eq_zero_or_pos n with h0 | h0
  · subst h0; rfl
  have hinj : ∀ i k, k < i → i < n → (i + b) % n ≠ (k + b) % n := fun i k hk hi e => by
    have h1 := Nat.sub_mod_eq_zero_of_mod_eq e
    rw [show i + b - (k + b) = i - k by omega, Nat.mod_eq_of_lt (by omega)] at h1
    omega
  have h1 := (addN_mem f n (by omega) hd).2
  have h2 := (addN_mem (fun i => f ((i + b) % n)) n (by omega) (fun i k hk hi => hne _ _ (Nat.mod_lt _ h0) (Nat.mod_lt _ h0) (hinj i k hk hi))).2
  refine sorted_ext _ _ (addN_good _ _).srt (addN_good _ _).srt (fun y => ?_)
  rw [h1, h2]
  constructor
  · rintro ⟨a, ha, h⟩
    refine ⟨(a + (n - b % n)) % n, Nat.mod_lt _ h0, ?_⟩
    have e : ((a + (n - b % n)) % n + b) % n = a := by
      have hb := Nat.mod_lt b h0
      rw [Nat.mod_add_mod, show a + (n - b % n) + b = a + n + (b - b % n) by have := Nat.mod_le b n; omega]
      have hdv : b - b % n = n * (b / n) := by have := Nat.div_add_mod b n; omega
      rw [hdv, Nat.add_mul_mod_self_left, Nat.add_mod_right, Nat.mod_eq_of_lt ha]
    rw [e]
    exact h
  · rintro ⟨a, ha, h⟩
    exact ⟨(a + b) % n, Nat.mod_lt _ h0, h⟩
/-- Two tables. -/
structure Pair (w0 w : World) (q1 : Nat) (v1 : Value) (L1 : List S28) (q2 : Nat) (v2 : Value) (L2 : List S28) : Prop where
  t1 : TabO w w0.heap.size q1 v1 L1
  t2 : TabO w w0.heap.size q2 v2 L2
  g1 : Good L1
  g2 : Good L2
  ne : q1 ≠ q2
  apart : Apart v1 v2
  below : Below w0.heap.size w0 w
theorem Pair.step {w0 w w' : World} {q1 q2 : Nat} {v1 v2 : Value} {L1 L2 : List S28} (h : Pair w0 w q1 v1 L1 q2 v2 L2) (hb : Below w.heap.size w w') : Pair w0 w' q1 v1 L1 q2 v2 L2 :=
  ⟨h.t1.below hb, h.t2.below hb, h.g1, h.g2, h.ne, h.apart, h.below.trans (hb.mono h.below.size)⟩
theorem Pair.turn1 {w0 w w' : World} {q1 q2 : Nat} {v1 v2 v' : Value} {L1 L2 L' : List S28} (h : Pair w0 w q1 v1 L1 q2 v2 L2) (hg : Good L') (ht : TabO w' w0.heap.size q1 v' L') (hu : Turn w w' q1 v1 v') : Pair w0 w' q1 v' L' q2 v2 L2 := by
  have h1 := h.t2.turn h.t1 (Ne.symm h.ne) h.apart hu
  exact ⟨ht, h1.1, hg, h.g2, h.ne, h1.2, hu.below h.below h.t1.low h.t1.base⟩
theorem Pair.turn2 {w0 w w' : World} {q1 q2 : Nat} {v1 v2 v' : Value} {L1 L2 L' : List S28} (h : Pair w0 w q1 v1 L1 q2 v2 L2) (hg : Good L') (ht : TabO w' w0.heap.size q2 v' L') (hu : Turn w w' q2 v2 v') : Pair w0 w' q1 v1 L1 q2 v' L' := by
  have h1 := h.t1.turn h.t2 h.ne h.apart.symm hu
  exact ⟨h1.1, ht, h.g1, hg, h.ne, h1.2.symm, hu.below h.below h.t2.low h.t2.base⟩
/-- Two elements of a row that rises. -/
theorem rise_pair {L : List S28} (hs : Sorted L) (i : Nat) (h : i + 1 < L.length) : cmpA (L.getD i z28).f0.f0 (L.getD (i + 1) z28).f0.f0 < 0 ∨ (cmpA (L.getD i z28).f0.f0 (L.getD (i + 1) z28).f0.f0 = 0 ∧ (L.getD i z28).f0.f1 < (L.getD (i + 1) z28).f0.f1) := by
  have h1 := (rise_neg _ _).2 (sorted_lt hs i (i + 1) (by omega) h)
  unfold riseE orI at h1
  by_cases h0 : cmpA (L.getD i z28).f0.f0 (L.getD (i + 1) z28).f0.f0 = 0
  · rw [if_pos h0] at h1
    unfold cmpI at h1
    split at h1
    · exact .inr ⟨h0, by assumption⟩
    · split at h1 <;> omega
  · rw [if_neg h0] at h1
    exact .inl h1
end Go.Proofs.Ytmedkjiabieloaa.Rt

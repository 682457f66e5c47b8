/- The plain law of the window: its row of Bools tells which numbers near the top were accepted. -/
import Derived.Test.YtddkcepofoifdaaWinD
namespace Go.Proofs.Ytddkcepofoifdaa.Win
open Go.RowKit Go.Proofs.YtddkcepofoifdaaW.PrintWords Go.Proofs.YtddkcepofoifdaaW.PrintLast Go.Proofs.YtddkcepofoifdaaW.PrintMore
set_option linter.unusedVariables false
set_option linter.unusedSimpArgs false
/-! The plain law: the row of Bools tells which numbers near the top were accepted. -/
open Classical in
theorem wipe_getD (s : Nat) (L : Nat) : ∀ (c : Nat) (l : List Bool) (j : Nat), l.length = L → (wipe s c l).getD j false = (if (∃ k, s ≤ k ∧ k < s + c ∧ k % L = j) then false else l.getD j false)
  | 0, l, j, _ => by rw [if_neg (by rintro ⟨k, h1, h2, _⟩; omega)]; rfl
  | c + 1, l, j, hl => by
    have ih := wipe_getD s L c l j hl
    simp only [wipe, List.getD_eq_getElem?_getD] at *
    rw [hl]
    by_cases hj : (s + c) % L = j
    · rw [if_pos ⟨s + c, by omega, by omega, hj⟩]
      by_cases hlt : j < (wipe s c l).length
      · rw [hj, List.getElem?_set_self hlt]; rfl
      · rw [List.getElem?_eq_none (by simpa using hlt)]; rfl
    · rw [List.getElem?_set_ne hj, ih]
      by_cases hex : ∃ k, s ≤ k ∧ k < s + c ∧ k % L = j
      · obtain ⟨k, h1, h2, h3⟩ := hex
        rw [if_pos ⟨k, h1, h2, h3⟩, if_pos ⟨k, h1, by omega, h3⟩]
      · rw [if_neg hex, if_neg]
        rintro ⟨k, h1, h2, h3⟩
        by_cases e : k = s + c
        · subst e; exact hj h3
        · exact hex ⟨k, h1, by omega, h3⟩
theorem set_getD (l : List Bool) (i j : Nat) (b : Bool) (hi : i < l.length) : (l.set i b).getD j false = if i = j then b else l.getD j false := by
  simp only [List.getD_eq_getElem?_getD]
  by_cases e : i = j
  · subst e; rw [if_pos rfl, List.getElem?_set_self hi]; rfl
  · rw [if_neg e, List.getElem?_set_ne e]
/-- Two numbers less than L apart lie in two places. -/
theorem mod_inj {L a b : Nat} (h1 : a ≤ b) (h2 : b < a + L) (h : a % L = b % L) : a = b := by
  have ha := Nat.div_add_mod a L
  have hb := Nat.div_add_mod b L
  rw [← h] at hb
  have hq : a / L = b / L := by
    rcases Nat.lt_trichotomy (a / L) (b / L) with hq | hq | hq
    · have : L * (a / L + 1) ≤ L * (b / L) := Nat.mul_le_mul_left _ hq
      rw [Nat.mul_add] at this
      omega
    · exact hq
    · have : L * (b / L + 1) ≤ L * (a / L) := Nat.mul_le_mul_left _ hq
      rw [Nat.mul_add] at this
      omega
  rw [hq] at ha
  omega
/-- The numbers of xs are those that were accepted. -/
structure Inv (L : Nat) (st : Nat × List Bool) (xs : List Nat) : Prop where
  len : st.2.length = L
  mem : ∀ x ∈ xs, x ≠ 0 ∧ x ≤ st.1
  top : st.1 = 0 ∨ st.1 ∈ xs
  seen : ∀ m, m ≠ 0 → m ≤ st.1 → st.1 < m + L → (st.2.getD (m % L) false = true ↔ m ∈ xs)
theorem Inv.new (L : Nat) : Inv L (0, List.replicate L false) [] := ⟨by simp, by simp, Or.inl rfl, fun m h0 h1 _ => absurd (Nat.le_zero.mp h1) h0⟩
theorem Inv.chk {L : Nat} {st : Nat × List Bool} {xs : List Nat} (h : Inv L st xs) (wide : Bool) (n : Nat) :
    chk wide st n = if (!wide && decide (4294967295 < n)) = true then 1 else if st.1 < n then 0 else if n = 0 ∨ n + L ≤ st.1 ∨ n ∈ xs then 120 else 0 := by
  unfold Win.chk checkE old
  rw [h.len]
  by_cases hA : (!wide && decide (4294967295 < n)) = true
  · rw [if_pos hA, if_pos hA]
  · rw [if_neg hA, if_neg hA]
    by_cases hB : st.1 < n
    · rw [if_pos hB, if_pos hB]
    · rw [if_neg hB, if_neg hB]
      congr 1
      simp only [Bool.or_eq_true, decide_eq_true_eq, eq_iff_iff]
      by_cases h0 : n = 0
      · simp [h0]
      · by_cases hf : n + L ≤ st.1
        · have : L ≤ st.1 - n := by omega
          simp [hf, this]
        · have h1 : ¬ L ≤ st.1 - n := by omega
          have := h.seen n h0 (by omega) (by omega)
          rw [List.getD_eq_getElem?_getD] at this
          simp [h0, hf, h1, this]
theorem Inv.acc {L : Nat} {st : Nat × List Bool} {xs : List Nat} (h : Inv L st xs) (hL : 0 < L) (wide : Bool) (n : Nat) (h0 : Win.chk wide st n = 0) : Inv L (Win.acc wide st n) (xs ++ [n]) := by
  have hn := h.chk wide n
  rw [h0] at hn
  have e : Win.acc wide st n = (max st.1 n, accSeen st.1 n st.2) := by
    unfold Win.acc
    unfold Win.chk at h0
    rw [if_pos h0]
  have hq := Nat.mod_lt n hL
  have hA : ¬ (!wide && decide (4294967295 < n)) = true := by
    intro hA
    rw [if_pos hA] at hn
    exact absurd hn (by decide)
  rw [if_neg hA] at hn
  rw [e]
  by_cases hB : st.1 < n
  · have hmax : max st.1 n = n := Nat.max_eq_right (by omega)
    rw [hmax]
    refine ⟨by simp [accSeen_length, h.len], ?_, Or.inr (by simp), ?_⟩
    · intro x hx
      rcases List.mem_append.mp hx with hx | hx
      · have := h.mem x hx; exact ⟨this.1, by simp only; omega⟩
      · simp only [List.mem_singleton] at hx
        subst hx
        exact ⟨by omega, Nat.le_refl _⟩
    · intro m hm0 hm1 hm2
      simp only at hm1 hm2 ⊢
      unfold accSeen
      rw [if_neg (by omega), h.len]
      by_cases hf : L ≤ n - st.1
      · rw [if_pos hf, set_getD _ _ _ _ (by simpa using hq)]
        by_cases em : m = n
        · subst em; simp
        · have hne : ¬ n % L = m % L := fun he => em (mod_inj hm1 hm2 he.symm)
          rw [if_neg hne]
          have : m ∉ xs := fun hx => by have := h.mem m hx; omega
          have hm2 := Nat.mod_lt m hL
          simp [this, em, List.getD_eq_getElem?_getD, List.getElem?_replicate, hm2]
      · rw [if_neg hf, set_getD _ _ _ _ (by rw [wipe_length, h.len]; exact hq), wipe_getD _ L _ _ _ h.len]
        by_cases em : m = n
        · subst em; simp
        · have hne : ¬ n % L = m % L := fun he => em (mod_inj hm1 hm2 he.symm)
          rw [if_neg hne]
          by_cases hmt : m ≤ st.1
          · rw [if_neg]
            · have := h.seen m hm0 hmt (by omega)
              rw [this]
              simp [em]
            · rintro ⟨k, h1, h2, h3⟩
              have := mod_inj (L := L) (a := m) (b := k) (by omega) (by omega) h3.symm
              omega
          · rw [if_pos ⟨m, by omega, by omega, rfl⟩]
            have : m ∉ xs := fun hx => by have := h.mem m hx; omega
            simp [this, em]
  · rw [if_neg hB] at hn
    have hno : ¬ (n = 0 ∨ n + L ≤ st.1 ∨ n ∈ xs) := by
      intro hc
      rw [if_pos hc] at hn
      exact absurd hn (by decide)
    have hmax : max st.1 n = st.1 := Nat.max_eq_left (by omega)
    rw [hmax]
    refine ⟨by simp [accSeen_length, h.len], ?_, ?_, ?_⟩
    · intro x hx
      rcases List.mem_append.mp hx with hx | hx
      · exact h.mem x hx
      · simp only [List.mem_singleton] at hx
        subst hx
        exact ⟨fun h0 => hno (Or.inl h0), by simp only; omega⟩
    · rcases h.top with ht | ht
      · exact Or.inl ht
      · exact Or.inr (List.mem_append.mpr (Or.inl ht))
    · intro m hm0 hm1 hm2
      simp only at hm1 hm2 ⊢
      unfold accSeen
      rw [if_pos (by omega), h.len, set_getD _ _ _ _ (by rw [h.len]; exact hq)]
      have hs := h.seen m hm0 hm1 hm2
      by_cases em : m = n
      · subst em; simp
      · have hne : ¬ n % L = m % L := fun he => em (by
          have hnear : ¬ n + L ≤ st.1 := fun hc => hno (Or.inr (Or.inl hc))
          rcases Nat.le_total m n with hmn | hmn
          · exact mod_inj hmn (by omega) he.symm
          · exact (mod_inj hmn (by omega) he).symm)
        rw [if_neg hne, hs]
        simp [em]
theorem Inv.no {L : Nat} {st : Nat × List Bool} {xs : List Nat} (h : Inv L st xs) (wide : Bool) (n : Nat) (h0 : Win.chk wide st n ≠ 0) : Win.acc wide st n = st := by
  unfold Win.acc
  unfold Win.chk at h0
  rw [if_neg h0]
end Go.Proofs.Ytddkcepofoifdaa.Win

/- The plain law of PickNone: a selector that may not be matches nothing; one of all matches each flow; one of just a flow's ends and ports matches it. -/
import Derived.Test.YtcohcbfodmoblaaPick
import Derived.Test.YtcohcbfodmoblaaQPkx24
set_option linter.unusedSimpArgs false
set_option linter.unusedVariables false
namespace Go.Proofs.Ytcohcbfodmoblaa.Pick
open Go.RowKit Go.Proofs.Ytcohcbfodmoblaa.QPk Go.Proofs.YtcohcbfodmoblaaW.PrintWords Go.Proofs.YtcohcbfodmoblaaW.PrintLast

theorem span_empty' : spanB (⟨#[]⟩ : ByteArray) (⟨#[]⟩ : ByteArray) = true := by decide +kernel
theorem in_empty' (x : ByteArray) : inB x (⟨#[]⟩ : ByteArray) (⟨#[]⟩ : ByteArray) = true := by unfold inB; rw [show ((⟨#[]⟩ : ByteArray).size == 0) = true from by decide]; rfl
theorem less_self (a : ByteArray) : less a a = false := less_irrefl _
theorem span_self (a : ByteArray) (h : a.size = 4 ∨ a.size = 16) : spanB a a = true := by
  unfold spanB; rw [less_self]; rcases h with h | h <;> rw [h] <;> rfl
theorem in_self (a : ByteArray) : inB a a a = true := by
  unfold inB; rw [less_self]; simp
theorem every_all (h t : ByteArray) (p n f : Int) (hn : -1 ≤ n ∧ n ≤ 65535) (hf : -1 ≤ f ∧ f ≤ 65535) :
    matchB (⟨#[]⟩ : ByteArray) (⟨#[]⟩ : ByteArray) (⟨#[]⟩ : ByteArray) (⟨#[]⟩ : ByteArray) (-1) 0 65535 0 65535 h t p n f = true := by
  have P : ∀ x : Int, -1 ≤ x ∧ x ≤ 65535 → portB x 0 65535 = true := by
    intro x hx
    unfold portB
    by_cases h0 : x < 0
    · rw [if_pos h0]; rfl
    · rw [if_neg h0]; simp only [withinI, Bool.and_eq_true, decide_eq_true_eq]; omega
  unfold matchB checkB
  rw [span_empty', in_empty', in_empty', P n hn, P f hf]
  rfl
theorem none_j2 (k : Nat) (h t : ByteArray) (p n f lo hi : Int) (hz : h.size = 4 ∨ h.size = 16) (tz : t.size = 4 ∨ t.size = 16) (hp : 0 ≤ p ∧ p ≤ 255) (hf : -1 ≤ f ∧ f ≤ 65535)
    (hp1 : portsB lo hi = true) (hp2 : portB n lo hi = true) :
    redoubtlaw15_PickNone.j2 (k + 6) h t p n f h h t t p lo hi 0 65535 = some true := by
  have m : ∀ (q a b : Int), portsB a b = true → portB f a b = true → matchB h h t t p lo hi a b h t q n f = (p == q) := by
    intro q a b h1 h2
    unfold matchB checkB
    rw [span_self h hz, span_self t tz, in_self, in_self, hp1, h1, hp2, h2]
    have e1 : withinI (-1) p 255 = true := by simp only [withinI, Bool.and_eq_true, decide_eq_true_eq]; omega
    have e2 : (p == -1) = false := beq_eq_false_iff_ne.mpr (by omega)
    rw [e1, e2]
    cases p == q <;> rfl
  have w1 : wrap64 (p + 1) = p + 1 := wr _ (by omega) (by omega)
  have t1 : ¬ p = Int.tmod (p + 1) 256 := by
    rw [Int.tmod_eq_emod_of_nonneg (by omega)]; omega
  have t2 : (p == Int.tmod (p + 1) 256) = false := beq_eq_false_iff_ne.mpr t1
  simp only [redoubtlaw15_PickNone.j2, awake_is, Option.bind_some, if_true]
  rw [show (k + 5 : Nat) = (k + 2) + 3 from rfl]
  simp only [matches_is, Option.bind_some, w1]
  by_cases h0 : f ≥ 0
  · have b1 : portsB f f = true := by simp only [portsB, withinI, Bool.and_eq_true, decide_eq_true_eq]; omega
    have b2 : portB f f f = true := by unfold portB; rw [if_neg (by omega)]; simp only [withinI, Bool.and_eq_true, decide_eq_true_eq]; omega
    rw [if_pos h0, m _ _ _ b1 b2, m _ _ _ b1 b2, t2]
    simp
  · have b1 : portsB 0 65535 = true := by decide
    have b2 : portB f 0 65535 = true := by unfold portB; rw [if_pos (by omega)]; rfl
    rw [if_neg h0, m _ _ _ b1 b2, m _ _ _ b1 b2, t2]
    simp
theorem none_j1 (k : Nat) (h t : ByteArray) (p n f : Int) (hz : h.size = 4 ∨ h.size = 16) (tz : t.size = 4 ∨ t.size = 16) (hp : 0 ≤ p ∧ p ≤ 255) (hn : -1 ≤ n ∧ n ≤ 65535) (hf : -1 ≤ f ∧ f ≤ 65535) :
    redoubtlaw15_PickNone.j1 (k + 7) false h t p n f = some true := by
  simp only [redoubtlaw15_PickNone.j1, Bool.false_eq_true, if_false, redoubtlaw15_every.f, Option.bind_some]
  rw [show (k + 6 : Nat) = (k + 3) + 3 from rfl, matches_is, every_all _ _ _ _ _ hn hf]
  simp only [Option.bind_some, if_true]
  by_cases h0 : n ≥ 0
  · rw [if_pos h0]
    exact none_j2 k h t p n f n n hz tz hp hf (by simp only [portsB, withinI, Bool.and_eq_true, decide_eq_true_eq]; omega) (by unfold portB; rw [if_neg (by omega)]; simp only [withinI, Bool.and_eq_true, decide_eq_true_eq]; omega)
  · rw [if_neg h0]
    exact none_j2 k h t p n f 0 65535 hz tz hp hf (by decide) (by unfold portB; rw [if_pos (by omega)]; rfl)
theorem PickNone (a0 a1 a2 a3 : ByteArray) (a4 a5 a6 a7 a8 : Int) (h t : ByteArray) (p n f : Int)
    (z0 : a0.size ≤ 140737488351232) (z1 : a1.size ≤ 140737488351232) (z2 : a2.size ≤ 140737488351232) (z3 : a3.size ≤ 140737488351232) (z4 : h.size ≤ 140737488351232) (z5 : t.size ≤ 140737488351232) :
    redoubtlaw15_PickNone.f 9 a0 a1 a2 a3 a4 a5 a6 a7 a8 h t p n f = some true := by
  have T : redoubtlaw15_PickNone.j0 9 true a0 a1 a2 a3 a4 a5 a6 a7 a8 h t p n f = some true := by simp only [redoubtlaw15_PickNone.j0, if_true]
  have B : ∀ (hz : h.size = 4 ∨ h.size = 16) (tz : t.size = 4 ∨ t.size = 16) (hp : 0 ≤ p ∧ p ≤ 255) (hn : -1 ≤ n ∧ n ≤ 65535) (hf : -1 ≤ f), redoubtlaw15_PickNone.j0 9 (decide (f > 65535)) a0 a1 a2 a3 a4 a5 a6 a7 a8 h t p n f = some true := by
    intro hz tz hp hn hf
    by_cases hf' : f > 65535
    · rw [decide_eq_true hf']; exact T
    · rw [decide_eq_false hf']
      have J := none_j1 1 h t p n f hz tz hp hn ⟨hf, by omega⟩
      simp only [redoubtlaw15_PickNone.j0, Bool.false_eq_true, if_false]
      rw [show (8 : Nat) = 5 + 3 from rfl, check_is, matches_is]
      simp only [Option.bind_some]
      by_cases hc : checkB a0 a1 a2 a3 a4 a5 a6 a7 a8 = true
      · rw [if_pos hc, if_pos rfl]; exact J
      · rw [if_neg hc, if_neg (by decide)]
        have : matchB a0 a1 a2 a3 a4 a5 a6 a7 a8 h t p n f = false := by unfold matchB; rw [Bool.eq_false_iff.mpr hc]; rfl
        rw [this]; exact J
  unfold redoubtlaw15_PickNone.f
  rw [few_is _ _ _ _ _ _ _ _ _ _ _ _ _ _ z0 z1 z2 z3 z4 z5, Option.bind_some]
  by_cases e0 : (h.size : Int) = (t.size : Int)
  · rw [if_pos e0]
    repeat' (first | exact T | (exact B (by omega) (by omega) (by omega) (by omega) (by omega)) | split)
  · rw [if_neg e0]
    split <;> exact T

theorem none_walk (a0 a1 a2 a3 : ByteArray) (a4 a5 a6 a7 a8 : Int) (h t : ByteArray) (p n f : Int) (w : World)
    (_ : (Lit.int .i64 a4).wf = true) (_ : (Lit.int .i64 a5).wf = true) (_ : (Lit.int .i64 a6).wf = true) (_ : (Lit.int .i64 a7).wf = true) (_ : (Lit.int .i64 a8).wf = true)
    (g : a0.size ≤ 140737488351232 ∧ a1.size ≤ 140737488351232 ∧ a2.size ≤ 140737488351232 ∧ a3.size ≤ 140737488351232)
    (_ : (Lit.int .i64 p).wf = true) (_ : (Lit.int .i64 n).wf = true) (_ : (Lit.int .i64 f).wf = true) (g' : h.size ≤ 140737488351232 ∧ t.size ≤ 140737488351232) :
    Calls Try.prog 6 #[.agg #[.string a0, .string a1, .string a2, .string a3, .int .i64 a4, .int .i64 a5, .int .i64 a6, .int .i64 a7, .int .i64 a8], .agg #[.string h, .string t, .int .i64 p, .int .i64 n, .int .i64 f]] w
      fun e w' => e = .returned (.bool true) ∧ Below w.heap.size w w' :=
  redoubtlaw15_PickNone.calls 9 a0 a1 a2 a3 a4 a5 a6 a7 a8 h t p n f true w (PickNone a0 a1 a2 a3 a4 a5 a6 a7 a8 h t p n f g.1 g.2.1 g.2.2.1 g.2.2.2 g'.1 g'.2) rfl
end Go.Proofs.Ytcohcbfodmoblaa.Pick

/- The plain law of PickWider: a selector of ranges that are no narrower matches no less. -/
import Derived.Test.YtcohcbfodmoblaaPick
import Derived.Test.YtcohcbfodmoblaaQPkx22
set_option linter.unusedSimpArgs false
set_option linter.unusedVariables false
namespace Go.Proofs.Ytcohcbfodmoblaa.Pick
open Go.RowKit Go.Proofs.Ytcohcbfodmoblaa.QPk Go.Proofs.YtcohcbfodmoblaaW.PrintWords Go.Proofs.YtcohcbfodmoblaaW.PrintLast

theorem ports_wider (lo hi a b : Int) (h : portsB lo hi = true) (ha : 0 ≤ a) (ha' : a ≤ 65535) (hb : 0 ≤ b) (hb' : b ≤ 65535) :
    portsB (mx (wrap64 (lo - a)) 0) (mn (wrap64 (hi + b)) 65535) = true ∧ ∀ n, portB n lo hi = true → portB n (mx (wrap64 (lo - a)) 0) (mn (wrap64 (hi + b)) 65535) = true := by
  simp only [portsB, withinI, Bool.and_eq_true, decide_eq_true_eq] at h
  obtain ⟨⟨h0, h1⟩, h2⟩ := h
  rw [wr (lo - a) (by omega) (by omega), wr (hi + b) (by omega) (by omega)]
  constructor
  · simp only [portsB, withinI, Bool.and_eq_true, decide_eq_true_eq]
    unfold mx mn; omega
  · intro n hn
    unfold portB at hn ⊢
    by_cases hneg : n < 0
    · rw [if_pos hneg] at hn ⊢
      simp only [Bool.and_eq_true, beq_iff_eq] at hn ⊢
      unfold mx mn; omega
    · rw [if_neg hneg] at hn ⊢
      simp only [withinI, Bool.and_eq_true, decide_eq_true_eq] at hn ⊢
      unfold mx mn; omega

theorem span_empty : spanB (⟨#[]⟩ : ByteArray) (⟨#[]⟩ : ByteArray) = true := by decide +kernel
theorem in_empty (x : ByteArray) : inB x (⟨#[]⟩ : ByteArray) (⟨#[]⟩ : ByteArray) = true := by unfold inB; rw [show ((⟨#[]⟩ : ByteArray).size == 0) = true from by decide]; rfl
theorem match_parts {a0 a1 a2 a3 : ByteArray} {a4 a5 a6 a7 a8 : Int} {h t : ByteArray} {p n f : Int} :
    matchB a0 a1 a2 a3 a4 a5 a6 a7 a8 h t p n f = true ↔ spanB a0 a1 = true ∧ spanB a2 a3 = true ∧ (-1 ≤ a4 ∧ a4 ≤ 255) ∧ portsB a5 a6 = true ∧ portsB a7 a8 = true ∧ inB h a0 a1 = true ∧ inB t a2 a3 = true ∧ (a4 = -1 ∨ a4 = p) ∧ portB n a5 a6 = true ∧ portB f a7 a8 = true := by
  simp only [matchB, checkB, withinI, Bool.and_eq_true, Bool.or_eq_true, beq_iff_eq, decide_eq_true_eq]
  constructor
  · rintro ⟨⟨h1, h2, h3, h4, h5⟩, h6, h7, h8, h9, h10⟩; exact ⟨h1, h2, h3, h4, h5, h6, h7, h8, h9, h10⟩
  · rintro ⟨h1, h2, h3, h4, h5, h6, h7, h8, h9, h10⟩; exact ⟨⟨h1, h2, h3, h4, h5⟩, h6, h7, h8, h9, h10⟩
theorem match_check {a0 a1 a2 a3 : ByteArray} {a4 a5 a6 a7 a8 : Int} {h t : ByteArray} {p n f : Int} (hm : matchB a0 a1 a2 a3 a4 a5 a6 a7 a8 h t p n f = true) : checkB a0 a1 a2 a3 a4 a5 a6 a7 a8 = true := by
  simp only [matchB, Bool.and_eq_true] at hm; exact hm.1

theorem wider_j2 (k : Nat) (x6 : Bool) (h t : ByteArray) (p n f : Int) (b0 b1 b2 b3 : ByteArray) (b4 b5 b6 b7 b8 : Int)
    (hm : matchB b0 b1 b2 b3 b4 b5 b6 b7 b8 h t p n f = true) : redoubtlaw15_PickWider.j2 (k + 6) x6 h t p n f b0 b1 b2 b3 b4 b5 b6 b7 b8 = some true := by
  have e5 : ∀ (g : Nat → Option Bool), g (k + 5) = g ((k + 2) + 3) := fun _ => rfl
  have hc := match_check hm
  have hn : matchB b0 b1 b2 b3 (-1) b5 b6 b7 b8 h t p n f = true := by
    rw [match_parts] at hm ⊢
    obtain ⟨h1, h2, h3, h4, h5, h6, h7, h8, h9, h10⟩ := hm
    exact ⟨h1, h2, by omega, h4, h5, h6, h7, Or.inl rfl, h9, h10⟩
  have hcn := match_check hn
  have m1 : pick_Matches.f (k + 5) b0 b1 b2 b3 b4 b5 b6 b7 b8 h t p n f = some true := by rw [show k + 5 = (k + 2) + 3 from rfl, matches_is, hm]
  have m2 : pick_Matches.f (k + 5) b0 b1 b2 b3 (-1) b5 b6 b7 b8 h t p n f = some true := by rw [show k + 5 = (k + 2) + 3 from rfl, matches_is, hn]
  have c1 : pick_Check.f (k + 5) b0 b1 b2 b3 b4 b5 b6 b7 b8 = some 0 := by rw [show k + 5 = (k + 2) + 3 from rfl, check_is, hc]; rfl
  have c2 : pick_Check.f (k + 5) b0 b1 b2 b3 (-1) b5 b6 b7 b8 = some 0 := by rw [show k + 5 = (k + 2) + 3 from rfl, check_is, hcn]; rfl
  simp only [redoubtlaw15_PickWider.j2, awake_is, Option.bind_some, m1, m2, c1, c2]
  cases x6 <;> rfl
theorem wider_j1 (k : Nat) (x5 x6 : Bool) (h t : ByteArray) (p n f : Int) (b0 b1 b2 b3 : ByteArray) (b4 b5 b6 b7 b8 : Int)
    (hm : matchB b0 b1 b2 b3 b4 b5 b6 b7 b8 h t p n f = true) : redoubtlaw15_PickWider.j1 (k + 7) x5 x6 h t p n f b0 b1 b2 b3 b4 b5 b6 b7 b8 = some true := by
  have hn : matchB b0 b1 (⟨#[]⟩ : ByteArray) (⟨#[]⟩ : ByteArray) b4 b5 b6 b7 b8 h t p n f = true := by
    rw [match_parts] at hm ⊢
    obtain ⟨h1, h2, h3, h4, h5, h6, h7, h8, h9, h10⟩ := hm
    exact ⟨h1, span_empty, h3, h4, h5, h6, in_empty _, h8, h9, h10⟩
  simp only [redoubtlaw15_PickWider.j1]
  cases x5
  · exact wider_j2 _ _ _ _ _ _ _ _ _ _ _ _ _ _ _ _ hm
  · exact wider_j2 _ _ _ _ _ _ _ _ _ _ _ _ _ _ _ _ hn

theorem PickWider (a0 a1 a2 a3 : ByteArray) (a4 a5 a6 a7 a8 : Int) (h t : ByteArray) (p n f low high : Int) (here there proto : Bool)
    (z0 : a0.size ≤ 140737488351232) (z1 : a1.size ≤ 140737488351232) (z2 : a2.size ≤ 140737488351232) (z3 : a3.size ≤ 140737488351232) (z4 : h.size ≤ 140737488351232) (z5 : t.size ≤ 140737488351232) :
    redoubtlaw15_PickWider.f 8 a0 a1 a2 a3 a4 a5 a6 a7 a8 h t p n f low high here there proto = some true := by
  have T : redoubtlaw15_PickWider.j0 8 low high here there proto true a0 a1 a2 a3 a4 a5 a6 a7 a8 h t p n f = some true := by
    simp only [redoubtlaw15_PickWider.j0, if_true]; rw [awake_is 2]; rfl
  unfold redoubtlaw15_PickWider.f
  rw [few_is _ _ _ _ _ _ _ _ _ _ _ _ _ _ z0 z1 z2 z3 z4 z5, Option.bind_some]
  split
  · split
    · exact T
    · rename_i l0
      split
      · exact T
      · rename_i l1
        split
        · exact T
        · rename_i h0
          split
          · exact T
          · rename_i h1
            rw [show (8 : Nat) = 5 + 3 from rfl, matches_is, Option.bind_some]
            by_cases hm : matchB a0 a1 a2 a3 a4 a5 a6 a7 a8 h t p n f = true
            · rw [hm]
              simp only [Bool.not_true, redoubtlaw15_PickWider.j0, Bool.false_eq_true, if_false]
              have hp := match_parts.mp hm
              obtain ⟨g1, g2, g3, g4, g5, g6, g7, g8, g9, g10⟩ := hp
              obtain ⟨n1, n2⟩ := ports_wider a5 a6 low high g4 (by omega) (by omega) (by omega) (by omega)
              obtain ⟨f1, f2⟩ := ports_wider a7 a8 high low g5 (by omega) (by omega) (by omega) (by omega)
              cases here
              · exact wider_j1 0 _ _ _ _ _ _ _ _ _ _ _ _ _ _ _ _ (match_parts.mpr ⟨g1, g2, g3, n1, f1, g6, g7, g8, n2 _ g9, f2 _ g10⟩)
              · exact wider_j1 0 _ _ _ _ _ _ _ _ _ _ _ _ _ _ _ _ (match_parts.mpr ⟨span_empty, g2, g3, n1, f1, in_empty _, g7, g8, n2 _ g9, f2 _ g10⟩)
            · rw [Bool.eq_false_iff.mpr hm]
              exact T
  · exact T
end Go.Proofs.Ytcohcbfodmoblaa.Pick
namespace Go.Proofs.Ytcohcbfodmoblaa.Pick
open Go.RowKit Go.Proofs.Ytcohcbfodmoblaa.QPk
theorem wider_walk (a0 a1 a2 a3 : ByteArray) (a4 a5 a6 a7 a8 : Int) (h t : ByteArray) (p n f low high : Int) (here there proto : Bool) (w : World)
    (_ : (Lit.int .i64 a4).wf = true) (_ : (Lit.int .i64 a5).wf = true) (_ : (Lit.int .i64 a6).wf = true) (_ : (Lit.int .i64 a7).wf = true) (_ : (Lit.int .i64 a8).wf = true)
    (g : a0.size ≤ 140737488351232 ∧ a1.size ≤ 140737488351232 ∧ a2.size ≤ 140737488351232 ∧ a3.size ≤ 140737488351232)
    (_ : (Lit.int .i64 p).wf = true) (_ : (Lit.int .i64 n).wf = true) (_ : (Lit.int .i64 f).wf = true) (g' : h.size ≤ 140737488351232 ∧ t.size ≤ 140737488351232)
    (_ : (Lit.int .i64 low).wf = true) (_ : (Lit.int .i64 high).wf = true) :
    Calls Try.prog 5 #[.agg #[.string a0, .string a1, .string a2, .string a3, .int .i64 a4, .int .i64 a5, .int .i64 a6, .int .i64 a7, .int .i64 a8], .agg #[.string h, .string t, .int .i64 p, .int .i64 n, .int .i64 f], .int .i64 low, .int .i64 high, .bool here, .bool there, .bool proto] w
      fun e w' => e = .returned (.bool true) ∧ Below w.heap.size w w' :=
  redoubtlaw15_PickWider.calls 8 a0 a1 a2 a3 a4 a5 a6 a7 a8 h t p n f low high here there proto true w (PickWider a0 a1 a2 a3 a4 a5 a6 a7 a8 h t p n f low high here there proto g.1 g.2.1 g.2.2.1 g.2.2.2 g'.1 g'.2) rfl
end Go.Proofs.Ytcohcbfodmoblaa.Pick

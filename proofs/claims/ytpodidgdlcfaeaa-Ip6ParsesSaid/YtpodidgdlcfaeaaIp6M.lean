/- The document's Check of a packet, as a plain law. -/
import Derived.Test.YtpodidgdlcfaeaaPIp6Laysx5
import Derived.Test.YtpodidgdlcfaeaaIp6J
namespace Go.Proofs.Ytpodidgdlcfaeaa.Ip6
open Go.RowKit Go.Proofs.YtpodidgdlcfaeaaW.PrintWords Go.Proofs.YtpodidgdlcfaeaaW.PrintLast Go.Proofs.YtpodidgdlcfaeaaW.PrintMore Go.Proofs.Ytpodidgdlcfaeaa.PIp6Lays
set_option linter.unusedVariables false
set_option linter.unusedSimpArgs false
theorem in_f (a b : Int) : redoubtref04_in.f a b = some (decide (0 ≤ a ∧ a ≤ b)) := by
  unfold redoubtref04_in.f
  by_cases h0 : a ≥ 0
  · rw [if_pos h0]
    have : 0 ≤ a := h0
    simp [this]
  · rw [if_neg h0]
    have : ¬ (0 ≤ a) := h0
    simp [this]
theorem rbtw_f (k : Int) : redoubtref04_Between.f k = some (btw k) := by
  unfold redoubtref04_Between.f btw
  by_cases h0 : k = 0 <;> by_cases h1 : k = 43 <;> by_cases h2 : k = 44 <;> by_cases h3 : k = 60 <;> simp_all
theorem ext_f (k : Nat) (x : S43) (i : Nat) (hx : x.f1.size ≤ 4000) : redoubtref04_ext.f (k + 1) x.f0 x.f1 (i : Int) = some (xok i x) := by
  unfold redoubtref04_ext.f
  rw [rbtw_f, Option.bind_some]
  cases hb : btw x.f0 with
  | false =>
    rw [if_neg (by decide), redoubtref04_ext.j0, if_pos rfl]
    unfold xok
    rw [hb]
    rfl
  | true =>
    rw [if_pos rfl]
    have core : ∀ b : Bool, b = decide (x.f0 = 0 ∧ 0 < i) → redoubtref04_ext.j0 (k + 1) b x.f0 x.f1 = some (xok i x) := fun b hbb => by
      rw [redoubtref04_ext.j0]
      unfold xok xsz ahd
      rw [hb]
      by_cases h0 : x.f0 = 0 ∧ 0 < i
      · rw [if_pos (by rw [hbb]; simp [h0])]
        simp [h0.1, h0.2]
      · rw [if_neg (by rw [hbb]; simp; omega)]
        have e0 : decide (x.f0 = 0 ∧ 0 < i) = false := decide_eq_false h0
        rw [e0]
        by_cases h44 : x.f0 = 44
        · rw [if_pos h44, if_pos h44]
          by_cases h7 : x.f1.size = 7
          · simp [h7, h44]
          · have : ((x.f1.size : Int) == 7) = false := by rw [beq_eq_false_iff_ne]; omega
            rw [this]
            have : ¬ (x.f1.size + 1 = 8) := by omega
            simp [h44, this]
        · rw [if_neg h44, if_neg h44]
          have e44 : decide (x.f0 = 44 ∧ x.f1.size + 2 ≠ 8) = false := decide_eq_false (by simp [h44])
          rw [e44]
          by_cases h6 : (x.f1.size : Int) % 8 = 6
          · rw [if_pos h6]
            by_cases hl : (x.f1.size : Int) ≤ 2046
            · have h8 : (x.f1.size + 2) % 8 = 0 ∧ x.f1.size + 2 ≤ 2048 := by omega
              simp [hl, h8]
            · have h8 : ¬ ((x.f1.size + 2) % 8 = 0 ∧ x.f1.size + 2 ≤ 2048) := by omega
              rw [decide_eq_false hl, decide_eq_false h8]
              rfl
          · rw [if_neg h6]
            have h8 : ¬ ((x.f1.size + 2) % 8 = 0 ∧ x.f1.size + 2 ≤ 2048) := by omega
            rw [decide_eq_false h8]
            rfl
    by_cases h0 : x.f0 = 0
    · rw [if_pos h0]
      exact core _ (by by_cases hi : 0 < i <;> simp [h0, hi])
    · rw [if_neg h0]
      exact core _ (by simp [h0])
theorem size_l0 (c l h : Int) (s d : ByteArray) (ex : List S43) (nx : Int) (dt : List Int) (hl : ex.length ≤ 1000) (he : ∀ x ∈ ex, x.f1.size ≤ 4000) (hd : dt.length ≤ 100000) : ∀ (m j : Nat), ex.length - j = m → j ≤ ex.length →
    redoubtref04_size.l0 (m + 1) ((dt.length + sumx (ex.take j) : Nat) : Int) (j : Int) c l h s d ex nx dt = some ((dt.length + sumx ex : Nat) : Int)
  | 0, j, hm, hj => by
    rw [redoubtref04_size.l0, if_neg (by omega), List.take_of_length_le (by omega)]
  | m + 1, j, hm, hj => by
    have hjl : j < ex.length := by omega
    rw [redoubtref04_size.l0, if_pos (by omega), if_pos (by omega)]
    have er : rd_T43 ex (j : Int) = ex.getD j z43 := by unfold rd_T43; rw [Int.toNat_natCast]
    rw [er]
    have e1 : wrap64 ((j : Int) + 1) = ((j + 1 : Nat) : Int) := by rw [IntWalk.wrap64_in _ (by omega)]; omega
    have hmem : ex.getD j z43 ∈ ex := by
      rw [List.getD_eq_getElem?_getD, List.getElem?_eq_getElem hjl]
      exact List.getElem_mem hjl
    have hs := he _ hmem
    have ht := sumx_take ex j hjl
    have hle := sumx_le ex he j
    have hx : xsz (ex.getD j z43) = (ex.getD j z43).f1.size + ahd (ex.getD j z43).f0 := rfl
    have ih := size_l0 c l h s d ex nx dt hl he hd m (j + 1) (by omega) (by omega)
    have b1 : ((dt.length + sumx (ex.take j) : Nat) : Int) ≤ 10000000 := by omega
    rw [e1]
    rw [IntWalk.wrap64_in (((dt.length + sumx (ex.take j) : Nat) : Int) + ((ex.getD j z43).f1.size : Int)) (by omega)]
    rw [IntWalk.wrap64_in (((dt.length + sumx (ex.take j) : Nat) : Int) + ((ex.getD j z43).f1.size : Int) + 2) (by omega)]
    rw [IntWalk.wrap64_in (((dt.length + sumx (ex.take j) : Nat) : Int) + ((ex.getD j z43).f1.size : Int) + 2 - 1) (by omega)]
    by_cases h44 : (ex.getD j z43).f0 = 44
    · rw [if_pos h44]
      have ha : ahd (ex.getD j z43).f0 = 1 := by unfold ahd; rw [if_pos h44]
      rw [show ((dt.length + sumx (ex.take j) : Nat) : Int) + ((ex.getD j z43).f1.size : Int) + 2 - 1 = ((dt.length + sumx (ex.take (j + 1)) : Nat) : Int) by omega]
      exact ih
    · rw [if_neg h44]
      have ha : ahd (ex.getD j z43).f0 = 2 := by unfold ahd; rw [if_neg h44]
      rw [show ((dt.length + sumx (ex.take j) : Nat) : Int) + ((ex.getD j z43).f1.size : Int) + 2 = ((dt.length + sumx (ex.take (j + 1)) : Nat) : Int) by omega]
      exact ih
theorem size_f (p : Pk) (hp : Small p) (k : Nat) (hk : p.ex.length < k) : redoubtref04_size.f k p.cls p.lab p.hop p.src p.dst p.ex p.nxt p.dat = some ((p.dat.length + sumx p.ex : Nat) : Int) := by
  have h := size_l0 p.cls p.lab p.hop p.src p.dst p.ex p.nxt p.dat hp.ex hp.each hp.dat p.ex.length 0 (by omega) (by omega)
  unfold redoubtref04_size.f
  have e : ((p.dat.length + sumx (p.ex.take 0) : Nat) : Int) = (p.dat.length : Int) := by simp [sumx]
  rw [e] at h
  have mono : ∀ n m, LeO (redoubtref04_size.l0 n (p.dat.length : Int) 0 p.cls p.lab p.hop p.src p.dst p.ex p.nxt p.dat) (redoubtref04_size.l0 (n + m) (p.dat.length : Int) 0 p.cls p.lab p.hop p.src p.dst p.ex p.nxt p.dat) := by
    intro n m
    induction m with
    | zero => exact fun r hr => hr
    | succ m ih => exact fun r hr => redoubtref04_size.mono_l (n + m) _ _ _ _ _ _ _ _ _ _ r (ih r hr)
  have := mono (p.ex.length + 1) (k - (p.ex.length + 1)) _ h
  rwa [show p.ex.length + 1 + (k - (p.ex.length + 1)) = k by omega] at this
theorem check_l0 (p : Pk) (hp : Small p) : ∀ (m j : Nat), p.ex.length - j = m → j ≤ p.ex.length →
    redoubtref04_Check.l0 (p.ex.length + m + 2) (j : Int) p.cls p.lab p.hop p.src p.dst p.ex p.nxt p.dat = some (if wok j (p.ex.drop j) = true then (if 65535 < sumx p.ex + p.dat.length then 2 else 0) else 1)
  | 0, j, hm, hj => by
    rw [redoubtref04_Check.l0, if_neg (by omega), size_f p hp _ (by omega), Option.bind_some, List.drop_of_length_le (by omega)]
    rw [if_pos (show wok j [] = true from rfl)]
    by_cases h : 65535 < sumx p.ex + p.dat.length
    · rw [if_pos h, if_pos (by omega)]
    · rw [if_neg h, if_neg (by omega)]
  | m + 1, j, hm, hj => by
    have hjl : j < p.ex.length := by omega
    have er : rd_T43 p.ex (j : Int) = p.ex.getD j z43 := by unfold rd_T43; rw [Int.toNat_natCast]
    have hmem : p.ex.getD j z43 ∈ p.ex := by
      rw [List.getD_eq_getElem?_getD, List.getElem?_eq_getElem hjl]
      exact List.getElem_mem hjl
    rw [redoubtref04_Check.l0, if_pos (by omega), if_pos (by omega), er, ext_f _ _ _ (hp.each _ hmem), Option.bind_some]
    have e1 : wrap64 ((j : Int) + 1) = ((j + 1 : Nat) : Int) := by rw [IntWalk.wrap64_in _ (by have := hp.ex; omega)]; omega
    rw [e1]
    have hdrop : p.ex.drop j = p.ex.getD j z43 :: p.ex.drop (j + 1) := by
      rw [List.drop_eq_getElem_cons hjl, List.getD_eq_getElem?_getD, List.getElem?_eq_getElem hjl]
      rfl
    rw [hdrop, wok]
    cases hx : xok j (p.ex.getD j z43) with
    | false => simp
    | true =>
      rw [if_pos rfl, Bool.true_and]
      exact check_l0 p hp m (j + 1) (by omega) (by omega)
theorem refCheck_f (p : Pk) (hp : Small p) : redoubtref04_Check.f (2 * p.ex.length + 3) p.cls p.lab p.hop p.src p.dst p.ex p.nxt p.dat = some (checkE p) := by
  have h := check_l0 p hp p.ex.length 0 (by omega) (by omega)
  rw [List.drop_zero, show p.ex.length + p.ex.length + 2 = 2 * p.ex.length + 2 by omega] at h
  have j0t : redoubtref04_Check.j0 (2 * p.ex.length + 3) true p.cls p.lab p.hop p.src p.dst p.ex p.nxt p.dat = some 1 := by rw [redoubtref04_Check.j0, if_pos rfl]
  have j0f : redoubtref04_Check.j0 (2 * p.ex.length + 3) false p.cls p.lab p.hop p.src p.dst p.ex p.nxt p.dat = some (if wok 0 p.ex = true then (if 65535 < sumx p.ex + p.dat.length then 2 else 0) else 1) := by rw [redoubtref04_Check.j0, if_neg (by decide)]; exact h
  unfold redoubtref04_Check.f
  simp only [in_f, Option.bind_some, rbtw_f, decide_eq_true_eq]
  have bad : ¬ headOk p → checkE p = 1 := fun hh => by unfold checkE; rw [if_neg (fun hc => hh hc.1)]
  by_cases h1 : 0 ≤ p.cls ∧ p.cls ≤ 255
  rotate_left
  · rw [if_neg h1, j0t, bad (fun hh => h1 hh.1.1)]
  rw [if_pos h1]
  by_cases h2 : 0 ≤ p.hop ∧ p.hop ≤ 255
  rotate_left
  · rw [if_neg h2, j0t, bad (fun hh => h2 hh.1.2.1)]
  rw [if_pos h2]
  by_cases h3 : 0 ≤ p.nxt ∧ p.nxt ≤ 255
  rotate_left
  · rw [if_neg h3, j0t, bad (fun hh => h3 hh.1.2.2.1)]
  rw [if_pos h3]
  by_cases h4 : 0 ≤ p.lab ∧ p.lab ≤ 1048575
  rotate_left
  · rw [if_neg h4, j0t, bad (fun hh => h4 hh.1.2.2.2)]
  rw [if_pos h4]
  by_cases h5 : (p.src.size : Int) = 16
  rotate_left
  · rw [if_neg h5, j0t, bad (fun hh => h5 (by have := hh.2.1; omega))]
  rw [if_pos h5]
  by_cases h6 : (p.dst.size : Int) = 16
  rotate_left
  · rw [if_neg h6, j0t, bad (fun hh => h6 (by have := hh.2.2.1; omega))]
  rw [if_pos h6]
  cases hb : btw p.nxt with
  | true =>
    rw [j0t, bad (fun hh => by have := hh.2.2.2; rw [hb] at this; cases this)]
  | false =>
    have hok : headOk p := ⟨⟨h1, h2, h3, h4⟩, by omega, by omega, hb⟩
    rw [j0f]
    unfold checkE
    by_cases hw : wok 0 p.ex = true
    · rw [if_pos hw, if_pos (show headOk p ∧ wok 0 p.ex = true from ⟨hok, hw⟩)]
    · rw [if_neg hw, if_neg (fun hc => hw hc.2)]
end Go.Proofs.Ytpodidgdlcfaeaa.Ip6

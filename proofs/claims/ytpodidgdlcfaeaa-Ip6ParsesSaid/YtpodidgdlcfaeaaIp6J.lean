/- Plain facts of a packet's bytes. -/
import Derived.Test.YtpodidgdlcfaeaaIp6H
import Derived.Test.YtpodidgdlcfaeaaIp6I
namespace Go.Proofs.Ytpodidgdlcfaeaa.Ip6
open Go.RowKit Go.Proofs.YtpodidgdlcfaeaaW.PrintWords Go.Proofs.YtpodidgdlcfaeaaW.PrintLast Go.Proofs.YtpodidgdlcfaeaaW.PrintMore Go.Proofs.Ytpodidgdlcfaeaa.PIp6Lays
set_option linter.unusedVariables false
set_option linter.unusedSimpArgs false
theorem str_bytes (s : ByteArray) : strOfNums (bytesOf s) = s := by
  unfold strOfNums bytesOf
  rw [List.map_map]
  have : ((fun n : Int => UInt8.ofNat n.toNat) ∘ fun b : UInt8 => (b.toNat : Int)) = id := by
    funext b
    simp
  rw [this, List.map_id]
theorem piece_len (ex : List S43) (nxt : Int) (i : Nat) : (piece ex nxt i).length = xsz (ex.getD i z43) := by
  unfold piece xsz ahd
  simp only [List.length_cons, List.length_append, List.length_map, bytesOf_length]
  by_cases h : (ex.getD i z43).f0 = 44
  · rw [if_pos h, if_pos h]; simp
  · rw [if_neg h, if_neg h]; simp; omega
theorem pre_sum (ex : List S43) (nxt : Int) : ∀ j, j ≤ ex.length → (pre ex nxt j).length = sumx (ex.take j) := by
  intro j
  induction j with
  | zero => intro _; simp [pre, sumx]
  | succ j ih =>
    intro hj
    rw [pre_succ, List.length_append, ih (by omega), piece_len, sumx_take ex j (by omega)]
theorem bytesE_len (p : Pk) (h : checkE p = 0) : (bytesE p).length = 40 + (sumx p.ex + p.dat.length) := by
  have hh := headOk_of h
  unfold bytesE headE
  simp only [List.length_append, List.length_cons, List.length_nil, bytesOf_length]
  rw [pre_sum p.ex p.nxt p.ex.length (Nat.le_refl _), List.take_length, hh.2.1, hh.2.2.1]
  omega
theorem bytesOf_byte (s : ByteArray) : ∀ x ∈ bytesOf s, 0 ≤ x ∧ x ≤ 255 := by
  intro x hx
  unfold bytesOf at hx
  obtain ⟨y, hy, rfl⟩ := List.mem_map.mp hx
  have := y.toNat_lt
  omega
theorem wok_size : ∀ (i : Nat) (l : List S43), wok i l = true → ∀ x ∈ l, xsz x ≤ 2048 ∧ xsz x % 8 = 0 ∧ btw x.f0 = true ∧ (x.f0 = 44 → xsz x = 8)
  | _, [], _, x, hx => by simp at hx
  | i, y :: l, h, x, hx => by
    simp only [wok, Bool.and_eq_true] at h
    rcases List.mem_cons.mp hx with rfl | hx
    · have := h.1
      unfold xok at this
      simp at this
      refine ⟨by omega, by omega, this.1.1.1, fun h44 => ?_⟩
      rcases this.2 with h | h
      · exact absurd h44 h
      · exact h
    · exact wok_size (i + 1) l h.2 x hx
theorem rd_kinds_byte (p : Pk) (h : checkE p = 0) (i : Nat) : 0 ≤ rd (kinds p.ex ++ [p.nxt]) (i : Int) ∧ rd (kinds p.ex ++ [p.nxt]) (i : Int) ≤ 255 := by
  have hh := headOk_of h
  have hw := wok_of h
  have hall : ∀ x ∈ kinds p.ex ++ [p.nxt], 0 ≤ x ∧ x ≤ 255 := by
    intro x hx
    rcases List.mem_append.mp hx with hx | hx
    · unfold kinds at hx
      obtain ⟨y, hy, rfl⟩ := List.mem_map.mp hx
      have := (wok_size 0 p.ex hw y hy).2.2.1
      unfold btw at this
      have := of_decide_eq_true this
      omega
    · simp at hx
      subst hx
      exact hh.1.2.2.1
  unfold rd
  rw [Int.toNat_natCast]
  by_cases hi : i < (kinds p.ex ++ [p.nxt]).length
  · rw [List.getD_eq_getElem?_getD, List.getElem?_eq_getElem hi]
    exact hall _ (List.getElem_mem hi)
  · rw [List.getD_eq_getElem?_getD, List.getElem?_eq_none (by omega)]
    simp
theorem bytesE_byte (p : Pk) (hp : Small p) (h : checkE p = 0) : ∀ x ∈ bytesE p, 0 ≤ x ∧ x ≤ 255 := by
  have hh := headOk_of h
  have hs := sum_of h
  obtain ⟨⟨c0, c1⟩, ⟨h0, h1⟩, ⟨n0, n1⟩, l0, l1⟩ := hh.1
  have hk := rd_kinds_byte p h
  intro x hx
  unfold bytesE at hx
  simp only [List.mem_append] at hx
  rcases hx with (((hx | hx) | hx) | hx) | hx
  · unfold headE at hx
    obtain ⟨M, hM⟩ : ∃ M : Nat, sumx p.ex + p.dat.length = M := ⟨_, rfl⟩
    rw [hM] at hx hs
    have h00 := hk 0
    simp only [List.mem_cons, List.not_mem_nil, or_false] at hx
    rcases hx with rfl | rfl | rfl | rfl | rfl | rfl | rfl | rfl
    all_goals first | omega | exact h00
  · exact bytesOf_byte _ x hx
  · exact bytesOf_byte _ x hx
  · unfold pre at hx
    obtain ⟨i, hi, hx⟩ := List.mem_flatMap.mp hx
    have hi' : i < p.ex.length := List.mem_range.mp hi
    unfold piece at hx
    rcases List.mem_cons.mp hx with rfl | hx
    · exact hk (i + 1)
    · rcases List.mem_append.mp hx with hx | hx
      · have hm : p.ex.getD i z43 ∈ p.ex := by rw [List.getD_eq_getElem?_getD, List.getElem?_eq_getElem hi']; exact List.getElem_mem hi'
        have hz := (wok_size 0 p.ex (wok_of h) _ hm).1
        unfold xsz at hz
        split at hx
        · simp at hx
        · simp only [List.map_cons, List.map_nil, List.mem_singleton] at hx
          subst hx
          have : ahd (p.ex.getD i z43).f0 ≤ 2 := by unfold ahd; split <;> omega
          have h2 : ahd (p.ex.getD i z43).f0 = 2 := by
            unfold ahd
            rw [if_neg (by assumption)]
          omega
      · exact bytesOf_byte _ x hx
  · exact hp.byte x hx
end Go.Proofs.Ytpodidgdlcfaeaa.Ip6

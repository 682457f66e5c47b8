/- The plain laws of package pad: what PadSeals, PadBack, PadLong and PadRow ask, over lists of numbers. -/
import Derived.Test.YtddkcepofoifdaaPad
import Derived.Test.YtddkcepofoifdaaCame
import Derived.Test.YtddkcepofoifdaaQPdx10
import Derived.Test.YtddkcepofoifdaaQPdx11
import Derived.Test.YtddkcepofoifdaaQPdx12
import Derived.Test.YtddkcepofoifdaaQPdx13
set_option linter.unusedSimpArgs false
set_option linter.unusedVariables false
namespace Go.Proofs.Ytddkcepofoifdaa.Pad
open Go.RowKit Go.Proofs.Ytddkcepofoifdaa.QPd Go.Proofs.YtddkcepofoifdaaW.PrintWords Go.Proofs.YtddkcepofoifdaaW.PrintLast Go.Proofs.YtddkcepofoifdaaW.PrintMore

theorem awake_is : redoubtlaw12_awake.f 299 = some true := by decide +kernel
theorem bytes_of_wf (l : List Int) (h : ∀ x ∈ l, (Lit.int .u8 x).wf = true) : bytesB l = true :=
  List.all_eq_true.mpr fun x hx => by have := bounds_u8 (h x hx); simpa using this

theorem pads_get (n i : Nat) (h : i < n) : (pads n)[i]? = some ((i : Int) + 1) := by
  unfold pads
  rw [List.getElem?_map, List.getElem?_range h]; rfl
/-- A sealed row. -/
def sealed (l : List Int) (n : Nat) (x : Int) : List Int := l ++ pads n ++ [((n : Nat) : Int), x]
theorem sealed_length (l : List Int) (n : Nat) (x : Int) : (sealed l n x).length = l.length + n + 2 := by simp [sealed, pads_length]; omega
theorem sealed_pad (l : List Int) (n : Nat) (x : Int) (i : Nat) (h : i < n) : (sealed l n x)[l.length + i]? = some ((i : Int) + 1) := by
  unfold sealed
  rw [List.append_assoc, List.getElem?_append_right (by omega), List.getElem?_append_left (by rw [pads_length]; omega)]
  rw [show l.length + i - l.length = i from by omega, pads_get n i h]
theorem sealed_n (l : List Int) (n : Nat) (x : Int) : (sealed l n x)[l.length + n]? = some (n : Int) := by
  unfold sealed
  rw [List.getElem?_append_right (by simp [pads_length])]
  have : l.length + n - (l ++ pads n).length = 0 := by simp [pads_length]
  rw [this]; rfl
theorem sealed_x (l : List Int) (n : Nat) (x : Int) : (sealed l n x)[l.length + n + 1]? = some x := by
  unfold sealed
  have hpl : (l ++ pads n).length = l.length + n := by rw [List.length_append, pads_length]
  rw [List.getElem?_append_right (by omega)]
  have : l.length + n + 1 - (l ++ pads n).length = 1 := by omega
  rw [this]; rfl
theorem rd_get (l : List Int) (i : Nat) (x : Int) (h : l[i]? = some x) : rd l (i : Int) = x := by
  unfold rd; rw [Int.toNat_natCast, List.getD_eq_getElem?_getD, h]; rfl
theorem sealed_take (l : List Int) (n : Nat) (x : Int) : (sealed l n x).take l.length = l := by
  unfold sealed; rw [List.append_assoc, List.take_left']; rfl
theorem sealed_bytes (l : List Int) (n : Nat) (x : Int) (hb : bytesB l = true) (hn : n ≤ 255) (hx : 0 ≤ x ∧ x ≤ 255) : bytesB (sealed l n x) = true := by
  unfold sealed bytesB
  rw [List.all_append, List.all_append, Bool.and_eq_true, Bool.and_eq_true]
  refine ⟨⟨hb, List.all_eq_true.mpr fun y hy => ?_⟩, ?_⟩
  · unfold pads at hy
    obtain ⟨i, hi, rfl⟩ := List.mem_map.mp hy
    have := List.mem_range.mp hi
    simp; omega
  · simp; omega
theorem open_sealed (l : List Int) (n : Nat) (x : Int) : openR (sealed l n x) = (l, x, 0) := by
  unfold openR
  have hl := sealed_length l n x
  have e0 : ((sealed l n x).length : Int) - 2 = ((l.length + n : Nat) : Int) := by omega
  have e1 : ((sealed l n x).length : Int) - 1 = ((l.length + n + 1 : Nat) : Int) := by omega
  rw [if_neg (by omega), e0, e1, rd_get _ _ _ (sealed_n l n x), rd_get _ _ _ (sealed_x l n x), if_neg (by omega), Int.toNat_natCast]
  have ef : (sealed l n x).length - 2 - n = l.length := by omega
  rw [ef, if_pos (List.all_eq_true.mpr fun i hi => by rw [rd_get _ _ _ (sealed_pad l n x i (by simpa using hi))]; simp), sealed_take]
theorem open_broken (l : List Int) (n : Nat) (x : Int) (i : Nat) (c : Int) (hi : i < n) (hc : ¬ c = (i : Int) + 1) : openR ((sealed l n x).set (l.length + i) c) = ([], 0, 130) := by
  unfold openR
  have hl : ((sealed l n x).set (l.length + i) c).length = l.length + n + 2 := by rw [List.length_set, sealed_length]
  have e0 : (((sealed l n x).set (l.length + i) c).length : Int) - 2 = ((l.length + n : Nat) : Int) := by omega
  have en : ((sealed l n x).set (l.length + i) c)[l.length + n]? = some (n : Int) := by rw [List.getElem?_set_ne (by omega)]; exact sealed_n l n x
  have ei : ((sealed l n x).set (l.length + i) c)[l.length + i]? = some c := by rw [List.getElem?_set_self (by rw [sealed_length]; omega)]
  rw [if_neg (by omega), e0, rd_get _ _ _ en, if_neg (by omega), Int.toNat_natCast]
  have ef : ((sealed l n x).set (l.length + i) c).length - 2 - n = l.length := by omega
  rw [ef, if_neg (fun hh => hc (by
    have := List.all_eq_true.mp hh i (by simpa using hi)
    rw [rd_get _ _ _ ei] at this
    simpa using this))]

theorem seal_ok (l : List Int) (x : Int) (hx : x / 256 = 0) (hl : l.length ≤ 65535) : sealR l x = (sealed l (padN l.length) x, 0) := by
  unfold sealR sealed; rw [if_pos hx, if_neg (by omega)]

theorem PadSeals (l : List Int) (x n : Int) (hw : ∀ y ∈ l, (Lit.int .u8 y).wf = true) (hz : l.length * 1 ≤ 140737488351232) (q : Nat) (hq : q = 299) : redoubtlaw12_PadSeals.f (q + 1) l x n = some true := by
  have hb := bytes_of_wf l hw
  have hl : l.length < 140737488355328 := by omega
  have T : redoubtlaw12_PadSeals.j0 (q + 1) l x n true = some true := by simp only [redoubtlaw12_PadSeals.j0, if_true]
  have B : n ≤ 1000000 → redoubtlaw12_PadSeals.j0 (q + 1) l x n false = some true := by
    intro hn
    simp only [redoubtlaw12_PadSeals.j0, Bool.false_eq_true, if_false]
    subst hq
    rw [show (299 : Nat) = 297 + 2 from by omega, both_one 297 l hl, Option.bind_some, show (297 + 2 : Nat) = 294 + 5 from by omega, seal_is 294 l x hl, Option.bind_some, show (294 + 5 : Nat) = 293 + 6 from by omega, refSeal_is 293 l x hl, Option.bind_some,
      open_is _ l hb hl, Option.bind_some, show (293 + 6 : Nat) = 39 + 260 from by omega, refOpen_is 39 l hb hl, Option.bind_some, show (39 + 260 : Nat) = 299 from by omega, awake_is, Option.bind_some, length_is n hn, Option.bind_some,
      show (299 : Nat) = 294 + 5 from by omega, refLength_is 294 n hn, Option.bind_some]
    simp
  have D : redoubtlaw12_PadSeals.j0 (q + 1) l x n (decide (n > 1000000)) = some true := by
    by_cases h : n > 1000000
    · rw [decide_eq_true h]; exact T
    · rw [decide_eq_false h]; exact B (by omega)
  unfold redoubtlaw12_PadSeals.f
  by_cases h1 : (l.length : Int) > 3000
  · rw [if_pos h1]
    by_cases h2 : (l.length : Int) < 65000
    · rw [if_pos h2]; exact T
    · rw [if_neg h2]
      by_cases h3 : (l.length : Int) > 66000
      · rw [if_pos h3]; exact T
      · rw [if_neg h3]; exact D
  · rw [if_neg h1, if_neg (by omega)]; exact D

theorem PadBack (l : List Int) (x : Int) (hw : ∀ y ∈ l, (Lit.int .u8 y).wf = true) : redoubtlaw12_PadBack.f 299 l x = some true := by
  have hb := bytes_of_wf l hw
  unfold redoubtlaw12_PadBack.f
  by_cases h3 : (l.length : Int) > 3000
  · rw [if_pos h3]
  · rw [if_neg h3, show (299 : Nat) = 294 + 5 from by omega, seal_is 294 l x (by omega), Option.bind_some, show (294 + 5 : Nat) = 299 from by omega]
    by_cases hx : x / 256 = 0
    · rw [seal_ok l x hx (by omega)]
      have hn := padN_le l.length
      have hsl := sealed_length l (padN l.length) x
      rw [if_pos rfl, open_is _ _ (sealed_bytes l _ x hb (by omega) (by omega)) (by rw [hsl]; omega), Option.bind_some, awake_is, Option.bind_some, open_sealed, if_pos rfl, if_pos rfl, if_pos rfl, if_pos rfl,
        length_is _ (by omega), Option.bind_some]
      have e : ((sealed l (padN l.length) x).length : Int) = lenR (l.length : Int) := by rw [hsl]; unfold lenR padN; rw [if_neg (by omega)]; omega
      rw [if_pos e, e]
      have e4 : lenR (l.length : Int) % 4 = 0 := by unfold lenR; rw [if_neg (by omega)]; omega
      have e2 : wrap64 (lenR (l.length : Int) - (l.length : Int)) = lenR (l.length : Int) - (l.length : Int) := wr _ (by unfold lenR; rw [if_neg (by omega)]; omega) (by unfold lenR; rw [if_neg (by omega)]; omega)
      have e5 : lenR (l.length : Int) - (l.length : Int) ≥ 2 ∧ lenR (l.length : Int) - (l.length : Int) ≤ 5 := by unfold lenR; rw [if_neg (by omega)]; omega
      rw [if_pos e4, e2, if_pos e5.1, decide_eq_true e5.2]
    · have e : sealR l x = ([], 1) := by unfold sealR; rw [if_neg hx]
      rw [e, if_neg (by decide), awake_is, Option.bind_some, if_pos rfl, if_pos rfl]
      by_cases h0 : x < 0
      · rw [if_pos h0]; rfl
      · rw [if_neg h0, if_pos (by omega)]; rfl

theorem PadRow (l : List Int) (x y : Int) (hw : ∀ y ∈ l, (Lit.int .u8 y).wf = true) : ∀ q : Nat, q = 299 → redoubtlaw12_PadRow.f (q + 1) l x y = some true := by
  intro q hq
  have hb := bytes_of_wf l hw
  have T : redoubtlaw12_PadRow.j0 (q + 1) l x y true = some true := by simp only [redoubtlaw12_PadRow.j0, if_true]
  have B : (l.length : Int) ≤ 2000 → 0 ≤ x → x ≤ 255 → 0 ≤ y → y ≤ 255 → redoubtlaw12_PadRow.j0 (q + 1) l x y false = some true := by
    intro h2 hx0 hx1 hy0 hy1
    simp only [redoubtlaw12_PadRow.j0, Bool.false_eq_true, if_false]
    subst hq
    have hn := padN_le l.length
    have hsl := sealed_length l (padN l.length) x
    have hsb := sealed_bytes l (padN l.length) x hb (by omega) ⟨hx0, hx1⟩
    have hn2 := padN_le (sealed l (padN l.length) x).length
    have hsl2 := sealed_length (sealed l (padN l.length) x) (padN (sealed l (padN l.length) x).length) y
    have hsb2 := sealed_bytes _ (padN (sealed l (padN l.length) x).length) y hsb (by omega) ⟨hy0, hy1⟩
    rw [show (299 : Nat) = 294 + 5 from by omega, seal_is 294 l x (by omega), Option.bind_some, seal_ok l x (by omega) (by omega)]
    simp only []
    rw [seal_is 294 _ y (by omega), Option.bind_some, seal_ok _ y (by omega) (by omega)]
    simp only []
    rw [open_is _ _ hsb2 (by omega), Option.bind_some, open_sealed]
    simp only []
    rw [open_is _ _ hsb (by omega), Option.bind_some, open_sealed, show (294 + 5 : Nat) = 299 from by omega, awake_is, Option.bind_some, wr ((l.length : Int) + 4) (by omega) (by omega), length_is _ (by omega), Option.bind_some, length_is _ (by omega), Option.bind_some]
    have e : wrap64 (lenR (l.length : Int) + 4) = lenR ((l.length : Int) + 4) := by
      rw [wr _ (by unfold lenR; rw [if_neg (by omega)]; omega) (by unfold lenR; rw [if_neg (by omega)]; omega)]
      unfold lenR; rw [if_neg (by omega), if_neg (by omega)]; omega
    rw [e]
    simp
  unfold redoubtlaw12_PadRow.f
  by_cases h2 : (l.length : Int) > 2000
  · rw [if_pos h2]; exact T
  · rw [if_neg h2]
    by_cases hx0 : x < 0
    · rw [if_pos hx0]; exact T
    · rw [if_neg hx0]
      by_cases hx1 : x > 255
      · rw [if_pos hx1]; exact T
      · rw [if_neg hx1]
        by_cases hy0 : y < 0
        · rw [if_pos hy0]; exact T
        · rw [if_neg hy0]
          by_cases hy1 : y > 255
          · rw [decide_eq_true hy1]; exact T
          · rw [decide_eq_false hy1]; exact B (by omega) (by omega) (by omega) (by omega) (by omega)

theorem long_j2 (l : List Int) (n : Nat) (hn : n ≤ 255) (x at_ c : Int) (hb : bytesB l = true) (hL : l.length ≤ 3000) (hx : 0 ≤ x ∧ x ≤ 255) (hc : 0 ≤ c ∧ c ≤ 255) (k : Nat) (hk : k = 299) :
    redoubtlaw12_PadLong.j2 (k + 2) l ((n : Nat) : Int) at_ c (sealed l n x) false = some true := by
  have hsl := sealed_length l n x
  have J : redoubtlaw12_PadLong.j3 (k + 1) l at_ c (sealed l n x) true = some true := by simp only [redoubtlaw12_PadLong.j3, if_true]; rw [hk, awake_is]; rfl
  simp only [redoubtlaw12_PadLong.j2, Bool.false_eq_true, if_false]
  by_cases h0 : at_ < 0
  · rw [if_pos h0]; exact J
  · rw [if_neg h0]
    by_cases h1 : at_ ≥ ((n : Nat) : Int)
    · rw [if_pos h1]; exact J
    · rw [if_neg h1]
      obtain ⟨i, rfl⟩ : ∃ i : Nat, at_ = (i : Int) := ⟨at_.toNat, by omega⟩
      have e : wrap64 ((l.length : Int) + (i : Int)) = ((l.length + i : Nat) : Int) := by rw [wr _ (by omega) (by omega)]; omega
      rw [e, if_pos (by omega), if_pos (by omega), rd_get _ _ _ (sealed_pad l n x i (by omega))]
      by_cases hcc : (i : Int) + 1 = c
      · rw [beq_iff_eq.mpr hcc]; exact J
      · rw [beq_eq_false_iff_ne.mpr hcc]
        simp only [redoubtlaw12_PadLong.j3, Bool.false_eq_true, if_false]
        rw [e, if_pos (by omega), if_pos (by omega), Int.toNat_natCast]
        have hsb : bytesB ((sealed l n x).set (l.length + i) c) = true := by
          have hs := sealed_bytes l n x hb hn hx
          refine List.all_eq_true.mpr fun y hy => ?_
          rcases List.mem_or_eq_of_mem_set hy with h | h
          · exact List.all_eq_true.mp hs y h
          · subst h; simp; exact hc
        rw [open_is _ _ hsb (by rw [List.length_set]; omega), Option.bind_some, open_broken l n x i c (by omega) (fun h => hcc h.symm), hk, awake_is]
        rfl
theorem long_l0 (l : List Int) (n : Nat) (hn : n ≤ 255) (x at_ c : Int) (hb : bytesB l = true) (hL : l.length ≤ 3000) (hx : 0 ≤ x ∧ x ≤ 255) (hc : 0 ≤ c ∧ c ≤ 255) : ∀ (d i : Nat), i + d = n →
    redoubtlaw12_PadLong.l0 (302 + d) l ((n : Nat) : Int) x at_ c (l ++ pads i) (((i : Nat) : Int) + 1) = some true
  | 0, i, h => by
    obtain rfl : i = n := by omega
    have hsl := sealed_length l i x
    obtain ⟨q, hq⟩ : ∃ q, q = 301 := ⟨_, rfl⟩
    rw [show 302 + 0 = q + 1 from by omega]
    simp only [redoubtlaw12_PadLong.l0]
    have e1 : ((i : Nat) : Int) % 256 = ((i : Nat) : Int) := by omega
    have e2 : x % 256 = x := by omega
    rw [if_neg (by omega), Option.bind_some, e1, e2, if_pos (by simp [pads_length]; omega), Option.bind_some]
    have es : l ++ pads i ++ [((i : Nat) : Int), x] = sealed l i x := rfl
    rw [es, open_is _ _ (sealed_bytes l i x hb hn hx) (by omega), Option.bind_some, open_sealed, if_pos rfl, if_pos rfl]
    have e3 : (x != x) = false := by simp
    obtain ⟨k, hk⟩ : ∃ k, k = 299 := ⟨_, rfl⟩
    rw [e3, show q = k + 2 from by omega]
    exact long_j2 l i hn x at_ c hb hL hx hc k hk
  | d + 1, i, h => by
    obtain ⟨q, hq⟩ : ∃ q, q = 302 + d := ⟨_, rfl⟩
    rw [show 302 + (d + 1) = q + 1 from by omega]
    simp only [redoubtlaw12_PadLong.l0]
    rw [if_pos (by omega), if_pos (by simp [pads_length]; omega), show (((i : Nat) : Int) + 1) % 256 = ((i : Nat) : Int) + 1 from by omega, List.append_assoc, ← pads_snoc, wr (((i : Nat) : Int) + 1 + 1) (by omega) (by omega),
      show ((i : Nat) : Int) + 1 + 1 = ((i + 1 : Nat) : Int) + 1 from by omega, hq]
    exact long_l0 l n hn x at_ c hb hL hx hc d (i + 1) (by omega)
theorem PadLong (l : List Int) (n x at_ c : Int) (hw : ∀ y ∈ l, (Lit.int .u8 y).wf = true) (hc : (Lit.int .u8 c).wf = true) : ∃ k, redoubtlaw12_PadLong.f k l n x at_ c = some true := by
  have hb := bytes_of_wf l hw
  have hc' := bounds_u8 hc
  by_cases hn : 0 ≤ n ∧ n ≤ 255
  · obtain ⟨m, rfl⟩ : ∃ m : Nat, n = (m : Int) := ⟨n.toNat, by omega⟩
    refine ⟨302 + m + 1, ?_⟩
    have T : redoubtlaw12_PadLong.j0 (302 + m + 1) l ((m : Nat) : Int) x at_ c true = some true := by simp only [redoubtlaw12_PadLong.j0, if_true]
    unfold redoubtlaw12_PadLong.f
    by_cases h3 : (l.length : Int) > 3000
    · rw [if_pos h3]; exact T
    · rw [if_neg h3, if_neg (by omega), if_neg (by omega)]
      by_cases hx0 : x < 0
      · rw [if_pos hx0]; exact T
      · rw [if_neg hx0]
        by_cases hx1 : x > 255
        · rw [decide_eq_true hx1]; exact T
        · rw [decide_eq_false hx1]
          simp only [redoubtlaw12_PadLong.j0, Bool.false_eq_true, if_false]
          rw [show 302 + m = (300 + m) + 2 from by omega, both_one _ l (by omega), Option.bind_some, show (300 + m) + 2 = 302 + m from by omega]
          have := long_l0 l m (by omega) x at_ c hb (by omega) (by omega) hc' m 0 (by omega)
          simpa [pads] using this
  · refine ⟨0 + 1, ?_⟩
    have T : redoubtlaw12_PadLong.j0 (0 + 1) l n x at_ c true = some true := by simp only [redoubtlaw12_PadLong.j0, if_true]
    unfold redoubtlaw12_PadLong.f
    by_cases h3 : (l.length : Int) > 3000
    · rw [if_pos h3]; exact T
    · rw [if_neg h3]
      by_cases h0 : n < 0
      · rw [if_pos h0]; exact T
      · rw [if_neg h0, if_pos (by omega)]; exact T
section
variable {H : Type} {enc : TypeId × Value → H} {e0 : DataW H} {ps : List MemPlace}
theorem seals_walk (a : Option Addr) (len cap : Nat) (x n : Int) (w : World) (k0 : DataW.Trod enc Try.prog w 0 (fun _ => true) true 22 (.slice a len cap) e0 ps) (wt : ∀ n ∈ e0.weights Try.prog 22, n ≤ 140737488351232)
    (_ : (Lit.int .i64 x).wf = true) (_ : (Lit.int .i64 n).wf = true) : Calls Try.prog 3 #[.slice a len cap, .int .i64 x, .int .i64 n] w fun e w' => e = .returned (.bool true) ∧ Below w.heap.size w w' := by
  obtain ⟨l, rfl, hc, hr, hw, _, hz⟩ := Came.ints (B := 1) Try.underlying22 Try.underlying5 (by kernel_rfl) (by kernel_rfl) k0 wt
  exact redoubtlaw12_PadSeals.calls _ (fun _ => True) a cap l x n true w (Came.shared hc hr) (PadSeals l x n hw hz 299 rfl) rfl
theorem back_walk (a : Option Addr) (len cap : Nat) (x : Int) (w : World) (k0 : DataW.Trod enc Try.prog w 0 (fun _ => true) true 22 (.slice a len cap) e0 ps) (wt : ∀ n ∈ e0.weights Try.prog 22, n ≤ 140737488351232)
    (_ : (Lit.int .i64 x).wf = true) : Calls Try.prog 4 #[.slice a len cap, .int .i64 x] w fun e w' => e = .returned (.bool true) ∧ Below w.heap.size w w' := by
  obtain ⟨l, rfl, hc, hr, hw, _, hz⟩ := Came.ints (B := 1) Try.underlying22 Try.underlying5 (by kernel_rfl) (by kernel_rfl) k0 wt
  exact redoubtlaw12_PadBack.calls _ a cap l x true w (Kd.C_of_reads (d := (0 : Int)) (h1 := fun _ => rfl) hr) hc (PadBack l x hw) rfl
theorem long_walk (a : Option Addr) (len cap : Nat) (n x at_ c : Int) (w : World) (k0 : DataW.Trod enc Try.prog w 0 (fun _ => true) true 22 (.slice a len cap) e0 ps) (wt : ∀ n ∈ e0.weights Try.prog 22, n ≤ 140737488351232)
    (_ : (Lit.int .i64 n).wf = true) (_ : (Lit.int .i64 x).wf = true) (_ : (Lit.int .i64 at_).wf = true) (hcw : (Lit.int .u8 c).wf = true) :
    Calls Try.prog 5 #[.slice a len cap, .int .i64 n, .int .i64 x, .int .i64 at_, .int .u8 c] w fun e w' => e = .returned (.bool true) ∧ Below w.heap.size w w' := by
  obtain ⟨l, rfl, hc, hr, hw, _, hz⟩ := Came.ints (B := 1) Try.underlying22 Try.underlying5 (by kernel_rfl) (by kernel_rfl) k0 wt
  obtain ⟨k, hk⟩ := PadLong l n x at_ c hw hcw
  exact redoubtlaw12_PadLong.calls k (fun _ => True) a cap l n x at_ c true w (Came.shared hc hr) hk rfl
theorem row_walk (a : Option Addr) (len cap : Nat) (x y : Int) (w : World) (k0 : DataW.Trod enc Try.prog w 0 (fun _ => true) true 22 (.slice a len cap) e0 ps) (wt : ∀ n ∈ e0.weights Try.prog 22, n ≤ 140737488351232)
    (_ : (Lit.int .i64 x).wf = true) (_ : (Lit.int .i64 y).wf = true) : Calls Try.prog 6 #[.slice a len cap, .int .i64 x, .int .i64 y] w fun e w' => e = .returned (.bool true) ∧ Below w.heap.size w w' := by
  obtain ⟨l, rfl, hc, hr, hw, _, hz⟩ := Came.ints (B := 1) Try.underlying22 Try.underlying5 (by kernel_rfl) (by kernel_rfl) k0 wt
  exact redoubtlaw12_PadRow.calls _ a cap l x y true w (Kd.C_of_reads (d := (0 : Int)) (h1 := fun _ => rfl) hr) hc (PadRow l x y hw 299 rfl) rfl
end
end Go.Proofs.Ytddkcepofoifdaa.Pad

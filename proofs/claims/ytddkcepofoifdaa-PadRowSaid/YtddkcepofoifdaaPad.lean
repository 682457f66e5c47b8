/- Plain facts on the functions of package pad and of its reference, as the print tells them: what Length, Seal, Open answer. No memory, no Go. -/
import Derived.Test.YtddkcepofoifdaaQPdx4
import Derived.Test.YtddkcepofoifdaaQPdx5
import Derived.Test.YtddkcepofoifdaaQPdx6
import Derived.Test.YtddkcepofoifdaaQPdx7
import Derived.Test.YtddkcepofoifdaaQPdx8
import Derived.Test.YtddkcepofoifdaaQPdx9
import Derived.OpenShut
set_option linter.unusedSimpArgs false
set_option linter.unusedVariables false
namespace Go.Proofs.Ytddkcepofoifdaa.Pad
open Go.RowKit Go.Proofs.Ytddkcepofoifdaa.QPd Go.Proofs.YtddkcepofoifdaaW.PrintWords Go.Proofs.YtddkcepofoifdaaW.PrintLast Go.Proofs.YtddkcepofoifdaaW.PrintMore

theorem wr (x : Int) (h0 : -9223372036854775808 ≤ x) (h1 : x ≤ 9223372036854775807) : wrap64 x = x := by unfold wrap64; omega
def LIMIT : Nat := 140737488355328
theorem both_one (k : Nat) (l : List Int) (hl : l.length < 140737488355328) : redoubtref01_Both.f (k + 2) [l] = some l := by
  have w1 : wrap64 (0 + 1) = 1 := by unfold wrap64; omega
  unfold redoubtref01_Both.f
  simp only [redoubtref01_Both.l0, w1, List.length_cons, List.length_nil]
  simp [rd_L1, hl]
theorem clone_is (l : List Int) (hl : l.length < 140737488355328) : slices_Clone_byte_byte.f l = some l := by
  unfold slices_Clone_byte_byte.f; rw [if_pos (by simpa using hl)]; rfl

def lenR (n : Int) : Int := if n < 0 then 0 else (n + 5) / 4 * 4
theorem length_is (n : Int) (hn : n ≤ 1000000) : pad_Length.f n = some (lenR n) := by
  unfold pad_Length.f lenR
  split
  · rfl
  · rw [wr (n + 2) (by omega) (by omega), wr (n + 2 + 4) (by omega) (by omega), wr (n + 2 + 4 - 1) (by omega) (by omega), Int.tdiv_eq_ediv_of_nonneg (by omega), wr ((n + 2 + 4 - 1) / 4) (by omega) (by omega), wr ((n + 2 + 4 - 1) / 4 * 4) (by omega) (by omega)]
    congr 2; omega
theorem refLength_is (k : Nat) (n : Int) (hn : n ≤ 1000000) : redoubtref12_Length.f (k + 5) n = some (lenR n) := by
  unfold redoubtref12_Length.f lenR
  split
  · rfl
  · rename_i h
    have st : ∀ (q : Nat) (x : Int), 0 ≤ x → x ≤ 2000000 → redoubtref12_Length.l0 (q + 1) x = if x % 4 = 0 then some x else redoubtref12_Length.l0 q (x + 1) := by
      intro q x h0 h1
      simp only [redoubtref12_Length.l0]
      rw [Int.tmod_eq_emod_of_nonneg h0, wr (x + 1) (by omega) (by omega)]
    rw [wr (n + 2) (by omega) (by omega), st (k + 4) _ (by omega) (by omega)]
    by_cases h0 : (n + 2) % 4 = 0
    · rw [if_pos h0]; congr 1; omega
    · rw [if_neg h0, st (k + 3) _ (by omega) (by omega)]
      by_cases h1 : (n + 2 + 1) % 4 = 0
      · rw [if_pos h1]; congr 1; omega
      · rw [if_neg h1, st (k + 2) _ (by omega) (by omega)]
        by_cases h2 : (n + 2 + 1 + 1) % 4 = 0
        · rw [if_pos h2]; congr 1; omega
        · rw [if_neg h2, st (k + 1) _ (by omega) (by omega), if_pos (by omega)]; congr 1; omega

def pads (n : Nat) : List Int := (List.range n).map fun i => ((i : Nat) : Int) + 1
def padN (L : Nat) : Nat := (L + 5) / 4 * 4 - L - 2
theorem padN_le (L : Nat) : padN L ≤ 3 := by unfold padN; omega
def sealR (l : List Int) (x : Int) : List Int × Int := if x / 256 = 0 then (if l.length > 65535 then ([], 2) else (l ++ pads (padN l.length) ++ [((padN l.length : Nat) : Int), x], 0)) else ([], 1)
theorem pads_snoc (n : Nat) : pads (n + 1) = pads n ++ [((n : Nat) : Int) + 1] := by unfold pads; rw [List.range_succ, List.map_append]; rfl
theorem pads_length (n : Nat) : (pads n).length = n := by unfold pads; simp

theorem seal_loop (x : Int) (hx : 0 ≤ x ∧ x ≤ 255) (l : List Int) (n : Nat) (hn : n ≤ 255) (hl : l.length ≤ 100000) (k : Nat) : ∀ (d i : Nat), i + d = n →
    pad_Seal.l0 (k + d + 1) x ((n : Nat) : Int) (l ++ pads i) ((n : Nat) : Int) ((i : Nat) : Int) = some (l ++ pads n ++ [((n : Nat) : Int), x], 0)
  | 0, i, h => by
    obtain rfl : i = n := by omega
    simp only [pad_Seal.l0, Nat.add_zero]
    have e1 : ((i : Nat) : Int) % 256 = ((i : Nat) : Int) := by omega
    have e2 : x % 256 = x := by omega
    rw [if_neg (by omega), Option.bind_some, e1, e2, if_pos (by simp [pads_length]; omega)]
  | d + 1, i, h => by
    obtain ⟨q, hq⟩ : ∃ q, q = k + d + 1 := ⟨_, rfl⟩
    rw [show k + (d + 1) + 1 = q + 1 from by omega]
    simp only [pad_Seal.l0]
    rw [if_pos (by omega), if_pos (by simp [pads_length]; omega), wr (((i : Nat) : Int) + 1) (by omega) (by omega), show (((i : Nat) : Int) + 1) % 256 = ((i : Nat) : Int) + 1 from by omega, List.append_assoc, ← pads_snoc,
      show ((i : Nat) : Int) + 1 = ((i + 1 : Nat) : Int) from by omega]
    rw [hq]
    exact seal_loop x hx l n hn hl k d (i + 1) (by omega)
theorem seal_is (k : Nat) (l : List Int) (x : Int) (hl : l.length < 140737488355328) : pad_Seal.f (k + 5) l x = some (sealR l x) := by
  unfold pad_Seal.f sealR
  by_cases hx : x / 256 = 0
  · rw [if_pos hx, if_pos hx]
    by_cases hL : (l.length : Int) > 65535
    · rw [if_pos hL, if_pos (by omega)]
    · rw [if_neg hL, if_neg (by omega), length_is _ (by omega), Option.bind_some, clone_is l hl, Option.bind_some]
      have e : wrap64 (wrap64 (lenR (l.length : Int) - (l.length : Int)) - 2) = ((padN l.length : Nat) : Int) := by
        unfold lenR padN
        rw [if_neg (by omega), wr (((l.length : Int) + 5) / 4 * 4 - (l.length : Int)) (by omega) (by omega), wr (((l.length : Int) + 5) / 4 * 4 - (l.length : Int) - 2) (by omega) (by omega)]
        omega
      rw [e]
      have h3 := padN_le l.length
      have := seal_loop x (by omega) l (padN l.length) (by omega) (by omega) (k + 4 - padN l.length) (padN l.length) 0 (by omega)
      rw [show k + 4 - padN l.length + padN l.length + 1 = k + 5 from by omega] at this
      simpa [pads] using this
  · rw [if_neg hx, if_neg hx]
theorem refSeal_loop (x : Int) (hx : 0 ≤ x ∧ x ≤ 255) (l : List Int) (n : Nat) (hn : n = padN l.length) (hl : l.length ≤ 100000) (k : Nat) : ∀ (d i : Nat), i + d = n →
    redoubtref12_Seal.l0 (k + d + 1) x (l ++ pads i) ((i : Nat) : Int) = some (l ++ pads n ++ [((n : Nat) : Int), x], 0)
  | 0, i, h => by
    obtain rfl : i = n := by omega
    have h3 := padN_le l.length
    simp only [redoubtref12_Seal.l0, Nat.add_zero]
    have e0 : ((l ++ pads i).length : Int) = ((l.length + i : Nat) : Int) := by simp [pads_length]
    have e1 : ((i : Nat) : Int) % 256 = ((i : Nat) : Int) := by omega
    have e2 : x % 256 = x := by omega
    rw [e0, wr _ (by omega) (by omega), Int.tmod_eq_emod_of_nonneg (by omega), if_pos (by subst hn; unfold padN; omega), Option.bind_some, e1, e2, if_pos (by simp [pads_length]; omega)]
  | d + 1, i, h => by
    have h3 := padN_le l.length
    obtain ⟨q, hq⟩ : ∃ q, q = k + d + 1 := ⟨_, rfl⟩
    rw [show k + (d + 1) + 1 = q + 1 from by omega]
    simp only [redoubtref12_Seal.l0]
    have e0 : ((l ++ pads i).length : Int) = ((l.length + i : Nat) : Int) := by simp [pads_length]
    rw [e0, wr _ (by omega) (by omega), Int.tmod_eq_emod_of_nonneg (by omega), if_neg (by subst hn; unfold padN at *; omega), if_pos (by simp [pads_length]; omega), wr (((i : Nat) : Int) + 1) (by omega) (by omega),
      show (((i : Nat) : Int) + 1) % 256 = ((i : Nat) : Int) + 1 from by omega, List.append_assoc, ← pads_snoc, show ((i : Nat) : Int) + 1 = ((i + 1 : Nat) : Int) from by omega]
    rw [hq]
    exact refSeal_loop x hx l n hn hl k d (i + 1) (by omega)
theorem refSeal_is (k : Nat) (l : List Int) (x : Int) (hl : l.length < 140737488355328) : redoubtref12_Seal.f (k + 6) l x = some (sealR l x) := by
  have T : redoubtref12_Seal.j0 (k + 6) l x true = some ([], 1) := by simp only [redoubtref12_Seal.j0, if_true]
  unfold redoubtref12_Seal.f sealR
  by_cases h0 : x < 0
  · rw [if_pos h0, T, if_neg (by omega)]
  · rw [if_neg h0]
    by_cases h1 : x > 255
    · rw [decide_eq_true h1, T, if_neg (by omega)]
    · rw [decide_eq_false h1, if_pos (by omega)]
      simp only [redoubtref12_Seal.j0, Bool.false_eq_true, if_false]
      by_cases hL : (l.length : Int) > 65535
      · rw [if_pos hL, if_pos (by omega)]
      · rw [if_neg hL, if_neg (by omega), show k + 5 = (k + 3) + 2 from rfl, both_one _ l hl, Option.bind_some]
        have h3 := padN_le l.length
        have := refSeal_loop x (by omega) l (padN l.length) rfl (by omega) (k + 4 - padN l.length) (padN l.length) 0 (by omega)
        rw [show k + 4 - padN l.length + padN l.length + 1 = k + 3 + 2 from by omega] at this
        simpa [pads] using this

theorem open_is (k : Nat) (l : List Int) (hb : bytesB l = true) (hl : l.length < 140737488355328) : pad_Open.f k l = some (openR l) := by
  unfold pad_Open.f; rw [if_pos ⟨hb, hl⟩]

open Classical in
/-- The reference's loop over the padding. -/
theorem refOpen_loop (l : List Int) (hb : ∀ i, 0 ≤ rd l i ∧ rd l i ≤ 255) (f n : Nat) (hl : l.length = f + n + 2) (hL : l.length < 140737488355328) (hn : n ≤ 255) (k : Nat) : ∀ (d i : Nat), i + d = n →
    redoubtref12_Open.l0 (k + d + 3) l ((n : Nat) : Int) ((f : Nat) : Int) ((i : Nat) : Int) =
      some (if ∀ j : Nat, i ≤ j → j < n → rd l ((f + j : Nat) : Int) = (j : Int) + 1 then (l.take f, rd l ((f + n + 1 : Nat) : Int), 0) else ([], 0, 130))
  | 0, i, h => by
    obtain rfl : i = n := by omega
    simp only [redoubtref12_Open.l0, Nat.add_zero]
    have e1 : wrap64 ((l.length : Int) - 1) = ((f + i + 1 : Nat) : Int) := by rw [wr _ (by omega) (by omega)]; omega
    have hx := hb ((f + i + 1 : Nat) : Int)
    rw [if_neg (by omega), if_pos (by omega), if_pos (by omega), Int.toNat_natCast, both_one k (l.take f) (by rw [List.length_take]; omega), Option.bind_some, e1, if_pos (by omega), if_pos (by omega), wr _ (by omega) (by omega),
      if_pos (fun j h1 h2 => absurd h2 (by omega))]
  | d + 1, i, h => by
    obtain ⟨q, hq⟩ : ∃ q, q = k + d + 3 := ⟨_, rfl⟩
    rw [show k + (d + 1) + 3 = q + 1 from by omega]
    simp only [redoubtref12_Open.l0]
    have e1 : wrap64 (((f : Nat) : Int) + ((i : Nat) : Int)) = ((f + i : Nat) : Int) := by rw [wr _ (by omega) (by omega)]; omega
    have hx := hb ((f + i : Nat) : Int)
    rw [if_pos (by omega), e1, if_pos (by omega), if_pos (by omega), wr (rd l _) (by omega) (by omega), wr (((i : Nat) : Int) + 1) (by omega) (by omega)]
    by_cases hg : rd l ((f + i : Nat) : Int) = ((i : Nat) : Int) + 1
    · rw [if_pos hg, show ((i : Nat) : Int) + 1 = ((i + 1 : Nat) : Int) from by omega, hq, refOpen_loop l hb f n hl hL hn k d (i + 1) (by omega)]
      congr 1
      by_cases hall : ∀ j : Nat, i ≤ j → j < n → rd l ((f + j : Nat) : Int) = (j : Int) + 1
      · rw [if_pos hall, if_pos (fun j h1 h2 => hall j (by omega) h2)]
      · rw [if_neg hall, if_neg (fun hh => hall fun j h1 h2 => by
          by_cases e : j = i
          · subst e; exact hg
          · exact hh j (by omega) h2)]
    · rw [if_neg hg, if_neg (fun hh => hg (hh i (Nat.le_refl _) (by omega)))]
theorem refOpen_is (k : Nat) (l : List Int) (hb : bytesB l = true) (hL : l.length < 140737488355328) : redoubtref12_Open.f (k + 260) l = some (openR l) := by
  have hr := rd_bytes l hb
  unfold redoubtref12_Open.f openR
  by_cases h2 : l.length < 2
  · rw [if_pos (by omega), if_pos h2]
  · rw [if_neg (by omega), if_neg h2]
    obtain ⟨m, hm⟩ : ∃ m, l.length = m + 2 := ⟨l.length - 2, by omega⟩
    have e0 : wrap64 ((l.length : Int) - 2) = (m : Int) := by rw [wr _ (by omega) (by omega)]; omega
    have e0' : ((l.length : Int) - 2) = (m : Int) := by omega
    have hx := hr (m : Int)
    rw [e0, e0', if_pos (by omega), if_pos (by omega), wr (rd l (m : Int)) (by omega) (by omega), wr ((m : Int) - rd l (m : Int)) (by omega) (by omega)]
    obtain ⟨n, hn⟩ : ∃ n : Nat, rd l (m : Int) = (n : Int) := ⟨(rd l (m : Int)).toNat, by omega⟩
    rw [hn]
    by_cases hbig : (m : Int) < (n : Int)
    · rw [if_pos (by omega), if_pos hbig]
    · rw [if_neg (by omega), if_neg hbig]
      obtain ⟨f, hf⟩ : ∃ f, f + n = m := ⟨m - n, by omega⟩
      have hn255 : n ≤ 255 := by omega
      have L := refOpen_loop l hr f n (by omega) hL hn255 (k + 257 - n) n 0 (by omega)
      rw [show k + 257 - n + n + 3 = k + 260 from by omega, show (((0 : Nat)) : Int) = 0 from rfl] at L
      rw [show (m : Int) - (n : Int) = (f : Int) from by omega, L]
      have ef : l.length - 2 - ((n : Int)).toNat = f := by omega
      have el : (l.length : Int) - 1 = ((f + n + 1 : Nat) : Int) := by omega
      rw [ef, el]
      congr 1
      by_cases hall : ∀ j : Nat, 0 ≤ j → j < n → rd l ((f + j : Nat) : Int) = (j : Int) + 1
      · rw [if_pos hall, if_pos (List.all_eq_true.mpr fun i hi => by
          have := hall i (Nat.zero_le _) (by simpa using hi); simpa using this)]
      · rw [if_neg hall, if_neg (fun hh => hall fun j _ h2 => by
          have := List.all_eq_true.mp hh j (by simpa using h2); simpa using this)]
end Go.Proofs.Ytddkcepofoifdaa.Pad

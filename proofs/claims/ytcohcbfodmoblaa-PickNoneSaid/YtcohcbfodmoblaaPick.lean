/- Plain facts on the functions of package pick, as the print tells them: what Compare, Check, Matches and Of answer, as Bools and numbers. No memory, no Go. -/
import Derived.Test.YtcohcbfodmoblaaQPkx4
import Derived.Test.YtcohcbfodmoblaaQPkx18
import Derived.Test.YtcohcbfodmoblaaQPkx20
import Derived.Test.YtcohcbfodmoblaaQPkx21
import Derived.Test.YtcohcbfodmoblaaQStr
set_option linter.unusedSimpArgs false
set_option linter.unusedVariables false
namespace Go.Proofs.Ytcohcbfodmoblaa.Pick
open Go.RowKit Go.Proofs.Ytcohcbfodmoblaa.QPk Go.Proofs.YtcohcbfodmoblaaW.PrintWords Go.Proofs.YtcohcbfodmoblaaW.PrintLast

def less (a b : ByteArray) : Bool := Op.bytesLess a.toList b.toList
def cmpI (a b : Int) : Int := if a < b then -1 else if a > b then 1 else 0
def cmpS (a b : ByteArray) : Int := if less a b = true then -1 else if less b a = true then 1 else 0
def cmpA (a b : ByteArray) : Int := if cmpI a.size b.size = 0 then cmpS a b else cmpI a.size b.size

theorem cmpInt_is (a b : Int) : cmp_Compare_int.f a b = some (cmpI a b) := by
  simp only [cmp_Compare_int.f, cmp_isNaN_int.f, Option.bind_some, bne_self_eq_false, Bool.false_eq_true, if_false, cmpI]
  split
  · rfl
  · split <;> rfl
theorem cmpStr_is (a b : ByteArray) : cmp_Compare_string.f a b = some (cmpS a b) := by
  simp only [cmp_Compare_string.f, cmp_isNaN_string.f, Option.bind_some, bne_self_eq_false, Bool.false_eq_true, if_false, cmpS, less]
  by_cases h1 : Op.bytesLess a.toList b.toList = true
  · simp [h1]
  · by_cases h2 : Op.bytesLess b.toList a.toList = true
    · simp [h1, h2]
    · simp [h1, h2]
theorem or_is (k : Nat) (x y : Int) : cmp_Or_int.f (k + 3) [x, y] = some (if x = 0 then y else x) := by
  have w0 : wrap64 (0 + 1) = 1 := by unfold wrap64; omega
  have w1 : wrap64 (1 + 1) = 2 := by unfold wrap64; omega
  simp only [cmp_Or_int.f, cmp_Or_int.l0, w0, w1, List.length_cons, List.length_nil]
  simp [rd]
  by_cases hx : x = 0
  · by_cases hy : y = 0
    · simp [hx, hy]
    · simp [hx, hy]
  · simp [hx]
theorem compare_is (k : Nat) (a b : ByteArray) : addr_Compare.f (k + 3) a b = some (cmpA a b) := by
  simp only [addr_Compare.f, cmpInt_is, cmpStr_is, Option.bind_some, or_is, cmpA]

def spanB (a b : ByteArray) : Bool := (b.size == a.size) && ((a.size == 0) || (((a.size == 4) || (a.size == 16)) && !(less b a)))
theorem less_irrefl (l : List UInt8) : Op.bytesLess l l = false := by
  induction l with
  | nil => rfl
  | cons a x ih => unfold Op.bytesLess; simp [ih]
theorem less_asymm (a b : List UInt8) (h : Op.bytesLess a b = true) : Op.bytesLess b a = false := by
  have := less_tri a b
  rw [h] at this
  simpa using this.symm
theorem cmpA_le (a b : ByteArray) (h : b.size = a.size) : decide (cmpA a b ≤ 0) = !(less b a) := by
  unfold cmpA cmpI
  rw [h]
  simp only [Int.lt_irrefl, gt_iff_lt, if_false, if_true]
  unfold cmpS
  by_cases h1 : less a b = true
  · have : less b a = false := less_asymm _ _ h1
    simp [h1, this]
  · by_cases h2 : less b a = true
    · simp [h1, h2]
    · simp [h1, h2]
theorem span_is (k : Nat) (a b : ByteArray) : pick_span.f (k + 3) a b = some (spanB a b) := by
  unfold pick_span.f spanB
  by_cases h : (b.size : Int) = (a.size : Int)
  · have h' : b.size = a.size := by omega
    rw [if_pos h]
    by_cases h0 : (a.size : Int) = 0
    · have : a.size = 0 := by omega
      rw [if_pos h0]; simp [h', this]
    · rw [if_neg h0]
      have n0 : ¬ a.size = 0 := by omega
      by_cases h4 : (a.size : Int) = 4
      · have n4 : a.size = 4 := by omega
        rw [if_pos h4, compare_is, Option.bind_some, cmpA_le a b h']; simp [h', n4]
      · rw [if_neg h4]
        have n4 : ¬ a.size = 4 := by omega
        by_cases h6 : (a.size : Int) = 16
        · have n6 : a.size = 16 := by omega
          rw [if_pos h6, compare_is, Option.bind_some, cmpA_le a b h']; simp [h', n6]
        · have n6 : ¬ a.size = 16 := by omega
          rw [if_neg h6]; simp [h', n0, n4, n6]
  · have h' : ¬ b.size = a.size := by omega
    rw [if_neg h]; simp [h']
def withinI (a b c : Int) : Bool := decide (a ≤ b) && decide (b ≤ c)
theorem within_is (a b c : Int) : pick_within_int.f a b c = some (withinI a b c) := by
  unfold pick_within_int.f withinI
  split <;> rename_i h <;> simp [h]
def portsB (a b : Int) : Bool := withinI 0 a b && decide (b ≤ 65535)
theorem ports_is (a b : Int) : pick_ports.f a b = some (portsB a b) := by
  unfold pick_ports.f portsB
  rw [within_is, Option.bind_some]
  split <;> rename_i h <;> simp [h]
def checkB (a0 a1 a2 a3 : ByteArray) (a4 a5 a6 a7 a8 : Int) : Bool := spanB a0 a1 && (spanB a2 a3 && (withinI (-1) a4 255 && (portsB a5 a6 && portsB a7 a8)))
theorem check_is (k : Nat) (a0 a1 a2 a3 : ByteArray) (a4 a5 a6 a7 a8 : Int) :
    pick_Check.f (k + 3) a0 a1 a2 a3 a4 a5 a6 a7 a8 = some (if checkB a0 a1 a2 a3 a4 a5 a6 a7 a8 = true then 0 else 1) := by
  simp only [pick_Check.f, span_is, within_is, ports_is, Option.bind_some, checkB]
  by_cases h1 : spanB a0 a1 = true <;> by_cases h2 : spanB a2 a3 = true <;> by_cases h3 : withinI (-1) a4 255 = true <;> by_cases h4 : portsB a5 a6 = true <;> by_cases h5 : portsB a7 a8 = true <;> simp [h1, h2, h3, h4, h5]
def inB (x lo hi : ByteArray) : Bool := (lo.size == 0) || ((x.size == lo.size) && (!(less x lo) && !(less hi x)))
theorem toList_nil (a : ByteArray) : a.toList = [] ↔ a.size = 0 := by
  have h : a.toList.length = a.size := by rw [ByteArray.toList_eq]; exact Array.length_toList
  constructor
  · intro e; rw [e] at h; simpa using h.symm
  · intro e; rw [e] at h; exact List.length_eq_zero_iff.mp h
theorem in_is (x lo hi : ByteArray) : pick_in.f x lo hi = some (inB x lo hi) := by
  unfold pick_in.f inB
  by_cases h : lo.toList = ([] : List UInt8)
  · rw [if_pos h]; simp [(toList_nil lo).mp h]
  · have h0 : ¬ lo.size = 0 := fun e => h ((toList_nil lo).mpr e)
    rw [if_neg h]
    by_cases hs : (x.size : Int) = (lo.size : Int)
    · have hs' : x.size = lo.size := by omega
      rw [if_pos hs]
      simp only [pick_within_string.f, less]
      by_cases hl : Op.bytesLess x.toList lo.toList = true
      · simp [hl, h0, hs']
      · simp [hl, h0, hs']
    · have hs' : ¬ x.size = lo.size := by omega
      rw [if_neg hs]; simp [h0, hs']
def portB (n lo hi : Int) : Bool := if n < 0 then (lo == 0 && hi == 65535) else withinI lo n hi
theorem port_is (n lo hi : Int) : pick_port.f n lo hi = some (portB n lo hi) := by
  unfold pick_port.f portB
  split
  · rfl
  · rw [within_is]; rfl
def matchB (a0 a1 a2 a3 : ByteArray) (a4 a5 a6 a7 a8 : Int) (h t : ByteArray) (p n f : Int) : Bool :=
  checkB a0 a1 a2 a3 a4 a5 a6 a7 a8 && (inB h a0 a1 && (inB t a2 a3 && ((a4 == -1 || a4 == p) && (portB n a5 a6 && portB f a7 a8))))
theorem matches_is (k : Nat) (a0 a1 a2 a3 : ByteArray) (a4 a5 a6 a7 a8 : Int) (h t : ByteArray) (p n f : Int) :
    pick_Matches.f (k + 3) a0 a1 a2 a3 a4 a5 a6 a7 a8 h t p n f = some (matchB a0 a1 a2 a3 a4 a5 a6 a7 a8 h t p n f) := by
  simp only [pick_Matches.f, check_is, in_is, port_is, Option.bind_some, matchB]
  by_cases e1 : a4 = -1
  · by_cases h1 : checkB a0 a1 a2 a3 a4 a5 a6 a7 a8 = true <;> by_cases h2 : inB h a0 a1 = true <;> by_cases h3 : inB t a2 a3 = true <;> by_cases h4 : portB n a5 a6 = true <;> by_cases h5 : portB f a7 a8 = true <;> simp [e1] at * <;> simp [h1, h2, h3, h4, h5]
  · by_cases e2 : a4 = p
    · by_cases h1 : checkB a0 a1 a2 a3 a4 a5 a6 a7 a8 = true <;> by_cases h2 : inB h a0 a1 = true <;> by_cases h3 : inB t a2 a3 = true <;> by_cases h4 : portB n a5 a6 = true <;> by_cases h5 : portB f a7 a8 = true <;> simp [e1, e2] at * <;> simp [h1, h2, h3, h4, h5]
    · by_cases h1 : checkB a0 a1 a2 a3 a4 a5 a6 a7 a8 = true <;> by_cases h2 : inB h a0 a1 = true <;> by_cases h3 : inB t a2 a3 = true <;> simp [e1, e2, h1, h2, h3]

theorem wr (x : Int) (h0 : -9223372036854775808 ≤ x) (h1 : x ≤ 9223372036854775807) : wrap64 x = x := by unfold wrap64; omega
theorem few_is (a0 a1 a2 a3 : ByteArray) (a4 a5 a6 a7 a8 : Int) (h t : ByteArray) (p n f : Int)
    (z0 : a0.size ≤ 140737488351232) (z1 : a1.size ≤ 140737488351232) (z2 : a2.size ≤ 140737488351232) (z3 : a3.size ≤ 140737488351232) (z4 : h.size ≤ 140737488351232) (z5 : t.size ≤ 140737488351232) :
    redoubtlaw15_few.f a0 a1 a2 a3 a4 a5 a6 a7 a8 h t p n f = some (decide (a0.size + a1.size + a2.size + a3.size + h.size + t.size ≤ 600)) := by
  unfold redoubtlaw15_few.f
  rw [wr ((a0.size : Int) + (a1.size : Int)) (by omega) (by omega)]
  rw [wr ((a0.size : Int) + (a1.size : Int) + (a2.size : Int)) (by omega) (by omega)]
  rw [wr ((a0.size : Int) + (a1.size : Int) + (a2.size : Int) + (a3.size : Int)) (by omega) (by omega)]
  rw [wr ((a0.size : Int) + (a1.size : Int) + (a2.size : Int) + (a3.size : Int) + (h.size : Int)) (by omega) (by omega)]
  rw [wr ((a0.size : Int) + (a1.size : Int) + (a2.size : Int) + (a3.size : Int) + (h.size : Int) + (t.size : Int)) (by omega) (by omega)]
  refine congrArg some (decide_eq_decide.mpr ⟨fun _ => by omega, fun _ => by omega⟩)

/-- The document's examples hold. -/
theorem awake_is (k : Nat) : redoubtlaw15_awake.f (k + 5) = some true := by
  have e : (k + 5) = (k + 2) + 3 := rfl
  have hof : pick_Of.f (k + 5) (⟨#[10, 0, 0, 1]⟩ : ByteArray) (⟨#[10, 0, 0, 2]⟩ : ByteArray) 17 ([0, 53, 0, 80] : List Int) true = some ((⟨#[10, 0, 0, 1]⟩ : ByteArray), (⟨#[10, 0, 0, 2]⟩ : ByteArray), 17, 53, 80, 0) := by
    simp only [pick_Of.f, pick_Of.j0, pick_Of.j1]
    decide +kernel
  simp only [redoubtlaw15_awake.f, hof, redoubtlaw15_every.f, Option.bind_some]
  rw [e]
  simp only [matches_is, check_is, Option.bind_some]
  decide +kernel
end Go.Proofs.Ytcohcbfodmoblaa.Pick

/- The plain law of PickFlows: a packet has just the flow that the document says, or is refused; turned it is just this one. -/
import Derived.Test.YtcohcbfodmoblaaQFlx25
import Derived.Test.YtcohcbfodmoblaaCame
import Derived.Laws.BitsLemmas
import Derived.OpenShut
set_option linter.unusedSimpArgs false
set_option linter.unusedVariables false
namespace Go.Proofs.Ytcohcbfodmoblaa.Flows
open Go.RowKit Go.Proofs.Ytcohcbfodmoblaa.QFl Go.Proofs.YtcohcbfodmoblaaW.PrintWords Go.Proofs.YtcohcbfodmoblaaW.PrintLast Go.Proofs.YtcohcbfodmoblaaW.PrintMore

theorem wr (x : Int) (h0 : -9223372036854775808 ≤ x) (h1 : x ≤ 9223372036854775807) : wrap64 x = x := by unfold wrap64; omega
theorem wraps_i64 (n : Int) (h₀ : 0 ≤ n) (h₁ : n < 2 ^ 62) : IntKind.i64.wrap n = n := by rw [IntKind.wrap_i64]; omega
theorem or_byte (x y : Int) (hx : 0 ≤ x) (hx' : x < 256) (hy : 0 ≤ y) (hy' : y < 256) : bits .or .i64 (x * 256) y = x * 256 + y :=
  bits_join .i64 62 (by decide) wraps_i64 8 (x * 256) y (by omega) (by omega) (by omega) hy (by omega) (by omega)

abbrev FlowE := ByteArray × ByteArray × Int × Int × Int × Int
def noFlow (e : Int) : FlowE := ((⟨#[]⟩ : ByteArray), (⟨#[]⟩ : ByteArray), 0, 0, 0, e)
def num (l : List Int) (i : Int) : Int := 256 * rd l i + rd l (i + 1)
def mayOf (s d : ByteArray) (p : Int) : Bool := (s.size == d.size) && ((s.size == 4 || s.size == 16) && (p / 256 == 0))
def inner (s d : ByteArray) (p : Int) (l : List Int) (out : Bool) : FlowE :=
  if p = 6 ∨ p = 17 then (if (l.length : Int) < 4 then noFlow 8 else if out = true then (s, d, p, num l 0, num l 2, 0) else (d, s, p, num l 2, num l 0, 0))
  else (if out = true then (s, d, p, -1, -1, 0) else (d, s, p, -1, -1, 0))
def ofR (s d : ByteArray) (p : Int) (l : List Int) (out : Bool) : FlowE := if mayOf s d p = true then inner s d p l out else noFlow 1

theorem rd_byte (l : List Int) (hl : ∀ x ∈ l, (Lit.int .u8 x).wf = true) (i : Int) : 0 ≤ rd l i ∧ rd l i < 256 := by
  unfold rd
  rw [List.getD_eq_getElem?_getD]
  by_cases h : i.toNat < l.length
  · rw [List.getElem?_eq_getElem h, Option.getD_some]
    have := bounds_u8 (hl _ (List.getElem_mem h))
    omega
  · rw [List.getElem?_eq_none (by omega), Option.getD_none]; omega
theorem num_or (l : List Int) (hl : ∀ x ∈ l, (Lit.int .u8 x).wf = true) (i : Int) : Go.bits .or .i64 (wrap64 ((wrap64 (rd l i)) * 256)) (wrap64 (rd l (i + 1))) = num l i := by
  have h0 := rd_byte l hl i
  have h1 := rd_byte l hl (i + 1)
  rw [wr (rd l i) (by omega) (by omega), wr (rd l (i + 1)) (by omega) (by omega), wr (rd l i * 256) (by omega) (by omega), or_byte _ _ h0.1 h0.2 h1.1 h1.2]
  unfold num; omega
theorem num_add (l : List Int) (hl : ∀ x ∈ l, (Lit.int .u8 x).wf = true) (i : Int) : wrap64 ((wrap64 (256 * (wrap64 (rd l i)))) + (wrap64 (rd l (i + 1)))) = num l i := by
  have h0 := rd_byte l hl i
  have h1 := rd_byte l hl (i + 1)
  rw [wr (rd l i) (by omega) (by omega), wr (rd l (i + 1)) (by omega) (by omega), wr (256 * rd l i) (by omega) (by omega), wr _ (by omega) (by omega)]
  rfl

theorem of_j1 (k : Nat) (s d : ByteArray) (p : Int) (l : List Int) (hl : ∀ x ∈ l, (Lit.int .u8 x).wf = true) (out b : Bool) (hb : b = decide (p = 6 ∨ p = 17)) :
    pick_Of.j1 (k + 1) l out b s d p (-1) (-1) = some (inner s d p l out) := by
  subst hb
  have n0 := num_or l hl 0
  have n2 := num_or l hl 2
  simp only [pick_Of.j1, inner]
  by_cases h : p = 6 ∨ p = 17
  · rw [if_pos (by simpa using h), if_pos h]
    by_cases h4 : (l.length : Int) < 4
    · rw [if_pos h4, if_pos h4]; rfl
    · rw [if_neg h4, if_neg h4, if_pos (by omega), if_pos (by omega), if_pos (by omega), if_pos (by omega)]
      simp only [Int.reduceAdd] at n0 n2
      rw [n0, n2]
      cases out <;> rfl
  · rw [if_neg (by simpa using h), if_neg h]
    cases out <;> rfl
theorem ref_j1 (k : Nat) (s d : ByteArray) (p : Int) (l : List Int) (hl : ∀ x ∈ l, (Lit.int .u8 x).wf = true) (out b : Bool) (hb : b = decide (p = 6 ∨ p = 17)) :
    redoubtref15_Of.j1 (k + 1) l out b s d p (-1) (-1) = some (inner s d p l out) := by
  subst hb
  have n0 := num_add l hl 0
  have n2 := num_add l hl 2
  simp only [redoubtref15_Of.j1, inner]
  by_cases h : p = 6 ∨ p = 17
  · rw [if_pos (by simpa using h), if_pos h]
    by_cases h4 : (l.length : Int) < 4
    · rw [if_pos h4, if_pos h4]; rfl
    · rw [if_neg h4, if_neg h4, if_pos (by omega), if_pos (by omega), if_pos (by omega), if_pos (by omega)]
      simp only [Int.reduceAdd] at n0 n2
      rw [n0, n2]
      cases out <;> rfl
  · rw [if_neg (by simpa using h), if_neg h]
    cases out <;> rfl
theorem of_j0 (k : Nat) (s d : ByteArray) (p : Int) (l : List Int) (hl : ∀ x ∈ l, (Lit.int .u8 x).wf = true) (out : Bool) :
    pick_Of.j0 (k + 2) s d p l out ((p / 256) != 0) = some (if p / 256 = 0 then inner s d p l out else noFlow 1) := by
  simp only [pick_Of.j0]
  by_cases h0 : p / 256 = 0
  · rw [if_neg (by simp [h0]), if_pos h0]
    by_cases h6 : p = 6
    · rw [if_pos h6, of_j1 k s d p l hl out (p == 6) (by simp [h6])]
    · rw [if_neg h6, of_j1 k s d p l hl out (p == 17) (by rw [Bool.eq_iff_iff]; simp [h6])]
  · rw [if_pos (by simp [h0]), if_neg h0]; rfl
theorem ref_j0 (k : Nat) (s d : ByteArray) (p : Int) (l : List Int) (hl : ∀ x ∈ l, (Lit.int .u8 x).wf = true) (out : Bool) :
    redoubtref15_Of.j0 (k + 2) s d p l out false = some (inner s d p l out) := by
  simp only [redoubtref15_Of.j0]
  rw [if_neg (by decide)]
  by_cases h6 : p = 6
  · rw [if_pos h6, ref_j1 k s d p l hl out true (by simp [h6])]
  · rw [if_neg h6, ref_j1 k s d p l hl out (p == 17) (by rw [Bool.eq_iff_iff]; simp [h6])]
theorem of_is (k : Nat) (s d : ByteArray) (p : Int) (l : List Int) (hl : ∀ x ∈ l, (Lit.int .u8 x).wf = true) (out : Bool) : pick_Of.f (k + 2) s d p l out = some (ofR s d p l out) := by
  have T : pick_Of.j0 (k + 2) s d p l out true = some (noFlow 1) := by simp only [pick_Of.j0]; rfl
  unfold pick_Of.f ofR mayOf
  by_cases h : (s.size : Int) = (d.size : Int)
  · have h' : s.size = d.size := by omega
    rw [if_pos h]
    by_cases h4 : (s.size : Int) = 4
    · have n4 : s.size = 4 := by omega
      rw [if_pos h4, of_j0 k s d p l hl]
      by_cases h0 : p / 256 = 0 <;> simp [h0, ← h', n4]
    · have n4 : ¬ s.size = 4 := by omega
      rw [if_neg h4]
      by_cases h6 : (s.size : Int) = 16
      · have n6 : s.size = 16 := by omega
        rw [if_pos h6, of_j0 k s d p l hl]
        by_cases h0 : p / 256 = 0 <;> simp [h0, ← h', n6]
      · have n6 : ¬ s.size = 16 := by omega
        rw [if_neg h6, T]; simp [n4, n6]
  · have h' : ¬ s.size = d.size := by omega
    rw [if_neg h, T]; simp [h']
theorem ref_is (k : Nat) (s d : ByteArray) (p : Int) (l : List Int) (hl : ∀ x ∈ l, (Lit.int .u8 x).wf = true) (out : Bool) : redoubtref15_Of.f (k + 2) s d p l out = some (ofR s d p l out) := by
  have T : redoubtref15_Of.j0 (k + 2) s d p l out true = some (noFlow 1) := by simp only [redoubtref15_Of.j0]; rfl
  have D : ∀ a2 : Int, (if a2 < 0 then redoubtref15_Of.j0 (k + 2) s d a2 l out true else redoubtref15_Of.j0 (k + 2) s d a2 l out (decide (a2 > 255))) = some (if a2 / 256 = 0 then inner s d a2 l out else noFlow 1) := by
    intro a2
    have T2 : redoubtref15_Of.j0 (k + 2) s d a2 l out true = some (noFlow 1) := by simp only [redoubtref15_Of.j0]; rfl
    by_cases h0 : a2 < 0
    · rw [if_pos h0, if_neg (by omega), T2]
    · rw [if_neg h0]
      by_cases h1 : a2 > 255
      · rw [decide_eq_true h1, if_neg (by omega), T2]
      · rw [decide_eq_false h1, if_pos (by omega), ref_j0 k s d a2 l hl]
  unfold redoubtref15_Of.f redoubtref05_Pair.f ofR mayOf
  by_cases h : (s.size : Int) = (d.size : Int)
  · have h' : s.size = d.size := by omega
    rw [if_pos h]
    by_cases h4 : (s.size : Int) = 4
    · have n4 : s.size = 4 := by omega
      rw [if_pos h4, Option.bind_some, if_pos rfl, D]
      by_cases h0 : p / 256 = 0 <;> simp [h0, ← h', n4]
    · have n4 : ¬ s.size = 4 := by omega
      rw [if_neg h4, Option.bind_some]
      by_cases h6 : (s.size : Int) = 16
      · have n6 : s.size = 16 := by omega
        rw [if_pos (by simp [h6]), D]
        by_cases h0 : p / 256 = 0 <;> simp [h0, ← h', n6]
      · have n6 : ¬ s.size = 16 := by omega
        rw [if_neg (by simpa using h6), T]; simp [n4, n6]
  · have h' : ¬ s.size = d.size := by omega
    rw [if_neg h, Option.bind_some, if_neg (by decide), T]; simp [h']

theorem both_one (k : Nat) (l : List Int) (hl : l.length < 140737488355328) : redoubtref01_Both.f (k + 2) [l] = some l := by
  have w1 : wrap64 (0 + 1) = 1 := by unfold wrap64; omega
  unfold redoubtref01_Both.f
  simp only [redoubtref01_Both.l0, w1, List.length_cons, List.length_nil]
  simp [rd_L1, hl]

theorem awake_is : redoubtlaw15_awake.f 8 = some true := by decide +kernel

theorem PickFlows (s d : ByteArray) (p : Int) (l : List Int) (out : Bool) (h t : ByteArray) (q n f : Int) (hl : ∀ x ∈ l, (Lit.int .u8 x).wf = true) (hz : l.length * 1 ≤ 140737488351232) :
    redoubtlaw15_PickFlows.f 9 s d p l out h t q n f = some true := by
  have T : redoubtlaw15_PickFlows.j0 9 s d p l out true h t q n f = some true := by simp only [redoubtlaw15_PickFlows.j0, if_true]
  have B : redoubtlaw15_PickFlows.j0 9 s d p l out false h t q n f = some true := by
    simp only [redoubtlaw15_PickFlows.j0, Bool.false_eq_true, if_false]
    rw [show (8 : Nat) = 6 + 2 from rfl, both_one 6 l (by omega), Option.bind_some, of_is 6 s d p l hl, ref_is 6 s d p l hl, show (6 + 2 : Nat) = 8 from rfl, awake_is]
    generalize ofR s d p l out = r
    obtain ⟨r1, r2, r3, r4, r5, r6⟩ := r
    simp only [Option.bind_some, if_true, beq_self_eq_true, Bool.and_self, pick_Turned.f, redoubtref15_Turned.f]
  unfold redoubtlaw15_PickFlows.f
  split
  · exact T
  · by_cases h1 : (l.length : Int) > 1000
    · rw [decide_eq_true h1]; exact T
    · rw [decide_eq_false h1]; exact B

theorem flows_walk {H : Type} {enc : TypeId × Value → H} {e3 : DataW H} {ps : List MemPlace} (s d : ByteArray) (p : Int) (a : Option Addr) (len cap : Nat) (out : Bool) (h t : ByteArray) (q n f : Int) (w : World)
    (_ : s.size ≤ 140737488351232) (_ : d.size ≤ 140737488351232) (_ : (Lit.int .i64 p).wf = true)
    (k3 : DataW.Trod enc Try.prog w 0 (fun _ => true) true 22 (.slice a len cap) e3 ps) (wt : ∀ n ∈ e3.weights Try.prog 22, n ≤ 140737488351232)
    (_ : (Lit.int .i64 q).wf = true) (_ : (Lit.int .i64 n).wf = true) (_ : (Lit.int .i64 f).wf = true) (_ : h.size ≤ 140737488351232 ∧ t.size ≤ 140737488351232) :
    Calls Try.prog 3 #[.string s, .string d, .int .i64 p, .slice a len cap, .bool out, .agg #[.string h, .string t, .int .i64 q, .int .i64 n, .int .i64 f]] w
      fun e w' => e = .returned (.bool true) ∧ Below w.heap.size w w' := by
  obtain ⟨l, rfl, hc, hr, hw, _, hz⟩ := Came.ints Try.underlying22 Try.underlying5 (by kernel_rfl) (by kernel_rfl) k3 wt
  exact redoubtlaw15_PickFlows.calls 9 s d p (fun _ => True) a cap l out h t q n f true w (Came.shared hc hr) (PickFlows s d p l out h t q n f hw hz) rfl
end Go.Proofs.Ytcohcbfodmoblaa.Flows

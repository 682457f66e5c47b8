/- The plain law of PickTurned: a flow turned twice is itself; a packet's flow, as it comes in, is its answer's, as it goes out; ranges turned match it turned. -/
import Derived.Test.YtcohcbfodmoblaaPick
import Derived.Test.YtcohcbfodmoblaaQPkx23
set_option linter.unusedSimpArgs false
set_option linter.unusedVariables false
namespace Go.Proofs.Ytcohcbfodmoblaa.Pick
open Go.RowKit Go.Proofs.Ytcohcbfodmoblaa.QPk Go.Proofs.YtcohcbfodmoblaaW.PrintWords Go.Proofs.YtcohcbfodmoblaaW.PrintLast

abbrev FlowE := ByteArray × ByteArray × Int × Int × Int × Int
def num (l : List Int) (i : Int) : Int := Go.bits .or .i64 (wrap64 ((wrap64 (rd l i)) * 256)) (wrap64 (rd l (i + 1)))
def noFlow (e : Int) : FlowE := ((⟨#[]⟩ : ByteArray), (⟨#[]⟩ : ByteArray), 0, 0, 0, e)
def mayOf (s d : ByteArray) (p : Int) : Bool := (s.size == d.size) && ((s.size == 4 || s.size == 16) && (p / 256 == 0))
def ofR (s d : ByteArray) (p : Int) (l : List Int) (out : Bool) : FlowE :=
  if mayOf s d p = true then
    (if p = 6 ∨ p = 17 then (if (l.length : Int) < 4 then noFlow 8 else if out = true then (s, d, p, num l 0, num l 2, 0) else (d, s, p, num l 2, num l 0, 0))
     else (if out = true then (s, d, p, -1, -1, 0) else (d, s, p, -1, -1, 0)))
  else noFlow 1
theorem of_j1 (k : Nat) (s d : ByteArray) (p : Int) (l : List Int) (out b : Bool) (hb : b = decide (p = 6 ∨ p = 17)) :
    pick_Of.j1 (k + 1) l out b s d p (-1) (-1) = some (if p = 6 ∨ p = 17 then (if (l.length : Int) < 4 then noFlow 8 else if out = true then (s, d, p, num l 0, num l 2, 0) else (d, s, p, num l 2, num l 0, 0)) else (if out = true then (s, d, p, -1, -1, 0) else (d, s, p, -1, -1, 0))) := by
  subst hb
  simp only [pick_Of.j1]
  by_cases h : p = 6 ∨ p = 17
  · rw [if_pos (by simpa using h), if_pos h]
    by_cases hl : (l.length : Int) < 4
    · rw [if_pos hl, if_pos hl]; rfl
    · rw [if_neg hl, if_neg hl, if_pos (by omega), if_pos (by omega), if_pos (by omega), if_pos (by omega)]
      cases out <;> rfl
  · rw [if_neg (by simpa using h), if_neg h]
    cases out <;> rfl
theorem of_j0 (k : Nat) (s d : ByteArray) (p : Int) (l : List Int) (out : Bool) : pick_Of.j0 (k + 2) s d p l out ((p / 256) != 0) = some (if p / 256 = 0 then
    (if p = 6 ∨ p = 17 then (if (l.length : Int) < 4 then noFlow 8 else if out = true then (s, d, p, num l 0, num l 2, 0) else (d, s, p, num l 2, num l 0, 0)) else (if out = true then (s, d, p, -1, -1, 0) else (d, s, p, -1, -1, 0))) else noFlow 1) := by
  simp only [pick_Of.j0]
  by_cases h0 : p / 256 = 0
  · rw [if_neg (by simp [h0]), if_pos h0]
    by_cases h6 : p = 6
    · rw [if_pos h6, of_j1 k s d p l out (p == 6) (by simp [h6])]
    · rw [if_neg h6, of_j1 k s d p l out (p == 17) (by rw [Bool.eq_iff_iff]; simp [h6])]
  · rw [if_pos (by simp [h0]), if_neg h0]; rfl
theorem of_is (k : Nat) (s d : ByteArray) (p : Int) (l : List Int) (out : Bool) : pick_Of.f (k + 2) s d p l out = some (ofR s d p l out) := by
  have T : pick_Of.j0 (k + 2) s d p l out true = some (noFlow 1) := by simp only [pick_Of.j0]; rfl
  unfold pick_Of.f ofR mayOf
  by_cases h : (s.size : Int) = (d.size : Int)
  · have h' : s.size = d.size := by omega
    rw [if_pos h]
    by_cases h4 : (s.size : Int) = 4
    · have n4 : s.size = 4 := by omega
      rw [if_pos h4, of_j0]
      by_cases h0 : p / 256 = 0 <;> simp [h0, ← h', n4]
    · have n4 : ¬ s.size = 4 := by omega
      rw [if_neg h4]
      by_cases h6 : (s.size : Int) = 16
      · have n6 : s.size = 16 := by omega
        rw [if_pos h6, of_j0]
        by_cases h0 : p / 256 = 0 <;> simp [h0, ← h', n6]
      · have n6 : ¬ s.size = 16 := by omega
        rw [if_neg h6, T]; simp [n4, n6]
  · have h' : ¬ s.size = d.size := by omega
    rw [if_neg h, T]; simp [h']

theorem of_turned (s d : ByteArray) (p x0 x1 y0 y1 : Int) : ofR s d p [x0, x1, y0, y1] false = ofR d s p [y0, y1, x0, x1] true := by
  have m : mayOf s d p = mayOf d s p := by
    unfold mayOf
    by_cases h : s.size = d.size
    · rw [h]
    · have h' : ¬ d.size = s.size := fun e => h e.symm
      rw [show (s.size == d.size) = false from beq_eq_false_iff_ne.mpr h, show (d.size == s.size) = false from beq_eq_false_iff_ne.mpr h']; rfl
  have n0 : num [x0, x1, y0, y1] 0 = num [y0, y1, x0, x1] 2 := rfl
  have n2 : num [x0, x1, y0, y1] 2 = num [y0, y1, x0, x1] 0 := rfl
  unfold ofR
  rw [m, n0, n2]
  rfl
theorem match_turned (a0 a1 a2 a3 : ByteArray) (a4 a5 a6 a7 a8 : Int) (h t : ByteArray) (p n f : Int) :
    matchB a2 a3 a0 a1 a4 a7 a8 a5 a6 t h p f n = matchB a0 a1 a2 a3 a4 a5 a6 a7 a8 h t p n f := by
  rw [Bool.eq_iff_iff]
  simp only [matchB, checkB, Bool.and_eq_true]
  constructor
  · rintro ⟨⟨h1, h2, h3, h4, h5⟩, h6, h7, h8, h9, h10⟩; exact ⟨⟨h2, h1, h3, h5, h4⟩, h7, h6, h8, h10, h9⟩
  · rintro ⟨⟨h1, h2, h3, h4, h5⟩, h6, h7, h8, h9, h10⟩; exact ⟨⟨h2, h1, h3, h5, h4⟩, h7, h6, h8, h10, h9⟩

theorem PickTurned (s d : ByteArray) (p x y : Int) (a0 a1 a2 a3 : ByteArray) (a4 a5 a6 a7 a8 : Int) : redoubtlaw15_PickTurned.f 8 s d p x y a0 a1 a2 a3 a4 a5 a6 a7 a8 = some true := by
  have T : redoubtlaw15_PickTurned.j0 8 s d p x y true a0 a1 a2 a3 a4 a5 a6 a7 a8 = some true := by simp only [redoubtlaw15_PickTurned.j0, if_true]
  have B : redoubtlaw15_PickTurned.j0 8 s d p x y false a0 a1 a2 a3 a4 a5 a6 a7 a8 = some true := by
    simp only [redoubtlaw15_PickTurned.j0, Bool.false_eq_true, if_false]
    rw [show (7 : Nat) = 5 + 2 from rfl, of_is, of_is, of_turned]
    generalize ofR d s p _ true = r
    obtain ⟨r1, r2, r3, r4, r5, r6⟩ := r
    simp only [Option.bind_some, pick_Turned.f]
    rw [show (5 + 2 : Nat) = 2 + 5 from rfl, awake_is]
    simp only [Option.bind_some, if_true, beq_self_eq_true, Bool.and_self]
    rw [show (2 + 5 : Nat) = 4 + 3 from rfl, matches_is, matches_is, match_turned]
    simp only [Option.bind_some, beq_self_eq_true]
  unfold redoubtlaw15_PickTurned.f
  repeat' (first | exact T | split)
  obtain ⟨b, hb⟩ : ∃ b, redoubtlaw15_few.f a0 a1 a2 a3 a4 a5 a6 a7 a8 (⟨#[]⟩ : ByteArray) (⟨#[]⟩ : ByteArray) 0 0 0 = some b := ⟨_, rfl⟩
  rw [hb, Option.bind_some]
  cases b
  · exact T
  · exact B

theorem turned_walk (s d : ByteArray) (p x y : Int) (a0 a1 a2 a3 : ByteArray) (a4 a5 a6 a7 a8 : Int) (w : World)
    (_ : s.size ≤ 140737488351232) (_ : d.size ≤ 140737488351232) (_ : (Lit.int .i64 p).wf = true) (_ : (Lit.int .i64 x).wf = true) (_ : (Lit.int .i64 y).wf = true)
    (_ : (Lit.int .i64 a4).wf = true) (_ : (Lit.int .i64 a5).wf = true) (_ : (Lit.int .i64 a6).wf = true) (_ : (Lit.int .i64 a7).wf = true) (_ : (Lit.int .i64 a8).wf = true)
    (_ : a0.size ≤ 140737488351232 ∧ a1.size ≤ 140737488351232 ∧ a2.size ≤ 140737488351232 ∧ a3.size ≤ 140737488351232) :
    Calls Try.prog 4 #[.string s, .string d, .int .i64 p, .int .i64 x, .int .i64 y, .agg #[.string a0, .string a1, .string a2, .string a3, .int .i64 a4, .int .i64 a5, .int .i64 a6, .int .i64 a7, .int .i64 a8]] w
      fun e w' => e = .returned (.bool true) ∧ Below w.heap.size w w' :=
  redoubtlaw15_PickTurned.calls 8 s d p x y a0 a1 a2 a3 a4 a5 a6 a7 a8 true w (PickTurned s d p x y a0 a1 a2 a3 a4 a5 a6 a7 a8) rfl
end Go.Proofs.Ytcohcbfodmoblaa.Pick

/- Small laws that the walks of this seat lack: the order of strings, as one Bool. -/
import Derived.Laws.Strings
import Derived.Laws.Small
import Derived.KernelRfl
set_option linter.unusedSimpArgs false
set_option linter.unusedVariables false
namespace Go.Proofs.Ytdpfopeofeofcaa

theorem less_tri : ∀ a b : List UInt8, (Op.bytesLess a b || a == b) = !(Op.bytesLess b a)
  | [], [] => by simp [Op.bytesLess]
  | [], b :: y => by simp [Op.bytesLess]
  | a :: x, [] => by simp [Op.bytesLess]
  | a :: x, b :: y => by
    have ih := less_tri x y
    have e : (a :: x == b :: y) = (a == b && x == y) := rfl
    rw [e]
    unfold Op.bytesLess
    rcases Nat.lt_trichotomy a.toNat b.toNat with h | h | h
    · have h1 : a < b := UInt8.lt_iff_toNat_lt.mpr h
      have h2 : ¬ (b < a) := fun k => by have := UInt8.lt_iff_toNat_lt.mp k; omega
      have h3 : a ≠ b := fun k => by subst k; omega
      have h4 : b ≠ a := fun k => h3 k.symm
      simp [h1, h2, h3, h4]
    · have h1 : a = b := UInt8.toNat_inj.mp h
      subst h1
      have h2 : ¬ (a < a) := fun k => by have := UInt8.lt_iff_toNat_lt.mp k; omega
      simpa [h2] using ih
    · have h1 : b < a := UInt8.lt_iff_toNat_lt.mpr h
      have h2 : ¬ (a < b) := fun k => by have := UInt8.lt_iff_toNat_lt.mp k; omega
      have h3 : a ≠ b := fun k => by subst k; omega
      have h4 : b ≠ a := fun k => h3 k.symm
      simp [h1, h2, h3, h4]

@[go_sem] theorem q_string_leq (t : TypeId) (a b : ByteArray) : binOp .leq t (.string a) (.string b) = pure (.bool (!(Op.bytesLess b.toList a.toList))) := by
  simp only [binOp, Op.stringOp, less_tri]
@[go_sem] theorem q_string_gtr (t : TypeId) (a b : ByteArray) : binOp .gtr t (.string a) (.string b) = pure (.bool (Op.bytesLess b.toList a.toList)) := by
  simp only [binOp, Op.stringOp, less_tri, Bool.not_not]
@[go_sem] theorem q_string_geq (t : TypeId) (a b : ByteArray) : binOp .geq t (.string a) (.string b) = pure (.bool (!(Op.bytesLess a.toList b.toList))) := by
  simp [binOp, Op.stringOp]

end Go.Proofs.Ytdpfopeofeofcaa

/- The walk of window.Infer, over a window in memory. -/
import Derived.Test.YtddkcepofoifdaaWinA
import Derived.Laws.MathBits
import Derived.Laws.BitsAllLaws
namespace Go.Proofs.Ytddkcepofoifdaa.Win
open Go.RowKit Go.Proofs.YtddkcepofoifdaaW.PrintWords Go.Proofs.YtddkcepofoifdaaW.PrintLast Go.Proofs.YtddkcepofoifdaaW.PrintMore
set_option linter.unusedVariables false
set_option linter.unusedSimpArgs false
section
variable {w : World} {g a top : Nat} {wide : Bool} {seen : List Bool}
theorem or_add (a b p : Nat) (hp : p = 2 ^ 32) (hb : b < p) : a * p ||| b = a * p + b := by
  have := Nat.two_pow_add_eq_or_of_lt (i := 32) (b := b) (hp ▸ hb) a
  rw [hp, Nat.mul_comm]
  exact this.symm
theorem or_high (x y : Int) (hx0 : 0 ≤ x) (hx1 : x ≤ 4294967295) (hy0 : 0 ≤ y) (hy1 : y ≤ 4294967295) : bits BinOp.or IntKind.u64 (x * 4294967296) y = x * 4294967296 + y := by
  obtain ⟨a, rfl⟩ : ∃ a : Nat, x = a := ⟨x.toNat, by omega⟩
  obtain ⟨b, rfl⟩ : ∃ b : Nat, y = b := ⟨y.toNat, by omega⟩
  obtain ⟨p, hp⟩ : ∃ p : Nat, p = 4294967296 := ⟨_, rfl⟩
  have hp2 : (p : Int) = 4294967296 := by omega
  have hap : a * p < 18446744073709551616 := by rw [hp]; omega
  have h := u64_or_nat (a * p) b hap (by omega)
  rw [or_add a b p (by rw [hp]) (by omega)] at h
  rw [Int.natCast_mul, hp2] at h
  rw [h, Int.natCast_add, Int.natCast_mul, hp2]
/-- The half that a lower half lies in, near the top. -/
def inferH (top L low : Int) : Int :=
  if 0 ≤ top % 4294967296 - L + 1 ∧ low < top % 4294967296 - L + 1 then top / 4294967296 + 1
  else if top % 4294967296 - L + 1 < 0 ∧ top % 4294967296 - L + 1 + 4294967296 ≤ low then top / 4294967296 - 1
  else top / 4294967296
/-- What Infer answers. -/
def inferE (wide : Bool) (top L low : Int) : Int × Int :=
  if low < 0 ∨ 4294967295 < low then (0, 1) else if wide = false then (low, 0)
  else if inferH top L low < 0 ∨ 4294967295 < inferH top L low then (0, 120) else (inferH top L low * 4294967296 + low, 0)
set_option maxHeartbeats 2000000 in
theorem infer_wide (h : WinAt w g a true top seen) (low : Int) (hl : seen.length ≤ 1024) (h0 : 0 ≤ low) (h1 : low ≤ 4294967295) (ht : top < 18446744073709551616) :
    Calls Try.prog 23 #[.pointer (some ⟨g, 0, none⟩), .int .i64 low] w fun e w' => e = .returned (.tuple #[.int .u64 (inferE true top seen.length low).1, .int .i64 (inferE true top seen.length low).2]) ∧ ∃ m, w' = w.drewN m := by
  have hc0 := h.c0
  have hc1 := h.c1
  have hc2 := h.c2
  obtain ⟨L, hL⟩ : ∃ L, seen.length = L := ⟨_, rfl⟩
  rw [hL] at hc2 hl ⊢
  have c1 : decide (low < 0) = false := by simp; omega
  have c2 : decide ((4294967295 : Int) < low) = false := by simp; omega
  have ea := and_low32 (top : Int) (by omega) (by omega)
  obtain ⟨x, hx⟩ : ∃ x, (top : Int) % 4294967296 = x := ⟨_, rfl⟩
  have hx01 : 0 ≤ x ∧ x ≤ 4294967295 := by omega
  obtain ⟨hx0, hx1⟩ := hx01
  obtain ⟨H, hH⟩ : ∃ H, (top : Int) / 4294967296 = H := ⟨_, rfl⟩
  have hH01 : 0 ≤ H ∧ H ≤ 4294967295 := by omega
  obtain ⟨hH0, hH1⟩ := hH01
  have AE := Aside0.mk (show inferE true top L low = (if inferH top L low < 0 ∨ 4294967295 < inferH top L low then (0, 120) else (inferH top L low * 4294967296 + low, 0)) from by
    unfold inferE; rw [if_neg (by omega), if_neg (by simp)])
  have AH := Aside0.mk (show inferH top L low = _ from by unfold inferH; rw [hx, hH])
  rw [hx] at ea
  have w1 : wrap64 x = x := IntWalk.wrap64_in _ (by omega)
  have w2 : wrap64 (x - (L : Int)) = x - L := IntWalk.wrap64_in _ (by omega)
  have w3 : wrap64 (x - (L : Int) + 1) = x - L + 1 := IntWalk.wrap64_in _ (by omega)
  have w4 : wrap64 (x - (L : Int) + 1 + 4294967296) = x - (L : Int) + 1 + 4294967296 := IntWalk.wrap64_in _ (by omega)
  have OR := Aside0.mk or_high
  clear h hx hL
  go_enter Try.func23, Try.ntmps23
  go_wp2
  go_quiet (fail)
  go_wp2
  all_goals (
    go_ret2
    refine ⟨?_, _, rfl⟩
    rw [AE.out, AH.out]
    repeat (first | rw [if_pos (by omega)] | rw [if_neg (by omega)])
    simp
    try (rw [OR.out] <;> omega))
set_option maxHeartbeats 1000000 in
theorem infer_arg (p : Nat) (low : Int) (hlow : low < 0 ∨ 4294967295 < low) (w : World) :
    Calls Try.prog 23 #[.pointer (some ⟨p, 0, none⟩), .int .i64 low] w fun e w' => e = .returned (.tuple #[.int .u64 0, .int .i64 1]) ∧ w' = w := by
  by_cases h1 : low < 0
  · have c1 : decide (low < 0) = true := by simpa using h1
    go_enter Try.func23, Try.ntmps23
    go_wp2
    go_ret2
    exact ⟨rfl, rfl⟩
  · have c1 : decide (low < 0) = false := by simpa using h1
    have c2 : decide ((4294967295 : Int) < low) = true := by simp; omega
    go_enter Try.func23, Try.ntmps23
    go_wp2
    go_ret2
    exact ⟨rfl, rfl⟩
set_option maxHeartbeats 1000000 in
theorem infer_nil (low : Int) (w : World) :
    Calls Try.prog 23 #[.pointer none, .int .i64 low] w fun e w' => e = .returned (.tuple #[.int .u64 0, .int .i64 3]) ∧ w' = w := by
  go_enter Try.func23, Try.ntmps23
  go_wp2
  go_ret2
  exact ⟨rfl, rfl⟩
set_option maxHeartbeats 1000000 in
theorem infer_narrow (h : WinAt w g a false top seen) (low : Int) (h0 : 0 ≤ low) (h1 : low ≤ 4294967295) :
    Calls Try.prog 23 #[.pointer (some ⟨g, 0, none⟩), .int .i64 low] w fun e w' => e = .returned (.tuple #[.int .u64 low, .int .i64 0]) ∧ w' = w := by
  have hc0 := h.c0
  clear h
  have c1 : decide (low < 0) = false := by simp; omega
  have c2 : decide ((4294967295 : Int) < low) = false := by simp; omega
  go_enter Try.func23, Try.ntmps23
  go_wp2
  go_ret2
  exact ⟨rfl, rfl⟩
theorem infer_walk (h : WinAt w g a wide top seen) (low : Int) (hl : seen.length ≤ 1024) (ht : top < 18446744073709551616) :
    Calls Try.prog 23 #[.pointer (some ⟨g, 0, none⟩), .int .i64 low] w fun e w' => e = .returned (.tuple #[.int .u64 (inferE wide top seen.length low).1, .int .i64 (inferE wide top seen.length low).2]) ∧ ∃ m, w' = w.drewN m := by
  by_cases ha : low < 0 ∨ 4294967295 < low
  · have e : inferE wide top seen.length low = (0, 1) := by unfold inferE; rw [if_pos ha]
    rw [e]
    exact (infer_arg g low ha w).mono fun _ _ h => ⟨h.1, 0, h.2⟩
  · cases wide
    · have e : inferE false top seen.length low = (low, 0) := by unfold inferE; rw [if_neg ha, if_pos rfl]
      rw [e]
      exact (infer_narrow h low (by omega) (by omega)).mono fun _ _ h => ⟨h.1, 0, h.2⟩
    · exact infer_wide h low hl (by omega) (by omega) ht
end
end Go.Proofs.Ytddkcepofoifdaa.Win

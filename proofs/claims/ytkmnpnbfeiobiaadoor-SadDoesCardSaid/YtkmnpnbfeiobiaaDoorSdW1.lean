/- The walks of window.New, size, place, Check, Infer, Accept. -/
import Derived.Test.YtkmnpnbfeiobiaaDoorQSax0
import Derived.WalkLawsBesides
import Derived.Laws.MathBits
import Derived.Laws.BitsAllLaws
import Derived.Lib.SliceRun
namespace Go.Proofs.YtkmnpnbfeiobiaaDoor.Win
open Go.RowKit Go.Proofs.YtkmnpnbfeiobiaaDoorW.PrintWords Go.Proofs.YtkmnpnbfeiobiaaDoorW.PrintLast Go.Proofs.YtkmnpnbfeiobiaaDoorW.PrintMore
set_option linter.unusedVariables false
set_option linter.unusedSimpArgs false


/-- A window in memory: its three fields at block g, its row of Bools at block a. -/
structure WinAt (w : World) (g a : Nat) (wide : Bool) (top : Nat) (seen : List Bool) : Prop where
  hs : w.heap[g]? = some (.cells #[.bool wide, .int .u64 top, .slice (some ⟨a, 0, none⟩) seen.length seen.length] 90 (0, 0))
  ha : w.heap[a]? = some (.cells (seen.map Value.bool).toArray 4 (0, 0))
  ne : a ≠ g
/-- What a call leaves: all but the blocks of S is as it was. -/
structure Step (S : Nat → Prop) (w w' : World) : Prop where
  b : Below 0 w w'
  k : Kept w w' S

theorem info4 : (Tryd.prog.info? 4).map (fun i => (i.zero, i.size, i.bytes)) = some (some (.bool false), 1, 1) := by kernel_rfl
theorem madeBools (n : Nat) : madeCells (Value.bool false).cells n = ((List.replicate n false).map Value.bool).toArray := by
  apply Array.ext'
  apply List.ext_getElem
  · simp [madeCells, Value.cells]
  · intro i h1 h2
    simp [madeCells, Value.cells, Nat.mod_one]
theorem make_bools (n : Nat) (hn : n ≤ 1024) (W : World) : (Instr.makeSlice 88 (.int .i64 (n : Int)) (.int .i64 (n : Int))).run Tryd.prog W = .ok (.slice (some ⟨W.heap.size, 0, none⟩) n n) (W.alloc (.cells ((List.replicate n false).map Value.bool).toArray 4)) := by
  obtain ⟨i, hi, hz, hsz, hb⟩ := info_parts info4
  have := run_make (P := Tryd.prog) W 88 4 i (.bool false) Tryd.underlying88 hi hz .i64 .i64 n n (by omega) (by omega) (by rw [hb]; omega) (by omega)
  rw [this]
  simp only [Int.toNat_natCast, hsz, Nat.mul_one]
  rw [madeBools]
set_option maxHeartbeats 1000000 in
theorem new_bad (n : Int) (h : n < 64 ∨ 1024 < n) (wide : Bool) (w : World) : Calls Tryd.prog 25 #[.int .i64 n, .bool wide] w fun e w' => e = .returned (.tuple #[.pointer none, .int .i64 1]) ∧ w' = w := by
  by_cases h1 : n < 64
  · have c1 : decide ((n:Int) < 64) = true := by simpa using h1
    go_enter Tryd.func25, Tryd.ntmps25
    go_wp2
    go_ret2
    exact ⟨rfl, rfl⟩
  · have c1 : decide ((n:Int) < 64) = false := by simpa using h1
    have c2 : decide ((1024:Int) < n) = true := by simp; omega
    go_enter Tryd.func25, Tryd.ntmps25
    go_wp2
    go_ret2
    exact ⟨rfl, rfl⟩
set_option maxHeartbeats 1000000 in
theorem new_ok (n : Nat) (h0 : 64 ≤ n) (h1 : n ≤ 1024) (wide : Bool) (w : World) : Calls Tryd.prog 25 #[.int .i64 n, .bool wide] w fun e w' => 
    e = .returned (.tuple #[.pointer (some ⟨w.heap.size + 1, 0, none⟩), .int .i64 0]) ∧ WinAt w' (w.heap.size + 1) w.heap.size wide 0 (List.replicate n false) ∧ Below w.heap.size w w' ∧ w'.heap.size = w.heap.size + 2 := by
  have c1 : decide ((n:Int) < 64) = false := by simp; omega
  have c2 : decide ((1024:Int) < n) = false := by simp; omega
  have mk := make_bools n h1
  obtain ⟨C, hC⟩ : ∃ C, ((List.replicate n false).map Value.bool).toArray = C := ⟨_, rfl⟩
  rw [hC] at mk
  have HC := Aside0.mk hC
  clear hC
  go_enter Tryd.func25, Tryd.ntmps25
  go_wp2
  go_ret2
  refine ⟨by simp, ⟨?_, ?_, by omega⟩, ?_, by simp⟩
  · have h := blk_new (w.alloc (.cells C 4)) (.cells #[.bool wide, .int .u64 0, .slice (some ⟨w.heap.size, 0, none⟩) n n] 90)
    simpa using h
  · rw [HC.out]
    exact blk_alloc (blk_new w _) _
  · exact below_alloc (below_alloc (Below.refl _ _) _) _
namespace WinAt
variable {w w' : World} {g a top : Nat} {wide : Bool} {seen : List Bool}
theorem c0 (h : WinAt w g a wide top seen) : w.cell? ⟨g, 0, none⟩ = some (.bool wide) := (blk_cell h.hs 0).trans rfl
theorem c1 (h : WinAt w g a wide top seen) : w.cell? ⟨g, 1, none⟩ = some (.int .u64 top) := (blk_cell h.hs 1).trans rfl
theorem c2 (h : WinAt w g a wide top seen) : w.cell? ⟨g, 2, none⟩ = some (.slice (some ⟨a, 0, none⟩) seen.length seen.length) := (blk_cell h.hs 2).trans rfl
theorem cell (h : WinAt w g a wide top seen) (i : Nat) (hi : i < seen.length) : w.cell? ⟨a, i, none⟩ = some (.bool (seen.getD i false)) := by
  rw [blk_cell h.ha i]
  simp [hi]
theorem fr (h : WinAt w g a wide top seen) (i : Nat) : w.frozen? ⟨g, i, none⟩ = false := blk_frozen h.hs i
theorem fra (h : WinAt w g a wide top seen) (i : Nat) : w.frozen? ⟨a, i, none⟩ = false := blk_frozen h.ha i
theorem drewN (h : WinAt w g a wide top seen) (n : Nat) : WinAt (w.drewN n) g a wide top seen := ⟨h.hs, h.ha, h.ne⟩
theorem set_top (h : WinAt w g a wide top seen) (t : Nat) : WinAt (w.setCell ⟨g, 1, none⟩ (.int .u64 t)) g a wide t seen :=
  ⟨by simpa using blk_set h.hs 1 (.int .u64 t), blk_far h.ha h.ne _, h.ne⟩
theorem set_at (h : WinAt w g a wide top seen) (i : Nat) (b : Bool) : WinAt (w.setCell ⟨a, i, none⟩ (.bool b)) g a wide top (seen.set i b) := by
  refine ⟨?_, ?_, h.ne⟩
  · rw [List.length_set]; exact blk_far h.hs (Ne.symm h.ne) _
  · have := blk_set h.ha i (.bool b)
    rw [this]
    congr 2
    apply Array.ext'
    simp [List.map_set]
end WinAt
section
variable {w : World} {g a top : Nat} {wide : Bool} {seen : List Bool}
set_option maxHeartbeats 1000000 in
theorem size_walk (h : WinAt w g a wide top seen) (hl : seen.length ≤ 1024) :
    Calls Tryd.prog 45 #[.pointer (some ⟨g, 0, none⟩)] w fun e w' => e = .returned (.int .u64 (seen.length : Int)) ∧ w' = w := by
  have h2 := h.c2
  have e1 : IntKind.u64.wrap ((seen.length : Nat) : Int) = (seen.length : Int) := by rw [IntKind.wrap_u64]; omega
  clear h
  go_enter Tryd.func45, Tryd.ntmps45
  go_wp2
  go_ret
  exact ⟨by simp [e1], rfl⟩
set_option maxHeartbeats 1000000 in
theorem place_walk (h : WinAt w g a wide top seen) (hl : seen.length ≤ 1024) (h0 : 0 < seen.length) (n : Nat) :
    Calls Tryd.prog 46 #[.pointer (some ⟨g, 0, none⟩), .int .u64 (n : Int)] w fun e w' => e = .returned (.pointer (some ⟨a, n % seen.length, none⟩)) ∧ ∃ m, w' = w.drewN m := by
  have h2 := h.c2
  have hsz := fun k => (size_walk (h.drewN k) hl)
  obtain ⟨L, hL⟩ : ∃ L, seen.length = L := ⟨_, rfl⟩
  rw [hL] at h2 hsz hl h0 ⊢
  have e0 : ((L : Int) == 0) = false := by simp; omega
  have e1 : Int.tmod (n : Int) (L : Int) = ((n % L : Nat) : Int) := (Int.ofNat_tmod n L).symm
  have hlt := Nat.mod_lt n h0
  obtain ⟨q, hq⟩ : ∃ q, n % L = q := ⟨_, rfl⟩
  rw [hq] at e1 hlt ⊢
  have e2 : IntKind.u64.wrap (q : Int) = (q : Int) := by rw [IntKind.wrap_u64]; omega
  have b1 : (q : Int) < (L : Int) := by omega
  have b0 : (0 : Int) ≤ (q : Int) := by omega
  have HS := Aside0.mk hsz
  clear h hsz
  go_enter Tryd.func46, Tryd.ntmps46
  go_wp2
  go_quiet (first | (go_at_call 45; exact Calls.quiet_of_same (HS.out _)))
  go_wp2
  go_ret
  exact ⟨rfl, _, rfl⟩
/-- Is n refused, at a number that is not above the top? -/
def old (top n : Nat) (seen : List Bool) : Bool := decide (n = 0) || decide (seen.length ≤ top - n) || seen.getD (n % seen.length) false
/-- What Check answers. -/
def checkE (wide : Bool) (top n : Nat) (seen : List Bool) : Int :=
  if (!wide && decide (4294967295 < n)) = true then 1 else if top < n then 0 else if old top n seen = true then 120 else 0
set_option maxHeartbeats 1000000 in
theorem check_arg (h : WinAt w g a false top seen) (n : Nat) (hn : 4294967295 < n) :
    Calls Tryd.prog 33 #[.pointer (some ⟨g, 0, none⟩), .int .u64 (n : Int)] w fun e w' => e = .returned (.int .i64 1) ∧ ∃ m, w' = w.drewN m := by
  have h0 := h.c0
  have c1 : decide ((4294967295 : Int) < (n : Int)) = true := by simp; omega
  clear h
  go_enter Tryd.func33, Tryd.ntmps33
  go_wp2
  go_ret
  exact ⟨rfl, 0, rfl⟩
set_option maxHeartbeats 1000000 in
theorem check_new (h : WinAt w g a wide top seen) (n : Nat) (hA : (!wide && decide (4294967295 < n)) = false) (hn : top < n) :
    Calls Tryd.prog 33 #[.pointer (some ⟨g, 0, none⟩), .int .u64 (n : Int)] w fun e w' => e = .returned (.int .i64 0) ∧ ∃ m, w' = w.drewN m := by
  have h0 := h.c0
  have h1 := h.c1
  have c2 : decide ((top : Int) < (n : Int)) = true := by simp; omega
  clear h
  cases wide
  · have c1 : decide ((4294967295 : Int) < (n : Int)) = false := by simp at hA ⊢; omega
    clear hA
    go_enter Tryd.func33, Tryd.ntmps33
    go_wp2
    go_ret
    exact ⟨rfl, 0, rfl⟩
  · clear hA
    go_enter Tryd.func33, Tryd.ntmps33
    go_wp2
    go_ret
    exact ⟨rfl, 0, rfl⟩
set_option maxHeartbeats 1000000 in
theorem check_zero (h : WinAt w g a wide top seen) :
    Calls Tryd.prog 33 #[.pointer (some ⟨g, 0, none⟩), .int .u64 0] w fun e w' => e = .returned (.int .i64 120) ∧ ∃ m, w' = w.drewN m := by
  have h0 := h.c0
  have h1 := h.c1
  have c2 : decide ((top : Int) < 0) = false := by simp
  clear h
  cases wide
  all_goals (
    go_enter Tryd.func33, Tryd.ntmps33
    go_wp2
    go_quiet (fail)
    go_wp2
    go_ret
    exact ⟨rfl, _, rfl⟩)
set_option maxHeartbeats 1000000 in
theorem check_far (h : WinAt w g a wide top seen) (hl : seen.length ≤ 1024) (n : Nat) (hA : (!wide && decide (4294967295 < n)) = false) (hn : n ≤ top) (h1n : n ≠ 0) (hfar : seen.length ≤ top - n) (ht : top < 18446744073709551616) :
    Calls Tryd.prog 33 #[.pointer (some ⟨g, 0, none⟩), .int .u64 (n : Int)] w fun e w' => e = .returned (.int .i64 120) ∧ ∃ m, w' = w.drewN m := by
  have h0 := h.c0
  have h1 := h.c1
  have hsz := fun k => (size_walk (h.drewN k) hl)
  obtain ⟨L, hL⟩ : ∃ L, seen.length = L := ⟨_, rfl⟩
  rw [hL] at hfar hsz
  have c2 : decide ((top : Int) < (n : Int)) = false := by simp; omega
  have c3 : ((n : Int) == 0) = false := by simp; omega
  have c4 : decide ((L : Int) ≤ IntKind.u64.wrap ((top : Int) - (n : Int))) = true := by rw [IntKind.wrap_u64]; simp; omega
  have HS := Aside0.mk hsz
  have c1 : wide = false → decide ((4294967295 : Int) < (n : Int)) = false := by rintro rfl; simp at hA ⊢; omega
  clear h hsz hA
  cases wide
  · have c1 := c1 rfl
    go_enter Tryd.func33, Tryd.ntmps33
    go_wp2
    go_quiet (first | (go_at_call 45; exact Calls.quiet_of_same (HS.out _)))
    go_wp2
    go_ret
    exact ⟨rfl, _, rfl⟩
  · clear c1
    go_enter Tryd.func33, Tryd.ntmps33
    go_wp2
    go_quiet (first | (go_at_call 45; exact Calls.quiet_of_same (HS.out _)))
    go_wp2
    go_ret
    exact ⟨rfl, _, rfl⟩
set_option maxHeartbeats 1000000 in
theorem check_near (h : WinAt w g a wide top seen) (hl : seen.length ≤ 1024) (h0l : 0 < seen.length) (n : Nat) (hA : (!wide && decide (4294967295 < n)) = false) (hn : n ≤ top) (h1n : n ≠ 0) (hfar : top - n < seen.length) (ht : top < 18446744073709551616) :
    Calls Tryd.prog 33 #[.pointer (some ⟨g, 0, none⟩), .int .u64 (n : Int)] w fun e w' => e = .returned (.int .i64 (if seen.getD (n % seen.length) false = true then 120 else 0)) ∧ ∃ m, w' = w.drewN m := by
  have h0 := h.c0
  have h1 := h.c1
  have hsz := fun k => (size_walk (h.drewN k) hl)
  have hpl := fun k => (place_walk (h.drewN k) hl h0l n)
  have hq1 := Nat.mod_lt n h0l
  have hcell := h.cell (n % seen.length) hq1
  obtain ⟨q, hq⟩ : ∃ q, n % seen.length = q := ⟨_, rfl⟩
  rw [hq] at hcell hpl ⊢
  obtain ⟨B, hB⟩ : ∃ B, seen.getD q false = B := ⟨_, rfl⟩
  rw [hB] at hcell ⊢
  obtain ⟨L, hL⟩ : ∃ L, seen.length = L := ⟨_, rfl⟩
  rw [hL] at hfar hsz
  have c2 : decide ((top : Int) < (n : Int)) = false := by simp; omega
  have c3 : ((n : Int) == 0) = false := by simp; omega
  have c4 : decide ((L : Int) ≤ IntKind.u64.wrap ((top : Int) - (n : Int))) = false := by rw [IntKind.wrap_u64]; simp; omega
  have HS := Aside0.mk hsz
  have HP := Aside0.mk hpl
  have c1 : wide = false → decide ((4294967295 : Int) < (n : Int)) = false := by rintro rfl; simp at hA ⊢; omega
  clear h hsz hA hpl hq hB
  cases wide
  · have c1 := c1 rfl
    cases B
    all_goals (
      go_enter Tryd.func33, Tryd.ntmps33
      go_wp2
      go_quiet (first | (go_at_call 45; exact Calls.quiet_of_same (HS.out _)) | (go_at_call 46; exact Calls.quiet_of (HP.out _)))
      go_wp2
      go_ret
      exact ⟨rfl, _, rfl⟩)
  · clear c1
    cases B
    all_goals (
      go_enter Tryd.func33, Tryd.ntmps33
      go_wp2
      go_quiet (first | (go_at_call 45; exact Calls.quiet_of_same (HS.out _)) | (go_at_call 46; exact Calls.quiet_of (HP.out _)))
      go_wp2
      go_ret
      exact ⟨rfl, _, rfl⟩)
set_option maxHeartbeats 1000000 in
theorem check_nil (w : World) (n : Nat) :
    Calls Tryd.prog 33 #[.pointer none, .int .u64 (n : Int)] w fun e w' => e = .returned (.int .i64 3) ∧ w' = w := by
  go_enter Tryd.func33, Tryd.ntmps33
  go_wp2
  go_ret
  exact ⟨rfl, rfl⟩
theorem check_walk (h : WinAt w g a wide top seen) (hl : seen.length ≤ 1024) (h0l : 0 < seen.length) (n : Nat) (ht : top < 18446744073709551616) :
    Calls Tryd.prog 33 #[.pointer (some ⟨g, 0, none⟩), .int .u64 (n : Int)] w fun e w' => e = .returned (.int .i64 (checkE wide top n seen)) ∧ ∃ m, w' = w.drewN m := by
  unfold checkE
  by_cases hA : (!wide && decide (4294967295 < n)) = true
  · rw [if_pos hA]
    simp only [Bool.and_eq_true, Bool.not_eq_true', decide_eq_true_eq] at hA
    obtain ⟨rfl, hA⟩ := hA
    exact check_arg h n hA
  · rw [if_neg hA]
    rw [Bool.not_eq_true] at hA
    by_cases hn : top < n
    · rw [if_pos hn]; exact check_new h n hA hn
    · rw [if_neg hn]
      unfold old
      by_cases h1n : n = 0
      · subst h1n
        simpa using check_zero h
      · by_cases hf : seen.length ≤ top - n
        · have := check_far h hl n hA (by omega) h1n hf ht
          simpa [hf, h1n] using this
        · have := check_near h hl h0l n hA (by omega) h1n (by omega) ht
          simpa [hf, h1n] using this
end
section
variable {w : World} {g a top : Nat} {wide : Bool} {seen : List Bool}
theorem or_add (a b p : Nat) (hp : p = 2 ^ 32) (hb : b < p) : a * p ||| b = a * p + b := by
  have := Nat.two_pow_add_eq_or_of_lt (i := 32) (b := b) (hp ▸ hb) a
  rw [hp, Nat.mul_comm]
  exact this.symm
theorem or_high (x y : Int) (hx0 : 0 ≤ x) (hx1 : x ≤ 4294967295) (hy0 : 0 ≤ y) (hy1 : y ≤ 4294967295) : bits BinOp.or IntKind.u64 (x * 4294967296) y = x * 4294967296 + y := by
  obtain ⟨a, rfl⟩ : ∃ a : Nat, x = a := ⟨x.toNat, by omega⟩
  obtain ⟨b, rfl⟩ : ∃ b : Nat, y = b := ⟨y.toNat, by omega⟩
  obtain ⟨p, hp⟩ : ∃ p : Nat, p = 4294967296 := ⟨_, rfl⟩
  have hp2 : (p : Int) = 4294967296 := by omega
  have hap : a * p < 18446744073709551616 := by rw [hp]; omega
  have h := u64_or_nat (a * p) b hap (by omega)
  rw [or_add a b p (by rw [hp]) (by omega)] at h
  rw [Int.natCast_mul, hp2] at h
  rw [h, Int.natCast_add, Int.natCast_mul, hp2]
/-- The half that a lower half lies in, near the top. -/
def inferH (top L low : Int) : Int :=
  if 0 ≤ top % 4294967296 - L + 1 ∧ low < top % 4294967296 - L + 1 then top / 4294967296 + 1
  else if top % 4294967296 - L + 1 < 0 ∧ top % 4294967296 - L + 1 + 4294967296 ≤ low then top / 4294967296 - 1
  else top / 4294967296
/-- What Infer answers. -/
def inferE (wide : Bool) (top L low : Int) : Int × Int :=
  if low < 0 ∨ 4294967295 < low then (0, 1) else if wide = false then (low, 0)
  else if inferH top L low < 0 ∨ 4294967295 < inferH top L low then (0, 120) else (inferH top L low * 4294967296 + low, 0)
set_option maxHeartbeats 2000000 in
theorem infer_wide (h : WinAt w g a true top seen) (low : Int) (hl : seen.length ≤ 1024) (h0 : 0 ≤ low) (h1 : low ≤ 4294967295) (ht : top < 18446744073709551616) :
    Calls Tryd.prog 32 #[.pointer (some ⟨g, 0, none⟩), .int .i64 low] w fun e w' => e = .returned (.tuple #[.int .u64 (inferE true top seen.length low).1, .int .i64 (inferE true top seen.length low).2]) ∧ ∃ m, w' = w.drewN m := by
  have hc0 := h.c0
  have hc1 := h.c1
  have hc2 := h.c2
  obtain ⟨L, hL⟩ : ∃ L, seen.length = L := ⟨_, rfl⟩
  rw [hL] at hc2 hl ⊢
  have c1 : decide (low < 0) = false := by simp; omega
  have c2 : decide ((4294967295 : Int) < low) = false := by simp; omega
  have ea := and_low32 (top : Int) (by omega) (by omega)
  obtain ⟨x, hx⟩ : ∃ x, (top : Int) % 4294967296 = x := ⟨_, rfl⟩
  have hx01 : 0 ≤ x ∧ x ≤ 4294967295 := by omega
  obtain ⟨hx0, hx1⟩ := hx01
  obtain ⟨H, hH⟩ : ∃ H, (top : Int) / 4294967296 = H := ⟨_, rfl⟩
  have hH01 : 0 ≤ H ∧ H ≤ 4294967295 := by omega
  obtain ⟨hH0, hH1⟩ := hH01
  have AE := Aside0.mk (show inferE true top L low = (if inferH top L low < 0 ∨ 4294967295 < inferH top L low then (0, 120) else (inferH top L low * 4294967296 + low, 0)) from by
    unfold inferE; rw [if_neg (by omega), if_neg (by simp)])
  have AH := Aside0.mk (show inferH top L low = _ from by unfold inferH; rw [hx, hH])
  rw [hx] at ea
  have w1 : wrap64 x = x := IntWalk.wrap64_in _ (by omega)
  have w2 : wrap64 (x - (L : Int)) = x - L := IntWalk.wrap64_in _ (by omega)
  have w3 : wrap64 (x - (L : Int) + 1) = x - L + 1 := IntWalk.wrap64_in _ (by omega)
  have w4 : wrap64 (x - (L : Int) + 1 + 4294967296) = x - (L : Int) + 1 + 4294967296 := IntWalk.wrap64_in _ (by omega)
  have OR := Aside0.mk or_high
  clear h hx hL
  go_enter Tryd.func32, Tryd.ntmps32
  go_wp2
  go_quiet (fail)
  go_wp2
  all_goals (
    go_ret2
    refine ⟨?_, _, rfl⟩
    rw [AE.out, AH.out]
    repeat (first | rw [if_pos (by omega)] | rw [if_neg (by omega)])
    simp
    try (rw [OR.out] <;> omega))
set_option maxHeartbeats 1000000 in
theorem infer_arg (p : Nat) (low : Int) (hlow : low < 0 ∨ 4294967295 < low) (w : World) :
    Calls Tryd.prog 32 #[.pointer (some ⟨p, 0, none⟩), .int .i64 low] w fun e w' => e = .returned (.tuple #[.int .u64 0, .int .i64 1]) ∧ w' = w := by
  by_cases h1 : low < 0
  · have c1 : decide (low < 0) = true := by simpa using h1
    go_enter Tryd.func32, Tryd.ntmps32
    go_wp2
    go_ret2
    exact ⟨rfl, rfl⟩
  · have c1 : decide (low < 0) = false := by simpa using h1
    have c2 : decide ((4294967295 : Int) < low) = true := by simp; omega
    go_enter Tryd.func32, Tryd.ntmps32
    go_wp2
    go_ret2
    exact ⟨rfl, rfl⟩
set_option maxHeartbeats 1000000 in
theorem infer_nil (low : Int) (w : World) :
    Calls Tryd.prog 32 #[.pointer none, .int .i64 low] w fun e w' => e = .returned (.tuple #[.int .u64 0, .int .i64 3]) ∧ w' = w := by
  go_enter Tryd.func32, Tryd.ntmps32
  go_wp2
  go_ret2
  exact ⟨rfl, rfl⟩
set_option maxHeartbeats 1000000 in
theorem infer_narrow (h : WinAt w g a false top seen) (low : Int) (h0 : 0 ≤ low) (h1 : low ≤ 4294967295) :
    Calls Tryd.prog 32 #[.pointer (some ⟨g, 0, none⟩), .int .i64 low] w fun e w' => e = .returned (.tuple #[.int .u64 low, .int .i64 0]) ∧ w' = w := by
  have hc0 := h.c0
  clear h
  have c1 : decide (low < 0) = false := by simp; omega
  have c2 : decide ((4294967295 : Int) < low) = false := by simp; omega
  go_enter Tryd.func32, Tryd.ntmps32
  go_wp2
  go_ret2
  exact ⟨rfl, rfl⟩
theorem infer_walk (h : WinAt w g a wide top seen) (low : Int) (hl : seen.length ≤ 1024) (ht : top < 18446744073709551616) :
    Calls Tryd.prog 32 #[.pointer (some ⟨g, 0, none⟩), .int .i64 low] w fun e w' => e = .returned (.tuple #[.int .u64 (inferE wide top seen.length low).1, .int .i64 (inferE wide top seen.length low).2]) ∧ ∃ m, w' = w.drewN m := by
  by_cases ha : low < 0 ∨ 4294967295 < low
  · have e : inferE wide top seen.length low = (0, 1) := by unfold inferE; rw [if_pos ha]
    rw [e]
    exact (infer_arg g low ha w).mono fun _ _ h => ⟨h.1, 0, h.2⟩
  · cases wide
    · have e : inferE false top seen.length low = (low, 0) := by unfold inferE; rw [if_neg ha, if_pos rfl]
      rw [e]
      exact (infer_narrow h low (by omega) (by omega)).mono fun _ _ h => ⟨h.1, 0, h.2⟩
    · exact infer_wide h low hl (by omega) (by omega) ht
end
theorem Step.refl (S : Nat → Prop) (w : World) : Step S w w := ⟨Below.refl _ _, Kept.refl _ _⟩
theorem Step.drewN {S : Nat → Prop} {w w' : World} (h : Step S w w') (m : Nat) : Step S w (w'.drewN m) := ⟨pw_below_drewN h.b m, h.k.drewN m⟩
theorem Step.set {S : Nat → Prop} {w w' : World} (h : Step S w w') (b i : Nat) (v : Value) (hb : S b) : Step S w (w'.setCell ⟨b, i, none⟩ v) := ⟨h.b.setCell (Nat.zero_le _) v, h.k.setCell (Or.inl hb) v⟩
theorem Step.trans {S : Nat → Prop} {a b c : World} (h : Step S a b) (k : Step S b c) : Step S a c := ⟨h.b.trans k.b, h.k.then_ k.k (fun _ hk => Or.inl hk)⟩
theorem set_run (g a : Nat) (wide : Bool) (top : Nat) : ∀ (n o : Nat) (W : World) (seen : List Bool), WinAt W g a wide top seen →
    ∃ seen', WinAt (W.setCells a o (List.replicate n (.bool false))) g a wide top seen' ∧ seen'.length = seen.length ∧ (∀ i, seen'.getD i false = if o ≤ i ∧ i < o + n then false else seen.getD i false) ∧ Step (fun k => k = g ∨ k = a) W (W.setCells a o (List.replicate n (.bool false)))
  | 0, o, W, seen, h => ⟨seen, h, rfl, fun i => by rw [if_neg (by omega)], Step.refl _ _⟩
  | n + 1, o, W, seen, h => by
    obtain ⟨s', h1, h2, h3, h4⟩ := set_run g a wide top n (o + 1) _ _ (h.set_at o false)
    refine ⟨s', h1, by simpa using h2, fun i => ?_, ((Step.refl _ _).set a o _ (Or.inr rfl)).trans h4⟩
    rw [h3 i]
    by_cases hi : i = o
    · subst hi
      rw [if_neg (by omega), if_pos (by omega)]
      simp only [List.getD_eq_getElem?_getD]
      by_cases hl : i < seen.length
      · simp [hl]
      · simp [hl]
    · have e : (o + 1 ≤ i ∧ i < o + 1 + n) ↔ (o ≤ i ∧ i < o + (n + 1)) := by omega
      simp only [e]
      split
      · rfl
      · simp only [List.getD_eq_getElem?_getD]
        rw [List.getElem?_set_ne (by omega)]
/-- The row after the numbers behind s, c of them, have been wiped. -/
def wipe (s : Nat) : Nat → List Bool → List Bool
  | 0, l => l
  | c + 1, l => (wipe s c l).set ((s + c) % l.length) false
theorem wipe_length (s : Nat) : ∀ (c : Nat) (l : List Bool), (wipe s c l).length = l.length
  | 0, _ => rfl
  | c + 1, l => by simp [wipe, wipe_length s c l]
/-- The row after n was accepted. -/
def accSeen (top n : Nat) (seen : List Bool) : List Bool :=
  if n ≤ top then seen.set (n % seen.length) true
  else if seen.length ≤ n - top then (List.replicate seen.length false).set (n % seen.length) true
  else (wipe (top + 1) (n - top - 1) seen).set (n % seen.length) true
section
variable {w : World} {g a top : Nat} {wide : Bool} {seen : List Bool}
set_option maxHeartbeats 1000000 in
theorem accept_no (p : Option Addr) (n c : Int) (hc : c ≠ 0) (hcall : Calls Tryd.prog 33 #[.pointer p, .int .u64 n] w fun e w' => e = .returned (.int .i64 c) ∧ ∃ m, w' = w.drewN m) :
    Calls Tryd.prog 31 #[.pointer p, .int .u64 n] w fun e w' => e = .returned (.int .i64 c) ∧ ∃ m, w' = w.drewN m := by
  have c0 : (c == 0) = false := by simpa using hc
  have HC := Aside0.mk hcall
  clear hcall hc
  go_enter Tryd.func31, Tryd.ntmps31
  go_wp2_with (go_at_call 33; refine HC.out.mono ?_; rintro e w1 ⟨rfl, m, rfl⟩)
  go_wp2
  go_ret
  exact ⟨rfl, m, rfl⟩
set_option maxHeartbeats 1000000 in
theorem accept_low (h : WinAt w g a wide top seen) (hl : seen.length ≤ 1024) (h0l : 0 < seen.length) (n : Nat) (hn : n ≤ top) (ht : top < 18446744073709551616)
    (hcall : Calls Tryd.prog 33 #[.pointer (some ⟨g, 0, none⟩), .int .u64 (n : Int)] w fun e w' => e = .returned (.int .i64 0) ∧ ∃ m, w' = w.drewN m) :
    Calls Tryd.prog 31 #[.pointer (some ⟨g, 0, none⟩), .int .u64 (n : Int)] w fun e w' => e = .returned (.int .i64 0) ∧ WinAt w' g a wide top (seen.set (n % seen.length) true) ∧ Step (fun k => k = g ∨ k = a) w w' := by
  have HC := Aside0.mk hcall
  have HP := Aside0.mk (fun k => (place_walk (h.drewN k) hl h0l n))
  have H := Aside0.mk h
  have h1 := h.c1
  have hf := h.fra (n % seen.length)
  have hq1 := Nat.mod_lt n h0l
  have hcell := h.cell (n % seen.length) hq1
  obtain ⟨B, hB⟩ : ∃ B, seen.getD (n % seen.length) false = B := ⟨_, rfl⟩
  rw [hB] at hcell
  obtain ⟨q, hq⟩ : ∃ q, n % seen.length = q := ⟨_, rfl⟩
  rw [hq] at HP hf hcell ⊢
  have c2 : decide ((top : Int) < (n : Int)) = false := by simp; omega
  clear hcall h hq hq1
  go_enter Tryd.func31, Tryd.ntmps31
  go_wp2_with (first | (go_at_call 33; refine HC.out.mono ?_; rintro e w1 ⟨rfl, m, rfl⟩) | (go_at_call 46; refine (HP.out _).mono ?_; rintro e w1 ⟨rfl, m2, rfl⟩))
  go_ret
  exact ⟨rfl, (H.out.drewN _).set_at q true, ((Step.refl _ _).drewN _).set a q _ (Or.inr rfl)⟩

theorem clear_run (h : WinAt w g a wide top seen) (h0l : 0 < seen.length) (ty : TypeId) :
    ∃ W', (Builtin.clear_ #[88] ty #[.slice (some ⟨a, 0, none⟩) seen.length seen.length]).run Tryd.prog w = .ok (.tuple #[]) W' ∧ WinAt W' g a wide top (List.replicate seen.length false) ∧ Step (fun k => k = g ∨ k = a) w W' := by
  have hz : ∀ w, (zeroValue 4).run Tryd.prog w = .ok (.bool false) w := fun w => by go_simp
  have hc := Lib.run_clear_slice (P := Tryd.prog) w 88 4 ty (.bool false) Tryd.underlying88 hz rfl rfl a 0 seen.length seen.length h0l
    (fun j hj => by have := h.cell j hj; simp [this]) (fun j hj => by have := h.fra j; simpa using this)
  obtain ⟨s', h1, h2, h3, h4⟩ := set_run g a wide top seen.length 0 w seen h
  refine ⟨_, hc, ?_, h4⟩
  have e : s' = List.replicate seen.length false := by
    apply List.ext_getElem
    · simp [h2]
    · intro i h5 h6
      have := h3 i
      simp only [List.getD_eq_getElem?_getD, List.getElem?_eq_getElem h5, Option.getD_some] at this
      rw [this, if_pos (by omega)]
      simp
  rw [e] at h1
  exact h1
set_option maxHeartbeats 1000000 in
theorem accept_far (h : WinAt w g a wide top seen) (hl : seen.length ≤ 1024) (h0l : 0 < seen.length) (n : Nat) (hn : top < n) (ht : n < 18446744073709551616) (hfar : seen.length ≤ n - top)
    (hcall : Calls Tryd.prog 33 #[.pointer (some ⟨g, 0, none⟩), .int .u64 (n : Int)] w fun e w' => e = .returned (.int .i64 0) ∧ ∃ m, w' = w.drewN m) :
    Calls Tryd.prog 31 #[.pointer (some ⟨g, 0, none⟩), .int .u64 (n : Int)] w fun e w' => e = .returned (.int .i64 0) ∧ WinAt w' g a wide n ((List.replicate seen.length false).set (n % seen.length) true) ∧ Step (fun k => k = g ∨ k = a) w w' := by
  have HC := Aside0.mk hcall
  have H := Aside0.mk h
  have h1 := h.c1
  have h2 := h.c2
  have c2 : decide ((top : Int) < (n : Int)) = true := by simp; omega
  have hsz := Aside0.mk fun (W : World) (hW : WinAt W g a wide top seen) => size_walk hW hl
  obtain ⟨F, hF⟩ := Classical.axiomOfChoice (fun k : Nat => clear_run (h.drewN k) h0l 0)
  have hF1 := fun k => (hF k).1
  have HF2 := Aside0.mk fun k => (hF k).2.1
  have HF3 := Aside0.mk fun k => (hF k).2.2
  have HFr := Aside0.mk h.fr
  obtain ⟨L, hL⟩ : ∃ L, seen.length = L := ⟨_, rfl⟩
  rw [hL] at h2 hl h0l hfar hsz HF2 ⊢
  simp only [hL] at hF1
  have c4 : decide ((L : Int) ≤ IntKind.u64.wrap ((n : Int) - (top : Int))) = true := by rw [IntKind.wrap_u64]; simp; omega
  have HPl : Aside0 (∀ W, WinAt W g a wide n (List.replicate L false) → Calls Tryd.prog 46 #[.pointer (some ⟨g, 0, none⟩), .int .u64 (n : Int)] W fun e w' => e = .returned (.pointer (some ⟨a, n % L, none⟩)) ∧ ∃ m, w' = W.drewN m) := Aside0.mk fun W hW => by
    have := place_walk hW (by simpa using hl) (by simpa using h0l) n
    simpa using this
  have hq1 := Nat.mod_lt n h0l
  obtain ⟨q, hq⟩ : ∃ q, n % L = q := ⟨_, rfl⟩
  rw [hq] at HPl ⊢ hq1
  have hFc := fun k => (HF2.out k).c1
  have hFf := fun k => (HF2.out k).fr 1
  have hFa := fun k => (HF2.out k).fra q
  have hne := h.ne
  have hFb := fun k => (HF2.out k).cell q (by simpa using hq1)
  simp only [List.getD_eq_getElem?_getD, List.getElem?_replicate, hq1, if_true, Option.getD_some] at hFb
  clear hcall h hq hF
  go_enter Tryd.func31, Tryd.ntmps31
  go_wp2_with (first | (go_at_call 33; refine HC.out.mono ?_; rintro e w1 ⟨rfl, m, rfl⟩))
  go_quiet (first | (go_at_call 45; exact (hsz.out _ (H.out.drewN _)).mono fun _ _ h => ⟨h.1, _, h.2⟩))
  go_wp2_with (first | (go_at_call 46; refine (HPl.out _ ((HF2.out _).set_top n)).mono ?_; rintro e w1 ⟨rfl, m2, rfl⟩))
  go_ret
  exact ⟨rfl, (((HF2.out _).set_top n).drewN m2).set_at q true, ((((Step.refl _ w).drewN _).trans (HF3.out _)).set g 1 _ (Or.inl rfl)).drewN m2 |>.set a q _ (Or.inr rfl)⟩
set_option maxHeartbeats 2000000 in
theorem accept_up (h : WinAt w g a wide top seen) (hl : seen.length ≤ 1024) (h0l : 0 < seen.length) (n : Nat) (hn : top < n) (ht : n < 18446744073709551616) (hfar : n - top < seen.length)
    (hcall : Calls Tryd.prog 33 #[.pointer (some ⟨g, 0, none⟩), .int .u64 (n : Int)] w fun e w' => e = .returned (.int .i64 0) ∧ ∃ m, w' = w.drewN m) :
    Calls Tryd.prog 31 #[.pointer (some ⟨g, 0, none⟩), .int .u64 (n : Int)] w fun e w' => e = .returned (.int .i64 0) ∧ WinAt w' g a wide n ((wipe (top + 1) (n - top - 1) seen).set (n % seen.length) true) ∧ Step (fun k => k = g ∨ k = a) w w' := by
  have HC := Aside0.mk hcall
  have H := Aside0.mk h
  have h1 := h.c1
  have h2 := h.c2
  have c2 : decide ((top : Int) < (n : Int)) = true := by simp; omega
  have hsz := Aside0.mk fun (W : World) (hW : WinAt W g a wide top seen) => size_walk hW hl
  obtain ⟨L, hL⟩ : ∃ L, seen.length = L := ⟨_, rfl⟩
  have HL := Aside0.mk hL
  rw [hL] at h2 hl h0l hfar hsz ⊢
  have c4 : decide ((L : Int) ≤ IntKind.u64.wrap ((n : Int) - (top : Int))) = false := by rw [IntKind.wrap_u64]; simp; omega
  have e5 : IntKind.u64.wrap ((top : Int) + 1) = ((top + 1 : Nat) : Int) := by rw [IntKind.wrap_u64]; omega
  have HPl : Aside0 (∀ W t s (k : Nat), s.length = L → WinAt W g a wide t s → Calls Tryd.prog 46 #[.pointer (some ⟨g, 0, none⟩), .int .u64 (k : Int)] W fun e w' => e = .returned (.pointer (some ⟨a, k % L, none⟩)) ∧ ∃ m, w' = W.drewN m) := Aside0.mk fun W t s k hs hW => by
    subst hs
    exact place_walk hW hl h0l k
  clear hcall h hL
  go_enter Tryd.func31, Tryd.ntmps31
  go_wp2_with (first | (go_at_call 33; refine HC.out.mono ?_; rintro e w1 ⟨rfl, m, rfl⟩))
  go_quiet (first | (go_at_call 45; exact (hsz.out _ (H.out.drewN _)).mono fun _ _ h => ⟨h.1, _, h.2⟩))
  go_wp2
  go_loopw [6] (fun i wr => ∃ c : Nat, c ≤ n - top - 1 ∧ i = .int .u64 ((top + 1 + c : Nat) : Int) ∧ Aside0 (WinAt wr g a wide top (wipe (top + 1) c seen)) ∧ Aside0 (Step (fun k => k = g ∨ k = a) w wr)) (fun i _ => n - (intOf i).toNat)
  case atStart => exact ⟨0, by omega, by simp, Aside0.mk (H.out.drewN _), Aside0.mk ((Step.refl _ _).drewN _)⟩
  case round =>
    obtain ⟨c, hc, rfl, HW, HS⟩ := hrel
    have hlen : (wipe (top + 1) c seen).length = L := by rw [wipe_length]; exact HL.out
    obtain ⟨K, hK⟩ : ∃ K, top + 1 + c = K := ⟨_, rfl⟩
    have HK := Aside0.mk hK
    rw [hK]
    by_cases hlt : K < n
    · have d1 : decide ((K : Int) < (n : Int)) = true := by simp; omega
      have e6 : IntKind.u64.wrap ((K : Int) + 1) = ((K + 1 : Nat) : Int) := by rw [IntKind.wrap_u64]; omega
      have hq1 : K % L < (wipe (top + 1) c seen).length := by rw [hlen]; exact Nat.mod_lt _ h0l
      have hcell := HW.out.cell (K % L) hq1
      have hfr := HW.out.fra (K % L)
      obtain ⟨B, hB⟩ : ∃ B, (wipe (top + 1) c seen).getD (K % L) false = B := ⟨_, rfl⟩
      rw [hB] at hcell
      have HP := Aside0.mk (HPl.out wr top _ K hlen HW.out)
      obtain ⟨q, hq⟩ : ∃ q, K % L = q := ⟨_, rfl⟩
      rw [hq] at hcell hfr HP
      have HQ := Aside0.mk hq
      clear hq hB hq1 hlen
      go_wp2_with (first | (go_at_call 46; refine HP.out.mono ?_; rintro e w1 ⟨rfl, m2, rfl⟩))
      go_round
      case rel =>
        refine ⟨c + 1, by omega, by rw [← HK.out]; rfl, Aside0.mk ?_, Aside0.mk ((HS.out.drewN _).set a q _ (Or.inr rfl))⟩
        have := (HW.out.drewN m2).set_at q false
        rw [← HQ.out, ← HK.out, ← HL.out] at this ⊢
        exact this
      case measure => simp [intOf]; omega
    · have d1 : decide ((K : Int) < (n : Int)) = false := by simp; omega
      have hce : c = n - top - 1 := by omega
      have HP := Aside0.mk (HPl.out _ n _ n hlen (HW.out.set_top n))
      have hq1 : n % L < (wipe (top + 1) c seen).length := by rw [hlen]; exact Nat.mod_lt _ h0l
      have hcell := HW.out.cell (n % L) hq1
      have hfr := HW.out.fra (n % L)
      have hfr1 := HW.out.fr 1
      have hct := HW.out.c1
      have hne := HW.out.ne
      obtain ⟨B, hB⟩ : ∃ B, (wipe (top + 1) c seen).getD (n % L) false = B := ⟨_, rfl⟩
      rw [hB] at hcell
      obtain ⟨q, hq⟩ : ∃ q, n % L = q := ⟨_, rfl⟩
      rw [hq] at hcell hfr HP
      have HQ := Aside0.mk hq
      have HE := Aside0.mk hce
      clear hq hB hq1 hlen hce hc
      go_wp2_with (first | (go_at_call 46; refine HP.out.mono ?_; rintro e w1 ⟨rfl, m2, rfl⟩))
      go_ret
      rw [HQ.out, ← HE.out]
      exact ⟨rfl, ((HW.out.set_top n).drewN m2).set_at q true, ((HS.out.set g 1 _ (Or.inl rfl)).drewN m2).set a q _ (Or.inr rfl)⟩
theorem step_drew (S : Nat → Prop) (w : World) (m : Nat) : Step S w (w.drewN m) := (Step.refl _ _).drewN _
/-- What Accept does. -/
theorem accept_walk (h : WinAt w g a wide top seen) (hl : seen.length ≤ 1024) (h0l : 0 < seen.length) (n : Nat) (ht : top < 18446744073709551616) (hn : n < 18446744073709551616) :
    Calls Tryd.prog 31 #[.pointer (some ⟨g, 0, none⟩), .int .u64 (n : Int)] w fun e w' => e = .returned (.int .i64 (checkE wide top n seen)) ∧
      WinAt w' g a wide (if checkE wide top n seen = 0 then max top n else top) (if checkE wide top n seen = 0 then accSeen top n seen else seen) ∧ Step (fun k => k = g ∨ k = a) w w' := by
  have hc := check_walk h hl h0l n ht
  by_cases h0 : checkE wide top n seen = 0
  · rw [h0] at hc ⊢
    simp only [if_true]
    unfold accSeen
    by_cases hle : n ≤ top
    · rw [if_pos hle, Nat.max_eq_left hle]
      exact accept_low h hl h0l n hle ht hc
    · rw [if_neg hle, Nat.max_eq_right (by omega)]
      by_cases hf : seen.length ≤ n - top
      · rw [if_pos hf]
        exact accept_far h hl h0l n (by omega) hn hf hc
      · rw [if_neg hf]
        exact accept_up h hl h0l n (by omega) hn (by omega) hc
  · rw [if_neg h0, if_neg h0]
    refine (accept_no (some ⟨g, 0, none⟩) n _ h0 hc).mono ?_
    rintro e w' ⟨rfl, m, rfl⟩
    exact ⟨rfl, h.drewN m, step_drew _ _ _⟩
theorem accept_nil (n : Nat) : Calls Tryd.prog 31 #[.pointer none, .int .u64 (n : Int)] w fun e w' => e = .returned (.int .i64 3) ∧ ∃ m, w' = w.drewN m :=
  accept_no none n 3 (by decide) ((check_nil w n).mono fun _ _ h => ⟨h.1, 0, h.2⟩)
end
end Go.Proofs.YtkmnpnbfeiobiaaDoor.Win

/- The walks of window.New, size, place, Top, Check: what each answers, over a window in memory. -/
import Derived.Test.YtddkcepofoifdaaQPdx0
import Derived.WalkLawsBesides
namespace Go.Proofs.Ytddkcepofoifdaa.Win
open Go.RowKit Go.Proofs.YtddkcepofoifdaaW.PrintWords Go.Proofs.YtddkcepofoifdaaW.PrintLast Go.Proofs.YtddkcepofoifdaaW.PrintMore
set_option linter.unusedVariables false
set_option linter.unusedSimpArgs false

/-- A window in memory: its three fields at block g, its row of Bools at block a. -/
structure WinAt (w : World) (g a : Nat) (wide : Bool) (top : Nat) (seen : List Bool) : Prop where
  hs : w.heap[g]? = some (.cells #[.bool wide, .int .u64 top, .slice (some ⟨a, 0, none⟩) seen.length seen.length] 55 (0, 0))
  ha : w.heap[a]? = some (.cells (seen.map Value.bool).toArray 4 (0, 0))
  ne : a ≠ g
/-- What a call leaves: all but the blocks of S is as it was. -/
structure Step (S : Nat → Prop) (w w' : World) : Prop where
  b : Below 0 w w'
  k : Kept w w' S

theorem info4 : (Try.prog.info? 4).map (fun i => (i.zero, i.size, i.bytes)) = some (some (.bool false), 1, 1) := by kernel_rfl
theorem madeBools (n : Nat) : madeCells (Value.bool false).cells n = ((List.replicate n false).map Value.bool).toArray := by
  apply Array.ext'
  apply List.ext_getElem
  · simp [madeCells, Value.cells]
  · intro i h1 h2
    simp [madeCells, Value.cells, Nat.mod_one]
theorem make_bools (n : Nat) (hn : n ≤ 1024) (W : World) : (Instr.makeSlice 49 (.int .i64 (n : Int)) (.int .i64 (n : Int))).run Try.prog W = .ok (.slice (some ⟨W.heap.size, 0, none⟩) n n) (W.alloc (.cells ((List.replicate n false).map Value.bool).toArray 4)) := by
  obtain ⟨i, hi, hz, hsz, hb⟩ := info_parts info4
  have := run_make (P := Try.prog) W 49 4 i (.bool false) Try.underlying49 hi hz .i64 .i64 n n (by omega) (by omega) (by rw [hb]; omega) (by omega)
  rw [this]
  simp only [Int.toNat_natCast, hsz, Nat.mul_one]
  rw [madeBools]
set_option maxHeartbeats 1000000 in
theorem new_bad (n : Int) (h : n < 64 ∨ 1024 < n) (wide : Bool) (w : World) : Calls Try.prog 20 #[.int .i64 n, .bool wide] w fun e w' => e = .returned (.tuple #[.pointer none, .int .i64 1]) ∧ w' = w := by
  by_cases h1 : n < 64
  · have c1 : decide ((n:Int) < 64) = true := by simpa using h1
    go_enter Try.func20, Try.ntmps20
    go_wp2
    go_ret2
    exact ⟨rfl, rfl⟩
  · have c1 : decide ((n:Int) < 64) = false := by simpa using h1
    have c2 : decide ((1024:Int) < n) = true := by simp; omega
    go_enter Try.func20, Try.ntmps20
    go_wp2
    go_ret2
    exact ⟨rfl, rfl⟩
set_option maxHeartbeats 1000000 in
theorem new_ok (n : Nat) (h0 : 64 ≤ n) (h1 : n ≤ 1024) (wide : Bool) (w : World) : Calls Try.prog 20 #[.int .i64 n, .bool wide] w fun e w' => 
    e = .returned (.tuple #[.pointer (some ⟨w.heap.size + 1, 0, none⟩), .int .i64 0]) ∧ WinAt w' (w.heap.size + 1) w.heap.size wide 0 (List.replicate n false) ∧ Below w.heap.size w w' ∧ w'.heap.size = w.heap.size + 2 := by
  have c1 : decide ((n:Int) < 64) = false := by simp; omega
  have c2 : decide ((1024:Int) < n) = false := by simp; omega
  have mk := make_bools n h1
  obtain ⟨C, hC⟩ : ∃ C, ((List.replicate n false).map Value.bool).toArray = C := ⟨_, rfl⟩
  rw [hC] at mk
  have HC := Aside0.mk hC
  clear hC
  go_enter Try.func20, Try.ntmps20
  go_wp2
  go_ret2
  refine ⟨by simp, ⟨?_, ?_, by omega⟩, ?_, by simp⟩
  · have h := blk_new (w.alloc (.cells C 4)) (.cells #[.bool wide, .int .u64 0, .slice (some ⟨w.heap.size, 0, none⟩) n n] 55)
    simpa using h
  · rw [HC.out]
    exact blk_alloc (blk_new w _) _
  · exact below_alloc (below_alloc (Below.refl _ _) _) _
namespace WinAt
variable {w w' : World} {g a top : Nat} {wide : Bool} {seen : List Bool}
theorem c0 (h : WinAt w g a wide top seen) : w.cell? ⟨g, 0, none⟩ = some (.bool wide) := (blk_cell h.hs 0).trans rfl
theorem c1 (h : WinAt w g a wide top seen) : w.cell? ⟨g, 1, none⟩ = some (.int .u64 top) := (blk_cell h.hs 1).trans rfl
theorem c2 (h : WinAt w g a wide top seen) : w.cell? ⟨g, 2, none⟩ = some (.slice (some ⟨a, 0, none⟩) seen.length seen.length) := (blk_cell h.hs 2).trans rfl
theorem cell (h : WinAt w g a wide top seen) (i : Nat) (hi : i < seen.length) : w.cell? ⟨a, i, none⟩ = some (.bool (seen.getD i false)) := by
  rw [blk_cell h.ha i]
  simp [hi]
theorem fr (h : WinAt w g a wide top seen) (i : Nat) : w.frozen? ⟨g, i, none⟩ = false := blk_frozen h.hs i
theorem fra (h : WinAt w g a wide top seen) (i : Nat) : w.frozen? ⟨a, i, none⟩ = false := blk_frozen h.ha i
theorem drewN (h : WinAt w g a wide top seen) (n : Nat) : WinAt (w.drewN n) g a wide top seen := ⟨h.hs, h.ha, h.ne⟩
theorem set_top (h : WinAt w g a wide top seen) (t : Nat) : WinAt (w.setCell ⟨g, 1, none⟩ (.int .u64 t)) g a wide t seen :=
  ⟨by simpa using blk_set h.hs 1 (.int .u64 t), blk_far h.ha h.ne _, h.ne⟩
theorem set_at (h : WinAt w g a wide top seen) (i : Nat) (b : Bool) : WinAt (w.setCell ⟨a, i, none⟩ (.bool b)) g a wide top (seen.set i b) := by
  refine ⟨?_, ?_, h.ne⟩
  · rw [List.length_set]; exact blk_far h.hs (Ne.symm h.ne) _
  · have := blk_set h.ha i (.bool b)
    rw [this]
    congr 2
    apply Array.ext'
    simp [List.map_set]
end WinAt
section
variable {w : World} {g a top : Nat} {wide : Bool} {seen : List Bool}
set_option maxHeartbeats 1000000 in
theorem size_walk (h : WinAt w g a wide top seen) (hl : seen.length ≤ 1024) :
    Calls Try.prog 31 #[.pointer (some ⟨g, 0, none⟩)] w fun e w' => e = .returned (.int .u64 (seen.length : Int)) ∧ w' = w := by
  have h2 := h.c2
  have e1 : IntKind.u64.wrap ((seen.length : Nat) : Int) = (seen.length : Int) := by rw [IntKind.wrap_u64]; omega
  clear h
  go_enter Try.func31, Try.ntmps31
  go_wp2
  go_ret
  exact ⟨by simp [e1], rfl⟩
set_option maxHeartbeats 1000000 in
theorem place_walk (h : WinAt w g a wide top seen) (hl : seen.length ≤ 1024) (h0 : 0 < seen.length) (n : Nat) :
    Calls Try.prog 32 #[.pointer (some ⟨g, 0, none⟩), .int .u64 (n : Int)] w fun e w' => e = .returned (.pointer (some ⟨a, n % seen.length, none⟩)) ∧ ∃ m, w' = w.drewN m := by
  have h2 := h.c2
  have hsz := fun k => (size_walk (h.drewN k) hl)
  obtain ⟨L, hL⟩ : ∃ L, seen.length = L := ⟨_, rfl⟩
  rw [hL] at h2 hsz hl h0 ⊢
  have e0 : ((L : Int) == 0) = false := by simp; omega
  have e1 : Int.tmod (n : Int) (L : Int) = ((n % L : Nat) : Int) := (Int.ofNat_tmod n L).symm
  have hlt := Nat.mod_lt n h0
  obtain ⟨q, hq⟩ : ∃ q, n % L = q := ⟨_, rfl⟩
  rw [hq] at e1 hlt ⊢
  have e2 : IntKind.u64.wrap (q : Int) = (q : Int) := by rw [IntKind.wrap_u64]; omega
  have b1 : (q : Int) < (L : Int) := by omega
  have b0 : (0 : Int) ≤ (q : Int) := by omega
  have HS := Aside0.mk hsz
  clear h hsz
  go_enter Try.func32, Try.ntmps32
  go_wp2
  go_quiet (first | (go_at_call 31; exact Calls.quiet_of_same (HS.out _)))
  go_wp2
  go_ret
  exact ⟨rfl, _, rfl⟩
set_option maxHeartbeats 1000000 in
theorem top_walk (h : WinAt w g a wide top seen) :
    Calls Try.prog 28 #[.pointer (some ⟨g, 0, none⟩)] w fun e w' => e = .returned (.int .u64 top) ∧ w' = w := by
  have h2 := h.c1
  clear h
  go_enter Try.func28, Try.ntmps28
  go_wp2
  go_ret
  exact ⟨rfl, rfl⟩
set_option maxHeartbeats 1000000 in
theorem top_nil (w : World) :
    Calls Try.prog 28 #[.pointer none] w fun e w' => e = .returned (.int .u64 0) ∧ w' = w := by
  go_enter Try.func28, Try.ntmps28
  go_wp2
  go_ret
  exact ⟨rfl, rfl⟩

/-- Is n refused, at a number that is not above the top? -/
def old (top n : Nat) (seen : List Bool) : Bool := decide (n = 0) || decide (seen.length ≤ top - n) || seen.getD (n % seen.length) false
/-- What Check answers. -/
def checkE (wide : Bool) (top n : Nat) (seen : List Bool) : Int :=
  if (!wide && decide (4294967295 < n)) = true then 1 else if top < n then 0 else if old top n seen = true then 120 else 0
set_option maxHeartbeats 1000000 in
theorem check_arg (h : WinAt w g a false top seen) (n : Nat) (hn : 4294967295 < n) :
    Calls Try.prog 25 #[.pointer (some ⟨g, 0, none⟩), .int .u64 (n : Int)] w fun e w' => e = .returned (.int .i64 1) ∧ ∃ m, w' = w.drewN m := by
  have h0 := h.c0
  have c1 : decide ((4294967295 : Int) < (n : Int)) = true := by simp; omega
  clear h
  go_enter Try.func25, Try.ntmps25
  go_wp2
  go_ret
  exact ⟨rfl, 0, rfl⟩
set_option maxHeartbeats 1000000 in
theorem check_new (h : WinAt w g a wide top seen) (n : Nat) (hA : (!wide && decide (4294967295 < n)) = false) (hn : top < n) :
    Calls Try.prog 25 #[.pointer (some ⟨g, 0, none⟩), .int .u64 (n : Int)] w fun e w' => e = .returned (.int .i64 0) ∧ ∃ m, w' = w.drewN m := by
  have h0 := h.c0
  have h1 := h.c1
  have c2 : decide ((top : Int) < (n : Int)) = true := by simp; omega
  clear h
  cases wide
  · have c1 : decide ((4294967295 : Int) < (n : Int)) = false := by simp at hA ⊢; omega
    clear hA
    go_enter Try.func25, Try.ntmps25
    go_wp2
    go_ret
    exact ⟨rfl, 0, rfl⟩
  · clear hA
    go_enter Try.func25, Try.ntmps25
    go_wp2
    go_ret
    exact ⟨rfl, 0, rfl⟩
set_option maxHeartbeats 1000000 in
theorem check_zero (h : WinAt w g a wide top seen) :
    Calls Try.prog 25 #[.pointer (some ⟨g, 0, none⟩), .int .u64 0] w fun e w' => e = .returned (.int .i64 120) ∧ ∃ m, w' = w.drewN m := by
  have h0 := h.c0
  have h1 := h.c1
  have c2 : decide ((top : Int) < 0) = false := by simp
  clear h
  cases wide
  all_goals (
    go_enter Try.func25, Try.ntmps25
    go_wp2
    go_quiet (fail)
    go_wp2
    go_ret
    exact ⟨rfl, _, rfl⟩)
set_option maxHeartbeats 1000000 in
theorem check_far (h : WinAt w g a wide top seen) (hl : seen.length ≤ 1024) (n : Nat) (hA : (!wide && decide (4294967295 < n)) = false) (hn : n ≤ top) (h1n : n ≠ 0) (hfar : seen.length ≤ top - n) (ht : top < 18446744073709551616) :
    Calls Try.prog 25 #[.pointer (some ⟨g, 0, none⟩), .int .u64 (n : Int)] w fun e w' => e = .returned (.int .i64 120) ∧ ∃ m, w' = w.drewN m := by
  have h0 := h.c0
  have h1 := h.c1
  have hsz := fun k => (size_walk (h.drewN k) hl)
  obtain ⟨L, hL⟩ : ∃ L, seen.length = L := ⟨_, rfl⟩
  rw [hL] at hfar hsz
  have c2 : decide ((top : Int) < (n : Int)) = false := by simp; omega
  have c3 : ((n : Int) == 0) = false := by simp; omega
  have c4 : decide ((L : Int) ≤ IntKind.u64.wrap ((top : Int) - (n : Int))) = true := by rw [IntKind.wrap_u64]; simp; omega
  have HS := Aside0.mk hsz
  have c1 : wide = false → decide ((4294967295 : Int) < (n : Int)) = false := by rintro rfl; simp at hA ⊢; omega
  clear h hsz hA
  cases wide
  · have c1 := c1 rfl
    go_enter Try.func25, Try.ntmps25
    go_wp2
    go_quiet (first | (go_at_call 31; exact Calls.quiet_of_same (HS.out _)))
    go_wp2
    go_ret
    exact ⟨rfl, _, rfl⟩
  · clear c1
    go_enter Try.func25, Try.ntmps25
    go_wp2
    go_quiet (first | (go_at_call 31; exact Calls.quiet_of_same (HS.out _)))
    go_wp2
    go_ret
    exact ⟨rfl, _, rfl⟩
set_option maxHeartbeats 1000000 in
theorem check_near (h : WinAt w g a wide top seen) (hl : seen.length ≤ 1024) (h0l : 0 < seen.length) (n : Nat) (hA : (!wide && decide (4294967295 < n)) = false) (hn : n ≤ top) (h1n : n ≠ 0) (hfar : top - n < seen.length) (ht : top < 18446744073709551616) :
    Calls Try.prog 25 #[.pointer (some ⟨g, 0, none⟩), .int .u64 (n : Int)] w fun e w' => e = .returned (.int .i64 (if seen.getD (n % seen.length) false = true then 120 else 0)) ∧ ∃ m, w' = w.drewN m := by
  have h0 := h.c0
  have h1 := h.c1
  have hsz := fun k => (size_walk (h.drewN k) hl)
  have hpl := fun k => (place_walk (h.drewN k) hl h0l n)
  have hq1 := Nat.mod_lt n h0l
  have hcell := h.cell (n % seen.length) hq1
  obtain ⟨q, hq⟩ : ∃ q, n % seen.length = q := ⟨_, rfl⟩
  rw [hq] at hcell hpl ⊢
  obtain ⟨B, hB⟩ : ∃ B, seen.getD q false = B := ⟨_, rfl⟩
  rw [hB] at hcell ⊢
  obtain ⟨L, hL⟩ : ∃ L, seen.length = L := ⟨_, rfl⟩
  rw [hL] at hfar hsz
  have c2 : decide ((top : Int) < (n : Int)) = false := by simp; omega
  have c3 : ((n : Int) == 0) = false := by simp; omega
  have c4 : decide ((L : Int) ≤ IntKind.u64.wrap ((top : Int) - (n : Int))) = false := by rw [IntKind.wrap_u64]; simp; omega
  have HS := Aside0.mk hsz
  have HP := Aside0.mk hpl
  have c1 : wide = false → decide ((4294967295 : Int) < (n : Int)) = false := by rintro rfl; simp at hA ⊢; omega
  clear h hsz hA hpl hq hB
  cases wide
  · have c1 := c1 rfl
    cases B
    all_goals (
      go_enter Try.func25, Try.ntmps25
      go_wp2
      go_quiet (first | (go_at_call 31; exact Calls.quiet_of_same (HS.out _)) | (go_at_call 32; exact Calls.quiet_of (HP.out _)))
      go_wp2
      go_ret
      exact ⟨rfl, _, rfl⟩)
  · clear c1
    cases B
    all_goals (
      go_enter Try.func25, Try.ntmps25
      go_wp2
      go_quiet (first | (go_at_call 31; exact Calls.quiet_of_same (HS.out _)) | (go_at_call 32; exact Calls.quiet_of (HP.out _)))
      go_wp2
      go_ret
      exact ⟨rfl, _, rfl⟩)
set_option maxHeartbeats 1000000 in
theorem check_nil (w : World) (n : Nat) :
    Calls Try.prog 25 #[.pointer none, .int .u64 (n : Int)] w fun e w' => e = .returned (.int .i64 3) ∧ w' = w := by
  go_enter Try.func25, Try.ntmps25
  go_wp2
  go_ret
  exact ⟨rfl, rfl⟩
theorem check_walk (h : WinAt w g a wide top seen) (hl : seen.length ≤ 1024) (h0l : 0 < seen.length) (n : Nat) (ht : top < 18446744073709551616) :
    Calls Try.prog 25 #[.pointer (some ⟨g, 0, none⟩), .int .u64 (n : Int)] w fun e w' => e = .returned (.int .i64 (checkE wide top n seen)) ∧ ∃ m, w' = w.drewN m := by
  unfold checkE
  by_cases hA : (!wide && decide (4294967295 < n)) = true
  · rw [if_pos hA]
    simp only [Bool.and_eq_true, Bool.not_eq_true', decide_eq_true_eq] at hA
    obtain ⟨rfl, hA⟩ := hA
    exact check_arg h n hA
  · rw [if_neg hA]
    rw [Bool.not_eq_true] at hA
    by_cases hn : top < n
    · rw [if_pos hn]; exact check_new h n hA hn
    · rw [if_neg hn]
      unfold old
      by_cases h1n : n = 0
      · subst h1n
        simpa using check_zero h
      · by_cases hf : seen.length ≤ top - n
        · have := check_far h hl n hA (by omega) h1n hf ht
          simpa [hf, h1n] using this
        · have := check_near h hl h0l n hA (by omega) h1n (by omega) ht
          simpa [hf, h1n] using this
end
end Go.Proofs.Ytddkcepofoifdaa.Win

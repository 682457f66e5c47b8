/- The example of chapter 13 (awake) answers true; a window's calls in one word, Win. -/
import Derived.Test.YtddkcepofoifdaaWinC
namespace Go.Proofs.Ytddkcepofoifdaa.Win
open Go.RowKit Go.Proofs.YtddkcepofoifdaaW.PrintWords Go.Proofs.YtddkcepofoifdaaW.PrintLast Go.Proofs.YtddkcepofoifdaaW.PrintMore
set_option linter.unusedVariables false
set_option linter.unusedSimpArgs false
/-- The state behind Accept. -/
def acc (wide : Bool) (st : Nat × List Bool) (n : Nat) : Nat × List Bool := if checkE wide st.1 n st.2 = 0 then (max st.1 n, accSeen st.1 n st.2) else st
def chk (wide : Bool) (st : Nat × List Bool) (n : Nat) : Int := checkE wide st.1 n st.2
/-- A state that a window of that size can be in. -/
def Good (L : Nat) (st : Nat × List Bool) : Prop := st.2.length = L ∧ st.1 < 18446744073709551616
theorem accSeen_length (top n : Nat) (l : List Bool) : (accSeen top n l).length = l.length := by
  unfold accSeen
  split
  · simp
  · split
    · simp
    · simp [wipe_length]
theorem Good.acc {L : Nat} {st : Nat × List Bool} (h : Good L st) (wide : Bool) (n : Nat) (hn : n < 18446744073709551616) : Good L (acc wide st n) := by
  unfold Win.acc
  split
  · exact ⟨by simp only [accSeen_length]; exact h.1, by simp only; have := h.2; omega⟩
  · exact h
/-- All that a window's call keeps, in one word: what was there before base is as it was. -/
structure Win (base L : Nat) (w0 w : World) (g a : Nat) (wide : Bool) (st : Nat × List Bool) : Prop where
  at_ : WinAt w g a wide st.1 st.2
  good : Good L st
  hL : 64 ≤ L ∧ L ≤ 1024
  below : Below base w0 w
  hg : base ≤ g
  ha : base ≤ a
theorem Below.step {base g a : Nat} {w0 w w' : World} (h : Below base w0 w) (hg : base ≤ g) (ha : base ≤ a) (hs : Step (fun k => k = g ∨ k = a) w w') (hlt : base ≤ w.heap.size) : Below base w0 w' :=
  h.trans ⟨hs.b.os, hs.b.tape, hs.b.output, hs.b.size, fun k hk => hs.k.2 k (by omega) (by omega)⟩
section
variable {base L g a : Nat} {w0 w : World} {wide : Bool} {st : Nat × List Bool}
theorem Win.lt (h : Win base L w0 w g a wide st) : base ≤ w.heap.size := Nat.le_of_lt (Nat.lt_of_le_of_lt h.hg (blk_lt h.at_.hs))
theorem Win.drewN (h : Win base L w0 w g a wide st) (m : Nat) : Win base L w0 (w.drewN m) g a wide st := ⟨h.at_.drewN m, h.good, h.hL, pw_below_drewN h.below m, h.hg, h.ha⟩
theorem Win.step (h : Win base L w0 w g a wide st) {w' : World} {st' : Nat × List Bool} (hw : WinAt w' g a wide st'.1 st'.2) (hs : Step (fun k => k = g ∨ k = a) w w') (hgood : Good L st') : Win base L w0 w' g a wide st' :=
  ⟨hw, hgood, h.hL, Below.step h.below h.hg h.ha hs h.lt, h.hg, h.ha⟩
theorem Win.below_ (h : Win base L w0 w g a wide st) {w' : World} (hb : Below w.heap.size w w') : Win base L w0 w' g a wide st :=
  ⟨⟨blk_below h.at_.hs hb, blk_below h.at_.ha hb, h.at_.ne⟩, h.good, h.hL, h.below.trans (hb.mono h.lt), h.hg, h.ha⟩
theorem Win.new (L : Nat) (h0 : 64 ≤ L) (h1 : L ≤ 1024) (wide : Bool) (hb : Below base w0 w) (hbase : base ≤ w.heap.size) :
    Calls Try.prog 20 #[.int .i64 (L : Int), .bool wide] w fun e w' => ∃ g a, e = .returned (.tuple #[.pointer (some ⟨g, 0, none⟩), .int .i64 0]) ∧ Win base L w0 w' g a wide (0, List.replicate L false) := by
  refine (new_ok L h0 h1 wide w).mono ?_
  rintro e w' ⟨rfl, h, hbl, hs⟩
  exact ⟨_, _, rfl, ⟨h, ⟨by simp, by simp⟩, ⟨h0, h1⟩, hb.trans (hbl.mono hbase), by omega, by omega⟩⟩
theorem Win.check (h : Win base L w0 w g a wide st) (n : Nat) :
    Calls Try.prog 25 #[.pointer (some ⟨g, 0, none⟩), .int .u64 (n : Int)] w fun e w' => e = .returned (.int .i64 (chk wide st n)) ∧ Win base L w0 w' g a wide st := by
  refine (check_walk h.at_ (by rw [h.good.1]; exact h.hL.2) (by have := h.good.1; have := h.hL.1; omega) n h.good.2).mono ?_
  rintro e w' ⟨rfl, m, rfl⟩
  exact ⟨rfl, h.drewN m⟩
theorem Win.accept (h : Win base L w0 w g a wide st) (n : Nat) (hn : n < 18446744073709551616) :
    Calls Try.prog 21 #[.pointer (some ⟨g, 0, none⟩), .int .u64 (n : Int)] w fun e w' => e = .returned (.int .i64 (chk wide st n)) ∧ Win base L w0 w' g a wide (acc wide st n) := by
  refine (accept_walk h.at_ (by rw [h.good.1]; exact h.hL.2) (by have := h.good.1; have := h.hL.1; omega) n h.good.2 hn).mono ?_
  rintro e w' ⟨rfl, h2, h3⟩
  refine ⟨rfl, h.step ?_ h3 (h.good.acc wide n hn)⟩
  unfold acc
  split <;> simp_all
theorem Win.top (h : Win base L w0 w g a wide st) :
    Calls Try.prog 28 #[.pointer (some ⟨g, 0, none⟩)] w fun e w' => e = .returned (.int .u64 (st.1 : Int)) ∧ w' = w := top_walk h.at_
theorem Win.infer (h : Win base L w0 w g a wide st) (low : Int) :
    Calls Try.prog 23 #[.pointer (some ⟨g, 0, none⟩), .int .i64 low] w fun e w' => e = .returned (.tuple #[.int .u64 (inferE wide st.1 L low).1, .int .i64 (inferE wide st.1 L low).2]) ∧ Win base L w0 w' g a wide st := by
  have := infer_walk h.at_ low (by rw [h.good.1]; exact h.hL.2) h.good.2
  rw [h.good.1] at this
  refine this.mono ?_
  rintro e w' ⟨rfl, m, rfl⟩
  exact ⟨rfl, h.drewN m⟩
end
def s1 : Nat × List Bool := acc true (0, List.replicate 64 false) 5
def s2 : Nat × List Bool := acc true (acc true s1 5) 100
def s3 : Nat × List Bool := acc true (acc true s2 36) 37
def s4 : Nat × List Bool := acc true s3 4294967300
set_option maxHeartbeats 4000000 in
theorem awake_walk (w : World) : Calls Try.prog 22 #[] w fun e w' => e = .returned (.bool true) ∧ Below w.heap.size w w' := by
  have n0 := Win.new (base := w.heap.size) (w0 := w) (w := w) 64 (by decide) (by decide) true (Below.refl _ _) (Nat.le_refl _)
  have a1 := Aside0.mk fun (W : World) (g a : Nat) (h : Win w.heap.size 64 w W g a true (0, List.replicate 64 false)) => h.accept 5 (by decide)
  have a2 := Aside0.mk fun (W : World) (g a : Nat) (h : Win w.heap.size 64 w W g a true s1) => h.accept 5 (by decide)
  have a3 := Aside0.mk fun (W : World) (g a : Nat) (h : Win w.heap.size 64 w W g a true (acc true s1 5)) => h.accept 100 (by decide)
  have a4 := Aside0.mk fun (W : World) (g a : Nat) (h : Win w.heap.size 64 w W g a true s2) => h.accept 36 (by decide)
  have a5 := Aside0.mk fun (W : World) (g a : Nat) (h : Win w.heap.size 64 w W g a true (acc true s2 36)) => h.accept 37 (by decide)
  have a6 := Aside0.mk fun (W : World) (g a : Nat) (h : Win w.heap.size 64 w W g a true s3) => h.accept 4294967300 (by decide)
  have i1 := Aside0.mk fun (W : World) (g a : Nat) (h : Win w.heap.size 64 w W g a true s4) => h.infer 5
  have i2 := Aside0.mk fun (W : World) (g a : Nat) (h : Win w.heap.size 64 w W g a true s4) => h.infer 4294967290
  have N0 := Aside0.mk n0
  clear n0
  rw [show chk true (0, List.replicate 64 false) 5 = 0 from by decide +kernel] at a1
  rw [show chk true s1 5 = 120 from by decide +kernel] at a2
  rw [show chk true (acc true s1 5) 100 = 0 from by decide +kernel] at a3
  rw [show chk true s2 36 = 120 from by decide +kernel] at a4
  rw [show chk true (acc true s2 36) 37 = 0 from by decide +kernel] at a5
  rw [show chk true s3 4294967300 = 0 from by decide +kernel] at a6
  rw [show inferE true s4.1 (64 : Nat) 5 = (4294967301, 0) from by decide +kernel] at i1
  rw [show inferE true s4.1 (64 : Nat) 4294967290 = (4294967290, 0) from by decide +kernel] at i2
  go_enter Try.func22, Try.ntmps22
  go_wp2_with (first | (go_at_call 20; refine N0.out.mono ?_; rintro e w1 ⟨g, a, rfl, h1⟩; have H0 := Aside0.mk h1; clear h1) | (go_at_call 21; refine (a1.out _ g a H0.out).mono ?_; rintro e w1 ⟨rfl, h1⟩; have H1 := Aside0.mk h1; clear h1 H0) | (go_at_call 21; refine (a2.out _ g a H1.out).mono ?_; rintro e w1 ⟨rfl, h1⟩; have H2 := Aside0.mk h1; clear h1 H1) | (go_at_call 21; refine (a3.out _ g a H2.out).mono ?_; rintro e w1 ⟨rfl, h1⟩; have H3 := Aside0.mk h1; clear h1 H2) | (go_at_call 21; refine (a4.out _ g a H3.out).mono ?_; rintro e w1 ⟨rfl, h1⟩; have H4 := Aside0.mk h1; clear h1 H3) | (go_at_call 21; refine (a5.out _ g a H4.out).mono ?_; rintro e w1 ⟨rfl, h1⟩; have H5 := Aside0.mk h1; clear h1 H4) | (go_at_call 21; refine (a6.out _ g a H5.out).mono ?_; rintro e w1 ⟨rfl, h1⟩; have H6 := Aside0.mk h1; clear h1 H5) | (go_at_call 23; refine (i1.out _ g a H6.out).mono ?_; rintro e w1 ⟨rfl, h1⟩; have H7 := Aside0.mk h1; clear h1 H6) | (go_at_call 23; refine (i2.out _ g a H7.out).mono ?_; rintro e w1 ⟨rfl, h1⟩; have H8 := Aside0.mk h1; clear h1 H7))
  go_ret
  exact ⟨rfl, H8.out.below⟩
end Go.Proofs.Ytddkcepofoifdaa.Win

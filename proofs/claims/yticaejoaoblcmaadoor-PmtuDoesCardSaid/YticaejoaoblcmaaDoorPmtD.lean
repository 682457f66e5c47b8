/- The walks of pmtu's head, Outer, Inner, and of the document's examples (awake). -/
import Derived.Test.YticaejoaoblcmaaDoorPmtC
namespace Go.Proofs.YticaejoaoblcmaaDoor.Pmt
open Go.RowKit Go.Maps Go.Proofs.YticaejoaoblcmaaDoorW.PrintWords Go.Proofs.YticaejoaoblcmaaDoorW.PrintLast Go.Proofs.YticaejoaoblcmaaDoorW.PrintMore Go.Proofs.YticaejoaoblcmaaDoor.PPmtuInner
set_option linter.unusedVariables false
set_option linter.unusedSimpArgs false
attribute [local go_sem] max2_int min2_int max_two min_two max_three min_three max_four min_four
def lenE (n : Int) : Int := 32 + (n + 5) / 4 * 4
def hdE (wide : Bool) : Int := if wide then 40 else 20
def outerE (n : Int) (wide : Bool) : Int := hdE wide + lenE n
def innerE (mtu : Int) (wide tunnel : Bool) : Int :=
  if mtu < outerE 0 wide then 0 else (mtu - outerE 0 wide) / 4 * 4 + 2 + (if tunnel then 0 else hdE wide)
theorem len_f (n : Int) (h0 : 0 ≤ n) (h1 : n ≤ 1000000) : esp_Length.f n = some (lenE n) := by
  have e : pad_Length.f n = some ((n + 5) / 4 * 4) := by
    unfold pad_Length.f
    rw [if_neg (by omega), IntWalk.wrap64_in (n + 2) (by omega), IntWalk.wrap64_in (n + 2 + 4) (by omega), IntWalk.wrap64_in (n + 2 + 4 - 1) (by omega), Int.tdiv_eq_ediv_of_nonneg (by omega), IntWalk.wrap64_in ((n + 2 + 4 - 1) / 4) (by omega), IntWalk.wrap64_in _ (by omega)]
    congr 2
    omega
  unfold esp_Length.f
  rw [if_neg (by omega), e]
  show some (wrap64 (wrap64 (16 + (n + 5) / 4 * 4) + 16)) = _
  unfold lenE
  rw [IntWalk.wrap64_in (16 + (n + 5) / 4 * 4) (by omega), IntWalk.wrap64_in _ (by omega)]
  congr 1
  omega
theorem len_walk (n : Int) (h0 : 0 ≤ n) (h1 : n ≤ 1000000) (w : World) : Calls Tryd.prog 14 #[.int .i64 n] w fun e w' => e = .returned (.int .i64 (lenE n)) ∧ ∃ m, w' = w.drewN m :=
  (esp_Length.calls n _ w (len_f n h0 h1)).mono fun _ _ h => ⟨h.1, h.2.out⟩
/-- The listed table is as it was laid. -/
structure Heads (w : World) : Prop where
  c0 : w.cell? ⟨0, 0, none⟩ = some (.int .i64 20)
  c1 : w.cell? ⟨0, 1, none⟩ = some (.int .i64 40)
theorem Heads.below {w w' : World} (h : Heads w) (hb : Below w.heap.size w w') : Heads w' := ⟨pw_cell_below hb h.c0, pw_cell_below hb h.c1⟩
theorem Heads.pos {w : World} (h : Heads w) : 0 < w.heap.size := World.block_lt_of_cell? w _ h.c0
theorem Heads.drewN {w : World} (h : Heads w) (m : Nat) : Heads (w.drewN m) := h.below (pw_below_drewN (Below.refl _ _) m)
theorem head_walk (wide : Bool) (w : World) (h : Heads w) : Calls Tryd.prog 20 #[.bool wide] w fun e w' => e = .returned (.int .i64 (hdE wide)) ∧ w' = w := by
  have c0 := h.c0
  have c1 := h.c1
  cases wide
  all_goals (
    go_enter Tryd.func20, Tryd.ntmps20
    go_wp2
    go_ret
    exact ⟨rfl, rfl⟩)
set_option maxHeartbeats 4000000 in
theorem outer_walk (n : Int) (h0 : 0 ≤ n) (h1 : n ≤ 1000000) (wide tunnel : Bool) (w : World) (h : Heads w) : Calls Tryd.prog 13 #[.int .i64 n, .bool wide, .bool tunnel] w fun e w' => e = .returned (.int .i64 (outerE n wide)) ∧ ∃ m, w' = w.drewN m := by
  have HD := Aside0.mk (head_walk wide w h)
  have LE := Aside0.mk (len_walk n h0 h1 w)
  have c1 : decide (n < 0) = false := decide_eq_false (by omega)
  have e : wrap64 (hdE wide + lenE n) = outerE n wide := IntWalk.wrap64_in _ (by unfold hdE lenE; cases wide <;> simp <;> omega)
  obtain ⟨o, ho⟩ : ∃ o, outerE n wide = o := ⟨_, rfl⟩
  obtain ⟨l, hl⟩ : ∃ o, lenE n = o := ⟨_, rfl⟩
  obtain ⟨d, hd⟩ : ∃ o, hdE wide = o := ⟨_, rfl⟩
  rw [ho, hl, hd] at e
  rw [hl] at LE
  rw [hd] at HD
  rw [ho]
  clear h h0 h1 ho hl hd
  go_enter Tryd.func13, Tryd.ntmps13
  go_wp2_with (first | (go_at_call 20; refine HD.out.mono ?_; rintro e w1 ⟨rfl, rfl⟩) | (go_at_call 14; refine LE.out.mono ?_; rintro e w1 ⟨rfl, m, rfl⟩))
  go_ret
  rw [← e]
  exact ⟨rfl, m, rfl⟩
theorem inner_bounds (mtu : Int) (h0 : 0 ≤ mtu) (h1 : mtu ≤ 100000) (wide tunnel : Bool) : 0 ≤ innerE mtu wide tunnel ∧ innerE mtu wide tunnel ≤ 200000 := by
  unfold innerE outerE lenE hdE
  cases wide <;> cases tunnel <;> simp only [if_true, if_false, Bool.false_eq_true] <;> split <;> omega
set_option maxHeartbeats 4000000 in
theorem inner_walk (mtu : Int) (h0 : 0 ≤ mtu) (h1 : mtu ≤ 100000) (wide tunnel : Bool) (w : World) (h : Heads w) : Calls Tryd.prog 12 #[.int .i64 mtu, .bool wide, .bool tunnel] w fun e w' => e = .returned (.int .i64 (innerE mtu wide tunnel)) ∧ ∃ m, w' = w.drewN m := by
  have HD := Aside0.mk fun m => head_walk wide (w.drewN m) (h.drewN m)
  have OU := Aside0.mk (outer_walk 0 (by decide) (by decide) wide tunnel w h)
  have ho : outerE 0 wide = hdE wide + 36 := by unfold outerE lenE; rfl
  have hdd : hdE wide = 20 ∨ hdE wide = 40 := by unfold hdE; cases wide <;> simp
  have hi : innerE mtu wide tunnel = if mtu < outerE 0 wide then 0 else (mtu - outerE 0 wide) / 4 * 4 + 2 + (if tunnel then 0 else hdE wide) := rfl
  rw [hi]
  clear hi
  obtain ⟨o, heo⟩ : ∃ o, outerE 0 wide = o := ⟨_, rfl⟩
  obtain ⟨d, hed⟩ : ∃ o, hdE wide = o := ⟨_, rfl⟩
  rw [heo] at ho OU ⊢
  rw [hed] at HD hdd ho ⊢
  clear heo hed h
  by_cases hlt : mtu < o
  · rw [if_pos hlt]
    have c1 : decide (mtu < o) = true := decide_eq_true hlt
    clear hlt ho hdd h0 h1
    go_enter Tryd.func12, Tryd.ntmps12
    go_wp2_with (first | (go_at_call 13; refine OU.out.mono ?_; rintro e w1 ⟨rfl, m, rfl⟩))
    go_ret
    exact ⟨rfl, m, rfl⟩
  · rw [if_neg hlt]
    have c1 : decide (mtu < o) = false := decide_eq_false hlt
    have e1 : wrap64 (mtu - o) = mtu - o := IntWalk.wrap64_in _ (by omega)
    have e2 : Int.tdiv (mtu - o) 4 = (mtu - o) / 4 := Int.tdiv_eq_ediv_of_nonneg (by omega)
    have e3 : wrap64 ((mtu - o) / 4 * 4) = (mtu - o) / 4 * 4 := IntWalk.wrap64_in _ (by omega)
    have e3b : wrap64 ((mtu - o) / 4) = (mtu - o) / 4 := IntWalk.wrap64_in _ (by omega)
    have e4 : wrap64 ((mtu - o) / 4 * 4 + 2) = (mtu - o) / 4 * 4 + 2 := IntWalk.wrap64_in _ (by omega)
    have e5 : wrap64 ((mtu - o) / 4 * 4 + 2 + d) = (mtu - o) / 4 * 4 + 2 + d := IntWalk.wrap64_in _ (by omega)
    have E := Aside0.mk (And.intro e1 (And.intro e2 (And.intro e3 (And.intro e3b (And.intro e4 e5)))))
    clear e1 e2 e3 e3b e4 e5 hlt ho hdd h0 h1
    cases tunnel
    · go_enter Tryd.func12, Tryd.ntmps12
      go_wp2_with (first | (go_at_call 13; refine OU.out.mono ?_; rintro e w1 ⟨rfl, m, rfl⟩) | (go_at_call 20; refine (HD.out _).mono ?_; rintro e w1 ⟨rfl, rfl⟩))
      go_ret
      obtain ⟨e1, e2, e3, e3b, e4, e5⟩ := E.out
      refine ⟨?_, _, rfl⟩
      simp [e1, e2, e3, e3b, e4, e5]
    · go_enter Tryd.func12, Tryd.ntmps12
      go_wp2_with (first | (go_at_call 13; refine OU.out.mono ?_; rintro e w1 ⟨rfl, m, rfl⟩) | (go_at_call 20; refine (HD.out _).mono ?_; rintro e w1 ⟨rfl, rfl⟩))
      go_ret
      obtain ⟨e1, e2, e3, e3b, e4, e5⟩ := E.out
      refine ⟨?_, _, rfl⟩
      simp [e1, e2, e3, e3b, e4]
theorem below_stepS {base : Nat} {w0 w w' : World} {S : Nat → Prop} (h : Below base w0 w) (hs : Step S w w') (hS : ∀ k, S k → base ≤ k) (hlt : base ≤ w.heap.size) : Below base w0 w' :=
  h.trans ⟨hs.b.os, hs.b.tape, hs.b.output, hs.b.size, fun k hk => hs.k.2 k (by omega) (fun hk' => by have := hS k hk'; omega)⟩
def one : ByteArray := { data := #[10, 0, 0, 1] }
theorem aw1 : tellE [] 0 one 1400 = ((1400, 0), [(one, 1400, 0)]) := by kernel_rfl
theorem aw2 : getE [(one, 1400, 0)] 1 one 1500 = (1400, 0) := by kernel_rfl
theorem aw3 : tellE [(one, 1400, 0)] 1 one 100 = ((576, 0), [(one, 576, 1)]) := by kernel_rfl
theorem aw4 : getE [(one, 576, 1)] 601 one 1500 = (1500, 0) := by kernel_rfl
set_option maxHeartbeats 4000000 in
theorem awake_walk (w : World) (h : Heads w) : Calls Tryd.prog 11 #[] w fun e w' => e = .returned (.bool true) ∧ Below w.heap.size w w' := by
  have hone : one.size ≤ maxLen := by decide
  have HH := Aside0.mk fun (W : World) (hb : Below w.heap.size w W) => h.below hb
  clear h
  go_enter Tryd.func11, Tryd.ntmps11
  go_wp2_with (fail)
  refine (new_walk w).mono ?_
  rintro e w1 ⟨rfl, hc, hb⟩
  have T1 := Aside0.mk (tell_walk hc 0 one hone 1400)
  rw [aw1] at T1
  have H1 := Aside0.mk hc
  have B1 := Aside0.mk hb
  clear hc hb
  go_wp2_with (fail)
  refine T1.out.mono ?_
  rintro e w2 ⟨rfl, hc, hs⟩
  have T2 := Aside0.mk (get_walk hc 1 one hone 1500)
  rw [aw2] at T2
  have H2 := Aside0.mk hc
  have B2 := Aside0.mk (below_stepS B1.out hs (by rintro k rfl; exact Nat.le_refl _) B1.out.size)
  clear hc hs
  go_wp2_with (fail)
  refine T2.out.mono ?_
  rintro e w3 ⟨rfl, hb⟩
  have T3 := Aside0.mk (tell_walk (H2.out.below hb) 1 one hone 100)
  rw [aw3] at T3
  have B3 := Aside0.mk (B2.out.trans (hb.mono B2.out.size))
  clear hb
  go_wp2_with (fail)
  refine T3.out.mono ?_
  rintro e w4 ⟨rfl, hc, hs⟩
  have T4 := Aside0.mk (get_walk hc 601 one hone 1500)
  rw [aw4] at T4
  have B4 := Aside0.mk (below_stepS B3.out hs (by rintro k rfl; exact Nat.le_refl _) B3.out.size)
  clear hc hs
  go_wp2_with (fail)
  refine T4.out.mono ?_
  rintro e w5 ⟨rfl, hb⟩
  have B5 := Aside0.mk (B4.out.trans (hb.mono B4.out.size))
  have HW := Aside0.mk (HH.out _ B5.out)
  have OU := Aside0.mk (outer_walk 0 (by decide) (by decide) false true w5 HW.out)
  have I1 := Aside0.mk fun m => inner_walk 1500 (by decide) (by decide) false true (w5.drewN m) (HW.out.drewN m)
  have I2 := Aside0.mk fun m => inner_walk 1500 (by decide) (by decide) false false (w5.drewN m) (HW.out.drewN m)
  have e0 : outerE 0 false = 56 := by kernel_rfl
  have e1 : innerE 1500 false true = 1446 := by kernel_rfl
  have e2 : innerE 1500 false false = 1466 := by kernel_rfl
  rw [e0] at OU
  rw [e1] at I1
  rw [e2] at I2
  clear e0 e1 e2 hb
  go_wp2_with (first | (go_at_call 13; refine OU.out.mono ?_; rintro e w6 ⟨rfl, m1, rfl⟩))
  refine (I1.out _).mono ?_
  rintro e w7 ⟨rfl, m2, rfl⟩
  go_wp2_with (fail)
  refine (I2.out _).mono ?_
  rintro e w8 ⟨rfl, m3, rfl⟩
  go_wp2_with (fail)
  go_ret
  exact ⟨rfl, pw_below_drewN B5.out _⟩
end Go.Proofs.YticaejoaoblcmaaDoor.Pmt

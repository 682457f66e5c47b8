/- A cache's calls in one word (Cach); the plain laws of Get and Tell; the walk of the law PmtuApart. -/
import Derived.Test.YticaejoaoblcmaaDoorPmtD
import Derived.Laws.Strings
namespace Go.Proofs.YticaejoaoblcmaaDoor.Pmt
open Go.RowKit Go.Maps Go.Proofs.YticaejoaoblcmaaDoorW.PrintWords Go.Proofs.YticaejoaoblcmaaDoorW.PrintLast Go.Proofs.YticaejoaoblcmaaDoorW.PrintMore Go.Proofs.YticaejoaoblcmaaDoor.PPmtuInner
set_option linter.unusedVariables false
set_option linter.unusedSimpArgs false
attribute [local go_sem] max2_int min2_int max_two min_two max_three min_three max_four min_four
structure Cach (w0 w : World) (g b : Nat) (L : List Ent) : Prop where
  at_ : CacheAt w g b L
  below : Below w0.heap.size w0 w
  hb : w0.heap.size ≤ b
section
variable {w0 w : World} {g b : Nat} {L : List Ent}
theorem Cach.new (w0 : World) : Calls Tryd.prog 8 #[] w0 fun e w' => ∃ g b, e = .returned (.pointer (some ⟨g, 0, none⟩)) ∧ w0.heap.size ≤ g ∧ Cach w0 w' g b [] :=
  (new_walk w0).mono fun e w' h => ⟨_, _, h.1, Nat.le_succ _, ⟨h.2.1, h.2.2, Nat.le_refl _⟩⟩
theorem Cach.below_ (h : Cach w0 w g b L) {w' : World} (hb : Below w.heap.size w w') : Cach w0 w' g b L := ⟨h.at_.below hb, h.below.trans (hb.mono h.below.size), h.hb⟩
theorem Cach.get (h : Cach w0 w g b L) (now : Int) (k : ByteArray) (hk : k.size ≤ maxLen) (link : Int) :
    Calls Tryd.prog 9 #[.pointer (some ⟨g, 0, none⟩), .int .i64 now, .string k, .int .i64 link] w fun e w' => e = .returned (.tuple #[.int .i64 (getE L now k link).1, .int .i64 (getE L now k link).2]) ∧ Cach w0 w' g b L ∧ Below w.heap.size w w' :=
  (get_walk h.at_ now k hk link).mono fun e w' h' => ⟨h'.1, h.below_ h'.2, h'.2⟩
theorem Cach.tell (h : Cach w0 w g b L) (now : Int) (k : ByteArray) (hk : k.size ≤ maxLen) (mtu : Int) :
    Calls Tryd.prog 10 #[.pointer (some ⟨g, 0, none⟩), .int .i64 now, .string k, .int .i64 mtu] w fun e w' => e = .returned (.tuple #[.int .i64 (tellE L now k mtu).1.1, .int .i64 (tellE L now k mtu).1.2]) ∧ Cach w0 w' g b (tellE L now k mtu).2 ∧ Step (fun i => i = b) w w' :=
  (tell_walk h.at_ now k hk mtu).mono fun e w' h' => ⟨h'.1, ⟨h'.2.1, below_stepS h.below h'.2.2 (by rintro k rfl; exact h.hb) h.below.size, h.hb⟩, h'.2.2⟩
theorem Cach.awake (h : Cach w0 w g b L) (hh : Heads w0) : Calls Tryd.prog 11 #[] w fun e w' => e = .returned (.bool true) ∧ Below w0.heap.size w0 w' :=
  (awake_walk w (hh.below h.below)).mono fun e w' h' => ⟨h'.1, h.below.trans (h'.2.mono h.below.size)⟩
end
/-! Plain laws. -/
/-- Two strings' sameness, as a walk leaves it. -/
theorem bytes_eq (x y : ByteArray) : (x.toList == y.toList) = true ↔ x = y := by
  rw [beq_iff_eq, ByteArray.toList_eq, ByteArray.toList_eq]
  exact ⟨fun h => ByteArray.ext (Array.toList_inj.mp h), fun h => by rw [h]⟩
theorem bytes_ne (x y : ByteArray) : (x.toList == y.toList) = false ↔ x ≠ y := by
  rw [Ne, ← bytes_eq x y, Bool.not_eq_true]
theorem get_tell_other (L : List Ent) (now : Int) (k k' : ByteArray) (mtu : Int) (hne : k' ≠ k) : get (tellE L now k mtu).2 k' = get L k' := by
  unfold tellE
  split
  · rfl
  · split
    · split
      · rfl
      · rw [get_put, if_neg hne]
    · split
      · rfl
      · rw [get_put, if_neg hne]
theorem getE_congr {L L' : List Ent} {k : ByteArray} (h : get L k = get L' k) (now link : Int) : getE L now k link = getE L' now k link := by
  unfold getE
  rw [h]
theorem wrap_self (now : Int) : wrap64 (now - now) = 0 := by rw [Int.sub_self]; kernel_rfl
theorem tell_again {L : List Ent} {a : ByteArray} {x now : Int} (hb : ¬ bad a) (h : get L a = some (max x (low a), now)) : tellE L now a x = ((max x (low a), 0), L) := by
  unfold tellE
  rw [if_neg hb, h]
  simp only
  rw [wrap_self, if_pos ⟨by decide, Int.le_refl _⟩]
/-- What PmtuApart asks. -/
theorem apart_law (a b : ByteArray) (x y now : Int) (hne : ¬ a = b) : ∃ (L1 L2 L3 : List Ent) (r1 r2 : Int × Int) (m e k f : Int),
    tellE [] now a x = (r1, L1) ∧ getE L1 now a 9000 = (m, e) ∧ tellE L1 now b y = (r2, L2) ∧ getE L2 now a 9000 = (m, e) ∧ tellE L2 now a x = ((k, f), L3) ∧ getE L3 now a 9000 = (m, e) ∧ (f = 0 → min k 9000 = m) := by
  by_cases hb : bad a
  · have hg : ∀ L, getE L now a 9000 = (0, 1) := fun L => by unfold getE; rw [if_pos hb]
    have ht : ∀ L, tellE L now a x = ((0, 1), L) := fun L => by unfold tellE; rw [if_pos hb]
    exact ⟨_, _, _, _, _, 0, 1, 0, 1, ht _, hg _, rfl, hg _, ht _, hg _, by intro h; cases h⟩
  · have h1 : tellE [] now a x = ((max x (low a), 0), put [] a (max x (low a)) now) := by
      unfold tellE
      rw [if_neg hb]
      rfl
    have g1 : get (put [] a (max x (low a)) now) a = some (max x (low a), now) := by rw [get_put, if_pos rfl]
    have hgE : ∀ L, get L a = some (max x (low a), now) → getE L now a 9000 = (min 9000 (max x (low a)), 0) := fun L h => by
      unfold getE
      rw [if_neg hb, h]
      simp only
      rw [wrap_self, if_pos (by decide)]
    have g2 : get (tellE (put [] a (max x (low a)) now) now b y).2 a = some (max x (low a), now) := by rw [get_tell_other _ _ _ _ _ hne, g1]
    exact ⟨_, _, _, _, _, _, 0, _, 0, h1, hgE _ g1, rfl, hgE _ g2, tell_again hb g2, hgE _ g2, fun _ => by omega⟩
set_option maxHeartbeats 4000000 in
theorem apart_out (a b : ByteArray) (x y now : Int) (w : World) (h : Heads w) (ha : a.size ≤ 140737488351232) (hb : b.size ≤ 140737488351232) (ho : a = b ∨ 300 < a.size + b.size ∨ now < 0 ∨ 1000000 < now) :
    Calls Tryd.prog 5 #[.string a, .string b, .int .i64 x, .int .i64 y, .int .i64 now] w fun e w' => e = .returned (.bool true) ∧ Below w.heap.size w w' := by
  have NW := Aside0.mk (Cach.new w)
  have AW := Aside0.mk fun (W : World) (g b : Nat) (L : List Ent) (hc : Cach w W g b L) => hc.awake h
  clear h
  have e1 : wrap64 ((a.size : Int) + (b.size : Int)) = ((a.size + b.size : Nat) : Int) := by rw [IntWalk.wrap64_in _ (by omega)]; omega
  obtain ⟨S, hS⟩ : ∃ S, a.size + b.size = S := ⟨_, rfl⟩
  rw [hS] at e1 ho
  clear ha hb hS
  by_cases c1 : a = b
  · subst c1
    clear ho
    go_enter Tryd.func5, Tryd.ntmps5
    go_wp2_with (first | (go_at_call 8; refine NW.out.mono ?_; rintro e w1 ⟨g, m, rfl, hg, hc⟩; have HC := Aside0.mk hc; clear hc hg) | (go_at_call 11; refine (AW.out _ _ _ _ HC.out).mono ?_; rintro e w2 ⟨rfl, hb⟩; have HB := Aside0.mk hb; clear hb))
    go_ret
    exact ⟨rfl, HB.out⟩
  · have b1 : (a.toList == b.toList) = false := (bytes_ne a b).mpr c1
    have b2 : decide (a = b) = false := decide_eq_false c1
    by_cases c2 : 300 < S
    · have d1 : decide ((300 : Int) < (S : Int)) = true := by simp; omega
      clear ho c1
      go_enter Tryd.func5, Tryd.ntmps5
      go_wp2_with (first | (go_at_call 8; refine NW.out.mono ?_; rintro e w1 ⟨g, m, rfl, hg, hc⟩; have HC := Aside0.mk hc; clear hc hg) | (go_at_call 11; refine (AW.out _ _ _ _ HC.out).mono ?_; rintro e w2 ⟨rfl, hb⟩; have HB := Aside0.mk hb; clear hb))
      go_ret
      exact ⟨rfl, HB.out⟩
    · have d1 : decide ((300 : Int) < (S : Int)) = false := by simp; omega
      by_cases c3 : now < 0
      · have d2 : decide (now < 0) = true := decide_eq_true c3
        clear ho c1
        go_enter Tryd.func5, Tryd.ntmps5
        go_wp2_with (first | (go_at_call 8; refine NW.out.mono ?_; rintro e w1 ⟨g, m, rfl, hg, hc⟩; have HC := Aside0.mk hc; clear hc hg) | (go_at_call 11; refine (AW.out _ _ _ _ HC.out).mono ?_; rintro e w2 ⟨rfl, hb⟩; have HB := Aside0.mk hb; clear hb))
        go_ret
        exact ⟨rfl, HB.out⟩
      · have d2 : decide (now < 0) = false := decide_eq_false c3
        have d3 : decide (1000000 < now) = true := decide_eq_true (by rcases ho with h | h | h | h; exact absurd h c1; omega; omega; exact h)
        clear ho c1
        go_enter Tryd.func5, Tryd.ntmps5
        go_wp2_with (first | (go_at_call 8; refine NW.out.mono ?_; rintro e w1 ⟨g, m, rfl, hg, hc⟩; have HC := Aside0.mk hc; clear hc hg) | (go_at_call 11; refine (AW.out _ _ _ _ HC.out).mono ?_; rintro e w2 ⟨rfl, hb⟩; have HB := Aside0.mk hb; clear hb))
        go_ret
        exact ⟨rfl, HB.out⟩
set_option maxHeartbeats 4000000 in
theorem apart_main (a b : ByteArray) (x y now : Int) (w : World) (h : Heads w) (hne : ¬ a = b) (hs : a.size + b.size ≤ 300) (h0 : 0 ≤ now) (h1 : now ≤ 1000000) :
    Calls Tryd.prog 5 #[.string a, .string b, .int .i64 x, .int .i64 y, .int .i64 now] w fun e w' => e = .returned (.bool true) ∧ Below w.heap.size w w' := by
  have NW := Aside0.mk (Cach.new w)
  have AW := Aside0.mk fun (W : World) (g b : Nat) (L : List Ent) (hc : Cach w W g b L) => hc.awake h
  have e1 : wrap64 ((a.size : Int) + (b.size : Int)) = ((a.size + b.size : Nat) : Int) := by rw [IntWalk.wrap64_in _ (by omega)]; omega
  have ha : a.size ≤ maxLen := Nat.le_trans (by omega) (show 300 ≤ maxLen by decide)
  have hb : b.size ≤ maxLen := Nat.le_trans (by omega) (show 300 ≤ maxLen by decide)
  have d1 : decide ((300 : Int) < ((a.size + b.size : Nat) : Int)) = false := by simp; omega
  obtain ⟨S, hS⟩ : ∃ S, a.size + b.size = S := ⟨_, rfl⟩
  rw [hS] at e1 d1
  have b1 : (a.toList == b.toList) = false := (bytes_ne a b).mpr hne
  have b2 : decide (a = b) = false := decide_eq_false hne
  have d2 : decide (now < 0) = false := decide_eq_false (by omega)
  have d3 : decide (1000000 < now) = false := decide_eq_false (by omega)
  obtain ⟨L1, L2, L3, r1, r2, m, e, k, f, t1, g1, t2, g2, t3, g3, hf⟩ := apart_law a b x y now hne
  have T1 := Aside0.mk fun (W : World) (g q : Nat) (hc : Cach w W g q []) => hc.tell now a ha x
  have G1 := Aside0.mk fun (W : World) (g q : Nat) (hc : Cach w W g q L1) => hc.get now a ha 9000
  have T2 := Aside0.mk fun (W : World) (g q : Nat) (hc : Cach w W g q L1) => hc.tell now b hb y
  have G2 := Aside0.mk fun (W : World) (g q : Nat) (hc : Cach w W g q L2) => hc.get now a ha 9000
  have T3 := Aside0.mk fun (W : World) (g q : Nat) (hc : Cach w W g q L2) => hc.tell now a ha x
  have G3 := Aside0.mk fun (W : World) (g q : Nat) (hc : Cach w W g q L3) => hc.get now a ha 9000
  rw [t1] at T1
  rw [g1] at G1
  rw [t2] at T2
  rw [g2] at G2
  rw [t3] at T3
  rw [g3] at G3
  have FIN : Aside0 (f ≠ 0 ∨ (f = 0 ∧ (if 9000 < k then 9000 else k) = m)) := Aside0.mk (by
    by_cases h : f = 0
    · exact Or.inr ⟨h, by have := hf h; omega⟩
    · exact Or.inl h)
  clear h hne hs h0 h1 ha hb hS t1 g1 t2 g2 t3 g3 hf
  go_enter Tryd.func5, Tryd.ntmps5
  go_wp2_with (first | (go_at_call 8; refine NW.out.mono ?_; rintro e w1 ⟨g, q, rfl, hg, hc⟩; have HC := Aside0.mk hc; clear hc hg))
  refine (T1.out _ _ _ HC.out).mono ?_
  rintro e w2 ⟨rfl, hc, _⟩
  have H1 := Aside0.mk hc
  clear hc
  go_wp2_with (fail)
  refine (G1.out _ _ _ H1.out).mono ?_
  rintro e w3 ⟨rfl, hc, _⟩
  have H2 := Aside0.mk hc
  clear hc
  go_wp2_with (fail)
  refine (T2.out _ _ _ H2.out).mono ?_
  rintro e w4 ⟨rfl, hc, _⟩
  have H3 := Aside0.mk hc
  clear hc
  go_wp2_with (fail)
  refine (G2.out _ _ _ H3.out).mono ?_
  rintro e w5 ⟨rfl, hc, _⟩
  have H4 := Aside0.mk hc
  clear hc
  go_wp2_with (fail)
  refine (T3.out _ _ _ H4.out).mono ?_
  rintro e w6 ⟨rfl, hc, _⟩
  have H5 := Aside0.mk hc
  clear hc
  go_wp2_with (fail)
  refine (G3.out _ _ _ H5.out).mono ?_
  rintro e w7 ⟨rfl, hc, _⟩
  have H6 := Aside0.mk hc
  clear hc
  go_wp2_with (fail)
  refine (AW.out _ _ _ _ H6.out).mono ?_
  rintro e w8 ⟨rfl, hb⟩
  have HB := Aside0.mk hb
  clear hb
  rcases FIN.out with hf | ⟨rfl, hf⟩
  · have f0 : (f != 0) = true := by simpa using hf
    clear hf
    go_wp2_with (fail)
    go_ret
    exact ⟨rfl, HB.out⟩
  · go_wp2_with (fail)
    go_ret
    exact ⟨by simp, HB.out⟩
theorem apart_walk (a b : ByteArray) (x y now : Int) (w : World) (h : Heads w) (ha : a.size ≤ 140737488351232) (hb : b.size ≤ 140737488351232) (_hx : (Lit.int .i64 x).wf = true) (_hy : (Lit.int .i64 y).wf = true) (_hn : (Lit.int .i64 now).wf = true) :
    Calls Tryd.prog 5 #[.string a, .string b, .int .i64 x, .int .i64 y, .int .i64 now] w fun e w' => e = .returned (.bool true) ∧ Below w.heap.size w w' := by
  by_cases ho : a = b ∨ 300 < a.size + b.size ∨ now < 0 ∨ 1000000 < now
  · exact apart_out a b x y now w h ha hb ho
  · rw [not_or, not_or, not_or] at ho
    obtain ⟨h1, h2, h3, h4⟩ := ho
    exact apart_main a b x y now w h h1 (by omega) (by omega) (by omega)
end Go.Proofs.YticaejoaoblcmaaDoor.Pmt

/- The walk of the law WindowDoes: a script of numbers; the program's window answers as the document's, for every input it is true. -/
import Derived.Test.YtddkcepofoifdaaWinI
import Derived.Test.YtddkcepofoifdaaWinL
import Derived.Test.YtddkcepofoifdaaCame
namespace Go.Proofs.Ytddkcepofoifdaa.Win
open Go.RowKit Go.Proofs.YtddkcepofoifdaaW.PrintWords Go.Proofs.YtddkcepofoifdaaW.PrintLast Go.Proofs.YtddkcepofoifdaaW.PrintMore
set_option linter.unusedVariables false
set_option linter.unusedSimpArgs false
attribute [local go_sem] max2_int min2_int max_two min_two max_three min_three max_four min_four
theorem foldl_max_le (l : List Nat) : ∀ (a m : Nat), a ≤ m → (∀ x ∈ l, x ≤ m) → l.foldl max a ≤ m := by
  induction l with
  | nil => intro a m h _; exact h
  | cons x l ih =>
    intro a m h hx
    exact ih _ _ (Nat.max_le.mpr ⟨h, hx x (List.mem_cons_self ..)⟩) (fun y hy => hx y (List.mem_cons_of_mem _ hy))
theorem le_foldl_max (l : List Nat) : ∀ (a : Nat), a ≤ l.foldl max a ∧ ∀ x ∈ l, x ≤ l.foldl max a := by
  induction l with
  | nil => intro a; exact ⟨Nat.le_refl _, by simp⟩
  | cons x l ih =>
    intro a
    have h := ih (max a x)
    have h1 : a ≤ max a x := Nat.le_max_left _ _
    have h2 : x ≤ max a x := Nat.le_max_right _ _
    refine ⟨Nat.le_trans h1 h.1, fun y hy => ?_⟩
    rcases List.mem_cons.mp hy with rfl | hy
    · exact Nat.le_trans h2 h.1
    · exact h.2 y hy
theorem Inv.tops {L : Nat} {st : Nat × List Bool} {xs : List Nat} (h : Inv L st xs) : tops xs = st.1 := by
  apply Nat.le_antisymm
  · exact foldl_max_le xs 0 st.1 (Nat.zero_le _) (fun x hx => (h.mem x hx).2)
  · rcases h.top with ht | ht
    · omega
    · exact (le_foldl_max xs 0).2 _ ht
theorem Inv.ref {L : Nat} {st : Nat × List Bool} {xs : List Nat} (h : Inv L st xs) (hL : 0 < L) (wide : Bool) (n : Nat) : refChk L wide xs n = Win.chk wide st n := by
  rw [h.chk, refChk, h.tops]
  split
  · rfl
  · by_cases hlt : st.1 < n
    · rw [if_pos hlt, if_neg]
      rintro (h0 | h0 | h0)
      · omega
      · omega
      · have := h.mem n h0; omega
    · rw [if_neg hlt]
      congr 1
      apply propext
      constructor
      · rintro (h0 | h0 | h0)
        · exact Or.inl h0
        · exact Or.inr (Or.inl (by omega))
        · exact Or.inr (Or.inr h0)
      · rintro (h0 | h0 | h0)
        · exact Or.inl h0
        · exact Or.inr (Or.inl (by omega))
        · exact Or.inr (Or.inr h0)
theorem inferE_neg (wide : Bool) (T L : Int) : inferE wide T L (-1) = (0, 1) := by unfold inferE; rw [if_pos (Or.inl (by decide))]
theorem inferE_big (wide : Bool) (T L : Int) : inferE wide T L 4294967296 = (0, 1) := by unfold inferE; rw [if_pos (Or.inr (by decide))]
theorem Win.keep {base L g a : Nat} {w0 w w' : World} {wide : Bool} {st : Nat × List Bool} {S : Nat → Prop} (hw : Win base L w0 w g a wide st) (hk : Kept w w' S) (h1 : ¬ S g) (h2 : ¬ S a) (hb : Below base w0 w') : Win base L w0 w' g a wide st :=
  ⟨⟨blk_kept hw.at_.hs hk h1, blk_kept hw.at_.ha hk h2, hw.at_.ne⟩, hw.good, hw.hL, hb, hw.hg, hw.ha⟩
theorem Ref.keep {base h L c : Nat} {w w' : World} {ok S : Nat → Prop} {wide : Bool} {A : Option Addr} {ns : List Nat} (r : Ref base w h ok L wide A c ns) (hk : Kept w w' S) (h1 : ¬ S h) (h2 : ∀ k, ok k → ¬ S k) : Ref base w' h ok L wide A c ns :=
  ⟨blk_kept r.hs hk h1, Kd.R_kept r.row hk (fun k hk => h2 k hk.2)⟩
theorem Win.infer2 {base L g a : Nat} {w0 w : World} {wide : Bool} {st : Nat × List Bool} (h : Win base L w0 w g a wide st) (low : Int) :
    Calls Try.prog 23 #[.pointer (some ⟨g, 0, none⟩), .int .i64 low] w fun e w' => e = .returned (.tuple #[.int .u64 (inferE wide st.1 L low).1, .int .i64 (inferE wide st.1 L low).2]) ∧ ∃ m, w' = w.drewN m := by
  have := infer_walk h.at_ low (by rw [h.good.1]; exact h.hL.2) h.good.2
  rw [h.good.1] at this
  exact this
set_option maxHeartbeats 8000000 in
set_option maxRecDepth 100000 in
theorem does_main (l : List Nat) (A : Option Addr) (c : Nat) (w : World) (L : Nat) (wide : Bool) (h0 : 64 ≤ L) (h1 : L ≤ 1024) (h200 : l.length ≤ 200) (hr : ReadsInt w .u64 A (natl l).length (natl l)) (hc : l.length ≤ c) (hb : ∀ x ∈ l, x < 18446744073709551616) :
    Calls Try.prog 8 #[.int .i64 (L : Int), .bool wide, .slice A l.length c] w fun e w' => e = .returned (.bool true) ∧ Below w.heap.size w w' := by
  have AW := Aside0.mk awake_walk
  have NB := Aside0.mk (Win.new (base := w.heap.size) (w0 := w) L h0 h1 wide (Below.refl _ _) (Nat.le_refl _))
  have HR := Aside0.mk hr
  clear hr
  have c1 : decide ((200 : Int) < (l.length : Int)) = false := by simp; omega
  have c2 : decide ((L : Int) < 64) = false := by simp; omega
  have c3 : decide ((1024 : Int) < (L : Int)) = false := by simp; omega
  go_enter Try.func8, Try.ntmps8
  go_wp2_with (first | (go_at_call 20; refine NB.out.mono ?_; rintro e w1 ⟨g, a, rfl, hw⟩; have HW := Aside0.mk hw; have HLT := Aside0.mk hw.lt; have HLG := Aside0.mk hw.lg; have HLA := Aside0.mk hw.la; clear hw))
  have hhg : w1.heap.size ≠ g := by have := HLG.out; omega
  have hha : w1.heap.size ≠ a := by have := HLA.out; omega
  have HB0 := Aside0.mk (show w.heap.size ≤ w1.heap.size from HLT.out)
  have HN0 := Aside0.mk (show ¬ Of g a w1.heap.size from by rintro (h | h); exact hhg h; exact hha h)
  have HREF := Aside0.mk (show Ref w.heap.size (w1.alloc (.cells #[.int .i64 L, .bool wide, .slice none 0 0] 45)) w1.heap.size (fun k => ¬ Of g a k) L wide none 0 [] from ⟨blk_new w1 _, Kd.R_nil _ _ _ _ _⟩)
  have HW1 := Aside0.mk (HW.out.alloc (.cells #[.int .i64 L, .bool wide, .slice none 0 0] 45))
  obtain ⟨hh, ehh⟩ : ∃ hh, w1.heap.size = hh := ⟨_, rfl⟩
  rw [ehh] at HB0 HN0 HREF
  rw [ehh]
  clear HW HLT HLG HLA hhg hha ehh
  go_loopw [10] (fun i wr => ∃ (j : Nat) (st : Nat × List Bool) (ns : List Nat) (A9 : Option Addr) (c9 : Nat), j ≤ l.length ∧ i = .int .i64 j ∧ ns.length ≤ j ∧ Aside0 (Win w.heap.size L w wr g a wide st) ∧ Aside0 (Inv L st ns) ∧ Aside0 (Ref w.heap.size wr hh (fun k => ¬ Of g a k) L wide A9 c9 ns)) (fun i _ => l.length - (intOf i).toNat)
  case atStart => exact ⟨0, _, [], none, 0, by omega, rfl, by simp, HW1, Aside0.mk (Inv.new L), HREF⟩
  case round =>
    clear HW1 HREF
    obtain ⟨j, st, ns, A9, c9, hj, rfl, hlen, HWr, HI, HF⟩ := hrel
    by_cases hjl : j < l.length
    · have hd : decide ((j : Int) < (l.length : Int)) = true := by simp; omega
      obtain ⟨ad, rfl⟩ : ∃ ad, A = some ad := by
        obtain ⟨ad, e, _⟩ := HR.out.2.2 (by simp [natl]; omega)
        exact ⟨ad, e⟩
      have hcell0 := natl_cell HR.out j hjl
      have hcell := HWr.out.below.cell (p := ad.add j) (World.block_lt_of_cell? w _ hcell0) |>.trans hcell0
      have hnb : l.getD j 0 < 18446744073709551616 := by
        rw [List.getD_eq_getElem?_getD, List.getElem?_eq_getElem hjl]
        exact hb _ (List.getElem_mem hjl)
      obtain ⟨n, hn⟩ : ∃ n, l.getD j 0 = n := ⟨_, rfl⟩
      rw [hn] at hcell hnb
      clear hcell0 hn
      have hns : ns.length ≤ 200 := Nat.le_trans hlen (Nat.le_trans hj h200)
      have ht : tops ns < 18446744073709551616 := by rw [HI.out.tops]; exact HWr.out.good.2
      have t0 : Int.tmod (n : Int) 4294967296 = ((n % 4294967296 : Nat) : Int) := (Int.ofNat_tmod n 4294967296).symm
      have hxlt : n % 4294967296 < 4294967296 := Nat.mod_lt _ (by decide)
      obtain ⟨x, hX⟩ : ∃ x, n % 4294967296 = x := ⟨_, rfl⟩
      rw [hX] at t0 hxlt
      have I1 := Aside0.mk (HWr.out.infer2 (x : Int))
      have I2 := Aside0.mk fun m => ref_infer (HF.out.drewN m) hns h1 (x : Int) ht
      rw [HI.out.tops] at I2
      obtain ⟨ia, hia⟩ : ∃ ia, inferE wide st.1 L x = ia := ⟨_, rfl⟩
      rw [hia] at I1 I2
      have K1 := Aside0.mk fun m => (HWr.out.drewN m).check2 n
      have K2 := Aside0.mk fun m => ref_check (HF.out.drewN m) hns h1 n ht
      rw [HI.out.ref (Nat.lt_of_lt_of_le (by decide) h0) wide n] at K2
      have AC := Aside0.mk fun m => (HWr.out.drewN m).accept2 n hnb
      clear hX hia
      obtain ⟨cc, hcc⟩ : ∃ cc, chk wide st n = cc := ⟨_, rfl⟩
      rw [hcc] at K1 K2 AC
      have HCC := Aside0.mk hcc
      clear hcc
      by_cases hz : cc = 0
      · subst hz
        have HJ := Aside0.mk (HI.out.acc (Nat.lt_of_lt_of_le (by decide) h0) wide n HCC.out)
        obtain ⟨st2, hst2⟩ : ∃ st2, acc wide st n = st2 := ⟨_, rfl⟩
        rw [hst2] at AC HJ
        clear hst2
        go_wp2_with (fail)
        refine I1.out.mono ?_
        rintro e w1 ⟨rfl, m1, rfl⟩
        go_wp2_with (fail)
        refine (I2.out m1).mono ?_
        rintro e w1 ⟨rfl, m2, rfl⟩
        go_wp2_with (fail)
        refine (K1.out _).mono ?_
        rintro e w1 ⟨rfl, m3, rfl⟩
        go_wp2_with (fail)
        refine (K2.out _).mono ?_
        rintro e w1 ⟨rfl, m4, rfl⟩
        go_wp2_with (fail)
        refine (AC.out _).mono ?_
        rintro e wV ⟨rfl, hw, hs⟩
        have HV := Aside0.mk hw
        have HS := Aside0.mk hs
        clear hw hs
        have HFV := Aside0.mk ((HF.out.drewN _).keep HS.out.k HN0.out (fun k hk => hk))
        have C26 := ref_check HFV.out hns h1 n ht
        rw [HI.out.ref (Nat.lt_of_lt_of_le (by decide) h0) wide n, HCC.out] at C26
        have C27 := Aside0.mk (ref_accept_yes HFV.out hns HV.out.below HV.out.lt HB0.out (fun k hk => by
          have hg := HV.out.lg
          have ha := HV.out.la
          rintro (e | e)
          · exact absurd (e ▸ hk) (Nat.not_le.mpr hg)
          · exact absurd (e ▸ hk) (Nat.not_le.mpr ha)) n C26)
        clear C26
        go_wp2_with (fail)
        refine C27.out.mono ?_
        rintro e wX ⟨rfl, ⟨A', c', hrX⟩, hbX, hkX⟩
        have HFX := Aside0.mk hrX
        have HX := Aside0.mk (HV.out.keep hkX (by rintro (e | e); exact HN0.out (Or.inl e.symm); exact e (Or.inl rfl)) (by rintro (e | e); exact HN0.out (Or.inr e.symm); exact e (Or.inr rfl)) hbX)
        clear hrX hbX hkX
        have hlen' : (ns ++ [n]).length ≤ j + 1 := by simp; omega
        have hns' : (ns ++ [n]).length ≤ 200 := Nat.le_trans hlen' (Nat.le_trans hjl h200)
        have TT := Aside0.mk (ref_top HFX.out hns')
        rw [HJ.out.tops] at TT
        have T1 := Aside0.mk HX.out.top
        go_wp2_with (fail)
        refine T1.out.mono ?_
        rintro e w1 ⟨rfl, rfl⟩
        go_wp2_with (fail)
        refine TT.out.mono ?_
        rintro e w1 ⟨rfl, rfl⟩
        go_wp2_with (fail)
        go_round
        case rel => exact ⟨j + 1, st2, _, A', c', hjl, by go_num, hlen', HX, HJ, HFX⟩
        case measure => simp [intOf]; omega
      · have HZ := Aside0.mk hz
        have hno := HI.out.no wide n (by rw [HCC.out]; exact hz)
        rw [hno] at AC
        clear hno hz
        go_wp2_with (fail)
        refine I1.out.mono ?_
        rintro e w1 ⟨rfl, m1, rfl⟩
        go_wp2_with (fail)
        refine (I2.out m1).mono ?_
        rintro e w1 ⟨rfl, m2, rfl⟩
        go_wp2_with (fail)
        refine (K1.out _).mono ?_
        rintro e w1 ⟨rfl, m3, rfl⟩
        go_wp2_with (fail)
        refine (K2.out _).mono ?_
        rintro e w1 ⟨rfl, m4, rfl⟩
        go_wp2_with (fail)
        refine (AC.out _).mono ?_
        rintro e wV ⟨rfl, hw, hs⟩
        have HV := Aside0.mk hw
        have HS := Aside0.mk hs
        clear hw hs
        have HFV := Aside0.mk ((HF.out.drewN _).keep HS.out.k HN0.out (fun k hk => hk))
        have C26 := ref_check HFV.out hns h1 n ht
        rw [HI.out.ref (Nat.lt_of_lt_of_le (by decide) h0) wide n, HCC.out] at C26
        have C27 := Aside0.mk (ref_accept_no _ _ cc HZ.out C26)
        clear C26
        have TT := Aside0.mk (fun m => ref_top (HFV.out.drewN m) hns)
        rw [HI.out.tops] at TT
        have T1 := Aside0.mk (fun m => (HV.out.drewN m).top)
        go_wp2_with (fail)
        refine C27.out.mono ?_
        rintro e w1 ⟨rfl, m5, rfl⟩
        go_wp2_with (fail)
        refine (T1.out _).mono ?_
        rintro e w1 ⟨rfl, rfl⟩
        go_wp2_with (fail)
        refine (TT.out _).mono ?_
        rintro e w1 ⟨rfl, rfl⟩
        go_wp2_with (fail)
        go_round
        case rel => exact ⟨j + 1, st, ns, A9, c9, hjl, by go_num, Nat.le_succ_of_le hlen, Aside0.mk (HV.out.drewN _), HI, Aside0.mk (HFV.out.drewN _)⟩
        case measure => simp [intOf]; omega
    · have hd : decide ((j : Int) < (l.length : Int)) = false := by simp; omega
      have J1 := Aside0.mk (fun (W : World) (hW : Win w.heap.size L w W g a wide st) => hW.infer2 (-1))
      have J2 := Aside0.mk (fun (W : World) (hW : Win w.heap.size L w W g a wide st) => hW.infer2 4294967296)
      rw [inferE_neg] at J1
      rw [inferE_big] at J2
      have J1' := Aside0.mk (J1.out _ HWr.out)
      have J2' := Aside0.mk fun m => J2.out _ (HWr.out.drewN m)
      clear J1 J2 hb h0 h1 h200 hc hlen hj
      go_wp2_with (fail)
      refine J1'.out.mono ?_
      rintro e w1 ⟨rfl, m1, rfl⟩
      go_wp2_with (fail)
      refine (J2'.out m1).mono ?_
      rintro e w1 ⟨rfl, m2, rfl⟩
      go_wp2_with (first | (go_at_call 22; refine (AW.out _).mono ?_; rintro e w1 ⟨rfl, hb⟩; have HB := Aside0.mk hb; clear hb))
      go_ret
      exact ⟨rfl, (HWr.out.drewN (m1 + m2)).aw HB.out⟩
set_option maxHeartbeats 4000000 in
set_option maxRecDepth 100000 in
theorem does_long (size : Int) (wide : Bool) (A : Option Addr) (len c : Nat) (w : World) (h2 : 200 < len) :
    Calls Try.prog 8 #[.int .i64 size, .bool wide, .slice A len c] w fun e w' => e = .returned (.bool true) ∧ Below w.heap.size w w' := by
  have c1 : decide ((200 : Int) < (len : Int)) = true := by simp; omega
  go_enter Try.func8, Try.ntmps8
  go_wp2
  go_ret
  exact ⟨rfl, Below.refl _ _⟩
set_option maxHeartbeats 4000000 in
set_option maxRecDepth 100000 in
theorem does_bad (size : Int) (wide : Bool) (A : Option Addr) (len c : Nat) (w : World) (hs : size < 64 ∨ 1024 < size) (h2 : ¬ 200 < len) :
    Calls Try.prog 8 #[.int .i64 size, .bool wide, .slice A len c] w fun e w' => e = .returned (.bool true) ∧ Below w.heap.size w w' := by
  have AW := Aside0.mk awake_walk
  have NB := Aside0.mk (new_bad size hs wide w)
  have c1 : decide ((200 : Int) < (len : Int)) = false := by simp; omega
  by_cases hs1 : size < 64
  · have c2 : decide (size < 64) = true := by simpa using hs1
    clear hs
    go_enter Try.func8, Try.ntmps8
    go_wp2_with (first | (go_at_call 22; refine (AW.out _).mono ?_; rintro e w1 ⟨rfl, hb⟩; have HB := Aside0.mk hb; clear hb) | (go_at_call 20; refine NB.out.mono ?_; rintro e w1 ⟨rfl, rfl⟩))
    go_ret
    exact ⟨rfl, HB.out⟩
  · have c2 : decide (size < 64) = false := by simpa using hs1
    have c3 : decide ((1024 : Int) < size) = true := by simp; omega
    clear hs
    go_enter Try.func8, Try.ntmps8
    go_wp2_with (first | (go_at_call 22; refine (AW.out _).mono ?_; rintro e w1 ⟨rfl, hb⟩; have HB := Aside0.mk hb; clear hb) | (go_at_call 20; refine NB.out.mono ?_; rintro e w1 ⟨rfl, rfl⟩))
    go_ret
    exact ⟨rfl, HB.out⟩
section
variable {H : Type} {enc : TypeId × Value → H} {e0 : DataW H} {ps : List MemPlace}
theorem does_walk (size : Int) (wide : Bool) (A : Option Addr) (len cap : Nat) (w : World) (h1 : (Lit.int .i64 size).wf = true) (k0 : DataW.Trod enc Try.prog w 0 (fun _ => true) true 42 (.slice A len cap) e0 ps) (wt : ∀ n ∈ e0.weights Try.prog 42, n ≤ 140737488351232) :
    Calls Try.prog 8 #[.int .i64 size, .bool wide, .slice A len cap] w fun e w' => e = .returned (.bool true) ∧ Below w.heap.size w w' := by
  by_cases h2 : 200 < len
  · exact does_long size wide A len cap w h2
  · by_cases hs : size < 64 ∨ 1024 < size
    · exact does_bad size wide A len cap w hs h2
    · obtain ⟨L, rfl⟩ : ∃ L : Nat, size = (L : Int) := ⟨size.toNat, by omega⟩
      obtain ⟨l, rfl, hc, hr, hw, _, hz⟩ := Came.ints (B := 8) Try.underlying42 Try.underlying34 (by kernel_rfl) (by kernel_rfl) k0 wt
      obtain ⟨k, rfl, hk⟩ := natl_of l hw
      have hl := natl_length k
      rw [hl]
      rw [hl] at hc h2
      exact does_main k A cap w L wide (by omega) (by omega) (by omega) hr hc hk
end
end Go.Proofs.Ytddkcepofoifdaa.Win

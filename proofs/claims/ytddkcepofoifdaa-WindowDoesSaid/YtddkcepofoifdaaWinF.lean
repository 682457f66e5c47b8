/- The walk of the law WindowOnce: for every input it answers true. -/
import Derived.Test.YtddkcepofoifdaaWinE
import Derived.Test.YtddkcepofoifdaaWinL
import Derived.Test.YtddkcepofoifdaaCame
namespace Go.Proofs.Ytddkcepofoifdaa.Win
open Go.RowKit Go.Proofs.YtddkcepofoifdaaW.PrintWords Go.Proofs.YtddkcepofoifdaaW.PrintLast Go.Proofs.YtddkcepofoifdaaW.PrintMore
set_option linter.unusedVariables false
set_option linter.unusedSimpArgs false
attribute [local go_sem] max2_int min2_int max_two min_two max_three min_three max_four min_four
/-- The blocks of a window. -/
def Of (g a : Nat) : Nat → Prop := fun k => k = g ∨ k = a
section
variable {base L g a : Nat} {w0 w : World} {wide : Bool} {st : Nat × List Bool}
theorem Win.check2 (h : Win base L w0 w g a wide st) (n : Nat) :
    Calls Try.prog 25 #[.pointer (some ⟨g, 0, none⟩), .int .u64 (n : Int)] w fun e w' => e = .returned (.int .i64 (chk wide st n)) ∧ ∃ m, w' = w.drewN m :=
  check_walk h.at_ (by rw [h.good.1]; exact h.hL.2) (by have := h.good.1; have := h.hL.1; omega) n h.good.2
theorem Win.accept2 (h : Win base L w0 w g a wide st) (n : Nat) (hn : n < 18446744073709551616) :
    Calls Try.prog 21 #[.pointer (some ⟨g, 0, none⟩), .int .u64 (n : Int)] w fun e w' => e = .returned (.int .i64 (chk wide st n)) ∧ Win base L w0 w' g a wide (acc wide st n) ∧ Step (Of g a) w w' := by
  refine (accept_walk h.at_ (by rw [h.good.1]; exact h.hL.2) (by have := h.good.1; have := h.hL.1; omega) n h.good.2 hn).mono ?_
  rintro e w' ⟨rfl, h2, h3⟩
  refine ⟨rfl, h.step ?_ h3 (h.good.acc wide n hn), h3⟩
  unfold acc
  split <;> simp_all
theorem Win.grown (h : Win base L w0 w g a wide st) {w1 : World} {row : Option Nat} (hg : w.grownBy w1 row) (h1 : some g ≠ row) (h2 : some a ≠ row) (hb : Below base w0 w1) : Win base L w0 w1 g a wide st :=
  ⟨⟨blk_grown h.at_.hs hg h1, blk_grown h.at_.ha hg h2, h.at_.ne⟩, h.good, h.hL, hb, h.hg, h.ha⟩
theorem Win.alloc (h : Win base L w0 w g a wide st) (o : Obj) : Win base L w0 (w.alloc o) g a wide st := h.below_ (below_alloc (Below.refl _ _) o)
theorem Win.lg (h : Win base L w0 w g a wide st) : g < w.heap.size := blk_lt h.at_.hs
theorem Win.la (h : Win base L w0 w g a wide st) : a < w.heap.size := blk_lt h.at_.ha
end
/-- A list of naturals as the program's numbers. -/
def natl (l : List Nat) : List Int := l.map (fun n : Nat => (n : Int))
theorem info34 : (Try.prog.info? 34).map (fun i => (i.zero, i.size, i.bytes)) = some (some (.int .u64 0), 1, 8) := by kernel_rfl
theorem natl_of (l : List Int) (h : ∀ x ∈ l, (Lit.int .u64 x).wf = true) : ∃ k : List Nat, l = natl k ∧ ∀ x ∈ k, x < 18446744073709551616 := by
  induction l with
  | nil => exact ⟨[], rfl, by simp⟩
  | cons x l ih =>
    obtain ⟨k, rfl, hk⟩ := ih (fun y hy => h y (List.mem_cons_of_mem _ hy))
    obtain ⟨m, rfl, hm⟩ := u64_nat (h x (List.mem_cons_self ..))
    exact ⟨m :: k, rfl, by intro y hy; rcases List.mem_cons.mp hy with rfl | hy <;> simp_all⟩
theorem natl_cell {w : World} {ad : Addr} {k : List Nat} (h : ReadsInt w .u64 (some ad) (natl k).length (natl k)) (j : Nat) (hj : j < k.length) : w.cell? (ad.add j) = some (.int .u64 ((k.getD j 0 : Nat) : Int)) := by
  have hl : (natl k).length = k.length := by simp [natl]
  obtain ⟨ad', e, hc⟩ := h.2.2 (by omega)
  cases e
  have := hc j (by omega)
  rw [this]
  simp [natl, List.getD_eq_getElem?_getD, hj]
theorem natl_append (a b : List Nat) : natl (a ++ b) = natl a ++ natl b := by simp [natl]
theorem natl_length (a : List Nat) : (natl a).length = a.length := by simp [natl]
set_option maxHeartbeats 8000000 in
set_option maxRecDepth 100000 in
theorem once_main (l : List Nat) (A : Option Addr) (c : Nat) (w : World) (L : Nat) (wide : Bool) (h0 : 64 ≤ L) (h1 : L ≤ 1024) (h200 : l.length ≤ 200) (hr : ReadsInt w .u64 A (natl l).length (natl l)) (hc : l.length ≤ c) (hb : ∀ x ∈ l, x < 18446744073709551616) :
    Calls Try.prog 9 #[.int .i64 (L : Int), .bool wide, .slice A l.length c] w fun e w' => e = .returned (.bool true) ∧ Below w.heap.size w w' := by
  have AW := Aside0.mk awake_walk
  have NB := Aside0.mk (Win.new (base := w.heap.size) (w0 := w) L h0 h1 wide (Below.refl _ _) (Nat.le_refl _))
  have HR := Aside0.mk hr
  clear hr
  have c1 : decide ((200 : Int) < (l.length : Int)) = false := by simp; omega
  go_enter Try.func9, Try.ntmps9
  go_wp2_with (first | (go_at_call 20; refine NB.out.mono ?_; rintro e w1 ⟨g, a, rfl, hw⟩; have HW := Aside0.mk hw; clear hw))
  go_loopw [9, 10] (fun v i wr => ∃ (j : Nat) (st : Nat × List Bool) (ns : List Nat), j ≤ l.length ∧ i = .int .i64 j ∧ Aside0 (Win w.heap.size L w wr g a wide st) ∧ Aside0 (Inv L st ns) ∧ Aside0 (Kd.R (Kd.int .u64) 34 wr w.heap.size (fun k => ¬ Of g a k) v (natl ns)) ∧ ns.length ≤ j) (fun _ i _ => l.length - (intOf i).toNat)
  case atStart => exact ⟨0, _, [], by omega, rfl, HW, Aside0.mk (Inv.new L), Aside0.mk (Kd.R_nil _ _ _ _ _), by simp⟩
  case round =>
    obtain ⟨j, st, ns, hj, rfl, HWr, HI, HRow, hlen⟩ := hrel
    clear HW
    by_cases hjl : j < l.length
    · have hd : decide ((j : Int) < (l.length : Int)) = true := by simp; omega
      obtain ⟨ad, rfl⟩ : ∃ ad, A = some ad := by
        obtain ⟨ad, e, _⟩ := HR.out.2.2 (by simp [natl]; omega)
        exact ⟨ad, e⟩
      have hcell0 := natl_cell HR.out j hjl
      have hcell := HWr.out.below.cell (p := ad.add j) (World.block_lt_of_cell? w _ hcell0) |>.trans hcell0
      have hnb : l.getD j 0 < 18446744073709551616 := by
        rw [List.getD_eq_getElem?_getD, List.getElem?_eq_getElem hjl]
        exact hb _ (List.getElem_mem hjl)
      obtain ⟨n, hn⟩ : ∃ n, l.getD j 0 = n := ⟨_, rfl⟩
      rw [hn] at hcell hcell0 hnb
      have HC0 := Aside0.mk hcell0
      clear hcell0 hn
      have TP := Aside0.mk HWr.out.top
      have CK := Aside0.mk (HWr.out.check2 n)
      have AC := Aside0.mk fun m => (HWr.out.drewN m).accept2 n hnb
      by_cases h0 : chk wide st n = 0
      · have HJ := Aside0.mk (HI.out.acc (by omega) wide n h0)
        have hfin : chk wide (acc wide st n) n = 120 := by
          rw [HJ.out.chk]
          have := HI.out.chk wide n
          rw [h0] at this
          rw [if_neg (by intro hA; rw [if_pos hA] at this; exact absurd this (by decide)), if_neg (by have := HJ.out.mem n (by simp); omega), if_pos (by simp)]
        have htop : (acc wide st n).1 = max st.1 n := by
          unfold acc
          unfold chk at h0
          rw [if_pos h0]
        have hnot : n ∉ ns := by
          intro hx
          have := HI.out.chk wide n
          rw [h0] at this
          have hle := (HI.out.mem n hx).2
          split at this
          · exact absurd this (by decide)
          · rw [if_neg (by omega), if_pos (by simp [hx])] at this
            exact absurd this (by decide)
        rw [h0] at CK AC
        obtain ⟨st2, hst2⟩ : ∃ st2, acc wide st n = st2 := ⟨_, rfl⟩
        rw [hst2] at AC HJ hfin htop
        have HFIN := Aside0.mk hfin
        have HNOT := Aside0.mk hnot
        clear hfin hnot h0 hst2
        obtain ⟨A9, c9, rfl⟩ := Kd.R_slice HRow.out
        go_wp2_with (first | (go_at_call 28; refine TP.out.mono ?_; rintro e w1 ⟨rfl, rfl⟩) | (go_at_call 25; refine CK.out.mono ?_; rintro e w1 ⟨rfl, m, rfl⟩) | (go_at_call 21; refine (AC.out m).mono ?_; rintro e wV ⟨rfl, hw, hs⟩; have HV := Aside0.mk hw; have HS := Aside0.mk hs; have TQ := Aside0.mk hw.top; clear hw hs))
        have HRV := Aside0.mk (Kd.R_kept (Kd.R_drewN HRow.out m) HS.out.k (fun k hk => hk))
        have hcV := HV.out.below.cell (p := ad.add j) (World.block_lt_of_cell? w _ HC0.out) |>.trans HC0.out
        have HRI := Aside0.mk (show ReadsInt wV .u64 A9 (natl ns).length (natl ns) from Kd.reads_of_C (d := (0 : Int)) (h1 := fun _ => rfl) (Kd.R_reads' HRV.out).2.2)
        have hlc := (Kd.R_reads' HRV.out).2.1
        obtain ⟨N, hN⟩ : ∃ N, (natl ns).length = N := ⟨_, rfl⟩
        have HN := Aside0.mk (show N = ns.length from by rw [← hN, natl_length])
        have hNj : N ≤ 200 := by have := HN.out; omega
        rw [hN] at hlc HRV HRI
        simp only [hN]
        clear hcell TP CK AC HRow TQ hN
        go_loopw [14] (fun k wr2 => ∃ q m2 : Nat, q ≤ N ∧ k = .int .i64 q ∧ wr2 = wV.drewN m2) (fun k _ => N - (intOf k).toNat)
        case atStart => exact ⟨0, 0, by omega, rfl, rfl⟩
        case round =>
          obtain ⟨q, m2, hq, rfl, rfl⟩ := hrel
          by_cases hqn : q < N
          · have hd2 : decide ((q : Int) < (N : Int)) = true := by simp; omega
            obtain ⟨ad9, rfl⟩ : ∃ ad, A9 = some ad := by
              obtain ⟨ad, e, _⟩ := HRI.out.2.2 (by omega)
              exact ⟨ad, e⟩
            have hr9 := natl_cell (by have := HRI.out; rw [HN.out, ← natl_length] at this; exact this) q (by have := HN.out; omega)
            have hmem : ns.getD q 0 ∈ ns := by
              have := HN.out
              rw [List.getD_eq_getElem?_getD, List.getElem?_eq_getElem (by omega)]
              exact List.getElem_mem _
            obtain ⟨x, hx⟩ : ∃ x, ns.getD q 0 = x := ⟨_, rfl⟩
            rw [hx] at hr9 hmem
            have hne : (((x : Nat) : Int) == ((n : Nat) : Int)) = false := by
              have : x ≠ n := fun e => HNOT.out (e ▸ hmem)
              simp; omega
            clear hx hmem
            go_wp2
            go_quiet (fail)
            go_wp2
            go_round
            case rel => exact ⟨q + 1, _, by omega, by go_num, rfl⟩
            case measure => simp [intOf]; omega
          · have hd2 : decide ((q : Int) < (N : Int)) = false := by simp; omega
            have hcap : N < 140737488355328 := by omega
            go_wp2_with (first | ((with_reducible refine gate_builtin (b := .append) (xs := #[.tmp 90, .tmp 95]) rfl ?_); at_builtin; refine Kd.R_append (Kd.int .u64) (w0 := w) w.heap.size rfl (.tmp 90) (.tmp 95) 42 34 (.int .u64 0) 8 rfl Try.underlying42 info34 rfl (by decide) (by omega) (.slice A9 N c9) (natl ns) (n : Int) [.int .u64 (n : Int)] (fun k => ¬ Of g a k) (fun _ => False) rfl rfl ?aP (fun _ hk => hk.elim) ?aF ?aO ?aB ?aS ?aL ?_; (case aP => exact rfl); (case aB => exact pw_below_drewN HV.out.below _); (case aF => exact (fun k hk h => by have hk2 : wV.heap.size ≤ k := hk; have := HV.out.lg; have := HV.out.la; rcases h with h | h <;> omega)); (case aO => exact Kd.R_drewN HRV.out _); (case aS => exact HV.out.lt); (case aL => have := HN.out; rw [natl_length]; omega); intro v113 w10 ho hb1 hg hat; have HO2 := Aside0.mk ho; have HV2 := Aside0.mk ((HV.out.drewN m2).grown hg (fun e => HRV.out.1 g (e.symm) (Or.inl rfl)) (fun e => HRV.out.1 a (e.symm) (Or.inr rfl)) hb1); have hcW := hb1.cell (p := ad.add j) (World.block_lt_of_cell? w _ HC0.out) |>.trans HC0.out; clear ho hg hat hb1))
            have TQ := Aside0.mk fun m => (HV2.out.drewN m).top
            have CQ := Aside0.mk fun m => (HV2.out.drewN m).check2 n
            rw [HFIN.out] at CQ
            have hmx : (if st.1 < n then (n : Int) else (st.1 : Int)) = (st2.1 : Int) := by rw [htop]; split <;> omega
            clear htop
            go_quiet (first | (go_at_call 28; exact (TQ.out _).mono fun _ _ h => ⟨h.1, _, h.2⟩) | (go_at_call 25; exact Calls.quiet_of (CQ.out _)))
            go_wp2
            go_round
            case rel => exact ⟨j + 1, st2, ns ++ [n], by omega, by go_num, Aside0.mk (HV2.out.drewN _), HJ, Aside0.mk (by rw [natl_append]; exact Kd.R_drewN HO2.out _), by simp; omega⟩
            case measure => simp [intOf]; omega
      · have e0 : (chk wide st n == 0) = false := by simpa using h0
        have hno := HI.out.no wide n h0
        rw [hno] at AC
        have HX := Aside0.mk h0
        clear h0 hno
        obtain ⟨c0, hc0⟩ : ∃ c0, chk wide st n = c0 := ⟨_, rfl⟩
        rw [hc0] at CK AC e0
        clear hc0
        go_wp2_with (first | (go_at_call 28; refine TP.out.mono ?_; rintro e w1 ⟨rfl, rfl⟩) | (go_at_call 25; refine CK.out.mono ?_; rintro e w1 ⟨rfl, m, rfl⟩) | (go_at_call 21; refine (AC.out m).mono ?_; rintro e w1 ⟨rfl, hw, hs⟩; have HV := Aside0.mk hw; have HS := Aside0.mk hs; have TQ := Aside0.mk hw.top; clear hw hs) | (go_at_call 28; refine TQ.out.mono ?_; rintro e w1 ⟨rfl, rfl⟩))
        go_round
        case rel => exact ⟨j + 1, st, ns, by omega, by go_num, HV, HI, Aside0.mk (Kd.R_kept (Kd.R_drewN HRow.out m) HS.out.k (fun k hk => hk)), by omega⟩
        case measure => simp [intOf]; omega
    · have hd : decide ((j : Int) < (l.length : Int)) = false := by simp; omega
      go_wp2_with (first | (go_at_call 22; refine (AW.out _).mono ?_; rintro e w1 ⟨rfl, hb⟩; have HB := Aside0.mk hb; clear hb))
      go_ret
      exact ⟨rfl, HWr.out.aw HB.out⟩
set_option maxHeartbeats 4000000 in
set_option maxRecDepth 100000 in
theorem once_bad (size : Int) (wide : Bool) (A : Option Addr) (len c : Nat) (w : World) (hs : size < 64 ∨ 1024 < size) :
    Calls Try.prog 9 #[.int .i64 size, .bool wide, .slice A len c] w fun e w' => e = .returned (.bool true) ∧ Below w.heap.size w w' := by
  have AW := Aside0.mk awake_walk
  have NB := Aside0.mk (new_bad size hs wide w)
  clear hs
  by_cases h2 : 200 < len
  · have c1 : decide ((200 : Int) < (len : Int)) = true := by simp; omega
    go_enter Try.func9, Try.ntmps9
    go_wp2_with (first | (go_at_call 22; refine (AW.out _).mono ?_; rintro e w1 ⟨rfl, hb⟩; have HB := Aside0.mk hb; clear hb) | (go_at_call 20; refine NB.out.mono ?_; rintro e w1 ⟨rfl, rfl⟩))
    go_ret
    exact ⟨rfl, HB.out⟩
  · have c1 : decide ((200 : Int) < (len : Int)) = false := by simp; omega
    go_enter Try.func9, Try.ntmps9
    go_wp2_with (first | (go_at_call 22; refine (AW.out _).mono ?_; rintro e w1 ⟨rfl, hb⟩; have HB := Aside0.mk hb; clear hb) | (go_at_call 20; refine NB.out.mono ?_; rintro e w1 ⟨rfl, rfl⟩))
    go_ret
    exact ⟨rfl, HB.out⟩
set_option maxHeartbeats 4000000 in
set_option maxRecDepth 100000 in
theorem once_long (L : Nat) (h0 : 64 ≤ L) (h1 : L ≤ 1024) (wide : Bool) (A : Option Addr) (len c : Nat) (w : World) (h2 : 200 < len) :
    Calls Try.prog 9 #[.int .i64 (L : Int), .bool wide, .slice A len c] w fun e w' => e = .returned (.bool true) ∧ Below w.heap.size w w' := by
  have AW := Aside0.mk awake_walk
  have NB := Aside0.mk (Win.new (base := w.heap.size) (w0 := w) L h0 h1 wide (Below.refl _ _) (Nat.le_refl _))
  have c1 : decide ((200 : Int) < (len : Int)) = true := by simp; omega
  clear h0 h1
  go_enter Try.func9, Try.ntmps9
  go_wp2_with (first | (go_at_call 22; refine (AW.out _).mono ?_; rintro e w1 ⟨rfl, hb⟩; have HB := Aside0.mk hb; clear hb) | (go_at_call 20; refine NB.out.mono ?_; rintro e w1 ⟨g, a, rfl, hw⟩; have HW := Aside0.mk hw; clear hw))
  go_ret
  exact ⟨rfl, HW.out.aw HB.out⟩
section
variable {H : Type} {enc : TypeId × Value → H} {e0 : DataW H} {ps : List MemPlace}
theorem once_walk (size : Int) (wide : Bool) (A : Option Addr) (len cap : Nat) (w : World) (h1 : (Lit.int .i64 size).wf = true) (k0 : DataW.Trod enc Try.prog w 0 (fun _ => true) true 42 (.slice A len cap) e0 ps) (wt : ∀ n ∈ e0.weights Try.prog 42, n ≤ 140737488351232) :
    Calls Try.prog 9 #[.int .i64 size, .bool wide, .slice A len cap] w fun e w' => e = .returned (.bool true) ∧ Below w.heap.size w w' := by
  by_cases hs : size < 64 ∨ 1024 < size
  · exact once_bad size wide A len cap w hs
  · obtain ⟨L, rfl⟩ : ∃ L : Nat, size = (L : Int) := ⟨size.toNat, by omega⟩
    by_cases h2 : 200 < len
    · exact once_long L (by omega) (by omega) wide A len cap w h2
    · obtain ⟨l, rfl, hc, hr, hw, _, hz⟩ := Came.ints (B := 8) Try.underlying42 Try.underlying34 (by kernel_rfl) (by kernel_rfl) k0 wt
      obtain ⟨k, rfl, hk⟩ := natl_of l hw
      have hl := natl_length k
      rw [hl]
      rw [hl] at hc h2
      exact once_main k A cap w L wide (by omega) (by omega) (by omega) hr hc hk
end
end Go.Proofs.Ytddkcepofoifdaa.Win

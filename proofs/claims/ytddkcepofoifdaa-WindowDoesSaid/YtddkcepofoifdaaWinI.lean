/- The walks of the document's window (redoubtref13): Infer, Accept. -/
import Derived.Test.YtddkcepofoifdaaWinH
import Derived.Test.YtddkcepofoifdaaWinL
import Derived.Test.YtddkcepofoifdaaCame
namespace Go.Proofs.Ytddkcepofoifdaa.Win
open Go.RowKit Go.Proofs.YtddkcepofoifdaaW.PrintWords Go.Proofs.YtddkcepofoifdaaW.PrintLast Go.Proofs.YtddkcepofoifdaaW.PrintMore
set_option linter.unusedVariables false
set_option linter.unusedSimpArgs false
attribute [local go_sem] max2_int min2_int max_two min_two max_three min_three max_four min_four
section
variable {base : Nat} {w : World} {h L c : Nat} {ok : Nat → Prop} {wide : Bool} {A : Option Addr} {ns : List Nat}
set_option maxHeartbeats 4000000 in
set_option maxRecDepth 100000 in
theorem ref_infer_wide (r : Ref base w h ok L true A c ns) (hl : ns.length ≤ 200) (hL : L ≤ 1024) (low : Int) (h0 : 0 ≤ low) (h1 : low ≤ 4294967295) (ht : tops ns < 18446744073709551616) :
    Calls Try.prog 24 #[.pointer (some ⟨h, 0, none⟩), .int .i64 low] w fun e w' => e = .returned (.tuple #[.int .u64 (inferE true (tops ns) L low).1, .int .i64 (inferE true (tops ns) L low).2]) ∧ ∃ m, w' = w.drewN m := by
  have hc0 := r.c0
  have hc1 := r.c1
  have TP := Aside0.mk (ref_top r hl)
  have R := Aside0.mk r
  obtain ⟨top, hT⟩ : ∃ T, tops ns = T := ⟨_, rfl⟩
  rw [hT] at TP ht ⊢
  have c1 : decide (low < 0) = false := by simp; omega
  have c2 : decide ((4294967295 : Int) < low) = false := by simp; omega
  have er : Int.tmod (top : Int) 4294967296 = (top : Int) % 4294967296 := Int.tmod_eq_emod_of_nonneg (by omega)
  have eq : Int.tdiv (top : Int) 4294967296 = (top : Int) / 4294967296 := Int.tdiv_eq_ediv_of_nonneg (by omega)
  obtain ⟨x, hx⟩ : ∃ x, (top : Int) % 4294967296 = x := ⟨_, rfl⟩
  have hx01 : 0 ≤ x ∧ x ≤ 4294967295 := by omega
  obtain ⟨hx0, hx1⟩ := hx01
  obtain ⟨H, hH⟩ : ∃ H, (top : Int) / 4294967296 = H := ⟨_, rfl⟩
  have hH01 : 0 ≤ H ∧ H ≤ 4294967295 := by omega
  obtain ⟨hH0, hH1⟩ := hH01
  have AE := Aside0.mk (show inferE true top L low = (if inferH top L low < 0 ∨ 4294967295 < inferH top L low then (0, 120) else (inferH top L low * 4294967296 + low, 0)) from by
    unfold inferE; rw [if_neg (by omega), if_neg (by simp)])
  have AH := Aside0.mk (show inferH top L low = _ from by unfold inferH; rw [hx, hH])
  rw [hx] at er
  rw [hH] at eq
  clear r hx hT hH
  go_enter Try.func24, Try.ntmps24
  go_wp2_with (first | (go_at_call 29; refine TP.out.mono ?_; rintro e w1 ⟨rfl, rfl⟩))
  all_goals (
    go_ret2
    refine ⟨?_, 0, rfl⟩
    rw [AE.out, AH.out]
    repeat (first | rw [if_pos (by omega)] | rw [if_neg (by omega)])
    simp
    try omega)
set_option maxHeartbeats 4000000 in
set_option maxRecDepth 100000 in
theorem ref_infer_arg (low : Int) (hlow : low < 0 ∨ 4294967295 < low) (w : World) :
    Calls Try.prog 24 #[.pointer (some ⟨h, 0, none⟩), .int .i64 low] w fun e w' => e = .returned (.tuple #[.int .u64 0, .int .i64 1]) ∧ w' = w := by
  by_cases h1 : low < 0
  · have c1 : decide (low < 0) = true := by simpa using h1
    go_enter Try.func24, Try.ntmps24
    go_wp2
    go_ret2
    exact ⟨rfl, rfl⟩
  · have c1 : decide (low < 0) = false := by simpa using h1
    have c2 : decide ((4294967295 : Int) < low) = true := by simp; omega
    go_enter Try.func24, Try.ntmps24
    go_wp2
    go_ret2
    exact ⟨rfl, rfl⟩
set_option maxHeartbeats 4000000 in
set_option maxRecDepth 100000 in
theorem ref_infer_narrow (r : Ref base w h ok L false A c ns) (low : Int) (h0 : 0 ≤ low) (h1 : low ≤ 4294967295) :
    Calls Try.prog 24 #[.pointer (some ⟨h, 0, none⟩), .int .i64 low] w fun e w' => e = .returned (.tuple #[.int .u64 low, .int .i64 0]) ∧ w' = w := by
  have hc1 := r.c1
  clear r
  have c1 : decide (low < 0) = false := by simp; omega
  have c2 : decide ((4294967295 : Int) < low) = false := by simp; omega
  go_enter Try.func24, Try.ntmps24
  go_wp2
  go_ret2
  exact ⟨rfl, rfl⟩
theorem ref_infer (r : Ref base w h ok L wide A c ns) (hl : ns.length ≤ 200) (hL : L ≤ 1024) (low : Int) (ht : tops ns < 18446744073709551616) :
    Calls Try.prog 24 #[.pointer (some ⟨h, 0, none⟩), .int .i64 low] w fun e w' => e = .returned (.tuple #[.int .u64 (inferE wide (tops ns) L low).1, .int .i64 (inferE wide (tops ns) L low).2]) ∧ ∃ m, w' = w.drewN m := by
  by_cases ha : low < 0 ∨ 4294967295 < low
  · have e : inferE wide (tops ns) L low = (0, 1) := by unfold inferE; rw [if_pos ha]
    rw [e]
    exact (ref_infer_arg low ha w).mono fun _ _ h => ⟨h.1, 0, h.2⟩
  · cases wide
    · have e : inferE false (tops ns) L low = (low, 0) := by unfold inferE; rw [if_neg ha, if_pos rfl]
      rw [e]
      exact (ref_infer_narrow r low (by omega) (by omega)).mono fun _ _ h => ⟨h.1, 0, h.2⟩
    · exact ref_infer_wide r hl hL low (by omega) (by omega) ht
set_option maxHeartbeats 4000000 in
set_option maxRecDepth 100000 in
theorem ref_accept_no (p : Option Addr) (n cc : Int) (hc : cc ≠ 0) (hcall : Calls Try.prog 26 #[.pointer p, .int .u64 n] w fun e w' => e = .returned (.int .i64 cc) ∧ ∃ m, w' = w.drewN m) :
    Calls Try.prog 27 #[.pointer p, .int .u64 n] w fun e w' => e = .returned (.int .i64 cc) ∧ ∃ m, w' = w.drewN m := by
  have c0 : (cc == 0) = false := by simpa using hc
  have HC := Aside0.mk hcall
  clear hcall hc
  go_enter Try.func27, Try.ntmps27
  go_wp2_with (go_at_call 26; refine HC.out.mono ?_; rintro e w1 ⟨rfl, m, rfl⟩)
  go_wp2
  go_ret
  exact ⟨rfl, m, rfl⟩
set_option maxHeartbeats 4000000 in
set_option maxRecDepth 100000 in
theorem ref_accept_yes {w0 : World} (r : Ref base w h ok L wide A c ns) (hl : ns.length ≤ 200) (hb : Below base w0 w) (hbase : base ≤ w.heap.size) (hhb : base ≤ h) (hfr : ∀ k, w.heap.size ≤ k → ok k) (n : Nat)
    (hcall : Calls Try.prog 26 #[.pointer (some ⟨h, 0, none⟩), .int .u64 (n : Int)] w fun e w' => e = .returned (.int .i64 0) ∧ ∃ m, w' = w.drewN m) :
    Calls Try.prog 27 #[.pointer (some ⟨h, 0, none⟩), .int .u64 (n : Int)] w fun e w' => e = .returned (.int .i64 0) ∧ (∃ A' c', Ref base w' h ok L wide A' c' (ns ++ [n])) ∧ Below base w0 w' ∧ Kept w w' (fun k => k = h ∨ ok k) := by
  have HC := Aside0.mk hcall
  have R := Aside0.mk r
  have h2 := r.c2
  have hlt : h < w.heap.size := blk_lt r.hs
  have hlc := r.lc
  obtain ⟨N, hN⟩ : ∃ N, ns.length = N := ⟨_, rfl⟩
  have HN := Aside0.mk hN
  have HROW := Aside0.mk r.row
  rw [hN] at h2 hl hlc HROW
  have HB := Aside0.mk hb
  have HBASE := Aside0.mk hbase
  have HFR := Aside0.mk hfr
  clear r hN hcall hb hbase hfr
  have hcap : N < 140737488355328 := by omega
  go_enter Try.func27, Try.ntmps27
  go_wp2_with (first | (go_at_call 26; refine HC.out.mono ?_; rintro e w1 ⟨rfl, m, rfl⟩) | ((with_reducible refine gate_builtin (b := .append) (xs := #[.tmp 15, .tmp 17]) rfl ?_); at_builtin; refine Kd.R_append (Kd.int .u64) (w0 := w0) base rfl (.tmp 15) (.tmp 17) 42 34 (.int .u64 0) 8 rfl Try.underlying42 info34 rfl (by decide) (by omega) (.slice A N c) (natl ns) (n : Int) [.int .u64 (n : Int)] (fun k => k ≠ h ∧ ok k) (fun _ => False) rfl rfl ?aP (fun _ hk => hk.elim) ?aF ?aO ?aB ?aS ?aL ?_; (case aP => exact rfl); (case aB => exact pw_below_drewN HB.out _); (case aF => exact (fun k hk => by have hk2 : w.heap.size ≤ k := hk; exact ⟨by omega, HFR.out k hk2⟩)); (case aO => exact Kd.R_drewN HROW.out _); (case aS => exact HBASE.out); (case aL => have := HN.out; rw [natl_length]; omega); intro v113 w10 ho hb1 hg hat; obtain ⟨A1, c1v, rfl⟩ := Kd.R_slice ho; have HO2 := Aside0.mk ho; have HG := Aside0.mk hg; have HB1 := Aside0.mk hb1; have hsw := blk_grown (blk_drewN R.out.hs m) hg (fun e => (HROW.out.1 h e.symm).1 rfl); have hcw := (blk_cell hsw 2).trans rfl; have hfw := blk_frozen hsw 2; have HSW := Aside0.mk hsw; clear ho hg hat hb1 hsw))
  go_ret
  have e1 : (natl ns ++ [(n : Int)]) = natl (ns ++ [n]) := (natl_append ns [n]).symm
  have e2 : (natl (ns ++ [n])).length = (ns ++ [n]).length := natl_length _
  have e3 : (natl ns).length + 1 = (ns ++ [n]).length := by simp [natl_length]
  rw [e3]
  have h3 := HO2.out
  rw [e1, e2] at h3
  refine ⟨rfl, ⟨A1, c1v, ?_, ?_⟩, HB1.out.setCell hhb _, ?_⟩
  · have := blk_set HSW.out 2 (.slice A1 (ns ++ [n]).length c1v)
    rw [this]
    rfl
  · exact Kd.R_set h3 HSW.out (by intro q hq; simp [Kd.E, Kd.int, Kd.scalar] at hq; omega) 2 _
  · have k1 : Kept w w10 (fun k => k = h ∨ ok k) := Kept.of_grown HG.out ((Kept.refl w _).drewN m) (fun k hk => Or.inl (Or.inr (HROW.out.1 k hk).2))
    exact k1.setCell (p := ⟨h, 2, none⟩) (Or.inl (Or.inl rfl)) _
end
end Go.Proofs.Ytddkcepofoifdaa.Win

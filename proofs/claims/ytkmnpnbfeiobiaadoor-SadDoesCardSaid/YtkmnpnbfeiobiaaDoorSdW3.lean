/- The document's window: Top, Check, Infer, Accept. -/
import Derived.Test.YtkmnpnbfeiobiaaDoorSdW2
namespace Go.Proofs.YtkmnpnbfeiobiaaDoor.Win
open Go.RowKit Go.Proofs.YtkmnpnbfeiobiaaDoorW.PrintWords Go.Proofs.YtkmnpnbfeiobiaaDoorW.PrintLast Go.Proofs.YtkmnpnbfeiobiaaDoorW.PrintMore
set_option linter.unusedVariables false
set_option linter.unusedSimpArgs false
attribute [local go_sem] max2_int min2_int max_two min_two max_three min_three max_four min_four

/-- The document's window in memory: its fields at block h, its list in a row of the call's own. -/
structure Ref (base : Nat) (w : World) (h : Nat) (ok : Nat → Prop) (L : Nat) (wide : Bool) (A : Option Addr) (c : Nat) (ns : List Nat) : Prop where
  hs : w.heap[h]? = some (.cells #[.int .i64 L, .bool wide, .slice A ns.length c] 101 (0, 0))
  row : Kd.R (Kd.int .u64) 37 w base (fun k => k ≠ h ∧ ok k) (.slice A ns.length c) (natl ns)
/-- The greatest. -/
def tops (l : List Nat) : Nat := l.foldl max 0
theorem tops_take (l : List Nat) (j : Nat) (hj : j < l.length) : tops (l.take (j + 1)) = max (tops (l.take j)) (l.getD j 0) := by
  rw [List.take_add_one, List.getElem?_eq_getElem hj, List.getD_eq_getElem?_getD, List.getElem?_eq_getElem hj]
  unfold tops
  rw [List.foldl_append]
  rfl
section
variable {base : Nat} {w : World} {h L c : Nat} {ok : Nat → Prop} {wide : Bool} {A : Option Addr} {ns : List Nat}
theorem Ref.c0 (r : Ref base w h ok L wide A c ns) : w.cell? ⟨h, 0, none⟩ = some (.int .i64 L) := (blk_cell r.hs 0).trans rfl
theorem Ref.c1 (r : Ref base w h ok L wide A c ns) : w.cell? ⟨h, 1, none⟩ = some (.bool wide) := (blk_cell r.hs 1).trans rfl
theorem Ref.c2 (r : Ref base w h ok L wide A c ns) : w.cell? ⟨h, 2, none⟩ = some (.slice A ns.length c) := (blk_cell r.hs 2).trans rfl
theorem Ref.drewN (r : Ref base w h ok L wide A c ns) (m : Nat) : Ref base (w.drewN m) h ok L wide A c ns := ⟨r.hs, Kd.R_drewN r.row m⟩
theorem Ref.cell (r : Ref base w h ok L wide A c ns) (j : Nat) (hj : j < ns.length) : ∃ b, A = some ⟨b, 0, none⟩ ∧ w.cell? ⟨b, j, none⟩ = some (.int .u64 ((ns.getD j 0 : Nat) : Int)) := by
  obtain ⟨b, cap, hv⟩ := row_shape r.row (by rw [natl_length]; omega)
  rw [natl_length] at hv
  cases hv
  exact ⟨b, rfl, (natl_R_cell r.row rfl j hj).1⟩
theorem Ref.lc (r : Ref base w h ok L wide A c ns) : ns.length ≤ c := (Kd.R_reads' r.row).2.1
set_option maxHeartbeats 4000000 in
set_option maxRecDepth 100000 in
theorem ref_top (r : Ref base w h ok L wide A c ns) (hl : ns.length ≤ 200) :
    Calls Tryd.prog 59 #[.pointer (some ⟨h, 0, none⟩)] w fun e w' => e = .returned (.int .u64 (tops ns : Int)) ∧ w' = w := by
  have h2 := r.c2
  have R := Aside0.mk r
  have hlc := r.lc
  obtain ⟨N, hN⟩ : ∃ N, ns.length = N := ⟨_, rfl⟩
  have HN := Aside0.mk hN
  rw [hN] at h2 hl hlc
  clear r hN
  go_enter Tryd.func59, Tryd.ntmps59
  go_wp2
  go_loop [3, 4] (fun t i => ∃ j : Nat, j ≤ N ∧ i = .int .i64 j ∧ t = .int .u64 ((tops (ns.take j) : Nat) : Int)) (fun _ i => N - (intOf i).toNat)
  case atStart => exact ⟨0, by omega, rfl, rfl⟩
  case round =>
    obtain ⟨j, hj, rfl, rfl⟩ := hrel
    by_cases hjl : j < N
    · have hd : decide ((j : Int) < (N : Int)) = true := by simp; omega
      obtain ⟨b, rfl, hc⟩ := R.out.cell j (by rw [HN.out]; exact hjl)
      have htk := tops_take ns j (by rw [HN.out]; exact hjl)
      obtain ⟨x, hx⟩ : ∃ x, ns.getD j 0 = x := ⟨_, rfl⟩
      rw [hx] at hc htk
      obtain ⟨t, ht⟩ : ∃ t, tops (ns.take j) = t := ⟨_, rfl⟩
      rw [ht] at htk ⊢
      have HT := Aside0.mk htk
      clear hx ht htk
      have hmx : (if t < x then (x : Int) else (t : Int)) = ((max t x : Nat) : Int) := by split <;> omega
      obtain ⟨y, hy⟩ : ∃ y, max t x = y := ⟨_, rfl⟩
      rw [hy] at hmx HT
      clear hy
      go_wp2
      go_round
      case rel => exact ⟨j + 1, by omega, by go_num, by rw [HT.out]⟩
      case measure => simp [intOf]; omega
    · have hd : decide ((j : Int) < (N : Int)) = false := by simp; omega
      have hje : ns.take j = ns := List.take_of_length_le (by have := HN.out; omega)
      rw [hje]
      go_wp2
      go_ret
      exact ⟨rfl, rfl⟩
theorem mem_step (ns : List Nat) (j : Nat) (hj : j < ns.length) (n : Nat) (o0 : Bool) : (o0 || decide (n ∈ ns.take (j + 1))) = ((o0 || decide (n ∈ ns.take j)) || decide (ns.getD j 0 = n)) := by
  have htake : ns.take (j + 1) = ns.take j ++ [ns.getD j 0] := by
    rw [List.take_add_one, List.getElem?_eq_getElem hj, List.getD_eq_getElem?_getD, List.getElem?_eq_getElem hj]
    rfl
  have e : (n ∈ ns.take (j + 1)) ↔ (n ∈ ns.take j ∨ ns.getD j 0 = n) := by
    rw [htake, List.mem_append, List.mem_singleton, eq_comm (a := n)]
  rw [Bool.or_assoc]
  congr 1
  rw [decide_eq_decide.mpr e, Bool.decide_or]
/-- What the document's Check answers. -/
def refChk (L : Nat) (wide : Bool) (ns : List Nat) (n : Nat) : Int :=
  if (!wide && decide (4294967295 < n)) = true then 1 else if n = 0 ∨ (L ≤ tops ns ∧ n ≤ tops ns - L) ∨ n ∈ ns then 120 else 0
set_option maxHeartbeats 4000000 in
set_option maxRecDepth 100000 in
theorem ref_check_arg (r : Ref base w h ok L false A c ns) (n : Nat) (hn : 4294967295 < n) :
    Calls Tryd.prog 51 #[.pointer (some ⟨h, 0, none⟩), .int .u64 (n : Int)] w fun e w' => e = .returned (.int .i64 1) ∧ ∃ m, w' = w.drewN m := by
  have h1 := r.c1
  have c1 : decide ((4294967295 : Int) < (n : Int)) = true := by simp; omega
  clear r
  go_enter Tryd.func51, Tryd.ntmps51
  go_wp2
  go_ret
  exact ⟨rfl, 0, rfl⟩
set_option maxHeartbeats 4000000 in
set_option maxRecDepth 100000 in
theorem ref_check_go (r : Ref base w h ok L wide A c ns) (hl : ns.length ≤ 200) (hL : L ≤ 1024) (n : Nat) (hA : (!wide && decide (4294967295 < n)) = false) (ht : tops ns < 18446744073709551616) :
    Calls Tryd.prog 51 #[.pointer (some ⟨h, 0, none⟩), .int .u64 (n : Int)] w fun e w' => e = .returned (.int .i64 (if n = 0 ∨ (L ≤ tops ns ∧ n ≤ tops ns - L) ∨ n ∈ ns then 120 else 0)) ∧ ∃ m, w' = w.drewN m := by
  have h0 := r.c0
  have h1 := r.c1
  have h2 := r.c2
  have TP := Aside0.mk fun k => ref_top (r.drewN k) hl
  have R := Aside0.mk r
  have hlc := r.lc
  obtain ⟨N, hN⟩ : ∃ N, ns.length = N := ⟨_, rfl⟩
  have HN := Aside0.mk hN
  rw [hN] at h2 hl hlc
  obtain ⟨T, hT⟩ : ∃ T, tops ns = T := ⟨_, rfl⟩
  rw [hT] at TP ht
  rw [hT]
  have c1 : wide = false → decide ((4294967295 : Int) < (n : Int)) = false := by rintro rfl; simp at hA ⊢; omega
  have es : IntKind.u64.wrap (L : Int) = (L : Int) := by rw [IntKind.wrap_u64]; omega
  obtain ⟨o0, ho0⟩ : ∃ o0 : Bool, o0 = decide (L ≤ T ∧ n ≤ T - L) := ⟨_, rfl⟩
  have HO0 := Aside0.mk ho0
  have HW : Aside0 (wide = true ∨ decide ((4294967295 : Int) < (n : Int)) = false) := Aside0.mk (by cases wide; exact Or.inr (c1 rfl); exact Or.inl rfl)
  have HCASE : Aside0 ((L ≤ T ∧ n ≤ T - L ∧ o0 = true) ∨ (L ≤ T ∧ ¬ n ≤ T - L ∧ o0 = false) ∨ (¬ L ≤ T ∧ o0 = false)) := Aside0.mk (by
    rw [ho0]
    by_cases d1 : L ≤ T
    · by_cases d2 : n ≤ T - L
      · exact Or.inl ⟨d1, d2, by simp [d1, d2]⟩
      · exact Or.inr (Or.inl ⟨d1, d2, by simp [d2]⟩)
    · exact Or.inr (Or.inr ⟨d1, by simp [d1]⟩))
  have FIN : Aside0 (∀ cur : Bool, (o0 || decide (n ∈ ns)) = cur → ((n = 0 ∨ (L ≤ T ∧ n ≤ T - L) ∨ n ∈ ns) ↔ (n = 0 ∨ cur = true))) := Aside0.mk (by
    rintro cur rfl
    rw [ho0]
    simp)
  clear hA r hN hT ho0 c1
  have STEP : Aside0 (∀ j, j < N → ∀ cur : Bool, (o0 || decide (n ∈ ns.take j)) = cur → (o0 || decide (n ∈ ns.take (j + 1))) = (cur || decide (ns.getD j 0 = n))) := Aside0.mk (by
    intro j hj cur hcur
    have hj' : j < ns.length := by have := HN.out; omega
    rw [← hcur]
    exact mem_step ns j hj' n o0)
  obtain ⟨ans, hans⟩ : ∃ ans : Int, (if n = 0 ∨ (L ≤ T ∧ n ≤ T - L) ∨ n ∈ ns then (120 : Int) else 0) = ans := ⟨_, rfl⟩
  rw [hans]
  have HANS := Aside0.mk hans
  clear hans
  rcases HCASE.out with ⟨d1, d2, ho⟩ | ⟨d1, d2, ho⟩ | ⟨d1, ho⟩
  all_goals (
    have HO := Aside0.mk ho
    clear ho HCASE HO0
    rcases HW.out with rfl | c1
    all_goals (try cases wide)
    all_goals (
      try have f1 : decide ((L : Int) ≤ (T : Int)) = true := by simp; exact d1
      try have f1 : decide ((L : Int) ≤ (T : Int)) = false := by simp; omega
      try have g1 : IntKind.u64.wrap ((T : Int) - (L : Int)) = ((T - L : Nat) : Int) := by rw [IntKind.wrap_u64]; omega
      go_enter Tryd.func51, Tryd.ntmps51
      go_wp2
      go_quiet (first | (go_at_call 59; exact Calls.quiet_of_same (TP.out _)))
      go_wp2
      go_loop [5, 6] (fun o i => ∃ (j : Nat) (cur : Bool), j ≤ N ∧ i = .int .i64 j ∧ o = .bool cur ∧ Aside0 ((o0 || decide (n ∈ ns.take j)) = cur)) (fun _ i => N - (intOf i).toNat)
      case atStart => exact ⟨0, _, by omega, rfl, rfl, Aside0.mk (by rw [HO.out]; simp)⟩
      case round =>
        obtain ⟨j, cur, hj, rfl, rfl, HCUR⟩ := hrel
        by_cases hjl : j < N
        · have hd : decide ((j : Int) < (N : Int)) = true := by simp; omega
          obtain ⟨b, rfl, hcl⟩ := R.out.cell j (by rw [HN.out]; exact hjl)
          have HST := Aside0.mk (STEP.out j hjl cur HCUR.out)
          obtain ⟨x, hx⟩ : ∃ x, ns.getD j 0 = x := ⟨_, rfl⟩
          rw [hx] at hcl HST
          clear hx
          cases cur
          · by_cases hxn : x = n
            · have HXN := Aside0.mk hxn
              have b1 : (((x : Nat) : Int) == (n : Int)) = true := by simp; omega
              clear hxn
              go_wp2
              go_round
              case rel => exact ⟨j + 1, true, by omega, by go_num, rfl, Aside0.mk (by rw [HST.out]; simp [HXN.out])⟩
              case measure => simp [intOf]; omega
            · have HXN := Aside0.mk hxn
              have b1 : (((x : Nat) : Int) == (n : Int)) = false := by simp; omega
              go_wp2
              go_round
              case rel => exact ⟨j + 1, false, by omega, by go_num, rfl, Aside0.mk (by rw [HST.out]; simp [HXN.out])⟩
              case measure => simp [intOf]; omega
          · go_wp2
            go_round
            case rel => exact ⟨j + 1, true, by omega, by go_num, rfl, Aside0.mk (by rw [HST.out]; simp)⟩
            case measure => simp [intOf]; omega
        · have hd : decide ((j : Int) < (N : Int)) = false := by simp; omega
          have HF := Aside0.mk (FIN.out cur (by have := HCUR.out; rwa [List.take_of_length_le (by have := HN.out; omega)] at this))
          by_cases hn0 : n = 0
          · have HN0 := Aside0.mk hn0
            have b0 : ((n : Int) == 0) = true := by simp; omega
            clear hn0
            go_wp2
            go_ret
            rw [← HANS.out, if_pos (HF.out.mpr (Or.inl HN0.out))]
            exact ⟨rfl, _, rfl⟩
          · have HN0 := Aside0.mk hn0
            have b0 : ((n : Int) == 0) = false := by simp; omega
            cases cur
            · go_wp2
              go_ret
              rw [← HANS.out, if_neg (fun h => by rcases HF.out.mp h with h | h; exact HN0.out h; cases h)]
              exact ⟨rfl, _, rfl⟩
            · go_wp2
              go_ret
              rw [← HANS.out, if_pos (HF.out.mpr (Or.inr (by simp)))]
              exact ⟨rfl, _, rfl⟩))
theorem ref_check (r : Ref base w h ok L wide A c ns) (hl : ns.length ≤ 200) (hL : L ≤ 1024) (n : Nat) (ht : tops ns < 18446744073709551616) :
    Calls Tryd.prog 51 #[.pointer (some ⟨h, 0, none⟩), .int .u64 (n : Int)] w fun e w' => e = .returned (.int .i64 (refChk L wide ns n)) ∧ ∃ m, w' = w.drewN m := by
  unfold refChk
  by_cases hA : (!wide && decide (4294967295 < n)) = true
  · rw [if_pos hA]
    simp only [Bool.and_eq_true, Bool.not_eq_true', decide_eq_true_eq] at hA
    obtain ⟨rfl, hA⟩ := hA
    exact ref_check_arg r n hA
  · rw [if_neg hA]
    rw [Bool.not_eq_true] at hA
    exact ref_check_go r hl hL n hA ht
end


section
variable {base : Nat} {w : World} {h L c : Nat} {ok : Nat → Prop} {wide : Bool} {A : Option Addr} {ns : List Nat}
set_option maxHeartbeats 4000000 in
set_option maxRecDepth 100000 in
theorem ref_infer_wide (r : Ref base w h ok L true A c ns) (hl : ns.length ≤ 200) (hL : L ≤ 1024) (low : Int) (h0 : 0 ≤ low) (h1 : low ≤ 4294967295) (ht : tops ns < 18446744073709551616) :
    Calls Tryd.prog 50 #[.pointer (some ⟨h, 0, none⟩), .int .i64 low] w fun e w' => e = .returned (.tuple #[.int .u64 (inferE true (tops ns) L low).1, .int .i64 (inferE true (tops ns) L low).2]) ∧ ∃ m, w' = w.drewN m := by
  have hc0 := r.c0
  have hc1 := r.c1
  have TP := Aside0.mk (ref_top r hl)
  have R := Aside0.mk r
  obtain ⟨top, hT⟩ : ∃ T, tops ns = T := ⟨_, rfl⟩
  rw [hT] at TP ht ⊢
  have c1 : decide (low < 0) = false := by simp; omega
  have c2 : decide ((4294967295 : Int) < low) = false := by simp; omega
  have er : Int.tmod (top : Int) 4294967296 = (top : Int) % 4294967296 := Int.tmod_eq_emod_of_nonneg (by omega)
  have eq : Int.tdiv (top : Int) 4294967296 = (top : Int) / 4294967296 := Int.tdiv_eq_ediv_of_nonneg (by omega)
  obtain ⟨x, hx⟩ : ∃ x, (top : Int) % 4294967296 = x := ⟨_, rfl⟩
  have hx01 : 0 ≤ x ∧ x ≤ 4294967295 := by omega
  obtain ⟨hx0, hx1⟩ := hx01
  obtain ⟨H, hH⟩ : ∃ H, (top : Int) / 4294967296 = H := ⟨_, rfl⟩
  have hH01 : 0 ≤ H ∧ H ≤ 4294967295 := by omega
  obtain ⟨hH0, hH1⟩ := hH01
  have AE := Aside0.mk (show inferE true top L low = (if inferH top L low < 0 ∨ 4294967295 < inferH top L low then (0, 120) else (inferH top L low * 4294967296 + low, 0)) from by
    unfold inferE; rw [if_neg (by omega), if_neg (by simp)])
  have AH := Aside0.mk (show inferH top L low = _ from by unfold inferH; rw [hx, hH])
  rw [hx] at er
  rw [hH] at eq
  clear r hx hT hH
  go_enter Tryd.func50, Tryd.ntmps50
  go_wp2_with (first | (go_at_call 59; refine TP.out.mono ?_; rintro e w1 ⟨rfl, rfl⟩))
  all_goals (
    go_ret2
    refine ⟨?_, 0, rfl⟩
    rw [AE.out, AH.out]
    repeat (first | rw [if_pos (by omega)] | rw [if_neg (by omega)])
    simp
    try omega)
set_option maxHeartbeats 4000000 in
set_option maxRecDepth 100000 in
theorem ref_infer_arg (low : Int) (hlow : low < 0 ∨ 4294967295 < low) (w : World) :
    Calls Tryd.prog 50 #[.pointer (some ⟨h, 0, none⟩), .int .i64 low] w fun e w' => e = .returned (.tuple #[.int .u64 0, .int .i64 1]) ∧ w' = w := by
  by_cases h1 : low < 0
  · have c1 : decide (low < 0) = true := by simpa using h1
    go_enter Tryd.func50, Tryd.ntmps50
    go_wp2
    go_ret2
    exact ⟨rfl, rfl⟩
  · have c1 : decide (low < 0) = false := by simpa using h1
    have c2 : decide ((4294967295 : Int) < low) = true := by simp; omega
    go_enter Tryd.func50, Tryd.ntmps50
    go_wp2
    go_ret2
    exact ⟨rfl, rfl⟩
set_option maxHeartbeats 4000000 in
set_option maxRecDepth 100000 in
theorem ref_infer_narrow (r : Ref base w h ok L false A c ns) (low : Int) (h0 : 0 ≤ low) (h1 : low ≤ 4294967295) :
    Calls Tryd.prog 50 #[.pointer (some ⟨h, 0, none⟩), .int .i64 low] w fun e w' => e = .returned (.tuple #[.int .u64 low, .int .i64 0]) ∧ w' = w := by
  have hc1 := r.c1
  clear r
  have c1 : decide (low < 0) = false := by simp; omega
  have c2 : decide ((4294967295 : Int) < low) = false := by simp; omega
  go_enter Tryd.func50, Tryd.ntmps50
  go_wp2
  go_ret2
  exact ⟨rfl, rfl⟩
theorem ref_infer (r : Ref base w h ok L wide A c ns) (hl : ns.length ≤ 200) (hL : L ≤ 1024) (low : Int) (ht : tops ns < 18446744073709551616) :
    Calls Tryd.prog 50 #[.pointer (some ⟨h, 0, none⟩), .int .i64 low] w fun e w' => e = .returned (.tuple #[.int .u64 (inferE wide (tops ns) L low).1, .int .i64 (inferE wide (tops ns) L low).2]) ∧ ∃ m, w' = w.drewN m := by
  by_cases ha : low < 0 ∨ 4294967295 < low
  · have e : inferE wide (tops ns) L low = (0, 1) := by unfold inferE; rw [if_pos ha]
    rw [e]
    exact (ref_infer_arg low ha w).mono fun _ _ h => ⟨h.1, 0, h.2⟩
  · cases wide
    · have e : inferE false (tops ns) L low = (low, 0) := by unfold inferE; rw [if_neg ha, if_pos rfl]
      rw [e]
      exact (ref_infer_narrow r low (by omega) (by omega)).mono fun _ _ h => ⟨h.1, 0, h.2⟩
    · exact ref_infer_wide r hl hL low (by omega) (by omega) ht
set_option maxHeartbeats 4000000 in
set_option maxRecDepth 100000 in
theorem ref_accept_no (p : Option Addr) (n cc : Int) (hc : cc ≠ 0) (hcall : Calls Tryd.prog 51 #[.pointer p, .int .u64 n] w fun e w' => e = .returned (.int .i64 cc) ∧ ∃ m, w' = w.drewN m) :
    Calls Tryd.prog 52 #[.pointer p, .int .u64 n] w fun e w' => e = .returned (.int .i64 cc) ∧ ∃ m, w' = w.drewN m := by
  have c0 : (cc == 0) = false := by simpa using hc
  have HC := Aside0.mk hcall
  clear hcall hc
  go_enter Tryd.func52, Tryd.ntmps52
  go_wp2_with (go_at_call 51; refine HC.out.mono ?_; rintro e w1 ⟨rfl, m, rfl⟩)
  go_wp2
  go_ret
  exact ⟨rfl, m, rfl⟩
set_option maxHeartbeats 4000000 in
set_option maxRecDepth 100000 in
theorem ref_accept_yes {w0 : World} (r : Ref base w h ok L wide A c ns) (hl : ns.length ≤ 200) (hb : Below base w0 w) (hbase : base ≤ w.heap.size) (hhb : base ≤ h) (hfr : ∀ k, w.heap.size ≤ k → ok k) (n : Nat)
    (hcall : Calls Tryd.prog 51 #[.pointer (some ⟨h, 0, none⟩), .int .u64 (n : Int)] w fun e w' => e = .returned (.int .i64 0) ∧ ∃ m, w' = w.drewN m) :
    Calls Tryd.prog 52 #[.pointer (some ⟨h, 0, none⟩), .int .u64 (n : Int)] w fun e w' => e = .returned (.int .i64 0) ∧ (∃ A' c', Ref base w' h ok L wide A' c' (ns ++ [n])) ∧ Below base w0 w' ∧ Kept w w' (fun k => k = h ∨ ok k) := by
  have HC := Aside0.mk hcall
  have R := Aside0.mk r
  have h2 := r.c2
  have hlt : h < w.heap.size := blk_lt r.hs
  have hlc := r.lc
  obtain ⟨N, hN⟩ : ∃ N, ns.length = N := ⟨_, rfl⟩
  have HN := Aside0.mk hN
  have HROW := Aside0.mk r.row
  rw [hN] at h2 hl hlc HROW
  have HB := Aside0.mk hb
  have HBASE := Aside0.mk hbase
  have HFR := Aside0.mk hfr
  clear r hN hcall hb hbase hfr
  have hcap : N < 140737488355328 := by omega
  go_enter Tryd.func52, Tryd.ntmps52
  go_wp2_with (first | (go_at_call 51; refine HC.out.mono ?_; rintro e w1 ⟨rfl, m, rfl⟩) | ((with_reducible refine gate_builtin (b := .append) (xs := #[.tmp 15, .tmp 17]) rfl ?_); at_builtin; refine Kd.R_append (Kd.int .u64) (w0 := w0) base rfl (.tmp 15) (.tmp 17) 38 37 (.int .u64 0) 8 rfl Tryd.underlying38 info37 rfl (by decide) (by omega) (.slice A N c) (natl ns) (n : Int) [.int .u64 (n : Int)] (fun k => k ≠ h ∧ ok k) (fun _ => False) rfl rfl ?aP (fun _ hk => hk.elim) ?aF ?aO ?aB ?aS ?aL ?_; (case aP => exact rfl); (case aB => exact pw_below_drewN HB.out _); (case aF => exact (fun k hk => by have hk2 : w.heap.size ≤ k := hk; exact ⟨by omega, HFR.out k hk2⟩)); (case aO => exact Kd.R_drewN HROW.out _); (case aS => exact HBASE.out); (case aL => have := HN.out; rw [natl_length]; omega); intro v113 w10 ho hb1 hg hat; obtain ⟨A1, c1v, rfl⟩ := Kd.R_slice ho; have HO2 := Aside0.mk ho; have HG := Aside0.mk hg; have HB1 := Aside0.mk hb1; have hsw := blk_grown (blk_drewN R.out.hs m) hg (fun e => (HROW.out.1 h e.symm).1 rfl); have hcw := (blk_cell hsw 2).trans rfl; have hfw := blk_frozen hsw 2; have HSW := Aside0.mk hsw; clear ho hg hat hb1 hsw))
  go_ret
  have e1 : (natl ns ++ [(n : Int)]) = natl (ns ++ [n]) := (natl_append ns [n]).symm
  have e2 : (natl (ns ++ [n])).length = (ns ++ [n]).length := natl_length _
  have e3 : (natl ns).length + 1 = (ns ++ [n]).length := by simp [natl_length]
  rw [e3]
  have h3 := HO2.out
  rw [e1, e2] at h3
  refine ⟨rfl, ⟨A1, c1v, ?_, ?_⟩, HB1.out.setCell hhb _, ?_⟩
  · have := blk_set HSW.out 2 (.slice A1 (ns ++ [n]).length c1v)
    rw [this]
    rfl
  · exact Kd.R_set h3 HSW.out (by intro q hq; simp [Kd.E, Kd.int, Kd.scalar] at hq; omega) 2 _
  · have k1 : Kept w w10 (fun k => k = h ∨ ok k) := Kept.of_grown HG.out ((Kept.refl w _).drewN m) (fun k hk => Or.inl (Or.inr (HROW.out.1 k hk).2))
    exact k1.setCell (p := ⟨h, 2, none⟩) (Or.inl (Or.inl rfl)) _
end

theorem foldl_max_le (l : List Nat) : ∀ (a m : Nat), a ≤ m → (∀ x ∈ l, x ≤ m) → l.foldl max a ≤ m := by
  induction l with
  | nil => intro a m h _; exact h
  | cons x l ih =>
    intro a m h hx
    exact ih _ _ (Nat.max_le.mpr ⟨h, hx x (List.mem_cons_self ..)⟩) (fun y hy => hx y (List.mem_cons_of_mem _ hy))
theorem le_foldl_max (l : List Nat) : ∀ (a : Nat), a ≤ l.foldl max a ∧ ∀ x ∈ l, x ≤ l.foldl max a := by
  induction l with
  | nil => intro a; exact ⟨Nat.le_refl _, by simp⟩
  | cons x l ih =>
    intro a
    have h := ih (max a x)
    have h1 : a ≤ max a x := Nat.le_max_left _ _
    have h2 : x ≤ max a x := Nat.le_max_right _ _
    refine ⟨Nat.le_trans h1 h.1, fun y hy => ?_⟩
    rcases List.mem_cons.mp hy with rfl | hy
    · exact Nat.le_trans h2 h.1
    · exact h.2 y hy
theorem Inv.tops {L : Nat} {st : Nat × List Bool} {xs : List Nat} (h : Inv L st xs) : tops xs = st.1 := by
  apply Nat.le_antisymm
  · exact foldl_max_le xs 0 st.1 (Nat.zero_le _) (fun x hx => (h.mem x hx).2)
  · rcases h.top with ht | ht
    · omega
    · exact (le_foldl_max xs 0).2 _ ht
theorem Inv.ref {L : Nat} {st : Nat × List Bool} {xs : List Nat} (h : Inv L st xs) (hL : 0 < L) (wide : Bool) (n : Nat) : refChk L wide xs n = Win.chk wide st n := by
  rw [h.chk, refChk, h.tops]
  split
  · rfl
  · by_cases hlt : st.1 < n
    · rw [if_pos hlt, if_neg]
      rintro (h0 | h0 | h0)
      · omega
      · omega
      · have := h.mem n h0; omega
    · rw [if_neg hlt]
      congr 1
      apply propext
      constructor
      · rintro (h0 | h0 | h0)
        · exact Or.inl h0
        · exact Or.inr (Or.inl (by omega))
        · exact Or.inr (Or.inr h0)
      · rintro (h0 | h0 | h0)
        · exact Or.inl h0
        · exact Or.inr (Or.inl (by omega))
        · exact Or.inr (Or.inr h0)
theorem inferE_neg (wide : Bool) (T L : Int) : inferE wide T L (-1) = (0, 1) := by unfold inferE; rw [if_pos (Or.inl (by decide))]
theorem inferE_big (wide : Bool) (T L : Int) : inferE wide T L 4294967296 = (0, 1) := by unfold inferE; rw [if_pos (Or.inr (by decide))]
theorem Win.keep {base L g a : Nat} {w0 w w' : World} {wide : Bool} {st : Nat × List Bool} {S : Nat → Prop} (hw : Win base L w0 w g a wide st) (hk : Kept w w' S) (h1 : ¬ S g) (h2 : ¬ S a) (hb : Below base w0 w') : Win base L w0 w' g a wide st :=
  ⟨⟨blk_kept hw.at_.hs hk h1, blk_kept hw.at_.ha hk h2, hw.at_.ne⟩, hw.good, hw.hL, hb, hw.hg, hw.ha⟩
theorem Ref.keep {base h L c : Nat} {w w' : World} {ok S : Nat → Prop} {wide : Bool} {A : Option Addr} {ns : List Nat} (r : Ref base w h ok L wide A c ns) (hk : Kept w w' S) (h1 : ¬ S h) (h2 : ∀ k, ok k → ¬ S k) : Ref base w' h ok L wide A c ns :=
  ⟨blk_kept r.hs hk h1, Kd.R_kept r.row hk (fun k hk => h2 k hk.2)⟩
theorem Win.infer2 {base L g a : Nat} {w0 w : World} {wide : Bool} {st : Nat × List Bool} (h : Win base L w0 w g a wide st) (low : Int) :
    Calls Tryd.prog 32 #[.pointer (some ⟨g, 0, none⟩), .int .i64 low] w fun e w' => e = .returned (.tuple #[.int .u64 (inferE wide st.1 L low).1, .int .i64 (inferE wide st.1 L low).2]) ∧ ∃ m, w' = w.drewN m := by
  have := infer_walk h.at_ low (by rw [h.good.1]; exact h.hL.2) h.good.2
  rw [h.good.1] at this
  exact this
end Go.Proofs.YtkmnpnbfeiobiaaDoor.Win

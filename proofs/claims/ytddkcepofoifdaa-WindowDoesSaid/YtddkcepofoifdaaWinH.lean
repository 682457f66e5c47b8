/- The walks of the document's window (redoubtref13): Top, Check. -/
import Derived.Test.YtddkcepofoifdaaWinG
import Derived.Test.YtddkcepofoifdaaWinL
import Derived.Test.YtddkcepofoifdaaCame
namespace Go.Proofs.Ytddkcepofoifdaa.Win
open Go.RowKit Go.Proofs.YtddkcepofoifdaaW.PrintWords Go.Proofs.YtddkcepofoifdaaW.PrintLast Go.Proofs.YtddkcepofoifdaaW.PrintMore
set_option linter.unusedVariables false
set_option linter.unusedSimpArgs false
attribute [local go_sem] max2_int min2_int max_two min_two max_three min_three max_four min_four
/-- The document's window in memory: its fields at block h, its list in a row of the call's own. -/
structure Ref (base : Nat) (w : World) (h : Nat) (ok : Nat → Prop) (L : Nat) (wide : Bool) (A : Option Addr) (c : Nat) (ns : List Nat) : Prop where
  hs : w.heap[h]? = some (.cells #[.int .i64 L, .bool wide, .slice A ns.length c] 45 (0, 0))
  row : Kd.R (Kd.int .u64) 34 w base (fun k => k ≠ h ∧ ok k) (.slice A ns.length c) (natl ns)
/-- The greatest. -/
def tops (l : List Nat) : Nat := l.foldl max 0
theorem tops_take (l : List Nat) (j : Nat) (hj : j < l.length) : tops (l.take (j + 1)) = max (tops (l.take j)) (l.getD j 0) := by
  rw [List.take_add_one, List.getElem?_eq_getElem hj, List.getD_eq_getElem?_getD, List.getElem?_eq_getElem hj]
  unfold tops
  rw [List.foldl_append]
  rfl
section
variable {base : Nat} {w : World} {h L c : Nat} {ok : Nat → Prop} {wide : Bool} {A : Option Addr} {ns : List Nat}
theorem Ref.c0 (r : Ref base w h ok L wide A c ns) : w.cell? ⟨h, 0, none⟩ = some (.int .i64 L) := (blk_cell r.hs 0).trans rfl
theorem Ref.c1 (r : Ref base w h ok L wide A c ns) : w.cell? ⟨h, 1, none⟩ = some (.bool wide) := (blk_cell r.hs 1).trans rfl
theorem Ref.c2 (r : Ref base w h ok L wide A c ns) : w.cell? ⟨h, 2, none⟩ = some (.slice A ns.length c) := (blk_cell r.hs 2).trans rfl
theorem Ref.drewN (r : Ref base w h ok L wide A c ns) (m : Nat) : Ref base (w.drewN m) h ok L wide A c ns := ⟨r.hs, Kd.R_drewN r.row m⟩
theorem Ref.cell (r : Ref base w h ok L wide A c ns) (j : Nat) (hj : j < ns.length) : ∃ b, A = some ⟨b, 0, none⟩ ∧ w.cell? ⟨b, j, none⟩ = some (.int .u64 ((ns.getD j 0 : Nat) : Int)) := by
  obtain ⟨b, cap, hv⟩ := row_shape r.row (by rw [natl_length]; omega)
  rw [natl_length] at hv
  cases hv
  exact ⟨b, rfl, (natl_R_cell r.row rfl j hj).1⟩
theorem Ref.lc (r : Ref base w h ok L wide A c ns) : ns.length ≤ c := (Kd.R_reads' r.row).2.1
set_option maxHeartbeats 4000000 in
set_option maxRecDepth 100000 in
theorem ref_top (r : Ref base w h ok L wide A c ns) (hl : ns.length ≤ 200) :
    Calls Try.prog 29 #[.pointer (some ⟨h, 0, none⟩)] w fun e w' => e = .returned (.int .u64 (tops ns : Int)) ∧ w' = w := by
  have h2 := r.c2
  have R := Aside0.mk r
  have hlc := r.lc
  obtain ⟨N, hN⟩ : ∃ N, ns.length = N := ⟨_, rfl⟩
  have HN := Aside0.mk hN
  rw [hN] at h2 hl hlc
  clear r hN
  go_enter Try.func29, Try.ntmps29
  go_wp2
  go_loop [3, 4] (fun t i => ∃ j : Nat, j ≤ N ∧ i = .int .i64 j ∧ t = .int .u64 ((tops (ns.take j) : Nat) : Int)) (fun _ i => N - (intOf i).toNat)
  case atStart => exact ⟨0, by omega, rfl, rfl⟩
  case round =>
    obtain ⟨j, hj, rfl, rfl⟩ := hrel
    by_cases hjl : j < N
    · have hd : decide ((j : Int) < (N : Int)) = true := by simp; omega
      obtain ⟨b, rfl, hc⟩ := R.out.cell j (by rw [HN.out]; exact hjl)
      have htk := tops_take ns j (by rw [HN.out]; exact hjl)
      obtain ⟨x, hx⟩ : ∃ x, ns.getD j 0 = x := ⟨_, rfl⟩
      rw [hx] at hc htk
      obtain ⟨t, ht⟩ : ∃ t, tops (ns.take j) = t := ⟨_, rfl⟩
      rw [ht] at htk ⊢
      have HT := Aside0.mk htk
      clear hx ht htk
      have hmx : (if t < x then (x : Int) else (t : Int)) = ((max t x : Nat) : Int) := by split <;> omega
      obtain ⟨y, hy⟩ : ∃ y, max t x = y := ⟨_, rfl⟩
      rw [hy] at hmx HT
      clear hy
      go_wp2
      go_round
      case rel => exact ⟨j + 1, by omega, by go_num, by rw [HT.out]⟩
      case measure => simp [intOf]; omega
    · have hd : decide ((j : Int) < (N : Int)) = false := by simp; omega
      have hje : ns.take j = ns := List.take_of_length_le (by have := HN.out; omega)
      rw [hje]
      go_wp2
      go_ret
      exact ⟨rfl, rfl⟩
theorem mem_step (ns : List Nat) (j : Nat) (hj : j < ns.length) (n : Nat) (o0 : Bool) : (o0 || decide (n ∈ ns.take (j + 1))) = ((o0 || decide (n ∈ ns.take j)) || decide (ns.getD j 0 = n)) := by
  have htake : ns.take (j + 1) = ns.take j ++ [ns.getD j 0] := by
    rw [List.take_add_one, List.getElem?_eq_getElem hj, List.getD_eq_getElem?_getD, List.getElem?_eq_getElem hj]
    rfl
  have e : (n ∈ ns.take (j + 1)) ↔ (n ∈ ns.take j ∨ ns.getD j 0 = n) := by
    rw [htake, List.mem_append, List.mem_singleton, eq_comm (a := n)]
  rw [Bool.or_assoc]
  congr 1
  rw [decide_eq_decide.mpr e, Bool.decide_or]
/-- What the document's Check answers. -/
def refChk (L : Nat) (wide : Bool) (ns : List Nat) (n : Nat) : Int :=
  if (!wide && decide (4294967295 < n)) = true then 1 else if n = 0 ∨ (L ≤ tops ns ∧ n ≤ tops ns - L) ∨ n ∈ ns then 120 else 0
set_option maxHeartbeats 4000000 in
set_option maxRecDepth 100000 in
theorem ref_check_arg (r : Ref base w h ok L false A c ns) (n : Nat) (hn : 4294967295 < n) :
    Calls Try.prog 26 #[.pointer (some ⟨h, 0, none⟩), .int .u64 (n : Int)] w fun e w' => e = .returned (.int .i64 1) ∧ ∃ m, w' = w.drewN m := by
  have h1 := r.c1
  have c1 : decide ((4294967295 : Int) < (n : Int)) = true := by simp; omega
  clear r
  go_enter Try.func26, Try.ntmps26
  go_wp2
  go_ret
  exact ⟨rfl, 0, rfl⟩
set_option maxHeartbeats 4000000 in
set_option maxRecDepth 100000 in
theorem ref_check_go (r : Ref base w h ok L wide A c ns) (hl : ns.length ≤ 200) (hL : L ≤ 1024) (n : Nat) (hA : (!wide && decide (4294967295 < n)) = false) (ht : tops ns < 18446744073709551616) :
    Calls Try.prog 26 #[.pointer (some ⟨h, 0, none⟩), .int .u64 (n : Int)] w fun e w' => e = .returned (.int .i64 (if n = 0 ∨ (L ≤ tops ns ∧ n ≤ tops ns - L) ∨ n ∈ ns then 120 else 0)) ∧ ∃ m, w' = w.drewN m := by
  have h0 := r.c0
  have h1 := r.c1
  have h2 := r.c2
  have TP := Aside0.mk fun k => ref_top (r.drewN k) hl
  have R := Aside0.mk r
  have hlc := r.lc
  obtain ⟨N, hN⟩ : ∃ N, ns.length = N := ⟨_, rfl⟩
  have HN := Aside0.mk hN
  rw [hN] at h2 hl hlc
  obtain ⟨T, hT⟩ : ∃ T, tops ns = T := ⟨_, rfl⟩
  rw [hT] at TP ht
  rw [hT]
  have c1 : wide = false → decide ((4294967295 : Int) < (n : Int)) = false := by rintro rfl; simp at hA ⊢; omega
  have es : IntKind.u64.wrap (L : Int) = (L : Int) := by rw [IntKind.wrap_u64]; omega
  obtain ⟨o0, ho0⟩ : ∃ o0 : Bool, o0 = decide (L ≤ T ∧ n ≤ T - L) := ⟨_, rfl⟩
  have HO0 := Aside0.mk ho0
  have HW : Aside0 (wide = true ∨ decide ((4294967295 : Int) < (n : Int)) = false) := Aside0.mk (by cases wide; exact Or.inr (c1 rfl); exact Or.inl rfl)
  have HCASE : Aside0 ((L ≤ T ∧ n ≤ T - L ∧ o0 = true) ∨ (L ≤ T ∧ ¬ n ≤ T - L ∧ o0 = false) ∨ (¬ L ≤ T ∧ o0 = false)) := Aside0.mk (by
    rw [ho0]
    by_cases d1 : L ≤ T
    · by_cases d2 : n ≤ T - L
      · exact Or.inl ⟨d1, d2, by simp [d1, d2]⟩
      · exact Or.inr (Or.inl ⟨d1, d2, by simp [d2]⟩)
    · exact Or.inr (Or.inr ⟨d1, by simp [d1]⟩))
  have FIN : Aside0 (∀ cur : Bool, (o0 || decide (n ∈ ns)) = cur → ((n = 0 ∨ (L ≤ T ∧ n ≤ T - L) ∨ n ∈ ns) ↔ (n = 0 ∨ cur = true))) := Aside0.mk (by
    rintro cur rfl
    rw [ho0]
    simp)
  clear hA r hN hT ho0 c1
  have STEP : Aside0 (∀ j, j < N → ∀ cur : Bool, (o0 || decide (n ∈ ns.take j)) = cur → (o0 || decide (n ∈ ns.take (j + 1))) = (cur || decide (ns.getD j 0 = n))) := Aside0.mk (by
    intro j hj cur hcur
    have hj' : j < ns.length := by have := HN.out; omega
    rw [← hcur]
    exact mem_step ns j hj' n o0)
  obtain ⟨ans, hans⟩ : ∃ ans : Int, (if n = 0 ∨ (L ≤ T ∧ n ≤ T - L) ∨ n ∈ ns then (120 : Int) else 0) = ans := ⟨_, rfl⟩
  rw [hans]
  have HANS := Aside0.mk hans
  clear hans
  rcases HCASE.out with ⟨d1, d2, ho⟩ | ⟨d1, d2, ho⟩ | ⟨d1, ho⟩
  all_goals (
    have HO := Aside0.mk ho
    clear ho HCASE HO0
    rcases HW.out with rfl | c1
    all_goals (try cases wide)
    all_goals (
      try have f1 : decide ((L : Int) ≤ (T : Int)) = true := by simp; exact d1
      try have f1 : decide ((L : Int) ≤ (T : Int)) = false := by simp; omega
      try have g1 : IntKind.u64.wrap ((T : Int) - (L : Int)) = ((T - L : Nat) : Int) := by rw [IntKind.wrap_u64]; omega
      go_enter Try.func26, Try.ntmps26
      go_wp2
      go_quiet (first | (go_at_call 29; exact Calls.quiet_of_same (TP.out _)))
      go_wp2
      go_loop [5, 6] (fun o i => ∃ (j : Nat) (cur : Bool), j ≤ N ∧ i = .int .i64 j ∧ o = .bool cur ∧ Aside0 ((o0 || decide (n ∈ ns.take j)) = cur)) (fun _ i => N - (intOf i).toNat)
      case atStart => exact ⟨0, _, by omega, rfl, rfl, Aside0.mk (by rw [HO.out]; simp)⟩
      case round =>
        obtain ⟨j, cur, hj, rfl, rfl, HCUR⟩ := hrel
        by_cases hjl : j < N
        · have hd : decide ((j : Int) < (N : Int)) = true := by simp; omega
          obtain ⟨b, rfl, hcl⟩ := R.out.cell j (by rw [HN.out]; exact hjl)
          have HST := Aside0.mk (STEP.out j hjl cur HCUR.out)
          obtain ⟨x, hx⟩ : ∃ x, ns.getD j 0 = x := ⟨_, rfl⟩
          rw [hx] at hcl HST
          clear hx
          cases cur
          · by_cases hxn : x = n
            · have HXN := Aside0.mk hxn
              have b1 : (((x : Nat) : Int) == (n : Int)) = true := by simp; omega
              clear hxn
              go_wp2
              go_round
              case rel => exact ⟨j + 1, true, by omega, by go_num, rfl, Aside0.mk (by rw [HST.out]; simp [HXN.out])⟩
              case measure => simp [intOf]; omega
            · have HXN := Aside0.mk hxn
              have b1 : (((x : Nat) : Int) == (n : Int)) = false := by simp; omega
              go_wp2
              go_round
              case rel => exact ⟨j + 1, false, by omega, by go_num, rfl, Aside0.mk (by rw [HST.out]; simp [HXN.out])⟩
              case measure => simp [intOf]; omega
          · go_wp2
            go_round
            case rel => exact ⟨j + 1, true, by omega, by go_num, rfl, Aside0.mk (by rw [HST.out]; simp)⟩
            case measure => simp [intOf]; omega
        · have hd : decide ((j : Int) < (N : Int)) = false := by simp; omega
          have HF := Aside0.mk (FIN.out cur (by have := HCUR.out; rwa [List.take_of_length_le (by have := HN.out; omega)] at this))
          by_cases hn0 : n = 0
          · have HN0 := Aside0.mk hn0
            have b0 : ((n : Int) == 0) = true := by simp; omega
            clear hn0
            go_wp2
            go_ret
            rw [← HANS.out, if_pos (HF.out.mpr (Or.inl HN0.out))]
            exact ⟨rfl, _, rfl⟩
          · have HN0 := Aside0.mk hn0
            have b0 : ((n : Int) == 0) = false := by simp; omega
            cases cur
            · go_wp2
              go_ret
              rw [← HANS.out, if_neg (fun h => by rcases HF.out.mp h with h | h; exact HN0.out h; cases h)]
              exact ⟨rfl, _, rfl⟩
            · go_wp2
              go_ret
              rw [← HANS.out, if_pos (HF.out.mpr (Or.inr (by simp)))]
              exact ⟨rfl, _, rfl⟩))
theorem ref_check (r : Ref base w h ok L wide A c ns) (hl : ns.length ≤ 200) (hL : L ≤ 1024) (n : Nat) (ht : tops ns < 18446744073709551616) :
    Calls Try.prog 26 #[.pointer (some ⟨h, 0, none⟩), .int .u64 (n : Int)] w fun e w' => e = .returned (.int .i64 (refChk L wide ns n)) ∧ ∃ m, w' = w.drewN m := by
  unfold refChk
  by_cases hA : (!wide && decide (4294967295 < n)) = true
  · rw [if_pos hA]
    simp only [Bool.and_eq_true, Bool.not_eq_true', decide_eq_true_eq] at hA
    obtain ⟨rfl, hA⟩ := hA
    exact ref_check_arg r n hA
  · rw [if_neg hA]
    rw [Bool.not_eq_true] at hA
    exact ref_check_go r hl hL n hA ht
end
end Go.Proofs.Ytddkcepofoifdaa.Win

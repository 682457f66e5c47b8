/- Add of the program. -/
import Derived.Test.YtkmnpnbfeiobiaaDoorSdL
namespace Go.Proofs.YtkmnpnbfeiobiaaDoor.Sd
open Go.RowKit Go.Proofs.YtkmnpnbfeiobiaaDoorW.PrintWords Go.Proofs.YtkmnpnbfeiobiaaDoorW.PrintLast Go.Proofs.YtkmnpnbfeiobiaaDoorW.PrintMore Go.Proofs.YtkmnpnbfeiobiaaDoor.QSa
open Go.Proofs.YtkmnpnbfeiobiaaDoor
set_option linter.unusedVariables false
set_option linter.unusedSimpArgs false
/-- May keys be? -/
def mayP (x : S25) : Bool := decide (256 ≤ x.f0) && decide (x.f0 ≤ 4294967295) && (decide ((x.f1.size : Int) = 16) || decide ((x.f1.size : Int) = 32)) && decide ((x.f2.size : Int) = 4) && decide ((x.f3.size : Int) = 32) && decide (64 ≤ x.f5) && decide (x.f5 ≤ 1024)
theorem check_f (x : S25) : esp_Check.f x.f0 x.f1 x.f2 x.f3 x.f4 x.f5 = some (if mayP x = true then 0 else 1) := by
  unfold esp_Check.f mayP
  repeat' split
  all_goals (first | rfl | (rename_i h; simp only [Bool.and_eq_true, Bool.or_eq_true, decide_eq_true_eq] at h; exfalso; omega))
theorem may14_f (x : S25) : redoubtref14_May.f x.f0 x.f1 x.f2 x.f3 x.f4 x.f5 = some (mayP x) := by
  unfold redoubtref14_May.f mayP
  repeat' split
  all_goals (congr 1; apply Bool.eq_iff_iff.2; simp only [Bool.and_eq_true, Bool.or_eq_true, decide_eq_true_eq, Bool.false_eq_true, false_iff, true_iff, iff_true, iff_false]; omega)
theorem check_walk (x : S25) (w : World) : Calls Tryd.prog 24 #[.agg #[.int .i64 x.f0, .string x.f1, .string x.f2, .string x.f3, .bool x.f4, .int .i64 x.f5]] w fun e w' => e = .returned (.int .i64 (if mayP x = true then 0 else 1)) ∧ Below w.heap.size w w' :=
  esp_Check.calls x.f0 x.f1 x.f2 x.f3 x.f4 x.f5 _ w (check_f x)
def m2 (x y : Int) : Int := if y < x then y else x
theorem m2_neg (x y : Int) : m2 x y < 0 ↔ x < 0 ∨ y < 0 := by
  unfold m2
  split <;> omega
theorem run_min6 (W : World) (ats : Array TypeId) (ty : TypeId) (a b c d e f : Int) : (Builtin.min_ ats ty #[.int .i64 a, .int .i64 b, .int .i64 c, .int .i64 d, .int .i64 e, .int .i64 f]).run Tryd.prog W = .ok (.int .i64 (m2 (m2 (m2 (m2 (m2 a b) c) d) e) f)) W := by
  simp only [Builtin.min_, List.foldlM_cons, List.foldlM_nil, min2_int, m2]
  rfl
/-- May a life be? -/
def mayL (x : S27) : Bool := mayP x.f0 && decide (0 ≤ x.f1) && decide (0 ≤ x.f3) && decide (0 ≤ x.f4) && decide (0 ≤ x.f5) && decide (0 ≤ x.f6)
def newE (x : S27) (now : Int) : En := ⟨x, now, 0, 0, (0, List.replicate x.f0.f5.toNat false), []⟩
def addF (es : List En) (now : Int) (x : S27) : List En × Int :=
  if mayL x = true ∧ 0 ≤ now then (if findI es x.f0.f0 x.f2 < es.length then (es, 9) else if 32 ≤ es.length then (es, 7) else (es ++ [newE x now], 0)) else (es, 1)
theorem newE_good (x : S27) (now : Int) (k : Nat) (hm : mayL x = true) (h0 : 0 ≤ now) (h1 : now ≤ 1000000000) : Good k (newE x now) := by
  simp only [mayL, mayP, Bool.and_eq_true, decide_eq_true_eq] at hm
  refine ⟨by show 64 ≤ x.f0.f5; omega, by show x.f0.f5 ≤ 1024; omega, Win.Inv.new _, by show (0 : Nat) < _; omega, by show (0 : Nat) < _; omega, ⟨h0, h1⟩, ⟨Int.le_refl _, by show (0 : Int) ≤ _; omega⟩, by show 256 ≤ x.f0.f0; omega, Nat.zero_le _⟩
theorem load25b {W : World} {q : Nat} {x : S27} {t : TypeId} (h : W.heap[q]? = some (.cells (#[.int .i64 x.f0.f0, .string x.f0.f1, .string x.f0.f2, .string x.f0.f3, .bool x.f0.f4, .int .i64 x.f0.f5, .int .i64 x.f1, .bool x.f2, .int .i64 x.f3, .int .i64 x.f4, .int .i64 x.f5, .int .i64 x.f6]) t (0, 0))) : (loadVar 25 ⟨q, 0, none⟩).run Tryd.prog W = .ok (.agg (#[.int .i64 x.f0.f0, .string x.f0.f1, .string x.f0.f2, .string x.f0.f3, .bool x.f0.f4, .int .i64 x.f0.f5])) W := by
  refine load_blk h (enc25 x.f0) (fun j v hv => ?_) _ Tryd.underlying25 rfl isz25
  unfold enc25 at hv
  match j with
  | 0 | 1 | 2 | 3 | 4 | 5 => exact hv
  | j + 6 => simp at hv
theorem find_any {w : World} {base q : Nat} {v : Value} {ps : List Pl} {es : List En} (hp : SadP w base q v ps es) (hl : es.length ≤ 1000) (spi : Int) (out : Bool) :
    Calls Tryd.prog 23 #[.pointer (some ⟨q, 0, none⟩), .int .i64 spi, .bool out] w (LiveAny w) := by
  by_cases hf : findI es spi out < es.length
  · exact (find_yes hp hl spi out hf).mono fun _ _ h => h.any
  · exact (find_no hp hl spi out hf).mono fun _ _ h => h.any
set_option maxHeartbeats 1600000 in
set_option maxRecDepth 100000 in
theorem add_nil (w : World) (now : Int) (x : S27) : Calls Tryd.prog 10 #[.pointer none, .int .i64 now, .agg (#[.int .i64 x.f0.f0, .string x.f0.f1, .string x.f0.f2, .string x.f0.f3, .bool x.f0.f4, .int .i64 x.f0.f5, .int .i64 x.f1, .bool x.f2, .int .i64 x.f3, .int .i64 x.f4, .int .i64 x.f5, .int .i64 x.f6])] w fun e w' => e = .returned (.int .i64 3) ∧ Below w.heap.size w w' := by
  have FN := Aside0.mk fun W => find_nil W x.f0.f0 x.f2
  go_enter Tryd.func10, Tryd.ntmps10
  go_wp2_with (first | ((with_reducible refine gate_dst (N := 5) rfl ?_); refine box_event ?hg (N := 5) ?hd (cs := #[.int .i64 x.f0.f0, .string x.f0.f1, .string x.f0.f2, .string x.f0.f3, .bool x.f0.f4, .int .i64 x.f0.f5, .int .i64 x.f1, .bool x.f2, .int .i64 x.f3, .int .i64 x.f4, .int .i64 x.f5, .int .i64 x.f6]) (t := 27) ?hr ?_; (case hd => rfl); (case hg => rfl); (case hr => first | (go_simp; done) | (go_simp; rfl)); intro q5 hq w1 hbox hb; have BKq5 := Aside0.mk hbox; have HQq5 := Aside0.mk (show w.heap.size ≤ q5 from by rw [hq]; exact Nat.le_refl _); have HB1 := Aside0.mk hb; clear hbox hb hq; have y0 : w1.cell? ⟨q5, 0, none⟩ = some (.int .i64 x.f0.f0) := (blk_cell BKq5.out 0).trans rfl; have y7 : w1.cell? ⟨q5, 7, none⟩ = some (.bool x.f2) := (blk_cell BKq5.out 7).trans rfl))
  refine (FN.out w1).mono ?_
  rintro e w2 ⟨⟨v, rfl, hv⟩, hb⟩
  obtain ⟨k, s, rfl, _⟩ := hv
  have HB2 := Aside0.mk (HB1.out.trans (hb.mono HB1.out.size))
  clear hb y0 y7
  go_wp2_with (fail)
  go_ret
  exact ⟨rfl, HB2.out⟩
set_option maxHeartbeats 3200000 in
set_option maxRecDepth 100000 in
theorem add_arg {w : World} {q : Nat} (now : Int) (x : S27) (hm : ¬ (mayL x = true ∧ 0 ≤ now)) (hf : ∀ W, Below w.heap.size w W → Calls Tryd.prog 23 #[.pointer (some ⟨q, 0, none⟩), .int .i64 x.f0.f0, .bool x.f2] W (LiveAny W)) :
    Calls Tryd.prog 10 #[.pointer (some ⟨q, 0, none⟩), .int .i64 now, .agg (#[.int .i64 x.f0.f0, .string x.f0.f1, .string x.f0.f2, .string x.f0.f3, .bool x.f0.f4, .int .i64 x.f0.f5, .int .i64 x.f1, .bool x.f2, .int .i64 x.f3, .int .i64 x.f4, .int .i64 x.f5, .int .i64 x.f6])] w fun e w' => e = .returned (.int .i64 1) ∧ Below w.heap.size w w' := by
  have HF := Aside0.mk hf
  have CK := Aside0.mk (check_walk x.f0)
  by_cases hp : mayP x.f0 = true
  · simp only [if_pos hp] at CK
    have hmin : ∀ W, (Builtin.min_ #[3, 3, 3, 3, 3, 3] 3 #[.int .i64 x.f1, .int .i64 x.f3, .int .i64 x.f4, .int .i64 x.f5, .int .i64 x.f6, .int .i64 now]).run Tryd.prog W = .ok (.int .i64 (m2 (m2 (m2 (m2 (m2 x.f1 x.f3) x.f4) x.f5) x.f6) now)) W := fun W => run_min6 W _ _ _ _ _ _ _ _
    obtain ⟨m, hmm⟩ : ∃ m, m2 (m2 (m2 (m2 (m2 x.f1 x.f3) x.f4) x.f5) x.f6) now = m := ⟨_, rfl⟩
    have hneg : decide (m < 0) = true := decide_eq_true (by
      rw [← hmm]
      have hm' : ¬ (0 ≤ x.f1 ∧ 0 ≤ x.f3 ∧ 0 ≤ x.f4 ∧ 0 ≤ x.f5 ∧ 0 ≤ x.f6 ∧ 0 ≤ now) := fun h => hm ⟨by simp only [mayL, Bool.and_eq_true, decide_eq_true_eq]; exact ⟨⟨⟨⟨⟨hp, h.1⟩, h.2.1⟩, h.2.2.1⟩, h.2.2.2.1⟩, h.2.2.2.2.1⟩, h.2.2.2.2.2⟩
      simp only [m2_neg]
      omega)
    rw [hmm] at hmin
    clear hf hm hp hmm
    go_enter Tryd.func10, Tryd.ntmps10
    go_wp2_with (first | ((with_reducible refine gate_dst (N := 5) rfl ?_); refine box_event ?hg (N := 5) ?hd (cs := #[.int .i64 x.f0.f0, .string x.f0.f1, .string x.f0.f2, .string x.f0.f3, .bool x.f0.f4, .int .i64 x.f0.f5, .int .i64 x.f1, .bool x.f2, .int .i64 x.f3, .int .i64 x.f4, .int .i64 x.f5, .int .i64 x.f6]) (t := 27) ?hr ?_; (case hd => rfl); (case hg => rfl); (case hr => first | (go_simp; done) | (go_simp; rfl)); intro q5 hq w1 hbox hb; have BKq5 := Aside0.mk hbox; have HQq5 := Aside0.mk (show w.heap.size ≤ q5 from by rw [hq]; exact Nat.le_refl _); have HB1 := Aside0.mk hb; clear hbox hb hq; have y0 : w1.cell? ⟨q5, 0, none⟩ = some (.int .i64 x.f0.f0) := (blk_cell BKq5.out 0).trans rfl; have y7 : w1.cell? ⟨q5, 7, none⟩ = some (.bool x.f2) := (blk_cell BKq5.out 7).trans rfl))
    refine (HF.out w1 HB1.out).mono ?_
    rintro e w2 ⟨⟨u, v, rfl⟩, hb⟩
    have HB2 := Aside0.mk (HB1.out.trans (hb.mono HB1.out.size))
    have BKq5 := Aside0.mk (blk_below BKq5.out hb)
    have LD := Aside0.mk (load25b BKq5.out)
    clear hb y0 y7
    go_wp2_with (first | ((with_reducible refine gate_dst (N := 26) rfl ?_); refine Kd.event_run (v := .agg (#[.int .i64 x.f0.f0, .string x.f0.f1, .string x.f0.f2, .string x.f0.f3, .bool x.f0.f4, .int .i64 x.f0.f5])) (w1 := w2) ?hg (load_runA 25 (.tmp 25) ⟨q5, 0, none⟩ (#[.int .i64 x.f0.f0, .string x.f0.f1, .string x.f0.f2, .string x.f0.f3, .bool x.f0.f4, .int .i64 x.f0.f5]) ?ho ?hx LD.out) ?_; (case hg => rfl); (case ho => rfl); (case hx => rfl)))
    refine (CK.out w2).mono ?_
    rintro e w3 ⟨rfl, hb⟩
    have HB3 := Aside0.mk (HB2.out.trans (hb.mono HB2.out.size))
    have BKq5 := Aside0.mk (blk_below BKq5.out hb)
    have y6 : w3.cell? ⟨q5, 6, none⟩ = some (.int .i64 x.f1) := (blk_cell BKq5.out 6).trans rfl
    have y8 : w3.cell? ⟨q5, 8, none⟩ = some (.int .i64 x.f3) := (blk_cell BKq5.out 8).trans rfl
    have y9 : w3.cell? ⟨q5, 9, none⟩ = some (.int .i64 x.f4) := (blk_cell BKq5.out 9).trans rfl
    have y10 : w3.cell? ⟨q5, 10, none⟩ = some (.int .i64 x.f5) := (blk_cell BKq5.out 10).trans rfl
    have y11 : w3.cell? ⟨q5, 11, none⟩ = some (.int .i64 x.f6) := (blk_cell BKq5.out 11).trans rfl
    clear hb
    go_wp2_with (fail)
    go_ret
    exact ⟨rfl, HB3.out⟩
  · simp only [if_neg hp] at CK
    clear hf hm hp
    go_enter Tryd.func10, Tryd.ntmps10
    go_wp2_with (first | ((with_reducible refine gate_dst (N := 5) rfl ?_); refine box_event ?hg (N := 5) ?hd (cs := #[.int .i64 x.f0.f0, .string x.f0.f1, .string x.f0.f2, .string x.f0.f3, .bool x.f0.f4, .int .i64 x.f0.f5, .int .i64 x.f1, .bool x.f2, .int .i64 x.f3, .int .i64 x.f4, .int .i64 x.f5, .int .i64 x.f6]) (t := 27) ?hr ?_; (case hd => rfl); (case hg => rfl); (case hr => first | (go_simp; done) | (go_simp; rfl)); intro q5 hq w1 hbox hb; have BKq5 := Aside0.mk hbox; have HQq5 := Aside0.mk (show w.heap.size ≤ q5 from by rw [hq]; exact Nat.le_refl _); have HB1 := Aside0.mk hb; clear hbox hb hq; have y0 : w1.cell? ⟨q5, 0, none⟩ = some (.int .i64 x.f0.f0) := (blk_cell BKq5.out 0).trans rfl; have y7 : w1.cell? ⟨q5, 7, none⟩ = some (.bool x.f2) := (blk_cell BKq5.out 7).trans rfl))
    refine (HF.out w1 HB1.out).mono ?_
    rintro e w2 ⟨⟨u, v, rfl⟩, hb⟩
    have HB2 := Aside0.mk (HB1.out.trans (hb.mono HB1.out.size))
    have BKq5 := Aside0.mk (blk_below BKq5.out hb)
    have LD := Aside0.mk (load25b BKq5.out)
    clear hb y0 y7
    go_wp2_with (first | ((with_reducible refine gate_dst (N := 26) rfl ?_); refine Kd.event_run (v := .agg (#[.int .i64 x.f0.f0, .string x.f0.f1, .string x.f0.f2, .string x.f0.f3, .bool x.f0.f4, .int .i64 x.f0.f5])) (w1 := w2) ?hg (load_runA 25 (.tmp 25) ⟨q5, 0, none⟩ (#[.int .i64 x.f0.f0, .string x.f0.f1, .string x.f0.f2, .string x.f0.f3, .bool x.f0.f4, .int .i64 x.f0.f5]) ?ho ?hx LD.out) ?_; (case hg => rfl); (case ho => rfl); (case hx => rfl)))
    refine (CK.out w2).mono ?_
    rintro e w3 ⟨rfl, hb⟩
    have HB3 := Aside0.mk (HB2.out.trans (hb.mono HB2.out.size))
    clear hb
    go_wp2_with (fail)
    go_ret
    exact ⟨rfl, HB3.out⟩
theorem min_pos {x : S27} {now : Int} (hm : mayL x = true) (hn : 0 ≤ now) : decide (m2 (m2 (m2 (m2 (m2 x.f1 x.f3) x.f4) x.f5) x.f6) now < 0) = false := by
  simp only [mayL, Bool.and_eq_true, decide_eq_true_eq] at hm
  obtain ⟨⟨⟨⟨⟨_, a1⟩, a3⟩, a4⟩, a5⟩, a6⟩ := hm
  apply decide_eq_false
  simp only [m2_neg]
  omega
set_option maxHeartbeats 3200000 in
set_option maxRecDepth 100000 in
theorem add_there {w : World} {q P : Nat} (now : Int) (x : S27) (hm : mayL x = true) (hn : 0 ≤ now) (hf : ∀ W, Below w.heap.size w W → Calls Tryd.prog 23 #[.pointer (some ⟨q, 0, none⟩), .int .i64 x.f0.f0, .bool x.f2] W (FindYes P W)) :
    Calls Tryd.prog 10 #[.pointer (some ⟨q, 0, none⟩), .int .i64 now, .agg (#[.int .i64 x.f0.f0, .string x.f0.f1, .string x.f0.f2, .string x.f0.f3, .bool x.f0.f4, .int .i64 x.f0.f5, .int .i64 x.f1, .bool x.f2, .int .i64 x.f3, .int .i64 x.f4, .int .i64 x.f5, .int .i64 x.f6])] w fun e w' => e = .returned (.int .i64 9) ∧ Below w.heap.size w w' := by
  have FW := Aside0.mk hf
  have CK := Aside0.mk (check_walk x.f0)
  have hpp : mayP x.f0 = true := by simp only [mayL, Bool.and_eq_true] at hm; exact hm.1.1.1.1.1
  simp only [if_pos hpp] at CK
  have hmin : ∀ W, (Builtin.min_ #[3, 3, 3, 3, 3, 3] 3 #[.int .i64 x.f1, .int .i64 x.f3, .int .i64 x.f4, .int .i64 x.f5, .int .i64 x.f6, .int .i64 now]).run Tryd.prog W = .ok (.int .i64 (m2 (m2 (m2 (m2 (m2 x.f1 x.f3) x.f4) x.f5) x.f6) now)) W := fun W => run_min6 W _ _ _ _ _ _ _ _
  have hneg := min_pos hm hn
  obtain ⟨m, hmm⟩ : ∃ m, m2 (m2 (m2 (m2 (m2 x.f1 x.f3) x.f4) x.f5) x.f6) now = m := ⟨_, rfl⟩
  rw [hmm] at hmin hneg
  clear hf hm hn hpp hmm
  go_enter Tryd.func10, Tryd.ntmps10
  go_wp2_with (first | ((with_reducible refine gate_dst (N := 5) rfl ?_); refine box_event ?hg (N := 5) ?hd (cs := #[.int .i64 x.f0.f0, .string x.f0.f1, .string x.f0.f2, .string x.f0.f3, .bool x.f0.f4, .int .i64 x.f0.f5, .int .i64 x.f1, .bool x.f2, .int .i64 x.f3, .int .i64 x.f4, .int .i64 x.f5, .int .i64 x.f6]) (t := 27) ?hr ?_; (case hd => rfl); (case hg => rfl); (case hr => first | (go_simp; done) | (go_simp; rfl)); intro q5 hq w1 hbox hb; have BKq5 := Aside0.mk hbox; have HQq5 := Aside0.mk (show w.heap.size ≤ q5 from by rw [hq]; exact Nat.le_refl _); have HB1 := Aside0.mk hb; clear hbox hb hq; have y0 : w1.cell? ⟨q5, 0, none⟩ = some (.int .i64 x.f0.f0) := (blk_cell BKq5.out 0).trans rfl; have y7 : w1.cell? ⟨q5, 7, none⟩ = some (.bool x.f2) := (blk_cell BKq5.out 7).trans rfl))
  refine (FW.out w1 HB1.out).mono ?_
  rintro e w2 ⟨rfl, hb⟩
  have HB2 := Aside0.mk (HB1.out.trans (hb.mono HB1.out.size))
  have BKq5 := Aside0.mk (blk_below BKq5.out hb)
  have LD := Aside0.mk (load25b BKq5.out)
  clear hb y0 y7
  go_wp2_with (first | ((with_reducible refine gate_dst (N := 26) rfl ?_); refine Kd.event_run (v := .agg (#[.int .i64 x.f0.f0, .string x.f0.f1, .string x.f0.f2, .string x.f0.f3, .bool x.f0.f4, .int .i64 x.f0.f5])) (w1 := w2) ?hg (load_runA 25 (.tmp 25) ⟨q5, 0, none⟩ (#[.int .i64 x.f0.f0, .string x.f0.f1, .string x.f0.f2, .string x.f0.f3, .bool x.f0.f4, .int .i64 x.f0.f5]) ?ho ?hx LD.out) ?_; (case hg => rfl); (case ho => rfl); (case hx => rfl)))
  refine (CK.out w2).mono ?_
  rintro e w3 ⟨rfl, hb⟩
  have HB3 := Aside0.mk (HB2.out.trans (hb.mono HB2.out.size))
  have BKq5 := Aside0.mk (blk_below BKq5.out hb)
  have y6 : w3.cell? ⟨q5, 6, none⟩ = some (.int .i64 x.f1) := (blk_cell BKq5.out 6).trans rfl
  have y8 : w3.cell? ⟨q5, 8, none⟩ = some (.int .i64 x.f3) := (blk_cell BKq5.out 8).trans rfl
  have y9 : w3.cell? ⟨q5, 9, none⟩ = some (.int .i64 x.f4) := (blk_cell BKq5.out 9).trans rfl
  have y10 : w3.cell? ⟨q5, 10, none⟩ = some (.int .i64 x.f5) := (blk_cell BKq5.out 10).trans rfl
  have y11 : w3.cell? ⟨q5, 11, none⟩ = some (.int .i64 x.f6) := (blk_cell BKq5.out 11).trans rfl
  clear hb
  go_wp2_with (fail)
  go_ret
  exact ⟨rfl, HB3.out⟩
set_option maxHeartbeats 3200000 in
set_option maxRecDepth 100000 in
theorem add_full {w : World} {q n c : Nat} {A : Option Addr} {cc : Int} (now : Int) (x : S27) (hm : mayL x = true) (hn : 0 ≤ now) (hq : ∀ W, Below w.heap.size w W → W.cell? ⟨q, 0, none⟩ = some (.slice A n c)) (h32 : 32 ≤ n) (hf : ∀ W, Below w.heap.size w W → Calls Tryd.prog 23 #[.pointer (some ⟨q, 0, none⟩), .int .i64 x.f0.f0, .bool x.f2] W (FindNo cc W)) :
    Calls Tryd.prog 10 #[.pointer (some ⟨q, 0, none⟩), .int .i64 now, .agg (#[.int .i64 x.f0.f0, .string x.f0.f1, .string x.f0.f2, .string x.f0.f3, .bool x.f0.f4, .int .i64 x.f0.f5, .int .i64 x.f1, .bool x.f2, .int .i64 x.f3, .int .i64 x.f4, .int .i64 x.f5, .int .i64 x.f6])] w fun e w' => e = .returned (.int .i64 7) ∧ Below w.heap.size w w' := by
  have FW := Aside0.mk hf
  have HQ := Aside0.mk hq
  have hge : decide ((32 : Int) ≤ (n : Int)) = true := decide_eq_true (by omega)
  have hgeN : decide (32 ≤ n) = true := decide_eq_true h32
  have CK := Aside0.mk (check_walk x.f0)
  have hpp : mayP x.f0 = true := by simp only [mayL, Bool.and_eq_true] at hm; exact hm.1.1.1.1.1
  simp only [if_pos hpp] at CK
  have hmin : ∀ W, (Builtin.min_ #[3, 3, 3, 3, 3, 3] 3 #[.int .i64 x.f1, .int .i64 x.f3, .int .i64 x.f4, .int .i64 x.f5, .int .i64 x.f6, .int .i64 now]).run Tryd.prog W = .ok (.int .i64 (m2 (m2 (m2 (m2 (m2 x.f1 x.f3) x.f4) x.f5) x.f6) now)) W := fun W => run_min6 W _ _ _ _ _ _ _ _
  have hneg := min_pos hm hn
  obtain ⟨m, hmm⟩ : ∃ m, m2 (m2 (m2 (m2 (m2 x.f1 x.f3) x.f4) x.f5) x.f6) now = m := ⟨_, rfl⟩
  rw [hmm] at hmin hneg
  clear hf hm hn hpp hmm h32 hq
  go_enter Tryd.func10, Tryd.ntmps10
  go_wp2_with (first | ((with_reducible refine gate_dst (N := 5) rfl ?_); refine box_event ?hg (N := 5) ?hd (cs := #[.int .i64 x.f0.f0, .string x.f0.f1, .string x.f0.f2, .string x.f0.f3, .bool x.f0.f4, .int .i64 x.f0.f5, .int .i64 x.f1, .bool x.f2, .int .i64 x.f3, .int .i64 x.f4, .int .i64 x.f5, .int .i64 x.f6]) (t := 27) ?hr ?_; (case hd => rfl); (case hg => rfl); (case hr => first | (go_simp; done) | (go_simp; rfl)); intro q5 hq w1 hbox hb; have BKq5 := Aside0.mk hbox; have HQq5 := Aside0.mk (show w.heap.size ≤ q5 from by rw [hq]; exact Nat.le_refl _); have HB1 := Aside0.mk hb; clear hbox hb hq; have y0 : w1.cell? ⟨q5, 0, none⟩ = some (.int .i64 x.f0.f0) := (blk_cell BKq5.out 0).trans rfl; have y7 : w1.cell? ⟨q5, 7, none⟩ = some (.bool x.f2) := (blk_cell BKq5.out 7).trans rfl))
  refine (FW.out w1 HB1.out).mono ?_
  rintro e w2 ⟨⟨v, rfl, k, s, rfl, _⟩, hb⟩
  have HB2 := Aside0.mk (HB1.out.trans (hb.mono HB1.out.size))
  have BKq5 := Aside0.mk (blk_below BKq5.out hb)
  have LD := Aside0.mk (load25b BKq5.out)
  clear hb y0 y7
  go_wp2_with (first | ((with_reducible refine gate_dst (N := 26) rfl ?_); refine Kd.event_run (v := .agg (#[.int .i64 x.f0.f0, .string x.f0.f1, .string x.f0.f2, .string x.f0.f3, .bool x.f0.f4, .int .i64 x.f0.f5])) (w1 := w2) ?hg (load_runA 25 (.tmp 25) ⟨q5, 0, none⟩ (#[.int .i64 x.f0.f0, .string x.f0.f1, .string x.f0.f2, .string x.f0.f3, .bool x.f0.f4, .int .i64 x.f0.f5]) ?ho ?hx LD.out) ?_; (case hg => rfl); (case ho => rfl); (case hx => rfl)))
  refine (CK.out w2).mono ?_
  rintro e w3 ⟨rfl, hb⟩
  have HB3 := Aside0.mk (HB2.out.trans (hb.mono HB2.out.size))
  have BKq5 := Aside0.mk (blk_below BKq5.out hb)
  have y6 : w3.cell? ⟨q5, 6, none⟩ = some (.int .i64 x.f1) := (blk_cell BKq5.out 6).trans rfl
  have y8 : w3.cell? ⟨q5, 8, none⟩ = some (.int .i64 x.f3) := (blk_cell BKq5.out 8).trans rfl
  have y9 : w3.cell? ⟨q5, 9, none⟩ = some (.int .i64 x.f4) := (blk_cell BKq5.out 9).trans rfl
  have y10 : w3.cell? ⟨q5, 10, none⟩ = some (.int .i64 x.f5) := (blk_cell BKq5.out 10).trans rfl
  have y11 : w3.cell? ⟨q5, 11, none⟩ = some (.int .i64 x.f6) := (blk_cell BKq5.out 11).trans rfl
  clear hb
  have cq := HQ.out w3 HB3.out
  go_wp2_with (fail)
  go_ret
  exact ⟨rfl, HB3.out⟩
theorem info61 : (Tryd.prog.info? 61).map (fun i => (i.zero, i.size, i.bytes)) = some (some (.pointer none), 1, 8) := by kernel_rfl
theorem run_append_ptr {W : World} {base p : Nat} {v : Value} {ps : List Pl} (x : Pl) (hx : x.p = p) (hown : W.ownsRow base 61 1 v ps.length (ps.map Pl.ptr)) (ad : Addr) (hnew : W.cell? ad = some (.pointer (some ⟨p, 0, none⟩))) (hl : ps.length ≤ 1000) (hbase : base ≤ W.heap.size) :
    ∃ v' w', (Builtin.append_ #[58, 58] 58 #[v, .slice (some ad) 1 1]).run Tryd.prog W = .ok v' w' ∧ w'.ownsRow base 61 1 v' (ps.length + 1) (ps.map Pl.ptr ++ [x.ptr]) ∧ W.grownBy w' v.ownBlock := by
  obtain ⟨i, hi, hz, hsz, hb⟩ := info_parts info61
  obtain ⟨v', w', h1, h2, h3, _⟩ := run_append_own_at (P := Tryd.prog) W base 58 58 61 i (.pointer none) 1 8 Tryd.underlying58 hi hz hsz hb rfl (by decide) v ps.length (ps.map Pl.ptr) hown ad 1 1 [x.ptr] rfl (fun j u hj => by
    cases j with
    | zero =>
      obtain rfl : x.ptr = u := by simpa using hj
      rw [show ad.add 0 = ad from by cases ad; simp [Addr.add]]
      rw [hnew]
      unfold Pl.ptr
      rw [hx]
    | succ j => simp at hj) (fun u hu => by
    obtain rfl : u = x.ptr := by simpa using hu
    rfl) (by unfold maxLen; omega) (by omega) hbase
  exact ⟨v', w', h1, h2, h3⟩
theorem append_run {o : Oper} {a : Act} {W w' : World} {v u v' : Value} (s x : Operand) (ho : o.op = .call { callee := .builtin .append, args := #[s, x], argTypes := #[58, 58] }) (ht : o.type = 58) (hs : a.eval s = v) (hx : a.eval x = u) (hr : (Builtin.append_ #[58, 58] 58 #[v, u]).run Tryd.prog W = .ok v' w') :
    (execOp a.eval o).run Tryd.prog W = .ok (.value v') w' := by
  unfold execOp
  simp only [ho, resolve, invoke, builtin, Sem.run_bind, Sem.run_pure, Result.andThen_ok, List.map_toArray, List.map_cons, List.map_nil, hs, hx, ht, hr]
theorem load27b {W : World} {q : Nat} {x : S27} {t : TypeId} (h : W.heap[q]? = some (.cells (#[.int .i64 x.f0.f0, .string x.f0.f1, .string x.f0.f2, .string x.f0.f3, .bool x.f0.f4, .int .i64 x.f0.f5, .int .i64 x.f1, .bool x.f2, .int .i64 x.f3, .int .i64 x.f4, .int .i64 x.f5, .int .i64 x.f6]) t (0, 0))) : (loadVar 27 ⟨q, 0, none⟩).run Tryd.prog W = .ok (.agg (#[.int .i64 x.f0.f0, .string x.f0.f1, .string x.f0.f2, .string x.f0.f3, .bool x.f0.f4, .int .i64 x.f0.f5, .int .i64 x.f1, .bool x.f2, .int .i64 x.f3, .int .i64 x.f4, .int .i64 x.f5, .int .i64 x.f6])) W := by
  refine load_blk h (enc27 x) (fun j v hv => ?_) _ Tryd.underlying27 rfl isz27
  unfold enc27 at hv
  match j with
  | 0 | 1 | 2 | 3 | 4 | 5 | 6 | 7 | 8 | 9 | 10 | 11 => exact hv
  | j + 12 => simp at hv
theorem add_push {w w4 w6 w7 : World} {base q c n g a p L : Nat} {A : Option Addr} {ps : List Pl} {es : List En} {x : S27} {now : Int} {v1 : Value} (hp : ∀ W, Below w.heap.size w W → SadP W base q (.slice A n c) ps es) (hb4 : Below w.heap.size w w4) (hb6 : Below w4.heap.size w4 w6) (hg : w6.grownBy w7 (Value.slice A n c).ownBlock) (hr : w7.ownsRow base 61 1 v1 (ps.length + 1) (ps.map Pl.ptr ++ [(⟨p, g, .slice (some ⟨a, 0, none⟩) L L⟩ : Pl).ptr]))
    (hw : Win.WinAt w4 g a x.f0.f4 0 (List.replicate L false)) (hbp : w7.heap[p]? = some (.cells (#[.int .i64 x.f0.f0, .string x.f0.f1, .string x.f0.f2, .string x.f0.f3, .bool x.f0.f4, .int .i64 x.f0.f5, .int .i64 x.f1, .bool x.f2, .int .i64 x.f3, .int .i64 x.f4, .int .i64 x.f5, .int .i64 x.f6, .int .i64 now, .int .i64 0, .int .u64 0, .pointer (some ⟨g, 0, none⟩)]) 71 (0, 0))) (hq : w7.heap[q]? = some (.cells #[.slice A n c] 60 (0, 0))) (hpn : w4.heap.size = p) (hga : w.heap.size ≤ g ∧ w.heap.size ≤ a ∧ g ≠ q ∧ a ≠ q) (hL : x.f0.f5 = (L : Int)) :
    SadP (w7.setCell ⟨q, 0, none⟩ v1) base q v1 (ps ++ [⟨p, g, .slice (some ⟨a, 0, none⟩) L L⟩]) (es ++ [newE x now]) ∧ Turn TP base w (w7.setCell ⟨q, 0, none⟩ v1) := by
  have h0 := hp w (Below.refl _ _)
  have h6 := hp w6 (hb4.trans (hb6.mono hb4.size))
  have hbase := h0.base_le
  have hs4 := hb4.size
  have hs6 := hb6.size
  have hs7 := hg.size
  have far : ∀ k, k ≠ q → (w7.setCell ⟨q, 0, none⟩ v1).heap[k]? = w7.heap[k]? := fun k hk => Below.heap_setCell w7 _ _ k hk
  have hsz : (w7.setCell ⟨q, 0, none⟩ v1).heap.size = w7.heap.size := by simp [World.setCell]
  have hrow : ∀ k, (Value.slice A n c).ownBlock = some k → k < w.heap.size := fun k hk => own_lt h0.row k hk
  have hqlt := blk_lt h0.blk
  have keep : ∀ k, k < w4.heap.size → w.heap.size ≤ k → k ≠ q → (w7.setCell ⟨q, 0, none⟩ v1).heap[k]? = w4.heap[k]? := fun k h1 h2 h3 =>
    (far k h3).trans ((hg.block k (by omega) (fun e => by have := hrow k e.symm; omega)).trans (hb6.block k h1))
  have hgl := blk_lt hw.hs
  have hal := blk_lt hw.ha
  have hws : (List.replicate L false).length = L := List.length_replicate
  refine Tab.push h0 TP_ok WnPg_ok ⟨p, g, .slice (some ⟨a, 0, none⟩) L L⟩ (newE x now) (blk_put hq 0 v1 rfl) (own_setCell hr (own_ne hr hq (by decide)) v1) ⟨(far p (by omega)).trans hbp, ⟨a, ?_, ?_⟩, by show base ≤ p; omega, by show base ≤ g; omega, fun k hk => by obtain rfl : a = k := Option.some.inj hk; omega⟩ (by show w.heap.size ≤ p; omega) hga.1 (fun k hk => by obtain rfl : a = k := Option.some.inj hk; exact hga.2.1)
    (hg.os.trans (hb6.os.trans hb4.os)) (hg.tape.trans (hb6.tape.trans hb4.tape)) (hg.output.trans (hb6.output.trans hb4.output)) (by rw [hsz]; omega) (fun k h1 h2 h3 => (far k h2).trans ((hg.block k (by omega) (fun e => h3 e.symm)).trans ((hb6.block k (by omega)).trans (hb4.block k h1))))
  · show Value.slice (some ⟨a, 0, none⟩) L L = .slice (some ⟨a, 0, none⟩) (List.replicate x.f0.f5.toNat false).length (List.replicate x.f0.f5.toNat false).length
    rw [hL, Int.toNat_natCast, hws]
  · show Win.WinAt _ g a x.f0.f4 0 (List.replicate x.f0.f5.toNat false)
    rw [hL, Int.toNat_natCast]
    exact ⟨(keep g hgl hga.1 hga.2.2.1).trans hw.hs, (keep a hal hga.2.1 hga.2.2.2).trans hw.ha, hw.ne⟩
set_option maxHeartbeats 3200000 in
set_option maxRecDepth 100000 in
theorem add_ok {w : World} {base q c : Nat} {A : Option Addr} {ps : List Pl} {es : List En} (hp : SadP w base q (.slice A es.length c) ps es) (hl : es.length < 32) (now : Int) (x : S27) (hm : mayL x = true) (hn : 0 ≤ now) (hf : ∀ W, Below w.heap.size w W → Calls Tryd.prog 23 #[.pointer (some ⟨q, 0, none⟩), .int .i64 x.f0.f0, .bool x.f2] W (FindNo 6 W)) :
    Calls Tryd.prog 10 #[.pointer (some ⟨q, 0, none⟩), .int .i64 now, .agg (#[.int .i64 x.f0.f0, .string x.f0.f1, .string x.f0.f2, .string x.f0.f3, .bool x.f0.f4, .int .i64 x.f0.f5, .int .i64 x.f1, .bool x.f2, .int .i64 x.f3, .int .i64 x.f4, .int .i64 x.f5, .int .i64 x.f6])] w (PgQ base q (es ++ [newE x now]) (.int .i64 0) w) := by
  have FW := Aside0.mk hf
  have HP := Aside0.mk fun (W : World) (hb : Below w.heap.size w W) => hp.below hb
  have HQ := Aside0.mk fun (W : World) (hb : Below w.heap.size w W) => (show W.cell? ⟨q, 0, none⟩ = some (.slice A es.length c) from (blk_cell (hp.below hb).blk 0).trans rfl)
  have HPL := Aside0.mk (show ps.length ≤ 1000 from by rw [hp.len]; omega)
  have hge : decide ((32 : Int) ≤ (es.length : Int)) = false := decide_eq_false (by omega)
  have hgeN : decide (32 ≤ es.length) = false := decide_eq_false (by omega)
  have CK := Aside0.mk (check_walk x.f0)
  have hpp : mayP x.f0 = true := by simp only [mayL, Bool.and_eq_true] at hm; exact hm.1.1.1.1.1
  simp only [if_pos hpp] at CK
  have hmin : ∀ W, (Builtin.min_ #[3, 3, 3, 3, 3, 3] 3 #[.int .i64 x.f1, .int .i64 x.f3, .int .i64 x.f4, .int .i64 x.f5, .int .i64 x.f6, .int .i64 now]).run Tryd.prog W = .ok (.int .i64 (m2 (m2 (m2 (m2 (m2 x.f1 x.f3) x.f4) x.f5) x.f6) now)) W := fun W => run_min6 W _ _ _ _ _ _ _ _
  have hneg := min_pos hm hn
  obtain ⟨m, hmm⟩ : ∃ m, m2 (m2 (m2 (m2 (m2 x.f1 x.f3) x.f4) x.f5) x.f6) now = m := ⟨_, rfl⟩
  rw [hmm] at hmin hneg
  have hwin : 64 ≤ x.f0.f5 ∧ x.f0.f5 ≤ 1024 := by simp only [mayP, Bool.and_eq_true, decide_eq_true_eq] at hpp; omega
  obtain ⟨L, hL⟩ : ∃ L : Nat, x.f0.f5 = (L : Int) := ⟨x.f0.f5.toNat, by omega⟩
  have NW := Aside0.mk fun W => Win.new_ok L (by omega) (by omega) x.f0.f4 W
  have HL := Aside0.mk hL
  obtain ⟨n, hn'⟩ : ∃ n, es.length = n := ⟨_, rfl⟩
  have HN := Aside0.mk hn'
  rw [hn'] at HQ hge hgeN HP
  have HBL := Aside0.mk hp.base_le
  clear hf hm hn hpp hmm hl hp hn' hwin hL
  go_enter Tryd.func10, Tryd.ntmps10
  go_wp2_with (first | ((with_reducible refine gate_dst (N := 5) rfl ?_); refine box_event ?hg (N := 5) ?hd (cs := #[.int .i64 x.f0.f0, .string x.f0.f1, .string x.f0.f2, .string x.f0.f3, .bool x.f0.f4, .int .i64 x.f0.f5, .int .i64 x.f1, .bool x.f2, .int .i64 x.f3, .int .i64 x.f4, .int .i64 x.f5, .int .i64 x.f6]) (t := 27) ?hr ?_; (case hd => rfl); (case hg => rfl); (case hr => first | (go_simp; done) | (go_simp; rfl)); intro q5 hq w1 hbox hb; have BKq5 := Aside0.mk hbox; have HQq5 := Aside0.mk (show w.heap.size ≤ q5 from by rw [hq]; exact Nat.le_refl _); have HB1 := Aside0.mk hb; clear hbox hb hq; have y0 : w1.cell? ⟨q5, 0, none⟩ = some (.int .i64 x.f0.f0) := (blk_cell BKq5.out 0).trans rfl; have y7 : w1.cell? ⟨q5, 7, none⟩ = some (.bool x.f2) := (blk_cell BKq5.out 7).trans rfl))
  refine (FW.out w1 HB1.out).mono ?_
  rintro e w2 ⟨⟨v, rfl, k, s, rfl, _⟩, hb⟩
  have HB2 := Aside0.mk (HB1.out.trans (hb.mono HB1.out.size))
  have BKq5 := Aside0.mk (blk_below BKq5.out hb)
  have LD := Aside0.mk (load25b BKq5.out)
  clear hb y0 y7
  go_wp2_with (first | ((with_reducible refine gate_dst (N := 26) rfl ?_); refine Kd.event_run (v := .agg (#[.int .i64 x.f0.f0, .string x.f0.f1, .string x.f0.f2, .string x.f0.f3, .bool x.f0.f4, .int .i64 x.f0.f5])) (w1 := w2) ?hg (load_runA 25 (.tmp 25) ⟨q5, 0, none⟩ (#[.int .i64 x.f0.f0, .string x.f0.f1, .string x.f0.f2, .string x.f0.f3, .bool x.f0.f4, .int .i64 x.f0.f5]) ?ho ?hx LD.out) ?_; (case hg => rfl); (case ho => rfl); (case hx => rfl)))
  refine (CK.out w2).mono ?_
  rintro e w3 ⟨rfl, hb⟩
  have HB3 := Aside0.mk (HB2.out.trans (hb.mono HB2.out.size))
  have BKq5 := Aside0.mk (blk_below BKq5.out hb)
  have y0 : w3.cell? ⟨q5, 0, none⟩ = some (.int .i64 x.f0.f0) := (blk_cell BKq5.out 0).trans rfl
  have y4 : w3.cell? ⟨q5, 4, none⟩ = some (.bool x.f0.f4) := (blk_cell BKq5.out 4).trans rfl
  have y6 : w3.cell? ⟨q5, 6, none⟩ = some (.int .i64 x.f1) := (blk_cell BKq5.out 6).trans rfl
  have y7 : w3.cell? ⟨q5, 7, none⟩ = some (.bool x.f2) := (blk_cell BKq5.out 7).trans rfl
  have y8 : w3.cell? ⟨q5, 8, none⟩ = some (.int .i64 x.f3) := (blk_cell BKq5.out 8).trans rfl
  have y9 : w3.cell? ⟨q5, 9, none⟩ = some (.int .i64 x.f4) := (blk_cell BKq5.out 9).trans rfl
  have y10 : w3.cell? ⟨q5, 10, none⟩ = some (.int .i64 x.f5) := (blk_cell BKq5.out 10).trans rfl
  have y11 : w3.cell? ⟨q5, 11, none⟩ = some (.int .i64 x.f6) := (blk_cell BKq5.out 11).trans rfl
  have y5 : w3.cell? ⟨q5, 5, none⟩ = some (.int .i64 (L : Int)) := by rw [← HL.out]; exact (blk_cell BKq5.out 5).trans rfl
  clear hb
  have cq := HQ.out w3 HB3.out
  go_wp2_with (fail)
  refine (NW.out w3).mono ?_
  rintro e w4 ⟨rfl, hwa, hb, hsz⟩
  have HB4 := Aside0.mk (HB3.out.trans (hb.mono HB3.out.size))
  have BKq5 := Aside0.mk (blk_below BKq5.out hb)
  have BQ4 := Aside0.mk (show w4.heap[q]? = some (.cells #[.slice A n c] 60 (0, 0)) from (HP.out w4 HB4.out).blk)
  have HWA := Aside0.mk hwa
  have HW3 := Aside0.mk hb
  obtain ⟨g, hg⟩ : ∃ g, w3.heap.size + 1 = g := ⟨_, rfl⟩
  obtain ⟨a, ha⟩ : ∃ a, w3.heap.size = a := ⟨_, rfl⟩
  have HGA := Aside0.mk (show w.heap.size ≤ g ∧ w.heap.size ≤ a ∧ g ≠ q ∧ a ≠ q from by have h1 := HB3.out.size; have h2 := blk_lt (HP.out w (Below.refl _ _)).blk; omega)
  rw [hg, ha] at HWA
  rw [hg]
  clear hb hsz hwa hg ha cq y5 y4 y0 y6 y8 y9 y10 y11 y7
  go_wp2_with (fail)
  refine start_ (n := 15) (S := fun W => W.heap[q]? = w4.heap[q]? ∧ W.heap[q5]? = w4.heap[q5]?) (ds := [14]) #[false, false, false, false, false, false, false, false, false, false, false, false, false, false, false] (by kernel_rfl) rfl rfl ⟨rfl, rfl⟩ (fun hHeld => ?_)
  refine pure_ (i := 0) (N := some 67) (v := ?_) (a' := ?_) #[true, false, false, false, false, false, false, false, false, false, false, false, false, false, false] rfl rfl (by kernel_rfl) (fun _ _ _ h => h) (Or.inl ⟨by rfl, ?_⟩) ?_ ?_
  rotate_left
  · intro w'
    go_simp
    with_reducible rfl
  rotate_left
  · simp only [Act.put, List.setIfInBounds_toArray, List.set_cons_zero, List.set_cons_succ]
    rfl
  refine pure_ (i := 1) (N := some 68) (v := ?_) (a' := ?_) #[true, true, false, false, false, false, false, false, false, false, false, false, false, false, false] rfl rfl (by kernel_rfl) (fun _ _ _ h => h) (Or.inl ⟨by rfl, ?_⟩) ?_ ?_
  rotate_left
  · intro w'
    go_simp
    with_reducible rfl
  rotate_left
  · simp only [Act.put, List.setIfInBounds_toArray, List.set_cons_zero, List.set_cons_succ]
    rfl
  refine pure_ (i := 2) (N := some 69) (v := ?_) (a' := ?_) #[true, true, true, false, false, false, false, false, false, false, false, false, false, false, false] rfl rfl (by kernel_rfl) (fun _ _ _ h => h) (Or.inl ⟨by rfl, ?_⟩) ?_ ?_
  rotate_left
  · intro w'
    go_simp
    with_reducible rfl
  rotate_left
  · simp only [Act.put, List.setIfInBounds_toArray, List.set_cons_zero, List.set_cons_succ]
    rfl
  refine pure_ (i := 3) (N := some 70) (v := ?_) (a' := ?_) #[true, true, true, true, false, false, false, false, false, false, false, false, false, false, false] rfl rfl (by kernel_rfl) (fun _ _ _ h => h) (Or.inl ⟨by rfl, ?_⟩) ?_ ?_
  rotate_left
  · intro w'
    go_simp
    with_reducible rfl
  rotate_left
  · simp only [Act.put, List.setIfInBounds_toArray, List.set_cons_zero, List.set_cons_succ]
    rfl
  refine take_ (i := 4) (N := some 71) (v := ?_) (a' := ?_) #[true, true, true, true, true, false, false, false, false, false, false, false, false, false, false] rfl rfl (by kernel_rfl) (fun _ _ _ h => h) (Or.inl ⟨by rfl, ?_⟩) hHeld ?_ ?_
  rotate_left
  · intro w' s0
    have cq : w'.cell? ⟨q, 0, none⟩ = some (.slice A n c) := (blk_cell (s0.1.trans BQ4.out) 0).trans rfl
    go_simp
    with_reducible rfl
  rotate_left
  · simp only [Act.put, List.setIfInBounds_toArray, List.set_cons_zero, List.set_cons_succ]
    rfl
  refine take_ (i := 5) (N := some 72) (v := ?_) (a' := ?_) #[true, true, true, true, true, true, false, false, false, false, false, false, false, false, false] rfl rfl (by kernel_rfl) (fun _ _ _ h => h) (Or.inl ⟨by rfl, ?_⟩) hHeld ?_ ?_
  rotate_left
  · intro w' s0
    have cq : w'.cell? ⟨q, 0, none⟩ = some (.slice A n c) := (blk_cell (s0.1.trans BQ4.out) 0).trans rfl
    refine load_runA 27 (.tmp 5) ⟨q5, 0, none⟩ (#[.int .i64 x.f0.f0, .string x.f0.f1, .string x.f0.f2, .string x.f0.f3, .bool x.f0.f4, .int .i64 x.f0.f5, .int .i64 x.f1, .bool x.f2, .int .i64 x.f3, .int .i64 x.f4, .int .i64 x.f5, .int .i64 x.f6]) ?_ ?_ (load27b (s0.2.trans BKq5.out))
    · rfl
    · rfl
  rotate_left
  · simp only [Act.put, List.setIfInBounds_toArray, List.set_cons_zero, List.set_cons_succ]
    rfl
  refine pure_ (i := 6) (N := some 73) (v := ?_) (a' := ?_) #[true, true, true, true, true, true, true, false, false, false, false, false, false, false, false] rfl rfl (by kernel_rfl) (fun _ _ _ h => h) (Or.inl ⟨by rfl, ?_⟩) ?_ ?_
  rotate_left
  · intro w'
    go_simp
    with_reducible rfl
  rotate_left
  · simp only [Act.put, List.setIfInBounds_toArray, List.set_cons_zero, List.set_cons_succ]
    rfl
  refine pure_ (i := 7) (N := some 74) (v := ?_) (a' := ?_) #[true, true, true, true, true, true, true, true, false, false, false, false, false, false, false] rfl rfl (by kernel_rfl) (fun _ _ _ h => h) (Or.inl ⟨by rfl, ?_⟩) ?_ ?_
  rotate_left
  · intro w'
    go_simp
    with_reducible rfl
  rotate_left
  · simp only [Act.put, List.setIfInBounds_toArray, List.set_cons_zero, List.set_cons_succ]
    rfl
  refine pure_ (i := 8) (N := some 75) (v := ?_) (a' := ?_) #[true, true, true, true, true, true, true, true, true, false, false, false, false, false, false] rfl rfl (by kernel_rfl) (fun _ _ _ h => h) (Or.inl ⟨by rfl, ?_⟩) ?_ ?_
  rotate_left
  · intro w'
    go_simp
    with_reducible rfl
  rotate_left
  · simp only [Act.put, List.setIfInBounds_toArray, List.set_cons_zero, List.set_cons_succ]
    rfl
  refine one_ (i := 9) (N := some 76) #[true, true, true, true, true, true, true, true, true, true, false, false, false, false, false] rfl rfl (by kernel_rfl) (by decide) (fun K hK => ?_)
  refine value_ (v := .pointer (some ⟨w4.heap.size, 0, none⟩)) (w1 := w4.drew.alloc (.cells (#[.int .i64 x.f0.f0, .string x.f0.f1, .string x.f0.f2, .string x.f0.f3, .bool x.f0.f4, .int .i64 x.f0.f5, .int .i64 x.f1, .bool x.f2, .int .i64 x.f3, .int .i64 x.f4, .int .i64 x.f5, .int .i64 x.f6, .int .i64 now, .int .i64 0, .int .u64 0, .pointer (some ⟨g, 0, none⟩)]) 71 (0, 0))) (by rfl) rfl ?_ ?_
  · first | (go_simp; done) | (go_simp; rfl)
  have BP := Aside0.mk (show (w4.drew.alloc (.cells (#[.int .i64 x.f0.f0, .string x.f0.f1, .string x.f0.f2, .string x.f0.f3, .bool x.f0.f4, .int .i64 x.f0.f5, .int .i64 x.f1, .bool x.f2, .int .i64 x.f3, .int .i64 x.f4, .int .i64 x.f5, .int .i64 x.f6, .int .i64 now, .int .i64 0, .int .u64 0, .pointer (some ⟨g, 0, none⟩)]) 71 (0, 0))).heap[w4.heap.size]? = some (.cells (#[.int .i64 x.f0.f0, .string x.f0.f1, .string x.f0.f2, .string x.f0.f3, .bool x.f0.f4, .int .i64 x.f0.f5, .int .i64 x.f1, .bool x.f2, .int .i64 x.f3, .int .i64 x.f4, .int .i64 x.f5, .int .i64 x.f6, .int .i64 now, .int .i64 0, .int .u64 0, .pointer (some ⟨g, 0, none⟩)]) 71 (0, 0)) from blk_new w4.drew _)
  refine hK.out _ _ ⟨(blk_alloc (blk_drew BQ4.out) _).trans BQ4.out.symm, (blk_alloc (blk_drew BKq5.out) _).trans BKq5.out.symm⟩ (fun hHeld => ?_)
  have HB5 := Aside0.mk (show Below w4.heap.size w4 (w4.drew.alloc (.cells (#[.int .i64 x.f0.f0, .string x.f0.f1, .string x.f0.f2, .string x.f0.f3, .bool x.f0.f4, .int .i64 x.f0.f5, .int .i64 x.f1, .bool x.f2, .int .i64 x.f3, .int .i64 x.f4, .int .i64 x.f5, .int .i64 x.f6, .int .i64 now, .int .i64 0, .int .u64 0, .pointer (some ⟨g, 0, none⟩)]) 71 (0, 0))) from below_alloc (below_drew (Below.refl _ _)) _)
  obtain ⟨w5, hw5⟩ : ∃ W, w4.drew.alloc (.cells (#[.int .i64 x.f0.f0, .string x.f0.f1, .string x.f0.f2, .string x.f0.f3, .bool x.f0.f4, .int .i64 x.f0.f5, .int .i64 x.f1, .bool x.f2, .int .i64 x.f3, .int .i64 x.f4, .int .i64 x.f5, .int .i64 x.f6, .int .i64 now, .int .i64 0, .int .u64 0, .pointer (some ⟨g, 0, none⟩)]) 71 (0, 0)) = W := ⟨_, rfl⟩
  rw [hw5] at BP HB5 hHeld ⊢
  obtain ⟨p, hpn⟩ : ∃ p, w4.heap.size = p := ⟨_, rfl⟩
  have HPN := Aside0.mk hpn
  rw [hpn] at BP ⊢
  clear hK K hw5 hpn
  refine norm_ (a' := ?_) ?_ ?_
  rotate_left
  · show Act.put _ (some 76) _ = _
    simp only [Act.put, List.setIfInBounds_toArray, List.set_cons_zero, List.set_cons_succ]
    rfl
  refine one_ (i := 10) (N := some 77) #[true, true, true, true, true, true, true, true, true, true, true, false, false, false, false] rfl rfl (by kernel_rfl) (by decide) (fun K hK => ?_)
  refine value_ (v := .slice (some ⟨w5.heap.size, 0, none⟩) 1 1) (w1 := w5.alloc (.cells #[.pointer (some ⟨p, 0, none⟩)] 61 (0, 0))) (by rfl) rfl ?_ ?_
  · first | (go_simp; done) | (go_simp; rfl)
  have BR := Aside0.mk (show (w5.alloc (.cells #[.pointer (some ⟨p, 0, none⟩)] 61 (0, 0))).heap[w5.heap.size]? = some (.cells #[.pointer (some ⟨p, 0, none⟩)] 61 (0, 0)) from blk_new w5 _)
  have BP := Aside0.mk (blk_alloc BP.out (.cells #[.pointer (some ⟨p, 0, none⟩)] 61 (0, 0)))
  have HB6 := Aside0.mk (HB5.out.trans (((Below.refl _ _).alloc HB5.out.size (.cells #[.pointer (some ⟨p, 0, none⟩)] 61 (0, 0)))))
  refine hK.out _ _ ⟨(HB6.out.block _ (blk_lt BQ4.out)), (HB6.out.block _ (blk_lt BKq5.out))⟩ (fun hHeld => ?_)
  obtain ⟨w6, hw6⟩ : ∃ W, w5.alloc (.cells #[.pointer (some ⟨p, 0, none⟩)] 61 (0, 0)) = W := ⟨_, rfl⟩
  obtain ⟨r, hr⟩ : ∃ r, w5.heap.size = r := ⟨_, rfl⟩
  rw [hw6] at BP BR HB6 hHeld ⊢
  rw [hr] at BR ⊢
  clear hK K hw6 hr
  refine norm_ (a' := ?_) ?_ ?_
  rotate_left
  · show Act.put _ (some 77) _ = _
    simp only [Act.put, List.setIfInBounds_toArray, List.set_cons_zero, List.set_cons_succ]
    rfl
  refine one_ (i := 11) (N := some 78) #[true, true, true, true, true, true, true, true, true, true, true, true, false, false, false] rfl rfl (by kernel_rfl) (by decide) (fun K hK => ?_)
  have HB6w := Aside0.mk (HB4.out.trans (HB6.out.mono HB4.out.size))
  have HP6 := Aside0.mk (HP.out w6 HB6w.out)
  obtain ⟨v1, w7, hrun, hown, hgr⟩ := run_append_ptr ⟨p, g, .slice (some ⟨a, 0, none⟩) L L⟩ rfl HP6.out.row ⟨r, 0, none⟩ ((blk_cell BR.out 0).trans rfl) HPL.out (Nat.le_trans HBL.out HB6w.out.size)
  obtain ⟨A1, c1, rfl⟩ := own_slice hown
  have HROW := Aside0.mk hown
  have HGR := Aside0.mk hgr
  have hneq := own_ne HP6.out.row HP6.out.blk (by decide)
  have BQ7 := Aside0.mk (show w7.heap[q]? = some (.cells #[.slice A n c] 60 (0, 0)) from blk_grown HP6.out.blk hgr hneq)
  have BP7 := Aside0.mk (blk_grown BP.out hgr (own_ne HP6.out.row BP.out (by decide)))
  have BK7 := Aside0.mk (blk_grown (blk_below BKq5.out HB6.out) hgr (own_ne HP6.out.row (blk_below BKq5.out HB6.out) (by decide)))
  refine value_ (v := .slice A1 (ps.length + 1) c1) (w1 := w7) (by rfl) rfl ?_ ?_
  · exact append_run (.tmp 71) (.tmp 77) rfl rfl rfl rfl hrun
  clear hrun hown hgr hneq
  refine hK.out _ _ ⟨BQ7.out.trans BQ4.out.symm, BK7.out.trans BKq5.out.symm⟩ (fun hHeld => ?_)
  clear hK K
  refine norm_ (a' := ?_) ?_ ?_
  rotate_left
  · show Act.put _ (some 78) _ = _
    simp only [Act.put, List.setIfInBounds_toArray, List.set_cons_zero, List.set_cons_succ]
    rfl
  refine pure_ (i := 12) (N := some 79) (v := ?_) (a' := ?_) #[true, true, true, true, true, true, true, true, true, true, true, true, true, false, false] rfl rfl (by kernel_rfl) (fun _ _ _ h => h) (Or.inl ⟨by rfl, ?_⟩) ?_ ?_
  rotate_left
  · intro w'
    go_simp
    with_reducible rfl
  rotate_left
  · simp only [Act.put, List.setIfInBounds_toArray, List.set_cons_zero, List.set_cons_succ]
    rfl
  refine pure_ (i := 13) (N := some 80) (v := ?_) (a' := ?_) #[true, true, true, true, true, true, true, true, true, true, true, true, true, true, false] rfl rfl (by kernel_rfl) (fun _ _ _ h => h) (Or.inl ⟨by rfl, ?_⟩) ?_ ?_
  rotate_left
  · intro w'
    go_simp
    with_reducible rfl
  rotate_left
  · simp only [Act.put, List.setIfInBounds_toArray, List.set_cons_zero, List.set_cons_succ]
    rfl
  refine last_ (i := 14) (N := none) #[true, true, true, true, true, true, true, true, true, true, true, true, true, true, true] rfl rfl (by kernel_rfl) (by decide) (fun K hK => ?_)
  have cq7 : w7.cell? ⟨q, 0, none⟩ = some (.slice A n c) := (blk_cell BQ7.out 0).trans rfl
  have fq7 : w7.frozen? ⟨q, 0, none⟩ = false := blk_frozen BQ7.out 0
  refine skip_ (w1 := w7.setCell ⟨q, 0, none⟩ (.slice A1 (ps.length + 1) c1)) (by rfl) rfl ?_ ?_
  · first | (go_simp; done) | (go_simp; rfl)
  refine hK.out _ _ ?_
  have HPUSH := Aside0.mk (add_push HP.out HB4.out HB6.out HGR.out HROW.out HWA.out BP7.out BQ7.out HPN.out HGA.out HL.out)
  obtain ⟨w9, hw9⟩ : ∃ W, w7.setCell ⟨q, 0, none⟩ (.slice A1 (ps.length + 1) c1) = W := ⟨_, rfl⟩
  rw [hw9] at HPUSH ⊢
  have H9 := Aside0.mk HPUSH.out.1
  have T9 := Aside0.mk HPUSH.out.2
  clear hK K hw9 cq7 fq7
  refine done_ (by kernel_rfl) ?_
  (try simp only [Exit.inBlock, Exit.then])
  go_wp2_with (fail)
  go_ret
  exact ⟨rfl, ⟨_, _, H9.out⟩, T9.out⟩
theorem add_call {w : World} {base q : Nat} {es : List En} (h : SadX w base q es) (hl : es.length ≤ 1000) (now : Int) (x : S27) :
    Calls Tryd.prog 10 #[.pointer (some ⟨q, 0, none⟩), .int .i64 now, .agg (#[.int .i64 x.f0.f0, .string x.f0.f1, .string x.f0.f2, .string x.f0.f3, .bool x.f0.f4, .int .i64 x.f0.f5, .int .i64 x.f1, .bool x.f2, .int .i64 x.f3, .int .i64 x.f4, .int .i64 x.f5, .int .i64 x.f6])] w (PgQ base q (addF es now x).1 (.int .i64 (addF es now x).2) w) := by
  obtain ⟨v, ps, hp⟩ := h
  unfold addF
  by_cases hm : mayL x = true ∧ 0 ≤ now
  · rw [if_pos hm]
    by_cases hf : findI es x.f0.f0 x.f2 < es.length
    · rw [if_pos hf]
      exact (add_there now x hm.1 hm.2 fun W hb => find_yes (hp.below hb) hl _ _ hf).mono fun e w' ⟨he, hb⟩ => ⟨he, ⟨_, _, hp.below hb⟩, .of_below hb⟩
    · rw [if_neg hf]
      obtain ⟨A, c, rfl, _⟩ := hp.slice
      by_cases h32 : 32 ≤ es.length
      · rw [if_pos h32]
        exact (add_full now x hm.1 hm.2 (fun W hb => (blk_cell (hp.below hb).blk 0).trans rfl) h32 fun W hb => find_no (hp.below hb) hl _ _ hf).mono fun e w' ⟨he, hb⟩ => ⟨he, ⟨_, _, hp.below hb⟩, .of_below hb⟩
      · rw [if_neg h32]
        exact add_ok hp (by omega) now x hm.1 hm.2 fun W hb => find_no (hp.below hb) hl _ _ hf
  · rw [if_neg hm]
    exact (add_arg now x hm fun W hb => find_any (hp.below hb) hl _ _).mono fun e w' ⟨he, hb⟩ => ⟨he, ⟨_, _, hp.below hb⟩, .of_below hb⟩
end Go.Proofs.YtkmnpnbfeiobiaaDoor.Sd

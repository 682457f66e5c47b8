/- The document's associations: Send. The document's associations: Add. The document's associations: Remove. (Texts of this session, put together by wip/tools/merge.py.) -/
import Derived.Test.YtkmnpnbfeiobiaaDoorSdX3
import Derived.Test.YtkmnpnbfeiobiaaDoorSdX2
namespace Go.Proofs.YtkmnpnbfeiobiaaDoor.Sd
open Go.RowKit Go.Proofs.YtkmnpnbfeiobiaaDoorW.PrintWords Go.Proofs.YtkmnpnbfeiobiaaDoorW.PrintLast Go.Proofs.YtkmnpnbfeiobiaaDoorW.PrintMore Go.Proofs.YtkmnpnbfeiobiaaDoor.QSa
open Go.Proofs.YtkmnpnbfeiobiaaDoor
set_option linter.unusedVariables false
set_option linter.unusedSimpArgs false
theorem RefT.setRow {w : World} {base q g : Nat} {v : Value} {ps : List Pl} {es : List En} {old : Array Value} {t : TypeId} (h : RefT w base q v ps es) (hg : w.heap[g]? = some (.cells old t (0, 0))) (ht : ¬ TR.has t) (cs : Array Value) : RefT (w.setRow g cs) base q v ps es :=
  Tab.move h (WnRf_ok base) fun k cs' t' _ hc hh => setRow_other _ _ _ _ (fun e => by
    subst e
    rw [hg] at hc
    injection hc with hc
    injection hc with _ e _
    subst e
    exact ht hh)
theorem RefT.drew {w : World} {base q : Nat} {v : Value} {ps : List Pl} {es : List En} (h : RefT w base q v ps es) : RefT w.drew base q v ps es := h.below (below_drew (Below.refl _ _))
set_option maxHeartbeats 1600000 in
set_option maxRecDepth 100000 in
theorem rsend_full {w : World} {q P : Nat} {s : Nat} {wd : Bool} (now spi n : Int) (hn : 0 ≤ n) (hb4 : ∀ W, Below w.heap.size w W → W.cell? ⟨P, 4, none⟩ = some (.bool wd)) (hb14 : ∀ W, Below w.heap.size w W → W.cell? ⟨P, 14, none⟩ = some (.int .u64 (s : Int))) (hfull : ((s : Int) == 18446744073709551615) = true ∨ ((s : Int) == 18446744073709551615) = false ∧ wd = false ∧ ((s : Int) == 4294967295) = true) (FY : Aside0 (∀ W, Below w.heap.size w W → Calls Tryd.prog 48 #[.pointer (some ⟨q, 0, none⟩), .int .i64 spi, .bool true] W fun e w' => e = .returned (.pointer (some ⟨P, 0, none⟩)) ∧ w' = W))
    {av : Int} (hav : av ≠ 2) (AG : Aside0 (∀ W, Below w.heap.size w W → Calls Tryd.prog 49 #[.pointer (some ⟨P, 0, none⟩), .int .i64 now] W fun e' w' => e' = .returned (.int .i64 av) ∧ Below W.heap.size W w')) :
    Calls Tryd.prog 38 #[.pointer (some ⟨q, 0, none⟩), .int .i64 now, .int .i64 spi, .int .i64 n] w fun e w' => e = .returned (.tuple #[v25 z25, .int .u64 0, .int .i64 121]) ∧ Below w.heap.size w w' := by
  have hav1 : (av == 2) = false := by rw [beq_eq_false_iff_ne]; exact hav
  clear hav
  have H4 := Aside0.mk hb4
  have H14 := Aside0.mk hb14
  have hn1 : decide (n < 0) = false := decide_eq_false (by omega)
  clear hb4 hb14 hn
  rcases hfull with h1 | ⟨h1, rfl, h2⟩
  · go_enter Tryd.func38, Tryd.ntmps38
    go_wp2_with (first | ((with_reducible refine gate_dst (N := 8) rfl ?_); refine box_event ?hg (N := 8) ?hd (cs := #[.int .i64 0, .string ByteArray.empty, .string ByteArray.empty, .string ByteArray.empty, .bool false, .int .i64 0]) (t := 25) ?hr ?_; (case hd => rfl); (case hg => rfl); (case hr => first | (go_simp; done) | (go_simp; rfl)); intro q8 hq w1 hbox hb; have BKq8 := Aside0.mk hbox; have HQq8 := Aside0.mk (show w.heap.size ≤ q8 from by rw [hq]; exact Nat.le_refl _); have HB1 := Aside0.mk hb; clear hbox hb hq))
    refine (FY.out w1 HB1.out).mono ?_
    rintro e wf ⟨rfl, rfl⟩
    go_wp2_with (fail)
    refine (AG.out wf HB1.out).mono ?_
    rintro e w2 ⟨rfl, hb⟩
    have HB2 := Aside0.mk (HB1.out.trans (hb.mono HB1.out.size))
    have BKq8 := Aside0.mk (blk_below BKq8.out hb)
    have k4 := H4.out w2 HB2.out
    have k14 := H14.out w2 HB2.out
    clear hb
    go_wp2_with (first | ((with_reducible refine gate_store (t := 25) (p := 8) rfl ?_); refine store_rowE ?hg 25 (.tmp 8) (.tmp 47) ?ho ?hN q8 (#[.int .i64 0, .string ByteArray.empty, .string ByteArray.empty, .string ByteArray.empty, .bool false, .int .i64 0]) ?hx ?hy 25 _ BKq8.out ?hi ?hold ?h1 ?_; (case hg => rfl); (case ho => rfl); (case hN => rfl); (case hx => rfl); (case hy => rfl); (case hi => exact isz25); (case hold => rfl); (case h1 => first | rfl | exact one25 _ | simp [Value.oneCell']); intro w3 hw; have HB3 := Aside0.mk (show Below w.heap.size w w3 from by rw [hw]; exact below_setRow HB2.out HQq8.out _); have BKq8 := Aside0.mk (show w3.heap[q8]? = some (.cells (#[.int .i64 0, .string ByteArray.empty, .string ByteArray.empty, .string ByteArray.empty, .bool false, .int .i64 0]) 25 (0, 0)) from by rw [hw]; exact setRow_heap _ _ _ _ _ _ BKq8.out); clear hw))
    (try simp only [Exit.inBlock, Exit.then])
    refine bodyPost_ret (results_c3 Tryd.results38 _ _ q8 25 _ (0, 0) _ rfl BKq8.out Tryd.underlying25 rfl isz25) rfl ?_
    exact ⟨rfl, HB3.out⟩
  · go_enter Tryd.func38, Tryd.ntmps38
    go_wp2_with (first | ((with_reducible refine gate_dst (N := 8) rfl ?_); refine box_event ?hg (N := 8) ?hd (cs := #[.int .i64 0, .string ByteArray.empty, .string ByteArray.empty, .string ByteArray.empty, .bool false, .int .i64 0]) (t := 25) ?hr ?_; (case hd => rfl); (case hg => rfl); (case hr => first | (go_simp; done) | (go_simp; rfl)); intro q8 hq w1 hbox hb; have BKq8 := Aside0.mk hbox; have HQq8 := Aside0.mk (show w.heap.size ≤ q8 from by rw [hq]; exact Nat.le_refl _); have HB1 := Aside0.mk hb; clear hbox hb hq))
    refine (FY.out w1 HB1.out).mono ?_
    rintro e wf ⟨rfl, rfl⟩
    go_wp2_with (fail)
    refine (AG.out wf HB1.out).mono ?_
    rintro e w2 ⟨rfl, hb⟩
    have HB2 := Aside0.mk (HB1.out.trans (hb.mono HB1.out.size))
    have BKq8 := Aside0.mk (blk_below BKq8.out hb)
    have k4 := H4.out w2 HB2.out
    have k14 := H14.out w2 HB2.out
    clear hb
    go_wp2_with (first | ((with_reducible refine gate_store (t := 25) (p := 8) rfl ?_); refine store_rowE ?hg 25 (.tmp 8) (.tmp 47) ?ho ?hN q8 (#[.int .i64 0, .string ByteArray.empty, .string ByteArray.empty, .string ByteArray.empty, .bool false, .int .i64 0]) ?hx ?hy 25 _ BKq8.out ?hi ?hold ?h1 ?_; (case hg => rfl); (case ho => rfl); (case hN => rfl); (case hx => rfl); (case hy => rfl); (case hi => exact isz25); (case hold => rfl); (case h1 => first | rfl | exact one25 _ | simp [Value.oneCell']); intro w3 hw; have HB3 := Aside0.mk (show Below w.heap.size w w3 from by rw [hw]; exact below_setRow HB2.out HQq8.out _); have BKq8 := Aside0.mk (show w3.heap[q8]? = some (.cells (#[.int .i64 0, .string ByteArray.empty, .string ByteArray.empty, .string ByteArray.empty, .bool false, .int .i64 0]) 25 (0, 0)) from by rw [hw]; exact setRow_heap _ _ _ _ _ _ BKq8.out); clear hw))
    (try simp only [Exit.inBlock, Exit.then])
    refine bodyPost_ret (results_c3 Tryd.results38 _ _ q8 25 _ (0, 0) _ rfl BKq8.out Tryd.underlying25 rfl isz25) rfl ?_
    exact ⟨rfl, HB3.out⟩
set_option maxHeartbeats 1600000 in
set_option maxRecDepth 100000 in
theorem rsend_ok {w : World} {base q P : Nat} {s : Nat} {wd : Bool} {bo bs : Int} {x : S25} {es' : List En} (now spi n : Int) (hn : 0 ≤ n) (hsum : IntKind.i64.wrap (bo + n) = bs) (hb : base ≤ w.heap.size) (hs1 : IntKind.u64.wrap ((s : Int) + 1) = ((s + 1 : Nat) : Int))
    (hc : ∀ W, Below w.heap.size w W → W.cell? ⟨P, 4, none⟩ = some (.bool wd) ∧ W.cell? ⟨P, 14, none⟩ = some (.int .u64 (s : Int)) ∧ W.cell? ⟨P, 13, none⟩ = some (.int .i64 bo) ∧ W.frozen? ⟨P, 13, none⟩ = false ∧ W.frozen? ⟨P, 14, none⟩ = false)
    (htab : ∀ W, Below w.heap.size w W → ∃ v ps, RefT ((W.setCell ⟨P, 14, none⟩ (.int .u64 ((s + 1 : Nat) : Int))).setCell ⟨P, 13, none⟩ (.int .i64 bs)) base q v ps es' ∧ Turn TR base W ((W.setCell ⟨P, 14, none⟩ (.int .u64 ((s + 1 : Nat) : Int))).setCell ⟨P, 13, none⟩ (.int .i64 bs)) ∧ (∀ W', W'.heap[P]? = ((W.setCell ⟨P, 14, none⟩ (.int .u64 ((s + 1 : Nat) : Int))).setCell ⟨P, 13, none⟩ (.int .i64 bs)).heap[P]? → (loadVar 25 ⟨P, 0, none⟩).run Tryd.prog W' = .ok (.agg (enc25 x).toArray) W' ∧ W'.cell? ⟨P, 14, none⟩ = some (.int .u64 ((s + 1 : Nat) : Int))) ∧ ∃ cs, W.heap[P]? = some (.cells cs 82 (0, 0)))
    (h1 : ((s : Int) == 18446744073709551615) = false) (h2 : wd = true ∨ wd = false ∧ ((s : Int) == 4294967295) = false) (FY : Aside0 (∀ W, Below w.heap.size w W → Calls Tryd.prog 48 #[.pointer (some ⟨q, 0, none⟩), .int .i64 spi, .bool true] W fun e w' => e = .returned (.pointer (some ⟨P, 0, none⟩)) ∧ w' = W))
    {av : Int} (hav : av ≠ 2) (AG : Aside0 (∀ W, Below w.heap.size w W → Calls Tryd.prog 49 #[.pointer (some ⟨P, 0, none⟩), .int .i64 now] W fun e' w' => e' = .returned (.int .i64 av) ∧ Below W.heap.size W w')) :
    Calls Tryd.prog 38 #[.pointer (some ⟨q, 0, none⟩), .int .i64 now, .int .i64 spi, .int .i64 n] w (RfQ base q es' (.tuple #[v25 x, .int .u64 ((s + 1 : Nat) : Int), .int .i64 0]) w) := by
  have hav1 : (av == 2) = false := by rw [beq_eq_false_iff_ne]; exact hav
  clear hav
  have HC := Aside0.mk hc
  have HT := Aside0.mk htab
  have hn1 : decide (n < 0) = false := decide_eq_false (by omega)
  obtain ⟨s1, hse⟩ : ∃ k, s + 1 = k := ⟨_, rfl⟩
  rw [hse] at hs1 HT ⊢
  clear hc htab hn hb hse
  rcases h2 with rfl | ⟨rfl, h2⟩
  · go_enter Tryd.func38, Tryd.ntmps38
    go_wp2_with (first | ((with_reducible refine gate_dst (N := 8) rfl ?_); refine box_event ?hg (N := 8) ?hd (cs := #[.int .i64 0, .string ByteArray.empty, .string ByteArray.empty, .string ByteArray.empty, .bool false, .int .i64 0]) (t := 25) ?hr ?_; (case hd => rfl); (case hg => rfl); (case hr => first | (go_simp; done) | (go_simp; rfl)); intro q8 hq w1 hbox hb; have BKq8 := Aside0.mk hbox; have HQq8 := Aside0.mk (show w.heap.size ≤ q8 from by rw [hq]; exact Nat.le_refl _); have HB1 := Aside0.mk hb; clear hbox hb hq))
    refine (FY.out w1 HB1.out).mono ?_
    rintro e wf ⟨rfl, rfl⟩
    go_wp2_with (fail)
    refine (AG.out wf HB1.out).mono ?_
    rintro e w2 ⟨rfl, hb⟩
    have HB2 := Aside0.mk (HB1.out.trans (hb.mono HB1.out.size))
    have BKq8 := Aside0.mk (blk_below BKq8.out hb)
    obtain ⟨k4, k14, k13, f13, f14⟩ := HC.out w2 HB2.out
    have HTT := Aside0.mk (HT.out w2 HB2.out)
    clear hb
    go_wp2_with (fail)
    obtain ⟨v', ps', hS, tS, hLD, cs, hcs⟩ := HTT.out
    have HLD := Aside0.mk hLD
    have HPQ := Aside0.mk (show P ≠ q8 from blk_ne hcs BKq8.out (by decide))
    have HS := Aside0.mk hS
    have TS := Aside0.mk ((Turn.of_below HB2.out).trans tS)
    have BKS := Aside0.mk (show ((w2.setCell ⟨P, 14, none⟩ (.int .u64 (s1 : Int))).setCell ⟨P, 13, none⟩ (.int .i64 bs)).heap[q8]? = some (.cells #[.int .i64 0, .string ByteArray.empty, .string ByteArray.empty, .string ByteArray.empty, .bool false, .int .i64 0] 25 (0, 0)) from blk_far (blk_far BKq8.out (Ne.symm HPQ.out) _) (Ne.symm HPQ.out) _)
    obtain ⟨wS, hwS⟩ : ∃ W, (w2.setCell ⟨P, 14, none⟩ (.int .u64 (s1 : Int))).setCell ⟨P, 13, none⟩ (.int .i64 bs) = W := ⟨_, rfl⟩
    rw [hwS] at HS TS BKS HLD ⊢
    clear hS tS hLD hcs hwS k4 k14 k13 f13 f14 HTT
    refine start_ (n := 12) (S := fun W => W.heap[P]? = wS.heap[P]?) (ds := []) #[false, false, false, false, false, false, false, false, false, false, false, false] (by kernel_rfl) rfl rfl rfl (fun hHeld => ?_)
    refine pure_ (i := 0) (N := some 64) (v := ?_) (a' := ?_) #[true, false, false, false, false, false, false, false, false, false, false, false] rfl rfl (by kernel_rfl) (fun _ _ _ h => h) (Or.inl ⟨by rfl, ?_⟩) ?_ ?_
    rotate_left
    · intro w'
      go_simp
      with_reducible rfl
    rotate_left
    · simp only [Act.put, List.setIfInBounds_toArray, List.set_cons_zero, List.set_cons_succ]
      rfl
    refine pure_ (i := 1) (N := some 65) (v := ?_) (a' := ?_) #[true, true, false, false, false, false, false, false, false, false, false, false] rfl rfl (by kernel_rfl) (fun _ _ _ h => h) (Or.inl ⟨by rfl, ?_⟩) ?_ ?_
    rotate_left
    · intro w'
      go_simp
      with_reducible rfl
    rotate_left
    · simp only [Act.put, List.setIfInBounds_toArray, List.set_cons_zero, List.set_cons_succ]
      rfl
    refine pure_ (i := 2) (N := some 66) (v := ?_) (a' := ?_) #[true, true, true, false, false, false, false, false, false, false, false, false] rfl rfl (by kernel_rfl) (fun _ _ _ h => h) (Or.inl ⟨by rfl, ?_⟩) ?_ ?_
    rotate_left
    · intro w'
      go_simp
      with_reducible rfl
    rotate_left
    · simp only [Act.put, List.setIfInBounds_toArray, List.set_cons_zero, List.set_cons_succ]
      rfl
    refine pure_ (i := 3) (N := some 67) (v := ?_) (a' := ?_) #[true, true, true, true, false, false, false, false, false, false, false, false] rfl rfl (by kernel_rfl) (fun _ _ _ h => h) (Or.inl ⟨by rfl, ?_⟩) ?_ ?_
    rotate_left
    · intro w'
      go_simp
      with_reducible rfl
    rotate_left
    · simp only [Act.put, List.setIfInBounds_toArray, List.set_cons_zero, List.set_cons_succ]
      rfl
    refine take_ (i := 4) (N := some 68) (v := ?_) (a' := ?_) #[true, true, true, true, true, false, false, false, false, false, false, false] rfl rfl (by kernel_rfl) (fun _ _ _ h => h) (Or.inl ⟨by rfl, ?_⟩) hHeld ?_ ?_
    rotate_left
    · intro w' s0
      obtain ⟨LD, k14⟩ := HLD.out _ s0
      refine load_runA 25 (.tmp 67) ⟨P, 0, none⟩ (#[.int .i64 x.f0, .string x.f1, .string x.f2, .string x.f3, .bool x.f4, .int .i64 x.f5]) ?_ ?_ LD
      · rfl
      · rfl
    rotate_left
    · simp only [Act.put, List.setIfInBounds_toArray, List.set_cons_zero, List.set_cons_succ]
      rfl
    refine pure_ (i := 5) (N := some 69) (v := ?_) (a' := ?_) #[true, true, true, true, true, true, false, false, false, false, false, false] rfl rfl (by kernel_rfl) (fun _ _ _ h => h) (Or.inl ⟨by rfl, ?_⟩) ?_ ?_
    rotate_left
    · intro w'
      go_simp
      with_reducible rfl
    rotate_left
    · simp only [Act.put, List.setIfInBounds_toArray, List.set_cons_zero, List.set_cons_succ]
      rfl
    refine pure_ (i := 6) (N := some 70) (v := ?_) (a' := ?_) #[true, true, true, true, true, true, true, false, false, false, false, false] rfl rfl (by kernel_rfl) (fun _ _ _ h => h) (Or.inl ⟨by rfl, ?_⟩) ?_ ?_
    rotate_left
    · intro w'
      go_simp
      with_reducible rfl
    rotate_left
    · simp only [Act.put, List.setIfInBounds_toArray, List.set_cons_zero, List.set_cons_succ]
      rfl
    refine pure_ (i := 7) (N := some 71) (v := ?_) (a' := ?_) #[true, true, true, true, true, true, true, true, false, false, false, false] rfl rfl (by kernel_rfl) (fun _ _ _ h => h) (Or.inl ⟨by rfl, ?_⟩) ?_ ?_
    rotate_left
    · intro w'
      go_simp
      with_reducible rfl
    rotate_left
    · simp only [Act.put, List.setIfInBounds_toArray, List.set_cons_zero, List.set_cons_succ]
      rfl
    refine take_ (i := 8) (N := some 72) (v := ?_) (a' := ?_) #[true, true, true, true, true, true, true, true, true, false, false, false] rfl rfl (by kernel_rfl) (fun _ _ _ h => h) (Or.inl ⟨by rfl, ?_⟩) hHeld ?_ ?_
    rotate_left
    · intro w' s0
      obtain ⟨LD, k14⟩ := HLD.out _ s0
      go_simp
      with_reducible rfl
    rotate_left
    · simp only [Act.put, List.setIfInBounds_toArray, List.set_cons_zero, List.set_cons_succ]
      rfl
    refine one_ (i := 9) (N := none) #[true, true, true, true, true, true, true, true, true, true, false, false] rfl rfl (by kernel_rfl) (by decide) (fun K hK => ?_)
    refine skip_ (w1 := wS.drew.setRow q8 (#[.int .i64 x.f0, .string x.f1, .string x.f2, .string x.f3, .bool x.f4, .int .i64 x.f5])) (by rfl) rfl ?_ ?_
    · refine store_runA 25 (.tmp 8) (.tmp 68) rfl q8 (#[.int .i64 x.f0, .string x.f1, .string x.f2, .string x.f3, .bool x.f4, .int .i64 x.f5]) ?_ ?_ 25 _ (blk_drew BKS.out) isz25 rfl (one25 x)
      · rfl
      · rfl
    refine hK.out _ _ ((setRow_other _ _ _ _ HPQ.out).trans hHeld) (fun hHeld => ?_)
    have BK9 := Aside0.mk (show (wS.drew.setRow q8 (#[.int .i64 x.f0, .string x.f1, .string x.f2, .string x.f3, .bool x.f4, .int .i64 x.f5])).heap[q8]? = some (.cells (#[.int .i64 x.f0, .string x.f1, .string x.f2, .string x.f3, .bool x.f4, .int .i64 x.f5]) 25 (0, 0)) from setRow_heap _ _ _ _ _ _ (blk_drew BKS.out))
    have H9 := Aside0.mk (RefT.setRow HS.out.drew (blk_drew BKS.out) (by unfold Ty.has; decide) (#[.int .i64 x.f0, .string x.f1, .string x.f2, .string x.f3, .bool x.f4, .int .i64 x.f5]))
    have T9 := Aside0.mk (Turn.setRow TS.out.drew HQq8.out (#[.int .i64 x.f0, .string x.f1, .string x.f2, .string x.f3, .bool x.f4, .int .i64 x.f5]))
    obtain ⟨w9, hw9⟩ : ∃ W, wS.drew.setRow q8 (#[.int .i64 x.f0, .string x.f1, .string x.f2, .string x.f3, .bool x.f4, .int .i64 x.f5]) = W := ⟨_, rfl⟩
    rw [hw9] at BK9 H9 T9 hHeld ⊢
    clear hK K hw9
    refine pure_ (i := 10) (N := some 9) (v := ?_) (a' := ?_) #[true, true, true, true, true, true, true, true, true, true, true, false] rfl rfl (by kernel_rfl) (fun _ _ _ h => h) (Or.inl ⟨by rfl, ?_⟩) ?_ ?_
    rotate_left
    · intro w'
      go_simp
      with_reducible rfl
    rotate_left
    · simp only [Act.put, List.setIfInBounds_toArray, List.set_cons_zero, List.set_cons_succ]
      rfl
    refine pure_ (i := 11) (N := some 10) (v := ?_) (a' := ?_) #[true, true, true, true, true, true, true, true, true, true, true, true] rfl rfl (by kernel_rfl) (fun _ _ _ h => h) (Or.inl ⟨by rfl, ?_⟩) ?_ ?_
    rotate_left
    · intro w'
      go_simp
      with_reducible rfl
    rotate_left
    · simp only [Act.put, List.setIfInBounds_toArray, List.set_cons_zero, List.set_cons_succ]
      rfl
    refine done_ (by kernel_rfl) ?_
    (try simp only [Exit.inBlock, Exit.then])
    go_wp2_with (fail)
    (try simp only [Exit.inBlock, Exit.then])
    refine bodyPost_ret (results_c3 Tryd.results38 _ _ q8 25 _ (0, 0) _ rfl BK9.out Tryd.underlying25 rfl isz25) rfl ?_
    exact ⟨rfl, ⟨_, _, H9.out⟩, T9.out⟩
  · go_enter Tryd.func38, Tryd.ntmps38
    go_wp2_with (first | ((with_reducible refine gate_dst (N := 8) rfl ?_); refine box_event ?hg (N := 8) ?hd (cs := #[.int .i64 0, .string ByteArray.empty, .string ByteArray.empty, .string ByteArray.empty, .bool false, .int .i64 0]) (t := 25) ?hr ?_; (case hd => rfl); (case hg => rfl); (case hr => first | (go_simp; done) | (go_simp; rfl)); intro q8 hq w1 hbox hb; have BKq8 := Aside0.mk hbox; have HQq8 := Aside0.mk (show w.heap.size ≤ q8 from by rw [hq]; exact Nat.le_refl _); have HB1 := Aside0.mk hb; clear hbox hb hq))
    refine (FY.out w1 HB1.out).mono ?_
    rintro e wf ⟨rfl, rfl⟩
    go_wp2_with (fail)
    refine (AG.out wf HB1.out).mono ?_
    rintro e w2 ⟨rfl, hb⟩
    have HB2 := Aside0.mk (HB1.out.trans (hb.mono HB1.out.size))
    have BKq8 := Aside0.mk (blk_below BKq8.out hb)
    obtain ⟨k4, k14, k13, f13, f14⟩ := HC.out w2 HB2.out
    have HTT := Aside0.mk (HT.out w2 HB2.out)
    clear hb
    go_wp2_with (fail)
    obtain ⟨v', ps', hS, tS, hLD, cs, hcs⟩ := HTT.out
    have HLD := Aside0.mk hLD
    have HPQ := Aside0.mk (show P ≠ q8 from blk_ne hcs BKq8.out (by decide))
    have HS := Aside0.mk hS
    have TS := Aside0.mk ((Turn.of_below HB2.out).trans tS)
    have BKS := Aside0.mk (show ((w2.setCell ⟨P, 14, none⟩ (.int .u64 (s1 : Int))).setCell ⟨P, 13, none⟩ (.int .i64 bs)).heap[q8]? = some (.cells #[.int .i64 0, .string ByteArray.empty, .string ByteArray.empty, .string ByteArray.empty, .bool false, .int .i64 0] 25 (0, 0)) from blk_far (blk_far BKq8.out (Ne.symm HPQ.out) _) (Ne.symm HPQ.out) _)
    obtain ⟨wS, hwS⟩ : ∃ W, (w2.setCell ⟨P, 14, none⟩ (.int .u64 (s1 : Int))).setCell ⟨P, 13, none⟩ (.int .i64 bs) = W := ⟨_, rfl⟩
    rw [hwS] at HS TS BKS HLD ⊢
    clear hS tS hLD hcs hwS k4 k14 k13 f13 f14 HTT
    refine start_ (n := 12) (S := fun W => W.heap[P]? = wS.heap[P]?) (ds := []) #[false, false, false, false, false, false, false, false, false, false, false, false] (by kernel_rfl) rfl rfl rfl (fun hHeld => ?_)
    refine pure_ (i := 0) (N := some 64) (v := ?_) (a' := ?_) #[true, false, false, false, false, false, false, false, false, false, false, false] rfl rfl (by kernel_rfl) (fun _ _ _ h => h) (Or.inl ⟨by rfl, ?_⟩) ?_ ?_
    rotate_left
    · intro w'
      go_simp
      with_reducible rfl
    rotate_left
    · simp only [Act.put, List.setIfInBounds_toArray, List.set_cons_zero, List.set_cons_succ]
      rfl
    refine pure_ (i := 1) (N := some 65) (v := ?_) (a' := ?_) #[true, true, false, false, false, false, false, false, false, false, false, false] rfl rfl (by kernel_rfl) (fun _ _ _ h => h) (Or.inl ⟨by rfl, ?_⟩) ?_ ?_
    rotate_left
    · intro w'
      go_simp
      with_reducible rfl
    rotate_left
    · simp only [Act.put, List.setIfInBounds_toArray, List.set_cons_zero, List.set_cons_succ]
      rfl
    refine pure_ (i := 2) (N := some 66) (v := ?_) (a' := ?_) #[true, true, true, false, false, false, false, false, false, false, false, false] rfl rfl (by kernel_rfl) (fun _ _ _ h => h) (Or.inl ⟨by rfl, ?_⟩) ?_ ?_
    rotate_left
    · intro w'
      go_simp
      with_reducible rfl
    rotate_left
    · simp only [Act.put, List.setIfInBounds_toArray, List.set_cons_zero, List.set_cons_succ]
      rfl
    refine pure_ (i := 3) (N := some 67) (v := ?_) (a' := ?_) #[true, true, true, true, false, false, false, false, false, false, false, false] rfl rfl (by kernel_rfl) (fun _ _ _ h => h) (Or.inl ⟨by rfl, ?_⟩) ?_ ?_
    rotate_left
    · intro w'
      go_simp
      with_reducible rfl
    rotate_left
    · simp only [Act.put, List.setIfInBounds_toArray, List.set_cons_zero, List.set_cons_succ]
      rfl
    refine take_ (i := 4) (N := some 68) (v := ?_) (a' := ?_) #[true, true, true, true, true, false, false, false, false, false, false, false] rfl rfl (by kernel_rfl) (fun _ _ _ h => h) (Or.inl ⟨by rfl, ?_⟩) hHeld ?_ ?_
    rotate_left
    · intro w' s0
      obtain ⟨LD, k14⟩ := HLD.out _ s0
      refine load_runA 25 (.tmp 67) ⟨P, 0, none⟩ (#[.int .i64 x.f0, .string x.f1, .string x.f2, .string x.f3, .bool x.f4, .int .i64 x.f5]) ?_ ?_ LD
      · rfl
      · rfl
    rotate_left
    · simp only [Act.put, List.setIfInBounds_toArray, List.set_cons_zero, List.set_cons_succ]
      rfl
    refine pure_ (i := 5) (N := some 69) (v := ?_) (a' := ?_) #[true, true, true, true, true, true, false, false, false, false, false, false] rfl rfl (by kernel_rfl) (fun _ _ _ h => h) (Or.inl ⟨by rfl, ?_⟩) ?_ ?_
    rotate_left
    · intro w'
      go_simp
      with_reducible rfl
    rotate_left
    · simp only [Act.put, List.setIfInBounds_toArray, List.set_cons_zero, List.set_cons_succ]
      rfl
    refine pure_ (i := 6) (N := some 70) (v := ?_) (a' := ?_) #[true, true, true, true, true, true, true, false, false, false, false, false] rfl rfl (by kernel_rfl) (fun _ _ _ h => h) (Or.inl ⟨by rfl, ?_⟩) ?_ ?_
    rotate_left
    · intro w'
      go_simp
      with_reducible rfl
    rotate_left
    · simp only [Act.put, List.setIfInBounds_toArray, List.set_cons_zero, List.set_cons_succ]
      rfl
    refine pure_ (i := 7) (N := some 71) (v := ?_) (a' := ?_) #[true, true, true, true, true, true, true, true, false, false, false, false] rfl rfl (by kernel_rfl) (fun _ _ _ h => h) (Or.inl ⟨by rfl, ?_⟩) ?_ ?_
    rotate_left
    · intro w'
      go_simp
      with_reducible rfl
    rotate_left
    · simp only [Act.put, List.setIfInBounds_toArray, List.set_cons_zero, List.set_cons_succ]
      rfl
    refine take_ (i := 8) (N := some 72) (v := ?_) (a' := ?_) #[true, true, true, true, true, true, true, true, true, false, false, false] rfl rfl (by kernel_rfl) (fun _ _ _ h => h) (Or.inl ⟨by rfl, ?_⟩) hHeld ?_ ?_
    rotate_left
    · intro w' s0
      obtain ⟨LD, k14⟩ := HLD.out _ s0
      go_simp
      with_reducible rfl
    rotate_left
    · simp only [Act.put, List.setIfInBounds_toArray, List.set_cons_zero, List.set_cons_succ]
      rfl
    refine one_ (i := 9) (N := none) #[true, true, true, true, true, true, true, true, true, true, false, false] rfl rfl (by kernel_rfl) (by decide) (fun K hK => ?_)
    refine skip_ (w1 := wS.drew.setRow q8 (#[.int .i64 x.f0, .string x.f1, .string x.f2, .string x.f3, .bool x.f4, .int .i64 x.f5])) (by rfl) rfl ?_ ?_
    · refine store_runA 25 (.tmp 8) (.tmp 68) rfl q8 (#[.int .i64 x.f0, .string x.f1, .string x.f2, .string x.f3, .bool x.f4, .int .i64 x.f5]) ?_ ?_ 25 _ (blk_drew BKS.out) isz25 rfl (one25 x)
      · rfl
      · rfl
    refine hK.out _ _ ((setRow_other _ _ _ _ HPQ.out).trans hHeld) (fun hHeld => ?_)
    have BK9 := Aside0.mk (show (wS.drew.setRow q8 (#[.int .i64 x.f0, .string x.f1, .string x.f2, .string x.f3, .bool x.f4, .int .i64 x.f5])).heap[q8]? = some (.cells (#[.int .i64 x.f0, .string x.f1, .string x.f2, .string x.f3, .bool x.f4, .int .i64 x.f5]) 25 (0, 0)) from setRow_heap _ _ _ _ _ _ (blk_drew BKS.out))
    have H9 := Aside0.mk (RefT.setRow HS.out.drew (blk_drew BKS.out) (by unfold Ty.has; decide) (#[.int .i64 x.f0, .string x.f1, .string x.f2, .string x.f3, .bool x.f4, .int .i64 x.f5]))
    have T9 := Aside0.mk (Turn.setRow TS.out.drew HQq8.out (#[.int .i64 x.f0, .string x.f1, .string x.f2, .string x.f3, .bool x.f4, .int .i64 x.f5]))
    obtain ⟨w9, hw9⟩ : ∃ W, wS.drew.setRow q8 (#[.int .i64 x.f0, .string x.f1, .string x.f2, .string x.f3, .bool x.f4, .int .i64 x.f5]) = W := ⟨_, rfl⟩
    rw [hw9] at BK9 H9 T9 hHeld ⊢
    clear hK K hw9
    refine pure_ (i := 10) (N := some 9) (v := ?_) (a' := ?_) #[true, true, true, true, true, true, true, true, true, true, true, false] rfl rfl (by kernel_rfl) (fun _ _ _ h => h) (Or.inl ⟨by rfl, ?_⟩) ?_ ?_
    rotate_left
    · intro w'
      go_simp
      with_reducible rfl
    rotate_left
    · simp only [Act.put, List.setIfInBounds_toArray, List.set_cons_zero, List.set_cons_succ]
      rfl
    refine pure_ (i := 11) (N := some 10) (v := ?_) (a' := ?_) #[true, true, true, true, true, true, true, true, true, true, true, true] rfl rfl (by kernel_rfl) (fun _ _ _ h => h) (Or.inl ⟨by rfl, ?_⟩) ?_ ?_
    rotate_left
    · intro w'
      go_simp
      with_reducible rfl
    rotate_left
    · simp only [Act.put, List.setIfInBounds_toArray, List.set_cons_zero, List.set_cons_succ]
      rfl
    refine done_ (by kernel_rfl) ?_
    (try simp only [Exit.inBlock, Exit.then])
    go_wp2_with (fail)
    (try simp only [Exit.inBlock, Exit.then])
    refine bodyPost_ret (results_c3 Tryd.results38 _ _ q8 25 _ (0, 0) _ rfl BK9.out Tryd.underlying25 rfl isz25) rfl ?_
    exact ⟨rfl, ⟨_, _, H9.out⟩, T9.out⟩
theorem rsend_call {w : World} {base q k : Nat} {es : List En} (h : RefX w base q es) (hl : es.length ≤ 1000) (now spi n : Int) (hn9 : n ≤ 1000000000) (hk : k ≤ 200) (hg : ∀ e ∈ es, Good k e) (h0 : -1000000000 ≤ now) (h1 : now ≤ 4000000000) :
    Calls Tryd.prog 38 #[.pointer (some ⟨q, 0, none⟩), .int .i64 now, .int .i64 spi, .int .i64 n] w (RfQ base q (sendF es now spi n).1 (.tuple #[v25 (sendF es now spi n).2.1, .int .u64 (sendF es now spi n).2.2.1, .int .i64 (sendF es now spi n).2.2.2]) w) := by
  obtain ⟨v, ps, hp⟩ := h
  have ht : ∀ e ∈ es, Timed e now := fun e he => (hg e he).timed h0 h1
  have FY0 := fun (W : World) (hb : Below w.heap.size w W) => rfind_call (hp.below hb) hl spi true
  unfold sendF
  by_cases hn : n < 0
  · rw [if_pos hn]
    exact (rsend_neg now spi n hn ⟨FY0⟩).mono fun e w' ⟨he, hb⟩ => ⟨he, ⟨_, _, hp.below hb⟩, .of_below hb⟩
  · rw [if_neg hn]
    by_cases hf : findI es spi true < es.length
    · rw [if_pos hf]
      unfold fptr at FY0
      rw [if_pos hf] at FY0
      have AG0 := fun (W : World) (hb : Below w.heap.size w W) => eage_walk ((hp.below hb).at _ hf).blk now (ht _ (getD_mem hf))
      by_cases ha : ageE (es.getD (findI es spi true) en0) now = 2
      · rw [if_pos ha]
        rw [ha] at AG0
        exact (rsend_hard now spi n hn ⟨FY0⟩ ⟨AG0⟩).mono fun e w' ⟨he, hb⟩ => ⟨he, ⟨_, _, hp.below hb⟩, .of_below hb⟩
      · rw [if_neg ha]
        have hgi := hg _ (getD_mem hf)
        obtain ⟨i, hi⟩ : ∃ i, findI es spi true = i := ⟨_, rfl⟩
        rw [hi] at hf FY0 AG0 hgi ha ⊢
        have hat := fun (W : World) (hb : Below w.heap.size w W) => ((hp.below hb).at i hf).blk
        by_cases hfull : fullB (es.getD i en0) = true
        · rw [if_pos hfull]
          refine (rsend_full (P := (ps.getD i pl0).p) (s := (es.getD i en0).sent) (wd := (es.getD i en0).life.f0.f4) now spi n (by omega) (fun W hb => (blk_cell (hat W hb) 4).trans rfl) (fun W hb => (blk_cell (hat W hb) 14).trans rfl) ?_ ⟨FY0⟩ ha ⟨AG0⟩).mono fun e w' ⟨he, hb⟩ => ⟨he, ⟨_, _, hp.below hb⟩, .of_below hb⟩
          unfold fullB at hfull
          cases hA : (((es.getD i en0).sent : Int) == 18446744073709551615)
          · rw [hA] at hfull
            simp only [Bool.false_or, Bool.and_eq_true, Bool.not_eq_true'] at hfull
            exact .inr ⟨rfl, hfull.1, hfull.2⟩
          · exact .inl rfl
        · rw [if_neg hfull]
          have hfull := Bool.eq_false_iff.2 hfull
          have hsn := (hgi.send (n := n) (by omega) hn9 hfull).sent
          have hby := hgi.bytes
          refine rsend_ok (P := (ps.getD i pl0).p) (s := (es.getD i en0).sent) (wd := (es.getD i en0).life.f0.f4) (bo := (es.getD i en0).bytes) (bs := (es.getD i en0).bytes + n) (x := (es.getD i en0).life.f0) now spi n (by omega) (IntWalk.i64_in _ (by omega)) (Tab.base_le hp) (by have : (es.getD i en0).sent + 1 < 18446744073709551616 := hsn; rw [IntKind.wrap_u64]; omega)
            (fun W hb => ⟨(blk_cell (hat W hb) 4).trans rfl, (blk_cell (hat W hb) 14).trans rfl, (blk_cell (hat W hb) 13).trans rfl, blk_frozen (hat W hb) 13, blk_frozen (hat W hb) 14⟩) (fun W hb => ?_) ?_ ?_ ⟨FY0⟩ ha ⟨AG0⟩
          · obtain ⟨ps1, g1, t1, p1⟩ := rset_tab (hp.below hb) i hf 14 (.int .u64 (((es.getD i en0).sent + 1 : Nat) : Int)) { es.getD i en0 with sent := (es.getD i en0).sent + 1 } rfl rfl rfl
            have hf1 : i < (es.set i { es.getD i en0 with sent := (es.getD i en0).sent + 1 }).length := by rw [List.length_set]; exact hf
            have hgd : (es.set i { es.getD i en0 with sent := (es.getD i en0).sent + 1 }).getD i en0 = { es.getD i en0 with sent := (es.getD i en0).sent + 1 } := by rw [getD_set _ _ _ _ _ hf, if_pos rfl]
            obtain ⟨ps2, g2, t2, p2⟩ := rset_tab g1 i hf1 13 (.int .i64 ((es.getD i en0).bytes + n)) (sendE (es.getD i en0) n) (by rw [hgd]; rfl) (by rw [hgd]; rfl) (by rw [hgd]; rfl)
            rw [p1] at g2 t2 p2
            rw [List.set_set] at g2
            have hl2 := (g2.at i (by rw [List.length_set]; exact hf)).blk
            rw [p2, getD_set _ _ _ _ _ hf, if_pos rfl] at hl2
            refine ⟨v, ps2, g2, t1.trans t2, fun W' hW => ?_, _, hat W hb⟩
            rw [hl2] at hW
            exact ⟨load25 (e := sendE (es.getD i en0) n) hW, (blk_cell hW 14).trans rfl⟩
          · unfold fullB at hfull
            simp only [Bool.or_eq_false_iff] at hfull
            exact hfull.1
          · unfold fullB at hfull
            simp only [Bool.or_eq_false_iff] at hfull
            cases hw : (es.getD i en0).life.f0.f4
            · rw [hw] at hfull
              exact .inr ⟨rfl, by simpa using hfull.2⟩
            · exact .inl rfl
    · rw [if_neg hf]
      unfold fptr at FY0
      rw [if_neg hf] at FY0
      exact (rsend_none now spi n hn ⟨FY0⟩).mono fun e w' ⟨he, hb⟩ => ⟨he, ⟨_, _, hp.below hb⟩, .of_below hb⟩
end Go.Proofs.YtkmnpnbfeiobiaaDoor.Sd
namespace Go.Proofs.YtkmnpnbfeiobiaaDoor.Sd
open Go.RowKit Go.Proofs.YtkmnpnbfeiobiaaDoorW.PrintWords Go.Proofs.YtkmnpnbfeiobiaaDoorW.PrintLast Go.Proofs.YtkmnpnbfeiobiaaDoorW.PrintMore Go.Proofs.YtkmnpnbfeiobiaaDoor.QSa
open Go.Proofs.YtkmnpnbfeiobiaaDoor
set_option linter.unusedVariables false
set_option linter.unusedSimpArgs false
theorem info83 : (Tryd.prog.info? 83).map (fun i => (i.zero, i.size, i.bytes)) = some (some (.pointer none), 1, 8) := by kernel_rfl
theorem run_append_ref {W : World} {base p : Nat} {v : Value} {ps : List Pl} (x : Pl) (hx : x.p = p) (hown : W.ownsRow base 83 1 v ps.length (ps.map Pl.ptr)) (ad : Addr) (hnew : W.cell? ad = some (.pointer (some ⟨p, 0, none⟩))) (hl : ps.length ≤ 1000) (hbase : base ≤ W.heap.size) :
    ∃ v' w', (Builtin.append_ #[50, 50] 50 #[v, .slice (some ad) 1 1]).run Tryd.prog W = .ok v' w' ∧ w'.ownsRow base 83 1 v' (ps.length + 1) (ps.map Pl.ptr ++ [x.ptr]) ∧ W.grownBy w' v.ownBlock := by
  obtain ⟨i, hi, hz, hsz, hb⟩ := info_parts info83
  obtain ⟨v', w', h1, h2, h3, _⟩ := run_append_own_at (P := Tryd.prog) W base 50 50 83 i (.pointer none) 1 8 Tryd.underlying50 hi hz hsz hb rfl (by decide) v ps.length (ps.map Pl.ptr) hown ad 1 1 [x.ptr] rfl (fun j u hj => by
    cases j with
    | zero =>
      obtain rfl : x.ptr = u := by simpa using hj
      rw [show ad.add 0 = ad from by cases ad; simp [Addr.add]]
      rw [hnew]
      unfold Pl.ptr
      rw [hx]
    | succ j => simp at hj) (fun u hu => by
    obtain rfl : u = x.ptr := by simpa using hu
    rfl) (by unfold maxLen; omega) (by omega) hbase
  exact ⟨v', w', h1, h2, h3⟩
theorem append_run50 {o : Oper} {a : Act} {W w' : World} {v u v' : Value} (s x : Operand) (ho : o.op = .call { callee := .builtin .append, args := #[s, x], argTypes := #[50, 50] }) (ht : o.type = 50) (hs : a.eval s = v) (hx : a.eval x = u) (hr : (Builtin.append_ #[50, 50] 50 #[v, u]).run Tryd.prog W = .ok v' w') :
    (execOp a.eval o).run Tryd.prog W = .ok (.value v') w' := by
  unfold execOp
  simp only [ho, resolve, invoke, builtin, Sem.run_bind, Sem.run_pure, Result.andThen_ok, List.map_toArray, List.map_cons, List.map_nil, hs, hx, ht, hr]
theorem radd_push {w w3 w6 w7 : World} {base q c n g p : Nat} {A : Option Addr} {ps : List Pl} {es : List En} {x : S27} {now : Int} {v1 : Value} (hp : ∀ W, Below w.heap.size w W → RefT W base q (.slice A n c) ps es) (hb3 : Below w.heap.size w w3) (hb6 : Below w3.heap.size w3 w6) (hg : w6.grownBy w7 (Value.slice A n c).ownBlock) (hr : w7.ownsRow base 83 1 v1 (ps.length + 1) (ps.map Pl.ptr ++ [(⟨p, g, .slice none 0 0⟩ : Pl).ptr]))
    (hw : w7.heap[g]? = some (.cells #[.int .i64 x.f0.f5, .bool x.f0.f4, .slice none 0 0] 101 (0, 0))) (hbp : w7.heap[p]? = some (.cells (#[.int .i64 x.f0.f0, .string x.f0.f1, .string x.f0.f2, .string x.f0.f3, .bool x.f0.f4, .int .i64 x.f0.f5, .int .i64 x.f1, .bool x.f2, .int .i64 x.f3, .int .i64 x.f4, .int .i64 x.f5, .int .i64 x.f6, .int .i64 now, .int .i64 0, .int .u64 0, .pointer (some ⟨g, 0, none⟩)]) 82 (0, 0))) (hq : w7.heap[q]? = some (.cells #[.slice A n c] 52 (0, 0))) (hpn : w3.heap.size ≤ p) (hga : w3.heap.size ≤ g) (hL : 0 ≤ x.f0.f5) :
    RefT (w7.setCell ⟨q, 0, none⟩ v1) base q v1 (ps ++ [⟨p, g, .slice none 0 0⟩]) (es ++ [newE x now]) ∧ Turn TR base w (w7.setCell ⟨q, 0, none⟩ v1) := by
  have h0 := hp w (Below.refl _ _)
  have hbase := Tab.base_le h0
  have hs3 := hb3.size
  have hs6 := hb6.size
  have hs7 := hg.size
  have far : ∀ k, k ≠ q → (w7.setCell ⟨q, 0, none⟩ v1).heap[k]? = w7.heap[k]? := fun k hk => Below.heap_setCell w7 _ _ k hk
  have hsz : (w7.setCell ⟨q, 0, none⟩ v1).heap.size = w7.heap.size := by simp [World.setCell]
  have hqlt := blk_lt h0.blk
  refine Tab.push h0 TR_ok (WnRf_ok base) ⟨p, g, .slice none 0 0⟩ (newE x now) (blk_put hq 0 v1 rfl) (own_setCell hr (own_ne hr hq (by decide)) v1) ⟨(far p (by omega)).trans hbp, ⟨none, 0, rfl, ?_, Kd.R_nil _ _ _ _ _⟩, by show base ≤ p; omega, by show base ≤ g; omega, fun k hk => by cases hk⟩ (by show w.heap.size ≤ p; omega) (by show w.heap.size ≤ g; omega) (fun k hk => by cases hk)
    (hg.os.trans (hb6.os.trans hb3.os)) (hg.tape.trans (hb6.tape.trans hb3.tape)) (hg.output.trans (hb6.output.trans hb3.output)) (by rw [hsz]; omega) (fun k h1 h2 h3 => (far k h2).trans ((hg.block k (by omega) (fun e => h3 e.symm)).trans ((hb6.block k (by omega)).trans (hb3.block k h1))))
  show (w7.setCell ⟨q, 0, none⟩ v1).heap[g]? = some (.cells #[.int .i64 (x.f0.f5.toNat : Int), .bool x.f0.f4, .slice none 0 0] 101 (0, 0))
  rw [Int.toNat_of_nonneg hL]
  exact (far g (by omega)).trans hw
set_option maxHeartbeats 3200000 in
set_option maxRecDepth 100000 in
theorem radd_may {w : World} {q : Nat} (now : Int) (x : S27) (hm : mayL x = false) :
    Calls Tryd.prog 34 #[.pointer (some ⟨q, 0, none⟩), .int .i64 now, .agg (#[.int .i64 x.f0.f0, .string x.f0.f1, .string x.f0.f2, .string x.f0.f3, .bool x.f0.f4, .int .i64 x.f0.f5, .int .i64 x.f1, .bool x.f2, .int .i64 x.f3, .int .i64 x.f4, .int .i64 x.f5, .int .i64 x.f6])] w fun e w' => e = .returned (.int .i64 1) ∧ Below w.heap.size w w' := by
  have MW := Aside0.mk fun W => rmay_walk x W
  rw [hm] at MW
  go_enter Tryd.func34, Tryd.ntmps34
  go_wp2_with (first | ((with_reducible refine gate_dst (N := 5) rfl ?_); refine box_event ?hg (N := 5) ?hd (cs := #[.int .i64 x.f0.f0, .string x.f0.f1, .string x.f0.f2, .string x.f0.f3, .bool x.f0.f4, .int .i64 x.f0.f5, .int .i64 x.f1, .bool x.f2, .int .i64 x.f3, .int .i64 x.f4, .int .i64 x.f5, .int .i64 x.f6]) (t := 27) ?hr ?_; (case hd => rfl); (case hg => rfl); (case hr => first | (go_simp; done) | (go_simp; rfl)); intro q5 hq w1 hbox hb; have BKq5 := Aside0.mk hbox; have HQq5 := Aside0.mk (show w.heap.size ≤ q5 from by rw [hq]; exact Nat.le_refl _); have HB1 := Aside0.mk hb; clear hbox hb hq; have LD := Aside0.mk (load27b BKq5.out)) | ((with_reducible refine gate_dst (N := 7) rfl ?_); refine Kd.event_run (v := .agg (#[.int .i64 x.f0.f0, .string x.f0.f1, .string x.f0.f2, .string x.f0.f3, .bool x.f0.f4, .int .i64 x.f0.f5, .int .i64 x.f1, .bool x.f2, .int .i64 x.f3, .int .i64 x.f4, .int .i64 x.f5, .int .i64 x.f6])) (w1 := w1) ?hg (load_runA 27 (.tmp 5) ⟨q5, 0, none⟩ (#[.int .i64 x.f0.f0, .string x.f0.f1, .string x.f0.f2, .string x.f0.f3, .bool x.f0.f4, .int .i64 x.f0.f5, .int .i64 x.f1, .bool x.f2, .int .i64 x.f3, .int .i64 x.f4, .int .i64 x.f5, .int .i64 x.f6]) ?ho ?hx LD.out) ?_; (case hg => rfl); (case ho => rfl); (case hx => rfl)))
  refine (MW.out w1).mono ?_
  rintro e w2 ⟨rfl, hb⟩
  have HB2 := Aside0.mk (HB1.out.trans (hb.mono HB1.out.size))
  have BKq5 := Aside0.mk (blk_below BKq5.out hb)
  have y0 : w2.cell? ⟨q5, 0, none⟩ = some (.int .i64 x.f0.f0) := (blk_cell BKq5.out 0).trans rfl
  have y7 : w2.cell? ⟨q5, 7, none⟩ = some (.bool x.f2) := (blk_cell BKq5.out 7).trans rfl
  clear hb
  go_wp2_with (fail)
  go_ret
  exact ⟨rfl, HB2.out⟩
set_option maxHeartbeats 3200000 in
set_option maxRecDepth 100000 in
theorem radd_neg {w : World} {q : Nat} (now : Int) (x : S27) (hm : mayL x = true) (hn : now < 0) :
    Calls Tryd.prog 34 #[.pointer (some ⟨q, 0, none⟩), .int .i64 now, .agg (#[.int .i64 x.f0.f0, .string x.f0.f1, .string x.f0.f2, .string x.f0.f3, .bool x.f0.f4, .int .i64 x.f0.f5, .int .i64 x.f1, .bool x.f2, .int .i64 x.f3, .int .i64 x.f4, .int .i64 x.f5, .int .i64 x.f6])] w fun e w' => e = .returned (.int .i64 1) ∧ Below w.heap.size w w' := by
  have MW := Aside0.mk fun W => rmay_walk x W
  rw [hm] at MW
  have hn1 : decide (now < 0) = true := decide_eq_true hn
  clear hn
  go_enter Tryd.func34, Tryd.ntmps34
  go_wp2_with (first | ((with_reducible refine gate_dst (N := 5) rfl ?_); refine box_event ?hg (N := 5) ?hd (cs := #[.int .i64 x.f0.f0, .string x.f0.f1, .string x.f0.f2, .string x.f0.f3, .bool x.f0.f4, .int .i64 x.f0.f5, .int .i64 x.f1, .bool x.f2, .int .i64 x.f3, .int .i64 x.f4, .int .i64 x.f5, .int .i64 x.f6]) (t := 27) ?hr ?_; (case hd => rfl); (case hg => rfl); (case hr => first | (go_simp; done) | (go_simp; rfl)); intro q5 hq w1 hbox hb; have BKq5 := Aside0.mk hbox; have HQq5 := Aside0.mk (show w.heap.size ≤ q5 from by rw [hq]; exact Nat.le_refl _); have HB1 := Aside0.mk hb; clear hbox hb hq; have LD := Aside0.mk (load27b BKq5.out)) | ((with_reducible refine gate_dst (N := 7) rfl ?_); refine Kd.event_run (v := .agg (#[.int .i64 x.f0.f0, .string x.f0.f1, .string x.f0.f2, .string x.f0.f3, .bool x.f0.f4, .int .i64 x.f0.f5, .int .i64 x.f1, .bool x.f2, .int .i64 x.f3, .int .i64 x.f4, .int .i64 x.f5, .int .i64 x.f6])) (w1 := w1) ?hg (load_runA 27 (.tmp 5) ⟨q5, 0, none⟩ (#[.int .i64 x.f0.f0, .string x.f0.f1, .string x.f0.f2, .string x.f0.f3, .bool x.f0.f4, .int .i64 x.f0.f5, .int .i64 x.f1, .bool x.f2, .int .i64 x.f3, .int .i64 x.f4, .int .i64 x.f5, .int .i64 x.f6]) ?ho ?hx LD.out) ?_; (case hg => rfl); (case ho => rfl); (case hx => rfl)))
  refine (MW.out w1).mono ?_
  rintro e w2 ⟨rfl, hb⟩
  have HB2 := Aside0.mk (HB1.out.trans (hb.mono HB1.out.size))
  have BKq5 := Aside0.mk (blk_below BKq5.out hb)
  have y0 : w2.cell? ⟨q5, 0, none⟩ = some (.int .i64 x.f0.f0) := (blk_cell BKq5.out 0).trans rfl
  have y7 : w2.cell? ⟨q5, 7, none⟩ = some (.bool x.f2) := (blk_cell BKq5.out 7).trans rfl
  clear hb
  go_wp2_with (fail)
  go_ret
  exact ⟨rfl, HB2.out⟩
set_option maxHeartbeats 3200000 in
set_option maxRecDepth 100000 in
theorem radd_there {w : World} {q P : Nat} (now : Int) (x : S27) (hm : mayL x = true) (hn : 0 ≤ now) (FY : Aside0 (∀ W, Below w.heap.size w W → Calls Tryd.prog 48 #[.pointer (some ⟨q, 0, none⟩), .int .i64 x.f0.f0, .bool x.f2] W fun e w' => e = .returned (.pointer (some ⟨P, 0, none⟩)) ∧ w' = W)) :
    Calls Tryd.prog 34 #[.pointer (some ⟨q, 0, none⟩), .int .i64 now, .agg (#[.int .i64 x.f0.f0, .string x.f0.f1, .string x.f0.f2, .string x.f0.f3, .bool x.f0.f4, .int .i64 x.f0.f5, .int .i64 x.f1, .bool x.f2, .int .i64 x.f3, .int .i64 x.f4, .int .i64 x.f5, .int .i64 x.f6])] w fun e w' => e = .returned (.int .i64 9) ∧ Below w.heap.size w w' := by
  have MW := Aside0.mk fun W => rmay_walk x W
  rw [hm] at MW
  have hn1 : decide (now < 0) = false := decide_eq_false (by omega)
  clear hn
  go_enter Tryd.func34, Tryd.ntmps34
  go_wp2_with (first | ((with_reducible refine gate_dst (N := 5) rfl ?_); refine box_event ?hg (N := 5) ?hd (cs := #[.int .i64 x.f0.f0, .string x.f0.f1, .string x.f0.f2, .string x.f0.f3, .bool x.f0.f4, .int .i64 x.f0.f5, .int .i64 x.f1, .bool x.f2, .int .i64 x.f3, .int .i64 x.f4, .int .i64 x.f5, .int .i64 x.f6]) (t := 27) ?hr ?_; (case hd => rfl); (case hg => rfl); (case hr => first | (go_simp; done) | (go_simp; rfl)); intro q5 hq w1 hbox hb; have BKq5 := Aside0.mk hbox; have HQq5 := Aside0.mk (show w.heap.size ≤ q5 from by rw [hq]; exact Nat.le_refl _); have HB1 := Aside0.mk hb; clear hbox hb hq; have LD := Aside0.mk (load27b BKq5.out)) | ((with_reducible refine gate_dst (N := 7) rfl ?_); refine Kd.event_run (v := .agg (#[.int .i64 x.f0.f0, .string x.f0.f1, .string x.f0.f2, .string x.f0.f3, .bool x.f0.f4, .int .i64 x.f0.f5, .int .i64 x.f1, .bool x.f2, .int .i64 x.f3, .int .i64 x.f4, .int .i64 x.f5, .int .i64 x.f6])) (w1 := w1) ?hg (load_runA 27 (.tmp 5) ⟨q5, 0, none⟩ (#[.int .i64 x.f0.f0, .string x.f0.f1, .string x.f0.f2, .string x.f0.f3, .bool x.f0.f4, .int .i64 x.f0.f5, .int .i64 x.f1, .bool x.f2, .int .i64 x.f3, .int .i64 x.f4, .int .i64 x.f5, .int .i64 x.f6]) ?ho ?hx LD.out) ?_; (case hg => rfl); (case ho => rfl); (case hx => rfl)))
  refine (MW.out w1).mono ?_
  rintro e w2 ⟨rfl, hb⟩
  have HB2 := Aside0.mk (HB1.out.trans (hb.mono HB1.out.size))
  have BKq5 := Aside0.mk (blk_below BKq5.out hb)
  have y0 : w2.cell? ⟨q5, 0, none⟩ = some (.int .i64 x.f0.f0) := (blk_cell BKq5.out 0).trans rfl
  have y7 : w2.cell? ⟨q5, 7, none⟩ = some (.bool x.f2) := (blk_cell BKq5.out 7).trans rfl
  clear hb
  go_wp2_with (fail)
  refine (FY.out w2 HB2.out).mono ?_
  rintro e w3 ⟨rfl, rfl⟩
  go_wp2_with (fail)
  go_ret
  exact ⟨rfl, HB2.out⟩
set_option maxHeartbeats 3200000 in
set_option maxRecDepth 100000 in
theorem radd_full {w : World} {q n c : Nat} {A : Option Addr} (now : Int) (x : S27) (hm : mayL x = true) (hn : 0 ≤ now) (h32 : 32 ≤ n) (HQ : Aside0 (∀ W, Below w.heap.size w W → W.cell? ⟨q, 0, none⟩ = some (.slice A n c)))
    (FY : Aside0 (∀ W, Below w.heap.size w W → Calls Tryd.prog 48 #[.pointer (some ⟨q, 0, none⟩), .int .i64 x.f0.f0, .bool x.f2] W fun e w' => e = .returned (.pointer none) ∧ w' = W)) :
    Calls Tryd.prog 34 #[.pointer (some ⟨q, 0, none⟩), .int .i64 now, .agg (#[.int .i64 x.f0.f0, .string x.f0.f1, .string x.f0.f2, .string x.f0.f3, .bool x.f0.f4, .int .i64 x.f0.f5, .int .i64 x.f1, .bool x.f2, .int .i64 x.f3, .int .i64 x.f4, .int .i64 x.f5, .int .i64 x.f6])] w fun e w' => e = .returned (.int .i64 7) ∧ Below w.heap.size w w' := by
  have MW := Aside0.mk fun W => rmay_walk x W
  rw [hm] at MW
  have hn1 : decide (now < 0) = false := decide_eq_false (by omega)
  have hge : decide ((32 : Int) ≤ (n : Int)) = true := decide_eq_true (by omega)
  have hgeN : decide (32 ≤ n) = true := decide_eq_true h32
  clear hn h32
  go_enter Tryd.func34, Tryd.ntmps34
  go_wp2_with (first | ((with_reducible refine gate_dst (N := 5) rfl ?_); refine box_event ?hg (N := 5) ?hd (cs := #[.int .i64 x.f0.f0, .string x.f0.f1, .string x.f0.f2, .string x.f0.f3, .bool x.f0.f4, .int .i64 x.f0.f5, .int .i64 x.f1, .bool x.f2, .int .i64 x.f3, .int .i64 x.f4, .int .i64 x.f5, .int .i64 x.f6]) (t := 27) ?hr ?_; (case hd => rfl); (case hg => rfl); (case hr => first | (go_simp; done) | (go_simp; rfl)); intro q5 hq w1 hbox hb; have BKq5 := Aside0.mk hbox; have HQq5 := Aside0.mk (show w.heap.size ≤ q5 from by rw [hq]; exact Nat.le_refl _); have HB1 := Aside0.mk hb; clear hbox hb hq; have LD := Aside0.mk (load27b BKq5.out)) | ((with_reducible refine gate_dst (N := 7) rfl ?_); refine Kd.event_run (v := .agg (#[.int .i64 x.f0.f0, .string x.f0.f1, .string x.f0.f2, .string x.f0.f3, .bool x.f0.f4, .int .i64 x.f0.f5, .int .i64 x.f1, .bool x.f2, .int .i64 x.f3, .int .i64 x.f4, .int .i64 x.f5, .int .i64 x.f6])) (w1 := w1) ?hg (load_runA 27 (.tmp 5) ⟨q5, 0, none⟩ (#[.int .i64 x.f0.f0, .string x.f0.f1, .string x.f0.f2, .string x.f0.f3, .bool x.f0.f4, .int .i64 x.f0.f5, .int .i64 x.f1, .bool x.f2, .int .i64 x.f3, .int .i64 x.f4, .int .i64 x.f5, .int .i64 x.f6]) ?ho ?hx LD.out) ?_; (case hg => rfl); (case ho => rfl); (case hx => rfl)))
  refine (MW.out w1).mono ?_
  rintro e w2 ⟨rfl, hb⟩
  have HB2 := Aside0.mk (HB1.out.trans (hb.mono HB1.out.size))
  have BKq5 := Aside0.mk (blk_below BKq5.out hb)
  have y0 : w2.cell? ⟨q5, 0, none⟩ = some (.int .i64 x.f0.f0) := (blk_cell BKq5.out 0).trans rfl
  have y7 : w2.cell? ⟨q5, 7, none⟩ = some (.bool x.f2) := (blk_cell BKq5.out 7).trans rfl
  clear hb
  go_wp2_with (fail)
  refine (FY.out w2 HB2.out).mono ?_
  rintro e w3 ⟨rfl, rfl⟩
  have cq := HQ.out w3 HB2.out
  go_wp2_with (fail)
  go_ret
  exact ⟨rfl, HB2.out⟩
set_option maxHeartbeats 3200000 in
set_option maxRecDepth 100000 in
theorem radd_ok {w : World} {base q c : Nat} {A : Option Addr} {ps : List Pl} {es : List En} (hp : RefT w base q (.slice A es.length c) ps es) (hl : es.length < 32) (now : Int) (x : S27) (hm : mayL x = true) (hn : 0 ≤ now)
    (FY : Aside0 (∀ W, Below w.heap.size w W → Calls Tryd.prog 48 #[.pointer (some ⟨q, 0, none⟩), .int .i64 x.f0.f0, .bool x.f2] W fun e w' => e = .returned (.pointer none) ∧ w' = W)) :
    Calls Tryd.prog 34 #[.pointer (some ⟨q, 0, none⟩), .int .i64 now, .agg (#[.int .i64 x.f0.f0, .string x.f0.f1, .string x.f0.f2, .string x.f0.f3, .bool x.f0.f4, .int .i64 x.f0.f5, .int .i64 x.f1, .bool x.f2, .int .i64 x.f3, .int .i64 x.f4, .int .i64 x.f5, .int .i64 x.f6])] w (RfQ base q (es ++ [newE x now]) (.int .i64 0) w) := by
  have HP := Aside0.mk fun (W : World) (hb : Below w.heap.size w W) => hp.below hb
  have HQ := Aside0.mk fun (W : World) (hb : Below w.heap.size w W) => (show W.cell? ⟨q, 0, none⟩ = some (.slice A es.length c) from (blk_cell (hp.below hb).blk 0).trans rfl)
  have HPL := Aside0.mk (show ps.length ≤ 1000 from by rw [hp.len]; omega)
  have hge : decide ((32 : Int) ≤ (es.length : Int)) = false := decide_eq_false (by omega)
  have hgeN : decide (32 ≤ es.length) = false := decide_eq_false (by omega)
  have HWN := Aside0.mk (show 0 ≤ x.f0.f5 from by simp only [mayL, mayP, Bool.and_eq_true, decide_eq_true_eq] at hm; omega)
  have MW := Aside0.mk fun W => rmay_walk x W
  rw [hm] at MW
  have hn1 : decide (now < 0) = false := decide_eq_false (by omega)
  obtain ⟨n, hn'⟩ : ∃ n, es.length = n := ⟨_, rfl⟩
  rw [hn'] at HQ hge hgeN HP
  have HBL := Aside0.mk (Tab.base_le hp)
  clear hm hn hl hp hn'
  go_enter Tryd.func34, Tryd.ntmps34
  go_wp2_with (first | ((with_reducible refine gate_dst (N := 5) rfl ?_); refine box_event ?hg (N := 5) ?hd (cs := #[.int .i64 x.f0.f0, .string x.f0.f1, .string x.f0.f2, .string x.f0.f3, .bool x.f0.f4, .int .i64 x.f0.f5, .int .i64 x.f1, .bool x.f2, .int .i64 x.f3, .int .i64 x.f4, .int .i64 x.f5, .int .i64 x.f6]) (t := 27) ?hr ?_; (case hd => rfl); (case hg => rfl); (case hr => first | (go_simp; done) | (go_simp; rfl)); intro q5 hq w1 hbox hb; have BKq5 := Aside0.mk hbox; have HQq5 := Aside0.mk (show w.heap.size ≤ q5 from by rw [hq]; exact Nat.le_refl _); have HB1 := Aside0.mk hb; clear hbox hb hq; have LD := Aside0.mk (load27b BKq5.out)) | ((with_reducible refine gate_dst (N := 7) rfl ?_); refine Kd.event_run (v := .agg (#[.int .i64 x.f0.f0, .string x.f0.f1, .string x.f0.f2, .string x.f0.f3, .bool x.f0.f4, .int .i64 x.f0.f5, .int .i64 x.f1, .bool x.f2, .int .i64 x.f3, .int .i64 x.f4, .int .i64 x.f5, .int .i64 x.f6])) (w1 := w1) ?hg (load_runA 27 (.tmp 5) ⟨q5, 0, none⟩ (#[.int .i64 x.f0.f0, .string x.f0.f1, .string x.f0.f2, .string x.f0.f3, .bool x.f0.f4, .int .i64 x.f0.f5, .int .i64 x.f1, .bool x.f2, .int .i64 x.f3, .int .i64 x.f4, .int .i64 x.f5, .int .i64 x.f6]) ?ho ?hx LD.out) ?_; (case hg => rfl); (case ho => rfl); (case hx => rfl)))
  refine (MW.out w1).mono ?_
  rintro e w2 ⟨rfl, hb⟩
  have HB2 := Aside0.mk (HB1.out.trans (hb.mono HB1.out.size))
  have BKq5 := Aside0.mk (blk_below BKq5.out hb)
  have y0 : w2.cell? ⟨q5, 0, none⟩ = some (.int .i64 x.f0.f0) := (blk_cell BKq5.out 0).trans rfl
  have y7 : w2.cell? ⟨q5, 7, none⟩ = some (.bool x.f2) := (blk_cell BKq5.out 7).trans rfl
  clear hb
  go_wp2_with (fail)
  refine (FY.out w2 HB2.out).mono ?_
  rintro e w3 ⟨rfl, rfl⟩
  have cq := HQ.out w3 HB2.out
  have BQ3 := Aside0.mk (show w3.heap[q]? = some (.cells #[.slice A n c] 52 (0, 0)) from (HP.out w3 HB2.out).blk)
  go_wp2_with (fail)
  clear cq y0 y7
  refine start_ (n := 22) (S := fun W => W.heap[q]? = w3.heap[q]? ∧ W.heap[q5]? = w3.heap[q5]?) (ds := [21]) #[false, false, false, false, false, false, false, false, false, false, false, false, false, false, false, false, false, false, false, false, false, false] (by kernel_rfl) rfl rfl ⟨rfl, rfl⟩ (fun hHeld => ?_)
  refine pure_ (i := 0) (N := some 28) (v := ?_) (a' := ?_) #[true, false, false, false, false, false, false, false, false, false, false, false, false, false, false, false, false, false, false, false, false, false] rfl rfl (by kernel_rfl) (fun _ _ _ h => h) (Or.inl ⟨by rfl, ?_⟩) ?_ ?_
  rotate_left
  · intro w'
    go_simp
    with_reducible rfl
  rotate_left
  · simp only [Act.put, List.setIfInBounds_toArray, List.set_cons_zero, List.set_cons_succ]
    rfl
  refine pure_ (i := 1) (N := some 29) (v := ?_) (a' := ?_) #[true, true, false, false, false, false, false, false, false, false, false, false, false, false, false, false, false, false, false, false, false, false] rfl rfl (by kernel_rfl) (fun _ _ _ h => h) (Or.inl ⟨by rfl, ?_⟩) ?_ ?_
  rotate_left
  · intro w'
    go_simp
    with_reducible rfl
  rotate_left
  · simp only [Act.put, List.setIfInBounds_toArray, List.set_cons_zero, List.set_cons_succ]
    rfl
  refine pure_ (i := 2) (N := some 30) (v := ?_) (a' := ?_) #[true, true, true, false, false, false, false, false, false, false, false, false, false, false, false, false, false, false, false, false, false, false] rfl rfl (by kernel_rfl) (fun _ _ _ h => h) (Or.inl ⟨by rfl, ?_⟩) ?_ ?_
  rotate_left
  · intro w'
    go_simp
    with_reducible rfl
  rotate_left
  · simp only [Act.put, List.setIfInBounds_toArray, List.set_cons_zero, List.set_cons_succ]
    rfl
  refine pure_ (i := 3) (N := some 31) (v := ?_) (a' := ?_) #[true, true, true, true, false, false, false, false, false, false, false, false, false, false, false, false, false, false, false, false, false, false] rfl rfl (by kernel_rfl) (fun _ _ _ h => h) (Or.inl ⟨by rfl, ?_⟩) ?_ ?_
  rotate_left
  · intro w'
    go_simp
    with_reducible rfl
  rotate_left
  · simp only [Act.put, List.setIfInBounds_toArray, List.set_cons_zero, List.set_cons_succ]
    rfl
  refine take_ (i := 4) (N := some 32) (v := ?_) (a' := ?_) #[true, true, true, true, true, false, false, false, false, false, false, false, false, false, false, false, false, false, false, false, false, false] rfl rfl (by kernel_rfl) (fun _ _ _ h => h) (Or.inl ⟨by rfl, ?_⟩) hHeld ?_ ?_
  rotate_left
  · intro w' s0
    have cq : w'.cell? ⟨q, 0, none⟩ = some (.slice A n c) := (blk_cell (s0.1.trans BQ3.out) 0).trans rfl
    have y4 : w'.cell? ⟨q5, 4, none⟩ = some (.bool x.f0.f4) := (blk_cell (s0.2.trans BKq5.out) 4).trans rfl
    have y5 : w'.cell? ⟨q5, 5, none⟩ = some (.int .i64 x.f0.f5) := (blk_cell (s0.2.trans BKq5.out) 5).trans rfl
    go_simp
    with_reducible rfl
  rotate_left
  · simp only [Act.put, List.setIfInBounds_toArray, List.set_cons_zero, List.set_cons_succ]
    rfl
  refine take_ (i := 5) (N := some 33) (v := ?_) (a' := ?_) #[true, true, true, true, true, true, false, false, false, false, false, false, false, false, false, false, false, false, false, false, false, false] rfl rfl (by kernel_rfl) (fun _ _ _ h => h) (Or.inl ⟨by rfl, ?_⟩) hHeld ?_ ?_
  rotate_left
  · intro w' s0
    have cq : w'.cell? ⟨q, 0, none⟩ = some (.slice A n c) := (blk_cell (s0.1.trans BQ3.out) 0).trans rfl
    have y4 : w'.cell? ⟨q5, 4, none⟩ = some (.bool x.f0.f4) := (blk_cell (s0.2.trans BKq5.out) 4).trans rfl
    have y5 : w'.cell? ⟨q5, 5, none⟩ = some (.int .i64 x.f0.f5) := (blk_cell (s0.2.trans BKq5.out) 5).trans rfl
    refine load_runA 27 (.tmp 5) ⟨q5, 0, none⟩ (#[.int .i64 x.f0.f0, .string x.f0.f1, .string x.f0.f2, .string x.f0.f3, .bool x.f0.f4, .int .i64 x.f0.f5, .int .i64 x.f1, .bool x.f2, .int .i64 x.f3, .int .i64 x.f4, .int .i64 x.f5, .int .i64 x.f6]) ?_ ?_ (load27b (s0.2.trans BKq5.out))
    · rfl
    · rfl
  rotate_left
  · simp only [Act.put, List.setIfInBounds_toArray, List.set_cons_zero, List.set_cons_succ]
    rfl
  refine pure_ (i := 6) (N := some 34) (v := ?_) (a' := ?_) #[true, true, true, true, true, true, true, false, false, false, false, false, false, false, false, false, false, false, false, false, false, false] rfl rfl (by kernel_rfl) (fun _ _ _ h => h) (Or.inl ⟨by rfl, ?_⟩) ?_ ?_
  rotate_left
  · intro w'
    go_simp
    with_reducible rfl
  rotate_left
  · simp only [Act.put, List.setIfInBounds_toArray, List.set_cons_zero, List.set_cons_succ]
    rfl
  refine pure_ (i := 7) (N := some 35) (v := ?_) (a' := ?_) #[true, true, true, true, true, true, true, true, false, false, false, false, false, false, false, false, false, false, false, false, false, false] rfl rfl (by kernel_rfl) (fun _ _ _ h => h) (Or.inl ⟨by rfl, ?_⟩) ?_ ?_
  rotate_left
  · intro w'
    go_simp
    with_reducible rfl
  rotate_left
  · simp only [Act.put, List.setIfInBounds_toArray, List.set_cons_zero, List.set_cons_succ]
    rfl
  refine pure_ (i := 8) (N := some 36) (v := ?_) (a' := ?_) #[true, true, true, true, true, true, true, true, true, false, false, false, false, false, false, false, false, false, false, false, false, false] rfl rfl (by kernel_rfl) (fun _ _ _ h => h) (Or.inl ⟨by rfl, ?_⟩) ?_ ?_
  rotate_left
  · intro w'
    go_simp
    with_reducible rfl
  rotate_left
  · simp only [Act.put, List.setIfInBounds_toArray, List.set_cons_zero, List.set_cons_succ]
    rfl
  refine take_ (i := 9) (N := some 37) (v := ?_) (a' := ?_) #[true, true, true, true, true, true, true, true, true, true, false, false, false, false, false, false, false, false, false, false, false, false] rfl rfl (by kernel_rfl) (fun _ _ _ h => h) (Or.inl ⟨by rfl, ?_⟩) hHeld ?_ ?_
  rotate_left
  · intro w' s0
    have cq : w'.cell? ⟨q, 0, none⟩ = some (.slice A n c) := (blk_cell (s0.1.trans BQ3.out) 0).trans rfl
    have y4 : w'.cell? ⟨q5, 4, none⟩ = some (.bool x.f0.f4) := (blk_cell (s0.2.trans BKq5.out) 4).trans rfl
    have y5 : w'.cell? ⟨q5, 5, none⟩ = some (.int .i64 x.f0.f5) := (blk_cell (s0.2.trans BKq5.out) 5).trans rfl
    go_simp
    with_reducible rfl
  rotate_left
  · simp only [Act.put, List.setIfInBounds_toArray, List.set_cons_zero, List.set_cons_succ]
    rfl
  refine pure_ (i := 10) (N := some 38) (v := ?_) (a' := ?_) #[true, true, true, true, true, true, true, true, true, true, true, false, false, false, false, false, false, false, false, false, false, false] rfl rfl (by kernel_rfl) (fun _ _ _ h => h) (Or.inl ⟨by rfl, ?_⟩) ?_ ?_
  rotate_left
  · intro w'
    go_simp
    with_reducible rfl
  rotate_left
  · simp only [Act.put, List.setIfInBounds_toArray, List.set_cons_zero, List.set_cons_succ]
    rfl
  refine pure_ (i := 11) (N := some 39) (v := ?_) (a' := ?_) #[true, true, true, true, true, true, true, true, true, true, true, true, false, false, false, false, false, false, false, false, false, false] rfl rfl (by kernel_rfl) (fun _ _ _ h => h) (Or.inl ⟨by rfl, ?_⟩) ?_ ?_
  rotate_left
  · intro w'
    go_simp
    with_reducible rfl
  rotate_left
  · simp only [Act.put, List.setIfInBounds_toArray, List.set_cons_zero, List.set_cons_succ]
    rfl
  refine take_ (i := 12) (N := some 40) (v := ?_) (a' := ?_) #[true, true, true, true, true, true, true, true, true, true, true, true, true, false, false, false, false, false, false, false, false, false] rfl rfl (by kernel_rfl) (fun _ _ _ h => h) (Or.inl ⟨by rfl, ?_⟩) hHeld ?_ ?_
  rotate_left
  · intro w' s0
    have cq : w'.cell? ⟨q, 0, none⟩ = some (.slice A n c) := (blk_cell (s0.1.trans BQ3.out) 0).trans rfl
    have y4 : w'.cell? ⟨q5, 4, none⟩ = some (.bool x.f0.f4) := (blk_cell (s0.2.trans BKq5.out) 4).trans rfl
    have y5 : w'.cell? ⟨q5, 5, none⟩ = some (.int .i64 x.f0.f5) := (blk_cell (s0.2.trans BKq5.out) 5).trans rfl
    go_simp
    with_reducible rfl
  rotate_left
  · simp only [Act.put, List.setIfInBounds_toArray, List.set_cons_zero, List.set_cons_succ]
    rfl
  refine pure_ (i := 13) (N := some 41) (v := ?_) (a' := ?_) #[true, true, true, true, true, true, true, true, true, true, true, true, true, true, false, false, false, false, false, false, false, false] rfl rfl (by kernel_rfl) (fun _ _ _ h => h) (Or.inl ⟨by rfl, ?_⟩) ?_ ?_
  rotate_left
  · intro w'
    go_simp
    with_reducible rfl
  rotate_left
  · simp only [Act.put, List.setIfInBounds_toArray, List.set_cons_zero, List.set_cons_succ]
    rfl
  refine one_ (i := 14) (N := some 42) #[true, true, true, true, true, true, true, true, true, true, true, true, true, true, true, false, false, false, false, false, false, false] rfl rfl (by kernel_rfl) (by decide) (fun K hK => ?_)
  refine value_ (v := .pointer (some ⟨w3.heap.size, 0, none⟩)) (w1 := (w3.drew.alloc (.cells #[.int .i64 x.f0.f5, .bool x.f0.f4, .slice none 0 0] 101 (0, 0)))) (by rfl) rfl ?_ ?_
  · first | (go_simp; done) | (go_simp; rfl)
  have BG := Aside0.mk (show (w3.drew.alloc (.cells #[.int .i64 x.f0.f5, .bool x.f0.f4, .slice none 0 0] 101 (0, 0))).heap[w3.heap.size]? = some (.cells #[.int .i64 x.f0.f5, .bool x.f0.f4, .slice none 0 0] 101 (0, 0)) from blk_new w3.drew _)
  have HB4 := Aside0.mk (show Below w3.heap.size w3 (w3.drew.alloc (.cells #[.int .i64 x.f0.f5, .bool x.f0.f4, .slice none 0 0] 101 (0, 0))) from below_alloc (below_drew (Below.refl _ _)) _)
  refine hK.out _ _ ⟨HB4.out.block _ (blk_lt BQ3.out), HB4.out.block _ (blk_lt BKq5.out)⟩ (fun hHeld => ?_)
  obtain ⟨w4, hw4⟩ : ∃ W, (w3.drew.alloc (.cells #[.int .i64 x.f0.f5, .bool x.f0.f4, .slice none 0 0] 101 (0, 0))) = W := ⟨_, rfl⟩
  rw [hw4] at BG HB4 hHeld ⊢
  obtain ⟨g, hgn⟩ : ∃ p, w3.heap.size = p := ⟨_, rfl⟩
  have HGN := Aside0.mk hgn
  rw [hgn] at BG ⊢
  clear hK K hw4 hgn
  refine norm_ (a' := ?_) ?_ ?_
  rotate_left
  · show Act.put _ (some 42) _ = _
    simp only [Act.put, List.setIfInBounds_toArray, List.set_cons_zero, List.set_cons_succ]
    rfl
  refine pure_ (i := 15) (N := some 43) (v := ?_) (a' := ?_) #[true, true, true, true, true, true, true, true, true, true, true, true, true, true, true, true, false, false, false, false, false, false] rfl rfl (by kernel_rfl) (fun _ _ _ h => h) (Or.inl ⟨by rfl, ?_⟩) ?_ ?_
  rotate_left
  · intro w'
    go_simp
    with_reducible rfl
  rotate_left
  · simp only [Act.put, List.setIfInBounds_toArray, List.set_cons_zero, List.set_cons_succ]
    rfl
  refine one_ (i := 16) (N := some 44) #[true, true, true, true, true, true, true, true, true, true, true, true, true, true, true, true, true, false, false, false, false, false] rfl rfl (by kernel_rfl) (by decide) (fun K hK => ?_)
  refine value_ (v := .pointer (some ⟨w4.heap.size, 0, none⟩)) (w1 := (w4.alloc (.cells (#[.int .i64 x.f0.f0, .string x.f0.f1, .string x.f0.f2, .string x.f0.f3, .bool x.f0.f4, .int .i64 x.f0.f5, .int .i64 x.f1, .bool x.f2, .int .i64 x.f3, .int .i64 x.f4, .int .i64 x.f5, .int .i64 x.f6, .int .i64 now, .int .i64 0, .int .u64 0, .pointer (some ⟨g, 0, none⟩)]) 82 (0, 0)))) (by rfl) rfl ?_ ?_
  · first | (go_simp; done) | (go_simp; rfl)
  have BP := Aside0.mk (show (w4.alloc (.cells (#[.int .i64 x.f0.f0, .string x.f0.f1, .string x.f0.f2, .string x.f0.f3, .bool x.f0.f4, .int .i64 x.f0.f5, .int .i64 x.f1, .bool x.f2, .int .i64 x.f3, .int .i64 x.f4, .int .i64 x.f5, .int .i64 x.f6, .int .i64 now, .int .i64 0, .int .u64 0, .pointer (some ⟨g, 0, none⟩)]) 82 (0, 0))).heap[w4.heap.size]? = some (.cells (#[.int .i64 x.f0.f0, .string x.f0.f1, .string x.f0.f2, .string x.f0.f3, .bool x.f0.f4, .int .i64 x.f0.f5, .int .i64 x.f1, .bool x.f2, .int .i64 x.f3, .int .i64 x.f4, .int .i64 x.f5, .int .i64 x.f6, .int .i64 now, .int .i64 0, .int .u64 0, .pointer (some ⟨g, 0, none⟩)]) 82 (0, 0)) from blk_new w4 _)
  have BG := Aside0.mk (blk_alloc BG.out (.cells (#[.int .i64 x.f0.f0, .string x.f0.f1, .string x.f0.f2, .string x.f0.f3, .bool x.f0.f4, .int .i64 x.f0.f5, .int .i64 x.f1, .bool x.f2, .int .i64 x.f3, .int .i64 x.f4, .int .i64 x.f5, .int .i64 x.f6, .int .i64 now, .int .i64 0, .int .u64 0, .pointer (some ⟨g, 0, none⟩)]) 82 (0, 0)))
  have HB5 := Aside0.mk (HB4.out.trans (((Below.refl _ _).alloc HB4.out.size (.cells (#[.int .i64 x.f0.f0, .string x.f0.f1, .string x.f0.f2, .string x.f0.f3, .bool x.f0.f4, .int .i64 x.f0.f5, .int .i64 x.f1, .bool x.f2, .int .i64 x.f3, .int .i64 x.f4, .int .i64 x.f5, .int .i64 x.f6, .int .i64 now, .int .i64 0, .int .u64 0, .pointer (some ⟨g, 0, none⟩)]) 82 (0, 0)))))
  refine hK.out _ _ ⟨HB5.out.block _ (blk_lt BQ3.out), HB5.out.block _ (blk_lt BKq5.out)⟩ (fun hHeld => ?_)
  have HPN := Aside0.mk (show w3.heap.size ≤ w4.heap.size from HB4.out.size)
  obtain ⟨w5, hw5⟩ : ∃ W, (w4.alloc (.cells (#[.int .i64 x.f0.f0, .string x.f0.f1, .string x.f0.f2, .string x.f0.f3, .bool x.f0.f4, .int .i64 x.f0.f5, .int .i64 x.f1, .bool x.f2, .int .i64 x.f3, .int .i64 x.f4, .int .i64 x.f5, .int .i64 x.f6, .int .i64 now, .int .i64 0, .int .u64 0, .pointer (some ⟨g, 0, none⟩)]) 82 (0, 0))) = W := ⟨_, rfl⟩
  obtain ⟨p, hpn⟩ : ∃ p, w4.heap.size = p := ⟨_, rfl⟩
  rw [hw5] at BP BG HB5 hHeld ⊢
  rw [hpn] at BP HPN ⊢
  clear hK K hw5 hpn
  refine norm_ (a' := ?_) ?_ ?_
  rotate_left
  · show Act.put _ (some 44) _ = _
    simp only [Act.put, List.setIfInBounds_toArray, List.set_cons_zero, List.set_cons_succ]
    rfl
  refine one_ (i := 17) (N := some 45) #[true, true, true, true, true, true, true, true, true, true, true, true, true, true, true, true, true, true, false, false, false, false] rfl rfl (by kernel_rfl) (by decide) (fun K hK => ?_)
  refine value_ (v := .slice (some ⟨w5.heap.size, 0, none⟩) 1 1) (w1 := (w5.alloc (.cells #[.pointer (some ⟨p, 0, none⟩)] 83 (0, 0)))) (by rfl) rfl ?_ ?_
  · first | (go_simp; done) | (go_simp; rfl)
  have BR := Aside0.mk (show (w5.alloc (.cells #[.pointer (some ⟨p, 0, none⟩)] 83 (0, 0))).heap[w5.heap.size]? = some (.cells #[.pointer (some ⟨p, 0, none⟩)] 83 (0, 0)) from blk_new w5 _)
  have BP := Aside0.mk (blk_alloc BP.out (.cells #[.pointer (some ⟨p, 0, none⟩)] 83 (0, 0)))
  have BG := Aside0.mk (blk_alloc BG.out (.cells #[.pointer (some ⟨p, 0, none⟩)] 83 (0, 0)))
  have HB6 := Aside0.mk (HB5.out.trans (((Below.refl _ _).alloc HB5.out.size (.cells #[.pointer (some ⟨p, 0, none⟩)] 83 (0, 0)))))
  refine hK.out _ _ ⟨HB6.out.block _ (blk_lt BQ3.out), HB6.out.block _ (blk_lt BKq5.out)⟩ (fun hHeld => ?_)
  obtain ⟨w6, hw6⟩ : ∃ W, (w5.alloc (.cells #[.pointer (some ⟨p, 0, none⟩)] 83 (0, 0))) = W := ⟨_, rfl⟩
  obtain ⟨r, hr⟩ : ∃ r, w5.heap.size = r := ⟨_, rfl⟩
  rw [hw6] at BP BG BR HB6 hHeld ⊢
  rw [hr] at BR ⊢
  clear hK K hw6 hr
  refine norm_ (a' := ?_) ?_ ?_
  rotate_left
  · show Act.put _ (some 45) _ = _
    simp only [Act.put, List.setIfInBounds_toArray, List.set_cons_zero, List.set_cons_succ]
    rfl
  refine one_ (i := 18) (N := some 46) #[true, true, true, true, true, true, true, true, true, true, true, true, true, true, true, true, true, true, true, false, false, false] rfl rfl (by kernel_rfl) (by decide) (fun K hK => ?_)
  have HB6w := Aside0.mk (HB2.out.trans (HB6.out.mono HB2.out.size))
  have HP6 := Aside0.mk (HP.out w6 HB6w.out)
  obtain ⟨v1, w7, hrun, hown, hgr⟩ := run_append_ref ⟨p, g, .slice none 0 0⟩ rfl HP6.out.row ⟨r, 0, none⟩ ((blk_cell BR.out 0).trans rfl) HPL.out (Nat.le_trans HBL.out HB6w.out.size)
  obtain ⟨A1, c1, rfl⟩ := own_slice hown
  have HROW := Aside0.mk hown
  have HGR := Aside0.mk hgr
  have BQ7 := Aside0.mk (show w7.heap[q]? = some (.cells #[.slice A n c] 52 (0, 0)) from blk_grown HP6.out.blk hgr (own_ne HP6.out.row HP6.out.blk (by decide)))
  have BP7 := Aside0.mk (blk_grown BP.out hgr (own_ne HP6.out.row BP.out (by decide)))
  have BG7 := Aside0.mk (blk_grown BG.out hgr (own_ne HP6.out.row BG.out (by decide)))
  have BK7 := Aside0.mk (blk_grown (blk_below BKq5.out HB6.out) hgr (own_ne HP6.out.row (blk_below BKq5.out HB6.out) (by decide)))
  refine value_ (v := .slice A1 (ps.length + 1) c1) (w1 := w7) (by rfl) rfl ?_ ?_
  · exact append_run50 (.tmp 32) (.tmp 45) rfl rfl rfl rfl hrun
  clear hrun hown hgr
  refine hK.out _ _ ⟨BQ7.out.trans BQ3.out.symm, BK7.out.trans BKq5.out.symm⟩ (fun hHeld => ?_)
  clear hK K
  refine norm_ (a' := ?_) ?_ ?_
  rotate_left
  · show Act.put _ (some 46) _ = _
    simp only [Act.put, List.setIfInBounds_toArray, List.set_cons_zero, List.set_cons_succ]
    rfl
  refine pure_ (i := 19) (N := some 47) (v := ?_) (a' := ?_) #[true, true, true, true, true, true, true, true, true, true, true, true, true, true, true, true, true, true, true, true, false, false] rfl rfl (by kernel_rfl) (fun _ _ _ h => h) (Or.inl ⟨by rfl, ?_⟩) ?_ ?_
  rotate_left
  · intro w'
    go_simp
    with_reducible rfl
  rotate_left
  · simp only [Act.put, List.setIfInBounds_toArray, List.set_cons_zero, List.set_cons_succ]
    rfl
  refine pure_ (i := 20) (N := some 48) (v := ?_) (a' := ?_) #[true, true, true, true, true, true, true, true, true, true, true, true, true, true, true, true, true, true, true, true, true, false] rfl rfl (by kernel_rfl) (fun _ _ _ h => h) (Or.inl ⟨by rfl, ?_⟩) ?_ ?_
  rotate_left
  · intro w'
    go_simp
    with_reducible rfl
  rotate_left
  · simp only [Act.put, List.setIfInBounds_toArray, List.set_cons_zero, List.set_cons_succ]
    rfl
  refine last_ (i := 21) (N := none) #[true, true, true, true, true, true, true, true, true, true, true, true, true, true, true, true, true, true, true, true, true, true] rfl rfl (by kernel_rfl) (by decide) (fun K hK => ?_)
  have cq7 : w7.cell? ⟨q, 0, none⟩ = some (.slice A n c) := (blk_cell BQ7.out 0).trans rfl
  have fq7 : w7.frozen? ⟨q, 0, none⟩ = false := blk_frozen BQ7.out 0
  refine skip_ (w1 := w7.setCell ⟨q, 0, none⟩ (.slice A1 (ps.length + 1) c1)) (by rfl) rfl ?_ ?_
  · first | (go_simp; done) | (go_simp; rfl)
  refine hK.out _ _ ?_
  have HPUSH := Aside0.mk (radd_push HP.out HB2.out HB6.out HGR.out HROW.out BG7.out BP7.out BQ7.out HPN.out (Nat.le_of_eq HGN.out) HWN.out)
  obtain ⟨w9, hw9⟩ : ∃ W, w7.setCell ⟨q, 0, none⟩ (.slice A1 (ps.length + 1) c1) = W := ⟨_, rfl⟩
  rw [hw9] at HPUSH ⊢
  have H9 := Aside0.mk HPUSH.out.1
  have T9 := Aside0.mk HPUSH.out.2
  clear hK K hw9 cq7 fq7
  refine done_ (by kernel_rfl) ?_
  (try simp only [Exit.inBlock, Exit.then])
  go_wp2_with (fail)
  go_ret
  exact ⟨rfl, ⟨_, _, H9.out⟩, T9.out⟩
theorem radd_call {w : World} {base q : Nat} {es : List En} (h : RefX w base q es) (hl : es.length ≤ 1000) (now : Int) (x : S27) :
    Calls Tryd.prog 34 #[.pointer (some ⟨q, 0, none⟩), .int .i64 now, .agg (#[.int .i64 x.f0.f0, .string x.f0.f1, .string x.f0.f2, .string x.f0.f3, .bool x.f0.f4, .int .i64 x.f0.f5, .int .i64 x.f1, .bool x.f2, .int .i64 x.f3, .int .i64 x.f4, .int .i64 x.f5, .int .i64 x.f6])] w (RfQ base q (addF es now x).1 (.int .i64 (addF es now x).2) w) := by
  obtain ⟨v, ps, hp⟩ := h
  have OUT : ∀ (c : Int) (e : Ending) (w' : World), (e = .returned (.int .i64 c) ∧ Below w.heap.size w w') → RfQ base q es (.int .i64 c) w e w' := fun c e w' hq => ⟨hq.1, ⟨_, _, hp.below hq.2⟩, .of_below hq.2⟩
  have FY := fun (W : World) (hb : Below w.heap.size w W) => rfind_call (hp.below hb) hl x.f0.f0 x.f2
  unfold addF
  by_cases hm : mayL x = true ∧ 0 ≤ now
  · rw [if_pos hm]
    by_cases hf : findI es x.f0.f0 x.f2 < es.length
    · rw [if_pos hf]
      unfold fptr at FY
      rw [if_pos hf] at FY
      exact (radd_there now x hm.1 hm.2 ⟨FY⟩).mono (OUT 9)
    · rw [if_neg hf]
      unfold fptr at FY
      rw [if_neg hf] at FY
      obtain ⟨A, c, rfl, _⟩ := hp.slice
      by_cases h32 : 32 ≤ es.length
      · rw [if_pos h32]
        exact (radd_full now x hm.1 hm.2 h32 ⟨fun W hb => (blk_cell (hp.below hb).blk 0).trans rfl⟩ ⟨FY⟩).mono (OUT 7)
      · rw [if_neg h32]
        exact radd_ok hp (by omega) now x hm.1 hm.2 ⟨FY⟩
  · rw [if_neg hm]
    by_cases h1 : mayL x = true
    · exact (radd_neg now x h1 (by have : ¬ 0 ≤ now := fun h => hm ⟨h1, h⟩; omega)).mono (OUT 1)
    · exact (radd_may now x (Bool.eq_false_iff.2 h1)).mono (OUT 1)
end Go.Proofs.YtkmnpnbfeiobiaaDoor.Sd
namespace Go.Proofs.YtkmnpnbfeiobiaaDoor.Sd
open Go.RowKit Go.Proofs.YtkmnpnbfeiobiaaDoorW.PrintWords Go.Proofs.YtkmnpnbfeiobiaaDoorW.PrintLast Go.Proofs.YtkmnpnbfeiobiaaDoorW.PrintMore Go.Proofs.YtkmnpnbfeiobiaaDoor.QSa
open Go.Proofs.YtkmnpnbfeiobiaaDoor
set_option linter.unusedVariables false
set_option linter.unusedSimpArgs false
theorem take_one_more {α : Type} (L : List α) (i : Nat) (x : α) (hi : L[i]? = some x) : L.take (i + 1) = L.take i ++ [x] := by
  rw [List.take_add_one, hi]
  rfl
theorem take_len {α : Type} (L : List α) (i : Nat) (x : α) (hi : L[i]? = some x) : (L.take i).length = i := by
  have := (List.getElem?_eq_some_iff.1 hi).1
  rw [List.length_take]
  omega
theorem take_erase_hit {α : Type} (L : List α) (i : Nat) (x : α) (hi : L[i]? = some x) : (L.take (i + 1)).eraseIdx i = (L.take i).eraseIdx i := by
  have hl := take_len L i x hi
  rw [take_one_more L i x hi, List.eraseIdx_append_of_length_le (by omega), hl, Nat.sub_self, List.eraseIdx_of_length_le (l := L.take i) (by omega)]
  simp
theorem take_erase_miss {α : Type} (L : List α) (i j : Nat) (x : α) (hi : L[i]? = some x) (hne : i ≠ j) : (L.take (i + 1)).eraseIdx j = (L.take i).eraseIdx j ++ [x] := by
  have hl := take_len L i x hi
  rw [take_one_more L i x hi]
  rcases Nat.lt_or_ge j i with h | h
  · rw [List.eraseIdx_append_of_lt_length (by omega)]
  · rw [List.eraseIdx_of_length_le (l := L.take i) (by omega), List.eraseIdx_of_length_le (by simp; omega)]
theorem own_lower {w : World} {b b' e s n : Nat} {v : Value} {xs : List Value} (h : w.ownsRow b e s v n xs) (hb : b' ≤ b) : w.ownsRow b' e s v n xs :=
  ⟨h.1, h.2.imp id fun ⟨g, c, cur, h0, h1, h2⟩ => ⟨g, c, cur, h0, Nat.le_trans hb h1, h2⟩⟩
theorem isz82 : (Tryd.prog.info? 82).map (·.size) = some 16 := by kernel_rfl
theorem neq_ptrs {W : World} {p x : Nat} {cp cx : Array Value} {tp tx : TypeId} (hp : W.heap[p]? = some (.cells cp tp (0, 0))) (hx : W.heap[x]? = some (.cells cx tx (0, 0))) :
    (binOp .neq 83 (.pointer (some ⟨p, 0, none⟩)) (.pointer (some ⟨x, 0, none⟩))).run Tryd.prog W = .ok (.bool (!(p == x))) W := by
  obtain ⟨j, hte, hjs⟩ := Option.map_eq_some_iff.1 isz82
  have h : ∀ d : Nat, (Op.equalIn (d + 1) 83 (.pointer (some ⟨p, 0, none⟩)) (.pointer (some ⟨x, 0, none⟩))).run Tryd.prog W = .ok (p == x) W := fun d => by
    by_cases e : p = x
    · subst e
      simp [Op.equalIn, run_underlying Tryd.underlying83, sizeOf, typeInfo, hte, run_sameAddr_same]
    · rw [beq_eq_false_iff_ne.2 e]
      simp [Op.equalIn, run_underlying Tryd.underlying83, sizeOf, typeInfo, hte, hjs, run_sameAddr_other W (a := ⟨p, 0, none⟩) (b := ⟨x, 0, none⟩) (fun e' => e (by injection e')) hp hx]
  simp only [binOp]
  simp [Op.equal, Op.maxDepth, h 9999]
set_option maxHeartbeats 1600000 in
set_option maxRecDepth 100000 in
theorem rrem_no {w : World} {q : Nat} (spi : Int) (out : Bool) (FY : Aside0 (Calls Tryd.prog 48 #[.pointer (some ⟨q, 0, none⟩), .int .i64 spi, .bool out] w fun e w' => e = .returned (.pointer none) ∧ w' = w)) :
    Calls Tryd.prog 35 #[.pointer (some ⟨q, 0, none⟩), .int .i64 spi, .bool out] w fun e w' => e = .returned (.int .i64 6) ∧ Below w.heap.size w w' := by
  go_enter Tryd.func35, Tryd.ntmps35
  go_wp2_with (fail)
  refine FY.out.mono ?_
  rintro e w1 ⟨rfl, rfl⟩
  go_wp2_with (fail)
  go_ret
  exact ⟨rfl, Below.refl _ _⟩
set_option maxHeartbeats 3200000 in
set_option maxRecDepth 100000 in
theorem rrem_yes {w : World} {base q c : Nat} {A : Option Addr} {ps : List Pl} {es : List En} (hp : RefT w base q (.slice A es.length c) ps es) (hl : es.length ≤ 1000) (spi : Int) (out : Bool) (hf : findI es spi out < es.length) :
    Calls Tryd.prog 35 #[.pointer (some ⟨q, 0, none⟩), .int .i64 spi, .bool out] w (RfQ base q (es.eraseIdx (findI es spi out)) (.int .i64 0) w) := by
  have FY := Aside0.mk (rfind_call hp hl spi out)
  unfold fptr at FY
  rw [if_pos hf] at FY
  obtain ⟨k, hk⟩ : ∃ i, findI es spi out = i := ⟨_, rfl⟩
  rw [hk] at hf FY ⊢
  have hlen := hp.len
  obtain ⟨L, hL⟩ : ∃ L, ps.map Pl.ptr = L := ⟨_, rfl⟩
  have hLl : L.length = es.length := by rw [← hL, List.length_map]; exact hlen
  have HX := Aside0.mk fun (i : Nat) (hi : i < es.length) => (show L[i]? = some (.pointer (some ⟨(ps.getD i pl0).p, 0, none⟩)) from by
    rw [← hL, List.getElem?_map, List.getElem?_eq_getElem (by omega), List.getD_eq_getElem?_getD, List.getElem?_eq_getElem (by omega)]
    rfl)
  have HT := Aside0.mk fun (W : World) (hb : Below w.heap.size w W) => (hp.below hb).ptrs
  have HB0 := Aside0.mk (Below.refl w.heap.size w)
  have HC0 := Aside0.mk fun (W : World) (hb : Below w.heap.size w W) => (show W.cell? ⟨q, 0, none⟩ = some (.slice A es.length c) ∧ W.frozen? ⟨q, 0, none⟩ = false from ⟨(blk_cell (hp.below hb).blk 0).trans rfl, blk_frozen (hp.below hb).blk 0⟩)
  obtain ⟨c0, f0⟩ := HC0.out w HB0.out
  have HNQ := Aside0.mk fun (i : Nat) (hi : i < es.length) (W : World) (hb : Below w.heap.size w W) => neq_ptrs ((hp.below hb).at i hi).blk ((hp.below hb).at k hf).blk
  have HNE := Aside0.mk fun (i : Nat) (hi : i < es.length) (hne : i ≠ k) => (hp.apart i k (by omega) (by omega) hne).p
  have FIN := Aside0.mk fun (W : World) (u : Value) (hb : Below w.heap.size w W) (hr : W.ownsRow w.heap.size 83 1 u (L.eraseIdx k).length (L.eraseIdx k)) => (show RfQ base q (es.eraseIdx k) (.int .i64 0) w (.returned (.int .i64 0)) (W.setCell ⟨q, 0, none⟩ u) from by
    have hr' := own_lower hr (Tab.base_le hp)
    rw [List.length_eraseIdx_of_lt (by omega), hLl, ← hlen, ← hL] at hr'
    have hq' := (hp.below hb).blk
    have hsz : (W.setCell ⟨q, 0, none⟩ u).heap.size = W.heap.size := by simp [World.setCell]
    obtain ⟨h1, h2⟩ := Tab.erase hp TR_ok (WnRf_ok base) k hf (w' := W.setCell ⟨q, 0, none⟩ u) (v' := u) (blk_put hq' 0 _ rfl) (own_setCell hr' (own_ne hr' hq' (by decide)) _) hb.os hb.tape hb.output (by rw [hsz]; exact hb.size)
      (fun j k1 k2 k3 => (Below.heap_setCell W _ _ j k2).trans (hb.block j k1))
    exact ⟨rfl, ⟨_, _, h1⟩, h2⟩)
  obtain ⟨P, hP⟩ : ∃ P, (ps.getD k pl0).p = P := ⟨_, rfl⟩
  obtain ⟨n, hn⟩ : ∃ n, es.length = n := ⟨_, rfl⟩
  rw [hP] at FY HNE HNQ
  rw [hn] at hl HX HT HC0 c0 HNE HNQ hf hLl
  have HLL := Aside0.mk hLl
  have HLN := Aside0.mk fun (i : Nat) (hi : i ≤ n) => (show ((L.take i).eraseIdx k).length ≤ i from Nat.le_trans (List.length_eraseIdx_le _ _) (by rw [List.length_take]; omega))
  have U0 := Aside0.mk (show w.ownsRow w.heap.size 83 1 (.slice none 0 0) ((L.take 0).eraseIdx k).length ((L.take 0).eraseIdx k) from own_nil _ _ _ _)
  have HPK := Aside0.mk (show (ps.getD k pl0).p = P from hP)
  clear hp hn hP hL hlen hk hLl
  go_enter Tryd.func35, Tryd.ntmps35
  go_wp2_with (fail)
  refine FY.out.mono ?_
  rintro e w1 ⟨rfl, rfl⟩
  go_wp2_with (fail)
  go_loopw [9, 8] (fun iv uv wr => ∃ (i : Nat) (u : Value), i ≤ n ∧ iv = .int .i64 i ∧ u = uv ∧ Aside0 (wr.ownsRow w1.heap.size 83 1 u ((L.take i).eraseIdx k).length ((L.take i).eraseIdx k)) ∧ Aside0 (Below w1.heap.size w1 wr)) (fun iv _ _ => n - (intOf iv).toNat)
  case atStart => exact ⟨0, _, by omega, rfl, rfl, U0, HB0⟩
  case round =>
    clear HB0 U0 c0 f0
    obtain ⟨i, uv, hin, rfl, rfl, U, HB⟩ := hrel
    obtain ⟨c0, f0⟩ := HC0.out _ HB.out
    by_cases hlt : i < n
    · have hltI : (i : Int) < (n : Int) := by omega
      have hltN : decide (i < n) = true := decide_eq_true hlt
      obtain ⟨b, hA, hc⟩ := HT.out _ HB.out i hlt
      subst hA
      dsimp only at hc
      have HXi := Aside0.mk (HX.out i hlt)
      have HLi := Aside0.mk (HLN.out i hin)
      have hi1 : IntKind.i64.wrap ((i : Int) + 1) = ((i + 1 : Nat) : Int) := by rw [IntWalk.i64_in _ (by omega)]; omega
      by_cases hik : i = k
      · subst hik
        have hq := HNQ.out i hlt wr HB.out
        rw [HPK.out] at hc hq
        rw [show (!(P == P)) = false from by simp] at hq
        have HSX := Aside0.mk (take_erase_hit L i _ HXi.out)
        go_wp2_with (fail)
        go_roundw
        case rel => exact ⟨i + 1, _, by omega, by go_num, rfl, ⟨by rw [HSX.out]; exact U.out⟩, HB⟩
        case measure => simp [intOf]; omega
      · have HSX := Aside0.mk (take_erase_miss L i k _ HXi.out hik)
        have hne := HNE.out i hlt hik
        obtain ⟨x, hx⟩ : ∃ x, (ps.getD i pl0).p = x := ⟨_, rfl⟩
        have hq := HNQ.out i hlt wr HB.out
        rw [hx] at hc HSX hne hq
        rw [show (!(x == P)) = true from by rw [beq_eq_false_iff_ne.2 hne]; rfl] at hq
        clear hne
        clear hx
        obtain ⟨XS, hXS⟩ : ∃ XS, (L.take i).eraseIdx k = XS := ⟨_, rfl⟩
        rw [hXS] at U HSX HLi
        clear hXS
        go_wp2_with (first | ((with_reducible refine gate_builtin (b := .append) (xs := #[.tmp 34, .tmp 42]) rfl ?_); at_builtin; refine print_append (w0 := w1) w1.heap.size rfl (.tmp 34) (.tmp 42) 50 83 (.pointer none) 8 rfl Tryd.underlying50 info83 rfl (by decide) uv XS (.pointer (some ⟨x, 0, none⟩)) rfl rfl rfl ?aO ?aB ?aS ?aL ?_; (case aO => exact U.out); (case aB => exact HB.out); (case aS => exact HB.out.size); (case aL => have := HLi.out; omega); intro u6 w6 ho hb1 hg hat; have HO2 := Aside0.mk ho; have HB2 := Aside0.mk hb1; clear ho hb1 hg hat))
        go_roundw
        case rel => exact ⟨i + 1, _, by omega, by go_num, rfl, ⟨by rw [HSX.out]; exact HO2.out⟩, HB2⟩
        case measure => simp [intOf]; omega
    · have hltI : ¬ (i : Int) < (n : Int) := by omega
      have hltN : decide (i < n) = false := decide_eq_false hlt
      obtain rfl : n = i := by omega
      have HFN := Aside0.mk (FIN.out wr uv HB.out (by
        have := U.out
        rw [List.take_of_length_le (by have := HLL.out; omega)] at this
        exact this))
      obtain ⟨A1, c1, rfl⟩ := own_slice U.out
      obtain ⟨m1, hm1⟩ : ∃ m, ((L.take n).eraseIdx k).length = m := ⟨_, rfl⟩
      rw [hm1] at HFN ⊢
      clear hm1 U
      go_wp2_with (fail)
      go_ret
      exact HFN.out
theorem rrem_call {w : World} {base q : Nat} {es : List En} (h : RefX w base q es) (hl : es.length ≤ 1000) (spi : Int) (out : Bool) :
    Calls Tryd.prog 35 #[.pointer (some ⟨q, 0, none⟩), .int .i64 spi, .bool out] w (RfQ base q (remF es spi out).1 (.int .i64 (remF es spi out).2) w) := by
  obtain ⟨v, ps, hp⟩ := h
  unfold remF
  by_cases hf : findI es spi out < es.length
  · rw [if_pos hf]
    obtain ⟨A, c, rfl, _⟩ := hp.slice
    exact rrem_yes hp hl spi out hf
  · rw [if_neg hf]
    have FY := rfind_call hp hl spi out
    unfold fptr at FY
    rw [if_neg hf] at FY
    exact (rrem_no spi out ⟨FY⟩).mono fun e w' ⟨he, hb⟩ => ⟨he, ⟨_, _, hp.below hb⟩, .of_below hb⟩
end Go.Proofs.YtkmnpnbfeiobiaaDoor.Sd

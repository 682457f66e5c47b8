/- Find. -/
import Derived.Test.YtdpfopeofeofcaaSpG
namespace Go.Proofs.Ytdpfopeofeofcaa.Sp
open Go.RowKit Go.Proofs.YtdpfopeofeofcaaW.PrintWords Go.Proofs.YtdpfopeofeofcaaW.PrintLast Go.Proofs.YtdpfopeofeofcaaW.PrintMore Go.Proofs.Ytdpfopeofeofcaa.QSp
open Go.Proofs.Ytdpfopeofeofcaa
set_option linter.unusedVariables false
set_option linter.unusedSimpArgs false
/-- What Find answers. -/
def findI (i : Int) : Int × Int := if i < 0 then (0, 6) else (i, 0)
def findF (l : List S35) (f : S24) (o : Bool) : Int × Int := findI (idxF l f o)
def FindQ (w : World) (base q m : Nat) (v : Value) (l : List S35) (x : Int × Int) (e : Ending) (w' : World) : Prop := e = .returned (.tuple #[.int .i64 x.1, .int .i64 x.2]) ∧ SpdO w' base q m v l ∧ Turn w w' q m v v
theorem kept_push {l : List S35} {es : Array MapEntry} (h : Kept l es.toList) (f : S24) (o : Bool) (born : Nat) : Kept l (es.push { key := keyV f o, val := .int .i64 (idxF l f o), born := born }).toList := by
  intro e he
  rw [Array.toList_push, List.mem_append] at he
  rcases he with he | he
  · exact h e he
  · obtain rfl : e = _ := by simpa using he
    exact ⟨f, o, rfl, rfl⟩
theorem look_none (f : S24) (o : Bool) (w : World) : (Instr.findAsking 62 (keyV f o) (#[] : Array MapEntry).toList).run Try.prog w = .ok none w := by simp [Instr.findAsking]
theorem zero62 : (Try.prog.info? 62).map (·.size) = some 6 := by kernel_rfl
set_option maxHeartbeats 3200000 in
set_option maxRecDepth 100000 in
theorem find_aux {w : World} {base q m : Nat} {A : Option Addr} {c n : Nat} {l : List S35} (f0 f1 : ByteArray) (f2 f3 f4 : Int) (o : Bool) (iv v : Int) (ok : Bool) {es : Array MapEntry} {clock : Nat}
    (HO : Aside0 (SpdO w base q m (.slice A n c) l)) (HM : Aside0 (w.heap[m]? = some (.map es clock)))
    (LK : Aside0 (∀ W, W.heap[m]? = some (.map es clock) → (Instr.lookup 54 (.map (some m)) (.agg #[.string f0, .string f1, .int .i64 f2, .int .i64 f3, .int .i64 f4, .bool o]) true).run Try.prog W = .ok (.tuple #[.int .i64 v, .bool ok]) W))
    (HV : Aside0 (ok = true → v = iv))
    (UP : Aside0 (ok = false → ∀ (es' : Array MapEntry), es' = es ∨ es' = #[] → ∀ (k : Nat) (W : World), W.heap[m]? = some (.map es' k) → ∃ es2, (Instr.mapUpdate 54 (.map (some m)) (.agg #[.string f0, .string f1, .int .i64 f2, .int .i64 f3, .int .i64 f4, .bool o]) (.int .i64 iv)).run Try.prog W = .ok () (putM W m es2 (k + 1)) ∧ Kept l es2.toList))
    (IX : Aside0 (∀ (W : World) (b4 b5 : Nat), Below w.heap.size w W → W.heap[b4]? = some (.cells #[.string f0, .string f1, .int .i64 f2, .int .i64 f3, .int .i64 f4] 24 (0, 0)) → W.heap[b5]? = some (.cells #[.bool o] 4 (0, 0)) → Calls Try.prog 20 #[.slice A n c, fV b5 b4] W fun e w' => e = .returned (.int .i64 iv) ∧ Below W.heap.size W w'))
    (hlim : n ≤ 1000) :
    Calls Try.prog 12 #[.pointer (some ⟨q, 0, none⟩), .agg #[.string f0, .string f1, .int .i64 f2, .int .i64 f3, .int .i64 f4], .bool o] w (FindQ w base q m (.slice A n c) l (findI iv)) := by
  have TB := Aside0.mk (show ∀ W, Below w.heap.size w W → W.cell? ⟨q, 0, none⟩ = some (.slice A n c) ∧ W.cell? ⟨q, 1, none⟩ = some (.map (some m)) from fun W hb => ⟨(blk_cell (HO.out.below hb).blk 0).trans rfl, (blk_cell (HO.out.below hb).blk 1).trans rfl⟩)
  have HML := Aside0.mk (blk_lt HM.out)
  unfold fV at IX
  go_enter Try.func12, Try.ntmps12
  go_wp2_with (first | ((with_reducible refine gate_dst (N := 4) rfl ?_); refine box_event ?hg (N := 4) ?hd (cs := #[.string f0, .string f1, .int .i64 f2, .int .i64 f3, .int .i64 f4]) (t := 24) ?hr ?_; (case hd => rfl); (case hg => rfl); (case hr => first | (go_simp; done) | (go_simp; rfl)); intro q4 hq w1 hbox hb; have BKq4 := Aside0.mk hbox; have HQq4 := Aside0.mk (show w.heap.size ≤ q4 from by rw [hq]; exact Nat.le_refl _); have HB1 := Aside0.mk hb; clear hbox hb hq) | ((with_reducible refine gate_dst (N := 5) rfl ?_); refine box_event ?hg (N := 5) ?hd (cs := #[.bool o]) (t := 4) ?hr ?_; (case hd => rfl); (case hg => rfl); (case hr => first | (go_simp; done) | (go_simp; rfl)); intro q5 hq w2 hbox hb; have HNq4q5 := Aside0.mk (show q4 ≠ q5 from by have := blk_lt BKq4.out; omega); have BKq4 := Aside0.mk (blk_below BKq4.out hb); have BKq5 := Aside0.mk hbox; have HQq5 := Aside0.mk (show w.heap.size ≤ q5 from by rw [hq]; exact HB1.out.size); have HB2 := Aside0.mk (HB1.out.trans (hb.mono HB1.out.size)); clear hbox hb hq; have y4 : w2.cell? ⟨q5, 0, none⟩ = some (.bool o) := (blk_cell BKq5.out 0).trans rfl; have z0 : w2.cell? ⟨q4, 0, none⟩ = some (.string f0) := (blk_cell BKq4.out 0).trans rfl; have z1 : w2.cell? ⟨q4, 1, none⟩ = some (.string f1) := (blk_cell BKq4.out 1).trans rfl; have z2 : w2.cell? ⟨q4, 2, none⟩ = some (.int .i64 f2) := (blk_cell BKq4.out 2).trans rfl; have z3 : w2.cell? ⟨q4, 3, none⟩ = some (.int .i64 f3) := (blk_cell BKq4.out 3).trans rfl; have z4 : w2.cell? ⟨q4, 4, none⟩ = some (.int .i64 f4) := (blk_cell BKq4.out 4).trans rfl) | ((with_reducible refine gate_dst (N := 8) rfl ?_); refine box_event ?hg (N := 8) ?hd (cs := #[.string ByteArray.empty, .string ByteArray.empty, .int .i64 0, .int .i64 0, .int .i64 0, .bool false]) (t := 62) ?hr ?_; (case hd => rfl); (case hg => rfl); (case hr => first | (go_simp; done) | (go_simp; rfl)); intro q8 hq w3 hbox hb; have HNq4q8 := Aside0.mk (show q4 ≠ q8 from by have := blk_lt BKq4.out; omega); have HNq5q8 := Aside0.mk (show q5 ≠ q8 from by have := blk_lt BKq5.out; omega); have BKq4 := Aside0.mk (blk_below BKq4.out hb); have BKq5 := Aside0.mk (blk_below BKq5.out hb); have BKq8 := Aside0.mk hbox; have HQq8 := Aside0.mk (show w.heap.size ≤ q8 from by rw [hq]; exact HB2.out.size); have HB3 := Aside0.mk (HB2.out.trans (hb.mono HB2.out.size)); clear hbox hb hq; clear y4 z0 z1 z2 z3 z4) | ((with_reducible refine gate_store (t := 62) (p := 8) rfl ?_); have ca0 : w3.cell? ⟨q8, 0, none⟩ = some (.string ByteArray.empty) := (blk_cell BKq8.out 0).trans rfl; have ca1 : w3.cell? ⟨q8, 1, none⟩ = some (.string ByteArray.empty) := (blk_cell BKq8.out 1).trans rfl; have ca2 : w3.cell? ⟨q8, 2, none⟩ = some (.int .i64 0) := (blk_cell BKq8.out 2).trans rfl; have ca3 : w3.cell? ⟨q8, 3, none⟩ = some (.int .i64 0) := (blk_cell BKq8.out 3).trans rfl; have ca4 : w3.cell? ⟨q8, 4, none⟩ = some (.int .i64 0) := (blk_cell BKq8.out 4).trans rfl; have ca5 : w3.cell? ⟨q8, 5, none⟩ = some (.bool false) := (blk_cell BKq8.out 5).trans rfl; have fa0 : w3.frozen? ⟨q8, 0, none⟩ = false := blk_frozen BKq8.out 0; have fa1 : w3.frozen? ⟨q8, 1, none⟩ = false := blk_frozen BKq8.out 1; have fa2 : w3.frozen? ⟨q8, 2, none⟩ = false := blk_frozen BKq8.out 2; have fa3 : w3.frozen? ⟨q8, 3, none⟩ = false := blk_frozen BKq8.out 3; have fa4 : w3.frozen? ⟨q8, 4, none⟩ = false := blk_frozen BKq8.out 4; have fa5 : w3.frozen? ⟨q8, 5, none⟩ = false := blk_frozen BKq8.out 5; refine store_event (t := 62) (p := 8) (v := ?vo8_4_1_n1) (w1 := Cells.setAll w3 q8 0 [.string f0, .string f1, .int .i64 f2, .int .i64 f3, .int .i64 f4, .bool o]) ?hg ?ho ?hn ?hr ?_; (case ho => rfl); (case hg => rfl); (case hn => rfl); (case hr => first | (go_simp; done) | (go_simp; rfl)); intro w4 hw; have BKq4 := Aside0.mk (show w4.heap[q4]? = _ from (congrArg (fun W : World => W.heap[q4]?) hw).trans ((Cells.setAll_far HNq4q8.out _ _ _).trans BKq4.out)); have BKq5 := Aside0.mk (show w4.heap[q5]? = _ from (congrArg (fun W : World => W.heap[q5]?) hw).trans ((Cells.setAll_far HNq5q8.out _ _ _).trans BKq5.out)); have HB4 := Aside0.mk (show Below w.heap.size w w4 from by rw [hw]; exact Cells.setAll_below HQq8.out _ _ _ HB3.out); have BKq8 := Aside0.mk (show w4.heap[q8]? = some (.cells #[.string f0, .string f1, .int .i64 f2, .int .i64 f3, .int .i64 f4, .bool o] 62 (0, 0)) from by rw [hw]; exact Cells.stored6 BKq8.out); clear ca0 fa0 ca1 fa1 ca2 fa2 ca3 fa3 ca4 fa4 ca5 fa5; clear hw))
  refine start_ (n := 11) (S := fun W => Below w4.heap.size w4 W) (ds := []) #[false, false, false, false, false, false, false, false, false, false, false] (by kernel_rfl) rfl rfl (below_drew (Below.refl w4.heap.size w4)) (fun hHeld => ?_)
  refine pure_ (i := 0) (N := some 17) (v := ?_) (a' := ?_) #[true, false, false, false, false, false, false, false, false, false, false] rfl rfl (by kernel_rfl) (fun _ _ _ h => h) (Or.inl ⟨by rfl, ?_⟩) ?_ ?_
  rotate_left
  · intro w'
    go_simp
    with_reducible rfl
  rotate_left
  · simp only [Act.put, List.setIfInBounds_toArray, List.set_cons_zero, List.set_cons_succ]
    rfl
  refine pure_ (i := 1) (N := some 18) (v := ?_) (a' := ?_) #[true, true, false, false, false, false, false, false, false, false, false] rfl rfl (by kernel_rfl) (fun _ _ _ h => h) (Or.inl ⟨by rfl, ?_⟩) ?_ ?_
  rotate_left
  · intro w'
    go_simp
    with_reducible rfl
  rotate_left
  · simp only [Act.put, List.setIfInBounds_toArray, List.set_cons_zero, List.set_cons_succ]
    rfl
  refine pure_ (i := 2) (N := some 19) (v := ?_) (a' := ?_) #[true, true, true, false, false, false, false, false, false, false, false] rfl rfl (by kernel_rfl) (fun _ _ _ h => h) (Or.inl ⟨by rfl, ?_⟩) ?_ ?_
  rotate_left
  · intro w'
    go_simp
    with_reducible rfl
  rotate_left
  · simp only [Act.put, List.setIfInBounds_toArray, List.set_cons_zero, List.set_cons_succ]
    rfl
  refine take_ (i := 3) (N := some 20) (v := ?_) (a' := ?_) #[true, true, true, true, false, false, false, false, false, false, false] rfl rfl (by kernel_rfl) (fun _ _ _ h => h) (Or.inl ⟨by rfl, ?_⟩) hHeld ?_ ?_
  rotate_left
  · intro w' s0
    have hb := HB4.out.trans (s0.mono HB4.out.size)
    obtain ⟨x0, x1⟩ := TB.out _ hb
    have BKt := Aside0.mk (blk_below BKq8.out s0)
    have y0 : w'.cell? ⟨q8, 0, none⟩ = some (.string f0) := (blk_cell BKt.out 0).trans rfl
    have y1 : w'.cell? ⟨q8, 1, none⟩ = some (.string f1) := (blk_cell BKt.out 1).trans rfl
    have y2 : w'.cell? ⟨q8, 2, none⟩ = some (.int .i64 f2) := (blk_cell BKt.out 2).trans rfl
    have y3 : w'.cell? ⟨q8, 3, none⟩ = some (.int .i64 f3) := (blk_cell BKt.out 3).trans rfl
    have y4 : w'.cell? ⟨q8, 4, none⟩ = some (.int .i64 f4) := (blk_cell BKt.out 4).trans rfl
    have y5 : w'.cell? ⟨q8, 5, none⟩ = some (.bool o) := (blk_cell BKt.out 5).trans rfl
    have LKx := LK.out w' (blk_below HM.out hb)
    go_simp
    with_reducible rfl
  rotate_left
  · simp only [Act.put, List.setIfInBounds_toArray, List.set_cons_zero, List.set_cons_succ]
    rfl
  refine take_ (i := 4) (N := some 21) (v := ?_) (a' := ?_) #[true, true, true, true, true, false, false, false, false, false, false] rfl rfl (by kernel_rfl) (fun _ _ _ h => h) (Or.inl ⟨by rfl, ?_⟩) hHeld ?_ ?_
  rotate_left
  · intro w' s0
    have hb := HB4.out.trans (s0.mono HB4.out.size)
    obtain ⟨x0, x1⟩ := TB.out _ hb
    have BKt := Aside0.mk (blk_below BKq8.out s0)
    have y0 : w'.cell? ⟨q8, 0, none⟩ = some (.string f0) := (blk_cell BKt.out 0).trans rfl
    have y1 : w'.cell? ⟨q8, 1, none⟩ = some (.string f1) := (blk_cell BKt.out 1).trans rfl
    have y2 : w'.cell? ⟨q8, 2, none⟩ = some (.int .i64 f2) := (blk_cell BKt.out 2).trans rfl
    have y3 : w'.cell? ⟨q8, 3, none⟩ = some (.int .i64 f3) := (blk_cell BKt.out 3).trans rfl
    have y4 : w'.cell? ⟨q8, 4, none⟩ = some (.int .i64 f4) := (blk_cell BKt.out 4).trans rfl
    have y5 : w'.cell? ⟨q8, 5, none⟩ = some (.bool o) := (blk_cell BKt.out 5).trans rfl
    have LKx := LK.out w' (blk_below HM.out hb)
    go_simp
    with_reducible rfl
  rotate_left
  · simp only [Act.put, List.setIfInBounds_toArray, List.set_cons_zero, List.set_cons_succ]
    rfl
  refine take_ (i := 5) (N := some 22) (v := ?_) (a' := ?_) #[true, true, true, true, true, true, false, false, false, false, false] rfl rfl (by kernel_rfl) (fun _ _ _ h => h) (Or.inl ⟨by rfl, ?_⟩) hHeld ?_ ?_
  rotate_left
  · intro w' s0
    have hb := HB4.out.trans (s0.mono HB4.out.size)
    obtain ⟨x0, x1⟩ := TB.out _ hb
    have BKt := Aside0.mk (blk_below BKq8.out s0)
    have y0 : w'.cell? ⟨q8, 0, none⟩ = some (.string f0) := (blk_cell BKt.out 0).trans rfl
    have y1 : w'.cell? ⟨q8, 1, none⟩ = some (.string f1) := (blk_cell BKt.out 1).trans rfl
    have y2 : w'.cell? ⟨q8, 2, none⟩ = some (.int .i64 f2) := (blk_cell BKt.out 2).trans rfl
    have y3 : w'.cell? ⟨q8, 3, none⟩ = some (.int .i64 f3) := (blk_cell BKt.out 3).trans rfl
    have y4 : w'.cell? ⟨q8, 4, none⟩ = some (.int .i64 f4) := (blk_cell BKt.out 4).trans rfl
    have y5 : w'.cell? ⟨q8, 5, none⟩ = some (.bool o) := (blk_cell BKt.out 5).trans rfl
    have LKx := LK.out w' (blk_below HM.out hb)
    go_simp
    with_reducible rfl
  rotate_left
  · simp only [Act.put, List.setIfInBounds_toArray, List.set_cons_zero, List.set_cons_succ]
    rfl
  refine pure_ (i := 6) (N := some 16) (v := ?_) (a' := ?_) #[true, true, true, true, true, true, true, false, false, false, false] rfl rfl (by kernel_rfl) (fun _ _ _ h => h) (Or.inl ⟨by rfl, ?_⟩) ?_ ?_
  rotate_left
  · intro w'
    go_simp
    with_reducible rfl
  rotate_left
  · simp only [Act.put, List.setIfInBounds_toArray, List.set_cons_zero, List.set_cons_succ]
    rfl
  refine pure_ (i := 7) (N := some 23) (v := ?_) (a' := ?_) #[true, true, true, true, true, true, true, true, false, false, false] rfl rfl (by kernel_rfl) (fun _ _ _ h => h) (Or.inl ⟨by rfl, ?_⟩) ?_ ?_
  rotate_left
  · intro w'
    go_simp
    with_reducible rfl
  rotate_left
  · simp only [Act.put, List.setIfInBounds_toArray, List.set_cons_zero, List.set_cons_succ]
    rfl
  refine pure_ (i := 8) (N := some 24) (v := ?_) (a' := ?_) #[true, true, true, true, true, true, true, true, true, false, false] rfl rfl (by kernel_rfl) (fun _ _ _ h => h) (Or.inl ⟨by rfl, ?_⟩) ?_ ?_
  rotate_left
  · intro w'
    go_simp
    with_reducible rfl
  rotate_left
  · simp only [Act.put, List.setIfInBounds_toArray, List.set_cons_zero, List.set_cons_succ]
    rfl
  refine pure_ (i := 9) (N := some 9) (v := ?_) (a' := ?_) #[true, true, true, true, true, true, true, true, true, true, false] rfl rfl (by kernel_rfl) (fun _ _ _ h => h) (Or.inl ⟨by rfl, ?_⟩) ?_ ?_
  rotate_left
  · intro w'
    go_simp
    with_reducible rfl
  rotate_left
  · simp only [Act.put, List.setIfInBounds_toArray, List.set_cons_zero, List.set_cons_succ]
    rfl
  refine pure_ (i := 10) (N := some 10) (v := ?_) (a' := ?_) #[true, true, true, true, true, true, true, true, true, true, true] rfl rfl (by kernel_rfl) (fun _ _ _ h => h) (Or.inl ⟨by rfl, ?_⟩) ?_ ?_
  rotate_left
  · intro w'
    go_simp
    with_reducible rfl
  rotate_left
  · simp only [Act.put, List.setIfInBounds_toArray, List.set_cons_zero, List.set_cons_succ]
    rfl
  refine done_ (by kernel_rfl) ?_
  have BKq8 := Aside0.mk (blk_below BKq8.out hHeld)
  have BKq4 := Aside0.mk (blk_below BKq4.out hHeld)
  have BKq5 := Aside0.mk (blk_below BKq5.out hHeld)
  have HB5 := Aside0.mk (HB4.out.trans (hHeld.mono HB4.out.size))
  clear hHeld
  obtain ⟨w5, hw5⟩ : ∃ w5, w4.drew = w5 := ⟨_, rfl⟩
  rw [hw5] at BKq8 BKq4 BKq5 HB5 ⊢
  clear hw5
  have HNI := Aside0.mk (show findI iv = if iv < 0 then (0, 6) else (iv, 0) from rfl)
  cases ok
  · obtain ⟨x0, x1⟩ := TB.out _ HB5.out
    go_wp2_with (fail)
    refine (IX.out w5 q4 q5 HB5.out BKq4.out BKq5.out).mono ?_
    rintro e w6 ⟨rfl, hb⟩
    have HB6 := Aside0.mk (HB5.out.trans (hb.mono HB5.out.size))
    have BKq8 := Aside0.mk (blk_below BKq8.out hb)
    clear hb x0 x1
    obtain ⟨x0, x1⟩ := TB.out _ HB6.out
    have HM6 := Aside0.mk (blk_below HM.out HB6.out)
    have HNM := Aside0.mk (show q8 ≠ m from by have := HML.out; have := HQq8.out; omega)
    have hM6 := HM6.out
    have hln := fun ty => run_len_map (P := Try.prog) (w := w6) 54 ty m es clock (by kernel_rfl) HM6.out
    unfold goInt at hln
    by_cases hbig : 1024 ≤ es.size
    · have d1 : decide ((1024 : Int) ≤ (es.size : Int)) = true := decide_eq_true (by omega)
      have d1n : decide (1024 ≤ es.size) = true := decide_eq_true hbig
      have hcl := fun ty => clear54 ty m clock w6 HM6.out
      have HT7 := Aside0.mk (SpdO.lay (es' := #[]) (clock' := clock) (HO.out.below HB6.out).blk HM6.out (HO.out.below HB6.out).own HO.out.low HO.out.lom (kept_nil l) (Turn.of_below HB6.out q m (.slice A n c)))
      have HM7 := Aside0.mk (putM_blk (es' := #[]) (clock' := clock) HM6.out)
      have BKq8 := Aside0.mk ((putM_far #[] clock HNM.out).trans BKq8.out)
      obtain ⟨es2, hup, hk2⟩ := UP.out (by trivial) #[] (Or.inr rfl) clock (putM w6 m #[] clock).drew HM7.out
      have HU := Aside0.mk hup
      have HK2 := Aside0.mk hk2
      clear hbig hup hk2
      go_wp2_with (fail)
      clear hcl hln hM6 x0 x1
      obtain ⟨w7, hw7⟩ : ∃ w7, putM w6 m #[] clock = w7 := ⟨_, rfl⟩
      rw [hw7] at HT7 HM7 BKq8 HU ⊢
      clear hw7
      have HD7 := Aside0.mk (HT7.out.1.below (below_drew (Below.refl _ _)))
      have HT8 := Aside0.mk (SpdO.lay (w9 := w7.drew) (es' := es2) (clock' := clock + 1) HD7.out.blk HM7.out HD7.out.own HO.out.low HO.out.lom HK2.out ⟨HT7.out.2.os, HT7.out.2.tape, HT7.out.2.output, HT7.out.2.size, HT7.out.2.block, HT7.out.2.row⟩)
      refine start_ (n := 7) (S := fun W => Below w7.heap.size w7 W) (ds := [6]) #[false, false, false, false, false, false, false] (by kernel_rfl) rfl rfl (below_drew (Below.refl w7.heap.size w7)) (fun hHeld => ?_)
      refine pure_ (i := 0) (N := some 43) (v := ?_) (a' := ?_) #[true, false, false, false, false, false, false] rfl rfl (by kernel_rfl) (fun _ _ _ h => h) (Or.inl ⟨by rfl, ?_⟩) ?_ ?_
      rotate_left
      · intro w'
        go_simp
        with_reducible rfl
      rotate_left
      · simp only [Act.put, List.setIfInBounds_toArray, List.set_cons_zero, List.set_cons_succ]
        rfl
      refine pure_ (i := 1) (N := some 44) (v := ?_) (a' := ?_) #[true, true, false, false, false, false, false] rfl rfl (by kernel_rfl) (fun _ _ _ h => h) (Or.inl ⟨by rfl, ?_⟩) ?_ ?_
      rotate_left
      · intro w'
        go_simp
        with_reducible rfl
      rotate_left
      · simp only [Act.put, List.setIfInBounds_toArray, List.set_cons_zero, List.set_cons_succ]
        rfl
      refine pure_ (i := 2) (N := some 45) (v := ?_) (a' := ?_) #[true, true, true, false, false, false, false] rfl rfl (by kernel_rfl) (fun _ _ _ h => h) (Or.inl ⟨by rfl, ?_⟩) ?_ ?_
      rotate_left
      · intro w'
        go_simp
        with_reducible rfl
      rotate_left
      · simp only [Act.put, List.setIfInBounds_toArray, List.set_cons_zero, List.set_cons_succ]
        rfl
      refine take_ (i := 3) (N := some 46) (v := ?_) (a' := ?_) #[true, true, true, true, false, false, false] rfl rfl (by kernel_rfl) (fun _ _ _ h => h) (Or.inl ⟨by rfl, ?_⟩) hHeld ?_ ?_
      rotate_left
      · intro w' s0
        have hS := HT7.out.1.below s0
        have x0 : w'.cell? ⟨q, 0, none⟩ = some (.slice A n c) := (blk_cell hS.blk 0).trans rfl
        have x1 : w'.cell? ⟨q, 1, none⟩ = some (.map (some m)) := (blk_cell hS.blk 1).trans rfl
        have BKt := Aside0.mk (blk_below BKq8.out s0)
        have y0 : w'.cell? ⟨q8, 0, none⟩ = some (.string f0) := (blk_cell BKt.out 0).trans rfl
        have y1 : w'.cell? ⟨q8, 1, none⟩ = some (.string f1) := (blk_cell BKt.out 1).trans rfl
        have y2 : w'.cell? ⟨q8, 2, none⟩ = some (.int .i64 f2) := (blk_cell BKt.out 2).trans rfl
        have y3 : w'.cell? ⟨q8, 3, none⟩ = some (.int .i64 f3) := (blk_cell BKt.out 3).trans rfl
        have y4 : w'.cell? ⟨q8, 4, none⟩ = some (.int .i64 f4) := (blk_cell BKt.out 4).trans rfl
        have y5 : w'.cell? ⟨q8, 5, none⟩ = some (.bool o) := (blk_cell BKt.out 5).trans rfl
        go_simp
        with_reducible rfl
      rotate_left
      · simp only [Act.put, List.setIfInBounds_toArray, List.set_cons_zero, List.set_cons_succ]
        rfl
      refine take_ (i := 4) (N := some 47) (v := ?_) (a' := ?_) #[true, true, true, true, true, false, false] rfl rfl (by kernel_rfl) (fun _ _ _ h => h) (Or.inl ⟨by rfl, ?_⟩) hHeld ?_ ?_
      rotate_left
      · intro w' s0
        have hS := HT7.out.1.below s0
        have x0 : w'.cell? ⟨q, 0, none⟩ = some (.slice A n c) := (blk_cell hS.blk 0).trans rfl
        have x1 : w'.cell? ⟨q, 1, none⟩ = some (.map (some m)) := (blk_cell hS.blk 1).trans rfl
        have BKt := Aside0.mk (blk_below BKq8.out s0)
        have y0 : w'.cell? ⟨q8, 0, none⟩ = some (.string f0) := (blk_cell BKt.out 0).trans rfl
        have y1 : w'.cell? ⟨q8, 1, none⟩ = some (.string f1) := (blk_cell BKt.out 1).trans rfl
        have y2 : w'.cell? ⟨q8, 2, none⟩ = some (.int .i64 f2) := (blk_cell BKt.out 2).trans rfl
        have y3 : w'.cell? ⟨q8, 3, none⟩ = some (.int .i64 f3) := (blk_cell BKt.out 3).trans rfl
        have y4 : w'.cell? ⟨q8, 4, none⟩ = some (.int .i64 f4) := (blk_cell BKt.out 4).trans rfl
        have y5 : w'.cell? ⟨q8, 5, none⟩ = some (.bool o) := (blk_cell BKt.out 5).trans rfl
        go_simp
        with_reducible rfl
      rotate_left
      · simp only [Act.put, List.setIfInBounds_toArray, List.set_cons_zero, List.set_cons_succ]
        rfl
      refine pure_ (i := 5) (N := some 48) (v := ?_) (a' := ?_) #[true, true, true, true, true, true, false] rfl rfl (by kernel_rfl) (fun _ _ _ h => h) (Or.inl ⟨by rfl, ?_⟩) ?_ ?_
      rotate_left
      · intro w'
        go_simp
        with_reducible rfl
      rotate_left
      · simp only [Act.put, List.setIfInBounds_toArray, List.set_cons_zero, List.set_cons_succ]
        rfl
      refine last_ (i := 6) (N := none) #[true, true, true, true, true, true, true] rfl rfl (by kernel_rfl) (by decide) (fun K hK => ?_)
      refine skip_ (w1 := putM w7.drew m es2 (clock + 1)) (by rfl) rfl ?_ ?_
      · have UPx := HU.out
        go_simp
      refine hK.out _ _ ?_
      clear hK K
      refine done_ (by kernel_rfl) ?_
      obtain ⟨w8, hw8⟩ : ∃ w8, putM w7.drew m es2 (clock + 1) = w8 := ⟨_, rfl⟩
      rw [hw8] at HT8 ⊢
      clear hw8
      (try simp only [Exit.inBlock, Exit.then])
      by_cases hneg : iv < 0
      · have d3 : decide (iv < 0) = true := decide_eq_true hneg
        have HN := Aside0.mk hneg
        clear hneg
        go_wp2_with (fail)
        go_ret2
        exact ⟨by rw [HNI.out, if_pos (by have := HN.out; omega)] <;> rfl, HT8.out.1, HT8.out.2⟩
      · have d3 : decide (iv < 0) = false := decide_eq_false hneg
        have HN := Aside0.mk hneg
        clear hneg
        go_wp2_with (fail)
        go_ret2
        exact ⟨by rw [HNI.out, if_neg (by have := HN.out; omega)] <;> rfl, HT8.out.1, HT8.out.2⟩
    · have d1 : decide ((1024 : Int) ≤ (es.size : Int)) = false := decide_eq_false (by omega)
      have d1n : decide (1024 ≤ es.size) = false := decide_eq_false hbig
      have HT7 := Aside0.mk (And.intro (HO.out.below HB6.out) (Turn.of_below HB6.out q m (.slice A n c)))
      obtain ⟨es2, hup, hk2⟩ := UP.out (by trivial) es (Or.inl rfl) clock w6.drew HM6.out
      have HU := Aside0.mk hup
      have HK2 := Aside0.mk hk2
      have HM7 := HM6
      clear hbig hup hk2
      go_wp2_with (fail)
      clear hln hM6 x0 x1
      obtain ⟨w7, hw7⟩ : ∃ w7, w6 = w7 := ⟨_, rfl⟩
      rw [hw7] at HT7 HM7 BKq8 HU ⊢
      clear hw7
      have HD7 := Aside0.mk (HT7.out.1.below (below_drew (Below.refl _ _)))
      have HT8 := Aside0.mk (SpdO.lay (w9 := w7.drew) (es' := es2) (clock' := clock + 1) HD7.out.blk HM7.out HD7.out.own HO.out.low HO.out.lom HK2.out ⟨HT7.out.2.os, HT7.out.2.tape, HT7.out.2.output, HT7.out.2.size, HT7.out.2.block, HT7.out.2.row⟩)
      refine start_ (n := 7) (S := fun W => Below w7.heap.size w7 W) (ds := [6]) #[false, false, false, false, false, false, false] (by kernel_rfl) rfl rfl (below_drew (Below.refl w7.heap.size w7)) (fun hHeld => ?_)
      refine pure_ (i := 0) (N := some 43) (v := ?_) (a' := ?_) #[true, false, false, false, false, false, false] rfl rfl (by kernel_rfl) (fun _ _ _ h => h) (Or.inl ⟨by rfl, ?_⟩) ?_ ?_
      rotate_left
      · intro w'
        go_simp
        with_reducible rfl
      rotate_left
      · simp only [Act.put, List.setIfInBounds_toArray, List.set_cons_zero, List.set_cons_succ]
        rfl
      refine pure_ (i := 1) (N := some 44) (v := ?_) (a' := ?_) #[true, true, false, false, false, false, false] rfl rfl (by kernel_rfl) (fun _ _ _ h => h) (Or.inl ⟨by rfl, ?_⟩) ?_ ?_
      rotate_left
      · intro w'
        go_simp
        with_reducible rfl
      rotate_left
      · simp only [Act.put, List.setIfInBounds_toArray, List.set_cons_zero, List.set_cons_succ]
        rfl
      refine pure_ (i := 2) (N := some 45) (v := ?_) (a' := ?_) #[true, true, true, false, false, false, false] rfl rfl (by kernel_rfl) (fun _ _ _ h => h) (Or.inl ⟨by rfl, ?_⟩) ?_ ?_
      rotate_left
      · intro w'
        go_simp
        with_reducible rfl
      rotate_left
      · simp only [Act.put, List.setIfInBounds_toArray, List.set_cons_zero, List.set_cons_succ]
        rfl
      refine take_ (i := 3) (N := some 46) (v := ?_) (a' := ?_) #[true, true, true, true, false, false, false] rfl rfl (by kernel_rfl) (fun _ _ _ h => h) (Or.inl ⟨by rfl, ?_⟩) hHeld ?_ ?_
      rotate_left
      · intro w' s0
        have hS := HT7.out.1.below s0
        have x0 : w'.cell? ⟨q, 0, none⟩ = some (.slice A n c) := (blk_cell hS.blk 0).trans rfl
        have x1 : w'.cell? ⟨q, 1, none⟩ = some (.map (some m)) := (blk_cell hS.blk 1).trans rfl
        have BKt := Aside0.mk (blk_below BKq8.out s0)
        have y0 : w'.cell? ⟨q8, 0, none⟩ = some (.string f0) := (blk_cell BKt.out 0).trans rfl
        have y1 : w'.cell? ⟨q8, 1, none⟩ = some (.string f1) := (blk_cell BKt.out 1).trans rfl
        have y2 : w'.cell? ⟨q8, 2, none⟩ = some (.int .i64 f2) := (blk_cell BKt.out 2).trans rfl
        have y3 : w'.cell? ⟨q8, 3, none⟩ = some (.int .i64 f3) := (blk_cell BKt.out 3).trans rfl
        have y4 : w'.cell? ⟨q8, 4, none⟩ = some (.int .i64 f4) := (blk_cell BKt.out 4).trans rfl
        have y5 : w'.cell? ⟨q8, 5, none⟩ = some (.bool o) := (blk_cell BKt.out 5).trans rfl
        go_simp
        with_reducible rfl
      rotate_left
      · simp only [Act.put, List.setIfInBounds_toArray, List.set_cons_zero, List.set_cons_succ]
        rfl
      refine take_ (i := 4) (N := some 47) (v := ?_) (a' := ?_) #[true, true, true, true, true, false, false] rfl rfl (by kernel_rfl) (fun _ _ _ h => h) (Or.inl ⟨by rfl, ?_⟩) hHeld ?_ ?_
      rotate_left
      · intro w' s0
        have hS := HT7.out.1.below s0
        have x0 : w'.cell? ⟨q, 0, none⟩ = some (.slice A n c) := (blk_cell hS.blk 0).trans rfl
        have x1 : w'.cell? ⟨q, 1, none⟩ = some (.map (some m)) := (blk_cell hS.blk 1).trans rfl
        have BKt := Aside0.mk (blk_below BKq8.out s0)
        have y0 : w'.cell? ⟨q8, 0, none⟩ = some (.string f0) := (blk_cell BKt.out 0).trans rfl
        have y1 : w'.cell? ⟨q8, 1, none⟩ = some (.string f1) := (blk_cell BKt.out 1).trans rfl
        have y2 : w'.cell? ⟨q8, 2, none⟩ = some (.int .i64 f2) := (blk_cell BKt.out 2).trans rfl
        have y3 : w'.cell? ⟨q8, 3, none⟩ = some (.int .i64 f3) := (blk_cell BKt.out 3).trans rfl
        have y4 : w'.cell? ⟨q8, 4, none⟩ = some (.int .i64 f4) := (blk_cell BKt.out 4).trans rfl
        have y5 : w'.cell? ⟨q8, 5, none⟩ = some (.bool o) := (blk_cell BKt.out 5).trans rfl
        go_simp
        with_reducible rfl
      rotate_left
      · simp only [Act.put, List.setIfInBounds_toArray, List.set_cons_zero, List.set_cons_succ]
        rfl
      refine pure_ (i := 5) (N := some 48) (v := ?_) (a' := ?_) #[true, true, true, true, true, true, false] rfl rfl (by kernel_rfl) (fun _ _ _ h => h) (Or.inl ⟨by rfl, ?_⟩) ?_ ?_
      rotate_left
      · intro w'
        go_simp
        with_reducible rfl
      rotate_left
      · simp only [Act.put, List.setIfInBounds_toArray, List.set_cons_zero, List.set_cons_succ]
        rfl
      refine last_ (i := 6) (N := none) #[true, true, true, true, true, true, true] rfl rfl (by kernel_rfl) (by decide) (fun K hK => ?_)
      refine skip_ (w1 := putM w7.drew m es2 (clock + 1)) (by rfl) rfl ?_ ?_
      · have UPx := HU.out
        go_simp
      refine hK.out _ _ ?_
      clear hK K
      refine done_ (by kernel_rfl) ?_
      obtain ⟨w8, hw8⟩ : ∃ w8, putM w7.drew m es2 (clock + 1) = w8 := ⟨_, rfl⟩
      rw [hw8] at HT8 ⊢
      clear hw8
      (try simp only [Exit.inBlock, Exit.then])
      by_cases hneg : iv < 0
      · have d3 : decide (iv < 0) = true := decide_eq_true hneg
        have HN := Aside0.mk hneg
        clear hneg
        go_wp2_with (fail)
        go_ret2
        exact ⟨by rw [HNI.out, if_pos (by have := HN.out; omega)] <;> rfl, HT8.out.1, HT8.out.2⟩
      · have d3 : decide (iv < 0) = false := decide_eq_false hneg
        have HN := Aside0.mk hneg
        clear hneg
        go_wp2_with (fail)
        go_ret2
        exact ⟨by rw [HNI.out, if_neg (by have := HN.out; omega)] <;> rfl, HT8.out.1, HT8.out.2⟩
  · obtain rfl := HV.out (by trivial)
    have HT8 := Aside0.mk (And.intro (HO.out.below HB5.out) (Turn.of_below HB5.out q m (.slice A n c)))
    obtain ⟨w8, hw8⟩ : ∃ w8, w5 = w8 := ⟨_, rfl⟩
    rw [hw8] at HT8 ⊢
    clear hw8
    by_cases hneg : v < 0
    · have d3 : decide (v < 0) = true := decide_eq_true hneg
      have HN := Aside0.mk hneg
      clear hneg
      go_wp2_with (fail)
      go_ret2
      exact ⟨by rw [HNI.out, if_pos (by have := HN.out; omega)] <;> rfl, HT8.out.1, HT8.out.2⟩
    · have d3 : decide (v < 0) = false := decide_eq_false hneg
      have HN := Aside0.mk hneg
      clear hneg
      go_wp2_with (fail)
      go_ret2
      exact ⟨by rw [HNI.out, if_neg (by have := HN.out; omega)] <;> rfl, HT8.out.1, HT8.out.2⟩
theorem find_call {w : World} {base q m : Nat} {v : Value} {l : List S35} (h : SpdO w base q m v l) (hlim : l.length ≤ 1000) (f : S24) (o : Bool) : Calls Try.prog 12 #[.pointer (some ⟨q, 0, none⟩), v24 f, .bool o] w (FindQ w base q m v l (findF l f o)) := by
  obtain ⟨A, c, rfl, _, _⟩ := own_slice' h.own
  obtain ⟨es, clock, hm, hk⟩ := h.map
  obtain ⟨v, ok, h1, h2, h3⟩ := look54 hk f o
  have hr := (Kd.R_reads' (R_of_own h.own)).2.2
  refine find_aux f.f0 f.f1 f.f2 f.f3 f.f4 o (idxF l f o) v ok ⟨h⟩ ⟨hm⟩ ⟨fun W hW => h1 m clock W hW⟩ ⟨h2⟩ ⟨fun hok es' hes k W hW => ?_⟩ ⟨fun W b4 b5 hb h4 h5 => ?_⟩ hlim
  · rcases hes with rfl | rfl
    · exact ⟨_, upd54 f o (h3 hok) _ m k W hW, kept_push hk f o k⟩
    · exact ⟨_, upd54 f o (look_none f o) _ m k W hW, kept_push (kept_nil l) f o k⟩
  · exact index_walk A c l f o b4 b5 W (Kd.C_below hr hb) hlim h4 h5
set_option maxHeartbeats 1600000 in
set_option maxRecDepth 100000 in
theorem find_nil (f : S24) (o : Bool) (w : World) : Calls Try.prog 12 #[.pointer none, v24 f, .bool o] w fun e w' => e = .returned (.tuple #[.int .i64 0, .int .i64 3]) ∧ Below w.heap.size w w' := by
  obtain ⟨f0, f1, f2, f3, f4⟩ := f
  unfold v24
  dsimp only
  go_enter Try.func12, Try.ntmps12
  go_wp2_with (first | ((with_reducible refine gate_dst (N := 4) rfl ?_); refine box_event ?hg (N := 4) ?hd (cs := #[.string f0, .string f1, .int .i64 f2, .int .i64 f3, .int .i64 f4]) (t := 24) ?hr ?_; (case hd => rfl); (case hg => rfl); (case hr => first | (go_simp; done) | (go_simp; rfl)); intro q4 hq w1 hbox hb; have BKq4 := Aside0.mk hbox; have HQq4 := Aside0.mk (show w.heap.size ≤ q4 from by rw [hq]; exact Nat.le_refl _); have HB1 := Aside0.mk hb; clear hbox hb hq) | ((with_reducible refine gate_dst (N := 5) rfl ?_); refine box_event ?hg (N := 5) ?hd (cs := #[.bool o]) (t := 4) ?hr ?_; (case hd => rfl); (case hg => rfl); (case hr => first | (go_simp; done) | (go_simp; rfl)); intro q5 hq w2 hbox hb; have HNq4q5 := Aside0.mk (show q4 ≠ q5 from by have := blk_lt BKq4.out; omega); have BKq4 := Aside0.mk (blk_below BKq4.out hb); have BKq5 := Aside0.mk hbox; have HQq5 := Aside0.mk (show w.heap.size ≤ q5 from by rw [hq]; exact HB1.out.size); have HB2 := Aside0.mk (HB1.out.trans (hb.mono HB1.out.size)); clear hbox hb hq; have y4 : w2.cell? ⟨q5, 0, none⟩ = some (.bool o) := (blk_cell BKq5.out 0).trans rfl; have z0 : w2.cell? ⟨q4, 0, none⟩ = some (.string f0) := (blk_cell BKq4.out 0).trans rfl; have z1 : w2.cell? ⟨q4, 1, none⟩ = some (.string f1) := (blk_cell BKq4.out 1).trans rfl; have z2 : w2.cell? ⟨q4, 2, none⟩ = some (.int .i64 f2) := (blk_cell BKq4.out 2).trans rfl; have z3 : w2.cell? ⟨q4, 3, none⟩ = some (.int .i64 f3) := (blk_cell BKq4.out 3).trans rfl; have z4 : w2.cell? ⟨q4, 4, none⟩ = some (.int .i64 f4) := (blk_cell BKq4.out 4).trans rfl))
  go_ret2
  exact ⟨rfl, HB2.out⟩
end Go.Proofs.Ytdpfopeofeofcaa.Sp

/- redoubtref04.Bytes. -/
import Derived.Test.YtpodidgdlcfaeaaIp6O
namespace Go.Proofs.Ytpodidgdlcfaeaa.Ip6
open Go.RowKit Go.Proofs.YtpodidgdlcfaeaaW.PrintWords Go.Proofs.YtpodidgdlcfaeaaW.PrintLast Go.Proofs.YtpodidgdlcfaeaaW.PrintMore Go.Proofs.Ytpodidgdlcfaeaa.PIp6Lays
open Go.Proofs.Ytpodidgdlcfaeaa Go.Proofs.Ytpodidgdlcfaeaa.Events
set_option linter.unusedVariables false
set_option linter.unusedSimpArgs false
theorem getD_opt {a : Act} {t : Nat} {v : Value} (h : a.tmps.getD t undef = v) : a.tmps[t]?.getD undef = v := by simpa using h
theorem len_row' {xs : List Int} {s : ByteArray} (ys : List Int) (h : xs.length ≤ 8000000) (h2 : ys.length ≤ 10) (hs : s.size ≤ 4000) : ((xs ++ ys).length + s.size) * 1 ≤ 140737488355328 := by rw [List.length_append]; omega
theorem len_row2' {xs : List Int} {s : ByteArray} (ys zs : List Int) (h : xs.length ≤ 8000000) (h2 : ys.length ≤ 10) (h3 : zs.length ≤ 10) (hs : s.size ≤ 4000) : ((xs ++ ys ++ zs).length + s.size) * 1 ≤ 140737488355328 := by rw [List.length_append, List.length_append]; omega
/-- A string turned to bytes, as one event. -/
theorem conv_event {ops : Array Oper} {rest : List Oper} {o : Oper} {a : Act} {Q : Exit → Act → World → Prop} {W : World} (hgd : o.guard = none) {N : Tmp} (_hd : o.dst = some N) {x : Operand} (s : ByteArray) (ho : o.op = .convert 9 22 x) (hx : a.eval x = .string s) (hs : s.size ≤ 9223372036854775807)
    (h : ∀ A c w1, ReadsInt w1 .u8 A s.size (bytesOf s) → s.size ≤ c → Below W.heap.size W w1 → wpList Try.prog ops Q rest (a.put o.dst (.slice A s.size c)) w1) : wpList Try.prog ops Q (o :: rest) a W := by
  refine Kd.event_run hgd (v := .slice (some ⟨W.heap.size, 0, none⟩) s.size (grownCap W s.size 0 5)) (w1 := Lib.bytesWorld W 5 s) ?_ (h _ _ _ (bytes_reads W 5 s hs) (grownCap_ge _ _ _ _) (bytes_below (Below.refl _ _) (Nat.le_refl _) 5 s))
  have := print_bytes (P := Try.prog) 9 22 5 Try.underlying9 Try.underlying22 Try.underlying5 s W
  simp [execOp, ho, hx, this]
set_option maxHeartbeats 8000000 in
set_option maxRecDepth 100000 in
theorem refBytes_walk (p : Pk) (A5 A7 : Option Addr) (c5 c7 : Nat) (hp : Small p) (w : World) (hr : PkR w p A5 c5 A7 c7) (hok : checkE p = 0) :
    Calls Try.prog 19 #[.agg (p.cells A5 c5 A7 c7)] w fun e w' => (∃ v : Value, e = .returned v ∧ Own w' w.heap.size v (bytesE p)) ∧ Below w.heap.size w w' := by
  have HP := Aside0.mk hp
  have HR := Aside0.mk fun (W : World) (hb : Below w.heap.size w W) => hr.below hb
  have HOK := Aside0.mk hok
  have KD := Aside0.mk fun (i : Nat) (hi : i ≤ p.ex.length) (W : World) (hb : Below w.heap.size w W) => redoubtref04_kind.calls p.cls p.lab p.hop p.src p.dst A5 c5 p.ex p.nxt A7 c7 p.dat (i : Int) _ W (hr.below hb).r5 hr.h5 (hr.below hb).r7 hr.h7 (kind_f p hok i hi)
  have SZ := Aside0.mk fun (W : World) (hb : Below w.heap.size w W) => redoubtref04_size.calls (p.ex.length + 1) p.cls p.lab p.hop p.src p.dst A5 c5 p.ex p.nxt A7 c7 p.dat _ W (hr.below hb).r5 hr.h5 (hr.below hb).r7 hr.h7 (size_f p hp _ (by omega))
  have HH := headOk_of hok
  have HSUM := Aside0.mk (sum_of hok)
  obtain ⟨cls, lab, hop, src, dst, ex, nxt, dat⟩ := p
  obtain ⟨⟨hcls, hhop, hnxt, hlab⟩, hs16, hd16, _⟩ := HH
  simp only at hcls hhop hnxt hlab hs16 hd16 KD SZ HSUM
  show Calls Try.prog 19 #[.agg #[.int .i64 cls, .int .i64 lab, .int .i64 hop, .string src, .string dst, .slice A5 ex.length c5, .int .i64 nxt, .slice A7 dat.length c7]] w _
  have FO := Aside0.mk (four_f hcls hlab)
  have TW := Aside0.mk (two_f HSUM.out)
  have HS16 := Aside0.mk (And.intro hs16 hd16)
  have n1 : IntKind.i64.wrap (1048576 * cls) = 1048576 * cls := IntWalk.i64_in _ (by omega)
  have n2 : IntKind.i64.wrap (1610612736 + 1048576 * cls) = 1610612736 + 1048576 * cls := IntWalk.i64_in _ (by omega)
  have n3 : IntKind.i64.wrap (1610612736 + 1048576 * cls + lab) = 1610612736 + 1048576 * cls + lab := IntWalk.i64_in _ (by omega)
  have n4 : IntKind.u8.wrap hop = hop := by rw [wraps_u8 _ (by omega) (by omega)]
  have NN := Aside0.mk (And.intro n1 (And.intro n2 (And.intro n3 n4)))
  clear hp hr hok n1 n2 n3 n4 hs16 hd16
  go_enter Try.func19, Try.ntmps19
  go_wp2_with (first | ((with_reducible refine gate_dst (N := 1) rfl ?_); refine box_event ?hg (N := 1) ?hd (cs := #[.int .i64 cls, .int .i64 lab, .int .i64 hop, .string src, .string dst, .slice A5 ex.length c5, .int .i64 nxt, .slice A7 dat.length c7]) (t := 26) ?hr ?_; (case hd => rfl); (case hg => rfl); (case hr => first | (go_simp; done) | (go_simp; rfl)); intro q1 hq w1 hbox hb; have BKq1 := Aside0.mk hbox; have HQq1 := Aside0.mk (show w.heap.size ≤ q1 from by rw [hq]; exact Nat.le_refl _); have HB1 := Aside0.mk hb; clear hbox hb hq))
  obtain ⟨n1, n2, n3, n4⟩ := NN.out
  refine start_ (n := 26) (S := fun W => Below w1.heap.size w1 W) (ds := []) #[false, false, false, false, false, false, false, false, false, false, false, false, false, false, false, false, false, false, false, false, false, false, false, false, false, false] (by kernel_rfl) rfl rfl (below_drew (Below.refl w1.heap.size w1)) (fun hHeld => ?_)
  refine pure_ (i := 0) (N := some 6) (v := ?_) (a' := ?_) #[true, false, false, false, false, false, false, false, false, false, false, false, false, false, false, false, false, false, false, false, false, false, false, false, false, false] rfl rfl (by as_aux_lemma => kernel_rfl) (fun _ _ _ h => h) (Or.inl ⟨by rfl, ?_⟩) ?_ ?_
  rotate_left
  · intro w'
    go_simp
    with_reducible rfl
  rotate_left
  · simp only [Act.put, List.setIfInBounds_toArray, List.set_cons_zero, List.set_cons_succ]
    rfl
  refine take_ (i := 1) (N := some 7) (v := ?_) (a' := ?_) #[true, true, false, false, false, false, false, false, false, false, false, false, false, false, false, false, false, false, false, false, false, false, false, false, false, false] rfl rfl (by as_aux_lemma => kernel_rfl) (fun _ _ _ h => h) (Or.inl ⟨by rfl, ?_⟩) hHeld ?_ ?_
  rotate_left
  · intro w' s0
    have BKt := Aside0.mk (blk_below BKq1.out s0); have z0 : w'.cell? ⟨q1, 0, none⟩ = some (.int .i64 cls) := (blk_cell BKt.out 0).trans rfl; have z1 : w'.cell? ⟨q1, 1, none⟩ = some (.int .i64 lab) := (blk_cell BKt.out 1).trans rfl; have z2 : w'.cell? ⟨q1, 2, none⟩ = some (.int .i64 hop) := (blk_cell BKt.out 2).trans rfl; have z3 : w'.cell? ⟨q1, 3, none⟩ = some (.string src) := (blk_cell BKt.out 3).trans rfl; have z4 : w'.cell? ⟨q1, 4, none⟩ = some (.string dst) := (blk_cell BKt.out 4).trans rfl; have z5 : w'.cell? ⟨q1, 5, none⟩ = some (.slice A5 ex.length c5) := (blk_cell BKt.out 5).trans rfl; have z6 : w'.cell? ⟨q1, 6, none⟩ = some (.int .i64 nxt) := (blk_cell BKt.out 6).trans rfl; have z7 : w'.cell? ⟨q1, 7, none⟩ = some (.slice A7 dat.length c7) := (blk_cell BKt.out 7).trans rfl
    go_simp
    with_reducible rfl
  rotate_left
  · simp only [Act.put, List.setIfInBounds_toArray, List.set_cons_zero, List.set_cons_succ]
    rfl
  refine pure_ (i := 2) (N := some 8) (v := ?_) (a' := ?_) #[true, true, true, false, false, false, false, false, false, false, false, false, false, false, false, false, false, false, false, false, false, false, false, false, false, false] rfl rfl (by as_aux_lemma => kernel_rfl) (fun _ _ _ h => h) (Or.inl ⟨by rfl, ?_⟩) ?_ ?_
  rotate_left
  · intro w'
    go_simp
    with_reducible rfl
  rotate_left
  · simp only [Act.put, List.setIfInBounds_toArray, List.set_cons_zero, List.set_cons_succ]
    rfl
  refine pure_ (i := 3) (N := some 9) (v := ?_) (a' := ?_) #[true, true, true, true, false, false, false, false, false, false, false, false, false, false, false, false, false, false, false, false, false, false, false, false, false, false] rfl rfl (by as_aux_lemma => kernel_rfl) (fun _ _ _ h => h) (Or.inl ⟨by rfl, ?_⟩) ?_ ?_
  rotate_left
  · intro w'
    go_simp
    with_reducible rfl
  rotate_left
  · simp only [Act.put, List.setIfInBounds_toArray, List.set_cons_zero, List.set_cons_succ]
    rfl
  refine pure_ (i := 4) (N := some 10) (v := ?_) (a' := ?_) #[true, true, true, true, true, false, false, false, false, false, false, false, false, false, false, false, false, false, false, false, false, false, false, false, false, false] rfl rfl (by as_aux_lemma => kernel_rfl) (fun _ _ _ h => h) (Or.inl ⟨by rfl, ?_⟩) ?_ ?_
  rotate_left
  · intro w'
    go_simp
    with_reducible rfl
  rotate_left
  · simp only [Act.put, List.setIfInBounds_toArray, List.set_cons_zero, List.set_cons_succ]
    rfl
  refine take_ (i := 5) (N := some 11) (v := ?_) (a' := ?_) #[true, true, true, true, true, true, false, false, false, false, false, false, false, false, false, false, false, false, false, false, false, false, false, false, false, false] rfl rfl (by as_aux_lemma => kernel_rfl) (fun _ _ _ h => h) (Or.inl ⟨by rfl, ?_⟩) hHeld ?_ ?_
  rotate_left
  · intro w' s0
    have BKt := Aside0.mk (blk_below BKq1.out s0); have z0 : w'.cell? ⟨q1, 0, none⟩ = some (.int .i64 cls) := (blk_cell BKt.out 0).trans rfl; have z1 : w'.cell? ⟨q1, 1, none⟩ = some (.int .i64 lab) := (blk_cell BKt.out 1).trans rfl; have z2 : w'.cell? ⟨q1, 2, none⟩ = some (.int .i64 hop) := (blk_cell BKt.out 2).trans rfl; have z3 : w'.cell? ⟨q1, 3, none⟩ = some (.string src) := (blk_cell BKt.out 3).trans rfl; have z4 : w'.cell? ⟨q1, 4, none⟩ = some (.string dst) := (blk_cell BKt.out 4).trans rfl; have z5 : w'.cell? ⟨q1, 5, none⟩ = some (.slice A5 ex.length c5) := (blk_cell BKt.out 5).trans rfl; have z6 : w'.cell? ⟨q1, 6, none⟩ = some (.int .i64 nxt) := (blk_cell BKt.out 6).trans rfl; have z7 : w'.cell? ⟨q1, 7, none⟩ = some (.slice A7 dat.length c7) := (blk_cell BKt.out 7).trans rfl
    go_simp
    with_reducible rfl
  rotate_left
  · simp only [Act.put, List.setIfInBounds_toArray, List.set_cons_zero, List.set_cons_succ]
    rfl
  refine pure_ (i := 6) (N := some 12) (v := ?_) (a' := ?_) #[true, true, true, true, true, true, true, false, false, false, false, false, false, false, false, false, false, false, false, false, false, false, false, false, false, false] rfl rfl (by as_aux_lemma => kernel_rfl) (fun _ _ _ h => h) (Or.inl ⟨by rfl, ?_⟩) ?_ ?_
  rotate_left
  · intro w'
    go_simp
    with_reducible rfl
  rotate_left
  · simp only [Act.put, List.setIfInBounds_toArray, List.set_cons_zero, List.set_cons_succ]
    rfl
  refine take_ (i := 8) (N := some 14) (v := ?_) (a' := ?_) #[true, true, true, true, true, true, true, false, true, false, false, false, false, false, false, false, false, false, false, false, false, false, false, false, false, false] rfl rfl (by as_aux_lemma => kernel_rfl) (fun _ _ _ h => h) (Or.inl ⟨by rfl, ?_⟩) hHeld ?_ ?_
  rotate_left
  · intro w' s0
    have BKt := Aside0.mk (blk_below BKq1.out s0); have z0 : w'.cell? ⟨q1, 0, none⟩ = some (.int .i64 cls) := (blk_cell BKt.out 0).trans rfl; have z1 : w'.cell? ⟨q1, 1, none⟩ = some (.int .i64 lab) := (blk_cell BKt.out 1).trans rfl; have z2 : w'.cell? ⟨q1, 2, none⟩ = some (.int .i64 hop) := (blk_cell BKt.out 2).trans rfl; have z3 : w'.cell? ⟨q1, 3, none⟩ = some (.string src) := (blk_cell BKt.out 3).trans rfl; have z4 : w'.cell? ⟨q1, 4, none⟩ = some (.string dst) := (blk_cell BKt.out 4).trans rfl; have z5 : w'.cell? ⟨q1, 5, none⟩ = some (.slice A5 ex.length c5) := (blk_cell BKt.out 5).trans rfl; have z6 : w'.cell? ⟨q1, 6, none⟩ = some (.int .i64 nxt) := (blk_cell BKt.out 6).trans rfl; have z7 : w'.cell? ⟨q1, 7, none⟩ = some (.slice A7 dat.length c7) := (blk_cell BKt.out 7).trans rfl
    go_simp
    with_reducible rfl
  rotate_left
  · simp only [Act.put, List.setIfInBounds_toArray, List.set_cons_zero, List.set_cons_succ]
    rfl
  refine take_ (i := 11) (N := some 17) (v := ?_) (a' := ?_) #[true, true, true, true, true, true, true, false, true, false, false, true, false, false, false, false, false, false, false, false, false, false, false, false, false, false] rfl rfl (by as_aux_lemma => kernel_rfl) (fun _ _ _ h => h) (Or.inl ⟨by rfl, ?_⟩) hHeld ?_ ?_
  rotate_left
  · intro w' s0
    have BKt := Aside0.mk (blk_below BKq1.out s0); have z0 : w'.cell? ⟨q1, 0, none⟩ = some (.int .i64 cls) := (blk_cell BKt.out 0).trans rfl; have z1 : w'.cell? ⟨q1, 1, none⟩ = some (.int .i64 lab) := (blk_cell BKt.out 1).trans rfl; have z2 : w'.cell? ⟨q1, 2, none⟩ = some (.int .i64 hop) := (blk_cell BKt.out 2).trans rfl; have z3 : w'.cell? ⟨q1, 3, none⟩ = some (.string src) := (blk_cell BKt.out 3).trans rfl; have z4 : w'.cell? ⟨q1, 4, none⟩ = some (.string dst) := (blk_cell BKt.out 4).trans rfl; have z5 : w'.cell? ⟨q1, 5, none⟩ = some (.slice A5 ex.length c5) := (blk_cell BKt.out 5).trans rfl; have z6 : w'.cell? ⟨q1, 6, none⟩ = some (.int .i64 nxt) := (blk_cell BKt.out 6).trans rfl; have z7 : w'.cell? ⟨q1, 7, none⟩ = some (.slice A7 dat.length c7) := (blk_cell BKt.out 7).trans rfl
    go_simp
    with_reducible rfl
  rotate_left
  · simp only [Act.put, List.setIfInBounds_toArray, List.set_cons_zero, List.set_cons_succ]
    rfl
  refine pure_ (i := 13) (N := some 19) (v := ?_) (a' := ?_) #[true, true, true, true, true, true, true, false, true, false, false, true, false, true, false, false, false, false, false, false, false, false, false, false, false, false] rfl rfl (by as_aux_lemma => kernel_rfl) (fun _ _ _ h => h) (Or.inl ⟨by rfl, ?_⟩) ?_ ?_
  rotate_left
  · intro w'
    go_simp
    with_reducible rfl
  rotate_left
  · simp only [Act.put, List.setIfInBounds_toArray, List.set_cons_zero, List.set_cons_succ]
    rfl
  refine take_ (i := 14) (N := some 20) (v := ?_) (a' := ?_) #[true, true, true, true, true, true, true, false, true, false, false, true, false, true, true, false, false, false, false, false, false, false, false, false, false, false] rfl rfl (by as_aux_lemma => kernel_rfl) (fun _ _ _ h => h) (Or.inl ⟨by rfl, ?_⟩) hHeld ?_ ?_
  rotate_left
  · intro w' s0
    have BKt := Aside0.mk (blk_below BKq1.out s0); have z0 : w'.cell? ⟨q1, 0, none⟩ = some (.int .i64 cls) := (blk_cell BKt.out 0).trans rfl; have z1 : w'.cell? ⟨q1, 1, none⟩ = some (.int .i64 lab) := (blk_cell BKt.out 1).trans rfl; have z2 : w'.cell? ⟨q1, 2, none⟩ = some (.int .i64 hop) := (blk_cell BKt.out 2).trans rfl; have z3 : w'.cell? ⟨q1, 3, none⟩ = some (.string src) := (blk_cell BKt.out 3).trans rfl; have z4 : w'.cell? ⟨q1, 4, none⟩ = some (.string dst) := (blk_cell BKt.out 4).trans rfl; have z5 : w'.cell? ⟨q1, 5, none⟩ = some (.slice A5 ex.length c5) := (blk_cell BKt.out 5).trans rfl; have z6 : w'.cell? ⟨q1, 6, none⟩ = some (.int .i64 nxt) := (blk_cell BKt.out 6).trans rfl; have z7 : w'.cell? ⟨q1, 7, none⟩ = some (.slice A7 dat.length c7) := (blk_cell BKt.out 7).trans rfl
    go_simp
    with_reducible rfl
  rotate_left
  · simp only [Act.put, List.setIfInBounds_toArray, List.set_cons_zero, List.set_cons_succ]
    rfl
  refine pure_ (i := 15) (N := some 21) (v := ?_) (a' := ?_) #[true, true, true, true, true, true, true, false, true, false, false, true, false, true, true, true, false, false, false, false, false, false, false, false, false, false] rfl rfl (by as_aux_lemma => kernel_rfl) (fun _ _ _ h => h) (Or.inl ⟨by rfl, ?_⟩) ?_ ?_
  rotate_left
  · intro w'
    go_simp
    with_reducible rfl
  rotate_left
  · simp only [Act.put, List.setIfInBounds_toArray, List.set_cons_zero, List.set_cons_succ]
    rfl
  refine pure_ (i := 17) (N := some 23) (v := ?_) (a' := ?_) #[true, true, true, true, true, true, true, false, true, false, false, true, false, true, true, true, false, true, false, false, false, false, false, false, false, false] rfl rfl (by as_aux_lemma => kernel_rfl) (fun _ _ _ h => h) (Or.inl ⟨by rfl, ?_⟩) ?_ ?_
  rotate_left
  · intro w'
    go_simp
    with_reducible rfl
  rotate_left
  · simp only [Act.put, List.setIfInBounds_toArray, List.set_cons_zero, List.set_cons_succ]
    rfl
  refine take_ (i := 18) (N := some 24) (v := ?_) (a' := ?_) #[true, true, true, true, true, true, true, false, true, false, false, true, false, true, true, true, false, true, true, false, false, false, false, false, false, false] rfl rfl (by as_aux_lemma => kernel_rfl) (fun _ _ _ h => h) (Or.inl ⟨by rfl, ?_⟩) hHeld ?_ ?_
  rotate_left
  · intro w' s0
    have BKt := Aside0.mk (blk_below BKq1.out s0); have z0 : w'.cell? ⟨q1, 0, none⟩ = some (.int .i64 cls) := (blk_cell BKt.out 0).trans rfl; have z1 : w'.cell? ⟨q1, 1, none⟩ = some (.int .i64 lab) := (blk_cell BKt.out 1).trans rfl; have z2 : w'.cell? ⟨q1, 2, none⟩ = some (.int .i64 hop) := (blk_cell BKt.out 2).trans rfl; have z3 : w'.cell? ⟨q1, 3, none⟩ = some (.string src) := (blk_cell BKt.out 3).trans rfl; have z4 : w'.cell? ⟨q1, 4, none⟩ = some (.string dst) := (blk_cell BKt.out 4).trans rfl; have z5 : w'.cell? ⟨q1, 5, none⟩ = some (.slice A5 ex.length c5) := (blk_cell BKt.out 5).trans rfl; have z6 : w'.cell? ⟨q1, 6, none⟩ = some (.int .i64 nxt) := (blk_cell BKt.out 6).trans rfl; have z7 : w'.cell? ⟨q1, 7, none⟩ = some (.slice A7 dat.length c7) := (blk_cell BKt.out 7).trans rfl
    go_simp
    with_reducible rfl
  rotate_left
  · simp only [Act.put, List.setIfInBounds_toArray, List.set_cons_zero, List.set_cons_succ]
    rfl
  refine pure_ (i := 20) (N := some 26) (v := ?_) (a' := ?_) #[true, true, true, true, true, true, true, false, true, false, false, true, false, true, true, true, false, true, true, false, true, false, false, false, false, false] rfl rfl (by as_aux_lemma => kernel_rfl) (fun _ _ _ h => h) (Or.inl ⟨by rfl, ?_⟩) ?_ ?_
  rotate_left
  · intro w'
    go_simp
    with_reducible rfl
  rotate_left
  · simp only [Act.put, List.setIfInBounds_toArray, List.set_cons_zero, List.set_cons_succ]
    rfl
  refine take_ (i := 21) (N := some 27) (v := ?_) (a' := ?_) #[true, true, true, true, true, true, true, false, true, false, false, true, false, true, true, true, false, true, true, false, true, true, false, false, false, false] rfl rfl (by as_aux_lemma => kernel_rfl) (fun _ _ _ h => h) (Or.inl ⟨by rfl, ?_⟩) hHeld ?_ ?_
  rotate_left
  · intro w' s0
    have BKt := Aside0.mk (blk_below BKq1.out s0); have z0 : w'.cell? ⟨q1, 0, none⟩ = some (.int .i64 cls) := (blk_cell BKt.out 0).trans rfl; have z1 : w'.cell? ⟨q1, 1, none⟩ = some (.int .i64 lab) := (blk_cell BKt.out 1).trans rfl; have z2 : w'.cell? ⟨q1, 2, none⟩ = some (.int .i64 hop) := (blk_cell BKt.out 2).trans rfl; have z3 : w'.cell? ⟨q1, 3, none⟩ = some (.string src) := (blk_cell BKt.out 3).trans rfl; have z4 : w'.cell? ⟨q1, 4, none⟩ = some (.string dst) := (blk_cell BKt.out 4).trans rfl; have z5 : w'.cell? ⟨q1, 5, none⟩ = some (.slice A5 ex.length c5) := (blk_cell BKt.out 5).trans rfl; have z6 : w'.cell? ⟨q1, 6, none⟩ = some (.int .i64 nxt) := (blk_cell BKt.out 6).trans rfl; have z7 : w'.cell? ⟨q1, 7, none⟩ = some (.slice A7 dat.length c7) := (blk_cell BKt.out 7).trans rfl
    go_simp
    with_reducible rfl
  rotate_left
  · simp only [Act.put, List.setIfInBounds_toArray, List.set_cons_zero, List.set_cons_succ]
    rfl
  clear n1 n2 n3 n4
  generalize hW0 : w1.drew = w2 at hHeld ⊢
  have HB2 := Aside0.mk (HB1.out.trans (hHeld.mono HB1.out.size))
  obtain ⟨four, hfour⟩ : ∃ l, [96 + cls / 16, cls % 16 * 16 + lab / 65536, lab / 256 % 256, lab % 256] = l := ⟨_, rfl⟩
  obtain ⟨X, hX⟩ : ∃ X, 1610612736 + 1048576 * cls + lab = X := ⟨_, rfl⟩
  obtain ⟨k0, hk0⟩ : ∃ k, rd (kinds ex ++ [nxt]) (0 : Int) = k := ⟨_, rfl⟩
  obtain ⟨M, hM⟩ : ∃ M, sumx ex + dat.length = M := ⟨_, rfl⟩
  rw [hM] at HSUM TW
  obtain ⟨two, htwo⟩ : ∃ l, [(M : Int) / 256, (M : Int) % 256] = l := ⟨_, rfl⟩
  rw [htwo] at TW
  rw [hfour, hX] at FO
  rw [hX]
  clear hW0
  refine events_ [(7, 13), (9, 15), (10, 16), (12, 18), (16, 22), (19, 25), (22, 28), (23, 29), (24, 30), (25, 3)] (HV w.heap.size four two (M : Int) k0 hop src dst (four ++ two ++ [k0, hop] ++ bytesOf src ++ bytesOf dst)) 73 (by rfl) (by decide) (by as_aux_lemma => kernel_rfl) (by as_aux_lemma => kernel_rfl) HV_mono (fun W W' hb h => h.trans (hb.mono h.size)) hHeld ?_ ?_
  · intro p hp
    simp only [List.mem_cons, List.mem_nil_iff, or_false] at hp
    rcases hp with rfl | rfl | rfl | rfl | rfl | rfl | rfl | rfl | rfl | rfl
    · refine ⟨_, rfl, rfl, fun a W hd hs hv hb hS K hK => ?_⟩
      have e12 : a.tmps.getD 12 undef = .int .i64 X := (hs 12 (by decide)).trans rfl
      refine goes_ Try.func28 (by kernel_rfl) rfl #[.int .i64 X] (by rfl) rfl rfl (by simp only [List.map_toArray, List.map_cons, List.map_nil]; show #[a.tmps.getD 12 undef] = _; rw [e12]) ?_
      refine (redoubtref01_Four.calls X _ W FO.out).mono ?_
      rintro e W' ⟨v, rfl, ho, hb'⟩
      exact ⟨v, rfl, hK v W' (Kd.R_lower ho (HB2.out.trans (hb.mono HB2.out.size)).size) hb'⟩
    · refine ⟨_, rfl, rfl, fun a W hd hs hv hb hS K hK => ?_⟩
      have e14 : a.tmps.getD 14 undef = .agg #[.int .i64 cls, .int .i64 lab, .int .i64 hop, .string src, .string dst, .slice A5 ex.length c5, .int .i64 nxt, .slice A7 dat.length c7] := (hs 14 (by decide)).trans rfl
      refine goes_ Try.func27 (by kernel_rfl) rfl #[.agg #[.int .i64 cls, .int .i64 lab, .int .i64 hop, .string src, .string dst, .slice A5 ex.length c5, .int .i64 nxt, .slice A7 dat.length c7]] (by rfl) rfl rfl (by simp only [List.map_toArray, List.map_cons, List.map_nil]; show #[a.tmps.getD 14 undef] = _; rw [e14]) ?_
      refine (SZ.out W (HB2.out.trans (hb.mono HB2.out.size))).mono ?_
      rintro e W' ⟨rfl, hb'⟩
      exact ⟨_, rfl, hK _ W' (show Value.int .i64 ((dat.length + sumx ex : Nat) : Int) = .int .i64 (M : Int) by rw [Nat.add_comm, hM]) hb'⟩
    · refine ⟨_, rfl, rfl, fun a W hd hs hv hb hS K hK => ?_⟩
      have e15 : a.tmps.getD 15 undef = .int .i64 (M : Int) := hv (9, 15) (by simp) (by as_aux_lemma => kernel_rfl)
      refine goes_ Try.func29 (by kernel_rfl) rfl #[.int .i64 (M : Int)] (by rfl) rfl rfl (by simp only [List.map_toArray, List.map_cons, List.map_nil]; show #[a.tmps.getD 15 undef] = _; rw [e15]) ?_
      refine (redoubtref01_Two.calls (M : Int) _ W TW.out).mono ?_
      rintro e W' ⟨v, rfl, ho, hb'⟩
      exact ⟨v, rfl, hK v W' (Kd.R_lower ho (HB2.out.trans (hb.mono HB2.out.size)).size) hb'⟩
    · refine ⟨_, rfl, rfl, fun a W hd hs hv hb hS K hK => ?_⟩
      have e17 : a.tmps.getD 17 undef = .agg #[.int .i64 cls, .int .i64 lab, .int .i64 hop, .string src, .string dst, .slice A5 ex.length c5, .int .i64 nxt, .slice A7 dat.length c7] := (hs 17 (by decide)).trans rfl
      refine goes_ Try.func30 (by kernel_rfl) rfl #[.agg #[.int .i64 cls, .int .i64 lab, .int .i64 hop, .string src, .string dst, .slice A5 ex.length c5, .int .i64 nxt, .slice A7 dat.length c7], .int .i64 0] (by rfl) rfl rfl (by simp only [List.map_toArray, List.map_cons, List.map_nil]; show #[a.tmps.getD 17 undef, .int .i64 0] = _; rw [e17]) ?_
      have kd := KD.out 0 (Nat.zero_le _) W (HB2.out.trans (hb.mono HB2.out.size))
      rw [show ((0 : Nat) : Int) = 0 from rfl, hk0] at kd
      refine kd.mono ?_
      rintro e W' ⟨rfl, hb'⟩
      exact ⟨_, rfl, hK _ W' rfl hb'⟩
    · refine ⟨_, rfl, rfl, fun a W hd hs hv hb hS K hK => ?_⟩
      have e18 : a.tmps.getD 18 undef = .int .u8 k0 := hv (12, 18) (by simp) (by as_aux_lemma => kernel_rfl)
      have e21 : a.tmps.getD 21 undef = .int .u8 hop := (hs 21 (by decide)).trans rfl
      have hBW := HB2.out.trans (hb.mono HB2.out.size)
      refine Kd.R_lit_step (Kd.int .u8) (w0 := w) w.heap.size 5 (by rfl) (N := 22) rfl (xs := [k0, hop]) (inner := [.int .u8 k0, .int .u8 hop]) (ok := fun _ => True) (okp := fun _ => True) ?hr ?hp (fun _ hk => hk) trivial hBW hBW.size (by simp) ?_
      case hr =>
        have e18' := getD_opt e18
        have e21' := getD_opt e21
        first | (go_simp; done) | (go_simp; rfl)
      case hp => exact (Reps.one (show Kd.M (Kd.int .u8) _ _ _ k0 [.int .u8 k0] from rfl) (Reps.one (show Kd.M (Kd.int .u8) _ _ _ hop [.int .u8 hop] from rfl) (Reps.none _ _)))
      intro v W' ho hb' hg _
      exact hK v W' ho ((Below.refl _ _).grown hg (Nat.le_refl _) (fun _ h => by cases h))
    · refine ⟨_, rfl, rfl, fun a W hd hs hv hb hS K hK => ?_⟩
      have e24 : a.tmps.getD 24 undef = .string src := (hs 24 (by decide)).trans rfl
      refine event_step (by rfl) (w1 := Lib.bytesWorld W 5 src) (v := .slice (some ⟨W.heap.size, 0, none⟩) src.size (grownCap W src.size 0 5)) ?_ ?_
      · have e24' := getD_opt e24
        have := print_bytes (P := Try.prog) 9 22 5 Try.underlying9 Try.underlying22 Try.underlying5 src W
        go_simp
      · exact hK _ _ ⟨_, _, rfl, grownCap_ge _ _ _ _, Kd.C_of_reads (enc := Value.int .u8) (d := (0 : Int)) (h1 := fun _ => rfl) (bytes_reads W 5 src (by rw [HS16.out.1]; decide))⟩ (bytes_below (Below.refl _ _) (Nat.le_refl _) 5 src)
    · refine ⟨_, rfl, rfl, fun a W hd hs hv hb hS K hK => ?_⟩
      have e27 : a.tmps.getD 27 undef = .string dst := (hs 27 (by decide)).trans rfl
      refine event_step (by rfl) (w1 := Lib.bytesWorld W 5 dst) (v := .slice (some ⟨W.heap.size, 0, none⟩) dst.size (grownCap W dst.size 0 5)) ?_ ?_
      · have e27' := getD_opt e27
        have := print_bytes (P := Try.prog) 9 22 5 Try.underlying9 Try.underlying22 Try.underlying5 dst W
        go_simp
      · exact hK _ _ ⟨_, _, rfl, grownCap_ge _ _ _ _, Kd.C_of_reads (enc := Value.int .u8) (d := (0 : Int)) (h1 := fun _ => rfl) (bytes_reads W 5 dst (by rw [HS16.out.2]; decide))⟩ (bytes_below (Below.refl _ _) (Nat.le_refl _) 5 dst)
    · refine ⟨_, rfl, rfl, fun a W hd hs hv hb hS K hK => ?_⟩
      obtain ⟨B0, d0, f0, g0, r0⟩ := Kd.R_reads (show Kd.R (Kd.int .u8) 5 W w.heap.size (fun _ => True) (a.tmps.getD 13 undef) four from hv (7, 13) (by simp) (by as_aux_lemma => kernel_rfl))
      obtain ⟨B1, d1, f1, g1, r1⟩ := Kd.R_reads (show Kd.R (Kd.int .u8) 5 W w.heap.size (fun _ => True) (a.tmps.getD 16 undef) two from hv (10, 16) (by simp) (by as_aux_lemma => kernel_rfl))
      obtain ⟨B2, d2, f2, g2, r2⟩ := Kd.R_reads (show Kd.R (Kd.int .u8) 5 W w.heap.size (fun _ => True) (a.tmps.getD 22 undef) [k0, hop] from hv (16, 22) (by simp) (by as_aux_lemma => kernel_rfl))
      obtain ⟨B3, d3, f3, g3, r3⟩ := (show ∃ A c, a.tmps.getD 25 undef = .slice A src.size c ∧ src.size ≤ c ∧ Kd.C (Kd.int .u8) W A src.size (bytesOf src) from hv (19, 25) (by simp) (by as_aux_lemma => kernel_rfl))
      obtain ⟨B4, d4, f4, g4, r4⟩ := (show ∃ A c, a.tmps.getD 28 undef = .slice A dst.size c ∧ dst.size ≤ c ∧ Kd.C (Kd.int .u8) W A dst.size (bytesOf dst) from hv (22, 28) (by simp) (by as_aux_lemma => kernel_rfl))
      rw [← bytesOf_length] at f3 g3 r3 f4 g4 r4
      have e0 := getD_opt f0
      have e1 := getD_opt f1
      have e2 := getD_opt f2
      have e3 := getD_opt f3
      have e4 := getD_opt f4
      have hbn : Below W.heap.size W (W.alloc (.cells #[.slice B0 four.length d0, .slice B1 two.length d1, .slice B2 [k0, hop].length d2, .slice B3 (bytesOf src).length d3, .slice B4 (bytesOf dst).length d4] 22 (0, 0))) := below_alloc (Below.refl _ _) _
      refine event_step (by rfl) (v := .slice (some ⟨W.heap.size, 0, none⟩) 5 5) (w1 := W.alloc (.cells #[.slice B0 four.length d0, .slice B1 two.length d1, .slice B2 [k0, hop].length d2, .slice B3 (bytesOf src).length d3, .slice B4 (bytesOf dst).length d4] 22 (0, 0))) ?_ ?_
      · clear f0 f1 f2 f3 f4
        go_simp
      · exact hK _ _ ⟨_, rfl, C_five (blk_new W _) (Kd.C_below r0 hbn) (Kd.C_below r1 hbn) (Kd.C_below r2 hbn) (Kd.C_below r3 hbn) (Kd.C_below r4 hbn) g0 g1 g2 g3 g4⟩ hbn
    · refine ⟨_, rfl, rfl, fun a W hd hs hv hb hS K hK => ?_⟩
      obtain ⟨A, e29, hC⟩ := (show ∃ A, a.tmps.getD 29 undef = .slice A 5 5 ∧ Kd.C (Kd.slice 5 (Kd.int .u8)) W A 5 [four, two, [k0, hop], bytesOf src, bytesOf dst] from hv (23, 29) (by simp) (by as_aux_lemma => kernel_rfl))
      refine goes_ Try.func7 (by kernel_rfl) rfl #[.slice A 5 5] (by rfl) rfl rfl (by simp only [List.map_toArray, List.map_cons, List.map_nil]; show #[a.tmps.getD 29 undef] = _; rw [e29]) ?_
      refine (both_walk A 5 [four, two, [k0, hop], bytesOf src, bytesOf dst] W (by simp) ?_ hC (by simp)).mono ?_
      · rw [← hfour, ← htwo]
        simp only [List.flatten_cons, List.flatten_nil, List.length_append, bytesOf_length, HS16.out.1, HS16.out.2]
        simp
      rintro e W' ⟨v, rfl, ho, hb'⟩
      have ho : Kd.R (Kd.int .u8) 5 W' W.heap.size (fun _ => True) v (four ++ two ++ [k0, hop] ++ bytesOf src ++ bytesOf dst) := by simpa [List.append_assoc] using ho
      exact ⟨v, rfl, hK v W' (Kd.R_lower ho (HB2.out.trans (hb.mono HB2.out.size)).size) hb'⟩
    · refine ⟨_, rfl, rfl, fun a W hd hs hv hb hS K hK => ?_⟩
      have h30 : Kd.R (Kd.int .u8) 5 W w.heap.size (fun _ => True) (a.tmps.getD 30 undef) (four ++ two ++ [k0, hop] ++ bytesOf src ++ bytesOf dst) := hv (24, 30) (by simp) (by as_aux_lemma => kernel_rfl)
      refine event_step (by rfl) (v := a.tmps.getD 30 undef) (w1 := W) rfl (hK _ _ h30 (Below.refl _ _))
  · intro vs W hall hb _
    have h25 : Kd.R (Kd.int .u8) 5 W w.heap.size (fun _ => True) (vs 3) (four ++ two ++ [k0, hop] ++ bytesOf src ++ bytesOf dst) := hall (25, 3) (by simp)
    simp only [List.map_cons, List.map_nil, putAll, Act.put, List.setIfInBounds_toArray, List.set_cons_zero, List.set_cons_succ]
    have HB3 := Aside0.mk (HB2.out.trans (hb.mono HB2.out.size))
    have BKq1 := Aside0.mk (blk_below BKq1.out (hHeld.trans (hb.mono hHeld.size)))
    obtain ⟨H0, hH0⟩ : ∃ l, four ++ two ++ [k0, hop] ++ bytesOf src ++ bytesOf dst = l := ⟨_, rfl⟩
    have HH0 := Aside0.mk (show H0 = headE ⟨cls, lab, hop, src, dst, ex, nxt, dat⟩ ++ bytesOf src ++ bytesOf dst from by rw [← hH0, ← hfour, ← htwo, ← hk0, ← hM]; rfl)
    have HL0 := Aside0.mk (show H0.length = 40 from by rw [← hH0, ← hfour, ← htwo]; simp [bytesOf_length, HS16.out.1, HS16.out.2])
    rw [hH0] at h25
    have HO3 := Aside0.mk (Kd.own_of_R h25)
    clear hall hb h25 hH0 hX hfour htwo hk0 hHeld
    generalize vs 3 = v3 at HO3 ⊢
    generalize vs 13 = v13
    generalize vs 15 = v15
    generalize vs 16 = v16
    generalize vs 18 = v18
    generalize vs 22 = v22
    generalize vs 25 = v25
    generalize vs 28 = v28
    generalize vs 29 = v29
    generalize vs 30 = v30
    clear vs FO TW SZ HB1 HB2 HSUM
    obtain ⟨A3, c3, hv3⟩ := own_slice HO3.out
    subst hv3
    have HB1 := HB3
    clear HB3
    have z5 : W.cell? ⟨q1, 5, none⟩ = some (.slice A5 ex.length c5) := (blk_cell BKq1.out 5).trans rfl
    go_wp2_with (fail)
    clear z5
    go_loopw [3, 4] (fun ov i wr => ∃ (j : Nat) (A9 : Option Addr) (n9 c9 : Nat), j ≤ ex.length ∧ i = .int .i64 j ∧ ov = .slice A9 n9 c9 ∧ Aside0 (Own wr w.heap.size (.slice A9 n9 c9) (H0 ++ pre ex nxt j)) ∧ Aside0 (Below w.heap.size w wr) ∧ Aside0 (wr.heap[q1]? = some (.cells #[.int .i64 cls, .int .i64 lab, .int .i64 hop, .string src, .string dst, .slice A5 ex.length c5, .int .i64 nxt, .slice A7 dat.length c7] 26 (0, 0)))) (fun _ i _ => ex.length - (intOf i).toNat)
    case atStart => exact ⟨0, A3, _, c3, by omega, rfl, rfl, Aside0.mk (by rw [show pre ex nxt 0 = [] from rfl, List.append_nil]; exact HO3.out), HB1, BKq1⟩
    case round =>
      clear HO3 HB1 BKq1
      obtain ⟨j, A9, n9, c9, hj, rfl, rfl, HO, HB20, BKq1⟩ := hrel
      have z5 : wr.cell? ⟨q1, 5, none⟩ = some (.slice A5 ex.length c5) := (blk_cell BKq1.out 5).trans rfl
      by_cases hjl : j < ex.length
      · have hd : decide ((j : Int) < (ex.length : Int)) = true := by simp; omega
        obtain ⟨ad, hA, hc0, hc1⟩ := ext_cells (HR.out _ HB20.out).r5 j hjl
        subst hA
        have hps := pre_succ ex nxt j
        have hxo := wok_xok 0 ex (wok_of HOK.out) j hjl
        have hpl := pre_len ex nxt HP.out.each j (by omega)
        have hpe : piece ex nxt j = rd (kinds ex ++ [nxt]) ((j + 1 : Nat) : Int) :: ((if (ex.getD j z43).f0 = 44 then [] else [(((ex.getD j z43).f1.size + 2) / 8 - 1 : Nat)]).map (fun n : Nat => (n : Int)) ++ bytesOf (ex.getD j z43).f1) := rfl
        have hes : (ex.getD j z43).f1.size ≤ 4000 := HP.out.each _ (by
          rw [List.getD_eq_getElem?_getD, List.getElem?_eq_getElem hjl]
          exact List.getElem_mem hjl)
        obtain ⟨kk, hkke⟩ : ∃ kk, rd (kinds ex ++ [nxt]) ((j + 1 : Nat) : Int) = kk := ⟨_, rfl⟩
        rw [hkke] at hpe
        have KDj := Aside0.mk (fun (W : World) (hW : Below w.heap.size w W) => by have := KD.out (j + 1) hjl W hW; rw [hkke, show ((j + 1 : Nat) : Int) = (j : Int) + 1 from by omega] at this; exact this)
        obtain ⟨⟨k, s⟩, hx⟩ : ∃ x, ex.getD j z43 = x := ⟨_, rfl⟩
        simp only [hx] at hc0 hc1 hpe hxo hes
        obtain ⟨XS, hXS⟩ : ∃ XS, H0 ++ pre ex nxt j = XS := ⟨_, rfl⟩
        have hex : ex.length ≤ 1000 := HP.out.ex
        have HXL := Aside0.mk (show XS.length ≤ 8000000 from by rw [← hXS, List.length_append, HL0.out]; omega)
        have HPS := Aside0.mk (show H0 ++ pre ex nxt (j + 1) = XS ++ piece ex nxt j from by rw [hps, ← List.append_assoc, hXS])
        rw [hXS] at HO
        have HPE := Aside0.mk hpe
        obtain ⟨S, hS⟩ : ∃ S, s.size = S := ⟨_, rfl⟩
        have HSZ := Aside0.mk (show s.size ≤ 4000 from hes)
        have eS : (s.size : Int) = (S : Int) := by rw [hS]
        have hS4 : S ≤ 4000 := by rw [← hS]; exact hes
        by_cases k44 : k = 44
        · have d44 : (k != 44) = false := bne_eq_false_iff_eq.mpr k44
          have HPC := Aside0.mk (show piece ex nxt j = [kk] ++ bytesOf s from by rw [HPE.out]; simp [k44])
          clear k44 hxo hps hpl hpe hes hkke hx hXS hS
          go_wp2_with (first | ((with_reducible refine gate_dst (N := 5) rfl ?_); refine box_event ?hg (N := 5) ?hd (cs := #[.int .i64 0, .string ByteArray.empty]) (t := 43) ?hr ?_; (case hd => rfl); (case hg => rfl); (case hr => first | (go_simp; done) | (go_simp; rfl)); intro q8 hq w21 hbox hb; have HNq1q8 := Aside0.mk (show q1 ≠ q8 from by have := blk_lt BKq1.out; omega); have BKq1 := Aside0.mk (blk_below BKq1.out hb); have BKq8 := Aside0.mk hbox; have HQq8 := Aside0.mk (show w.heap.size ≤ q8 from by rw [hq]; exact HB20.out.size); have HB21 := Aside0.mk (HB20.out.trans (hb.mono HB20.out.size)); have HO21 := Aside0.mk (own_other HO.out (grown_of_below hb none) (own_none _)); clear hbox hb hq) | ((with_reducible refine gate_store (t := 43) (p := 5) rfl ?_); have BK8o := BKq8; have y0 : w21.cell? ⟨q8, 0, none⟩ = some (.int .i64 0) := (blk_cell BKq8.out 0).trans rfl; have y1 : w21.cell? ⟨q8, 1, none⟩ = some (.string ByteArray.empty) := (blk_cell BKq8.out 1).trans rfl; have f0 : w21.frozen? ⟨q8, 0, none⟩ = false := blk_frozen BKq8.out 0; have f1 : w21.frozen? ⟨q8, 1, none⟩ = false := blk_frozen BKq8.out 1; refine store_event (t := 43) (p := 5) (v := ?vo22) (w1 := Cells.setAll w21 q8 0 [.int .i64 k, .string s]) ?hg ?ho ?hn ?hr ?_; (case ho => rfl); (case hg => rfl); (case hn => rfl); (case hr => first | (go_simp; done) | (go_simp; rfl)); intro w22 hw; have BKq1 := Aside0.mk (show w22.heap[q1]? = _ from (congrArg (fun W : World => W.heap[q1]?) hw).trans ((Cells.setAll_far HNq1q8.out _ _ _).trans BKq1.out)); have HB22 := Aside0.mk (show Below w.heap.size w w22 from by rw [hw]; exact Cells.setAll_below HQq8.out _ _ _ HB21.out); have BKq8 := Aside0.mk (show w22.heap[q8]? = some (.cells #[.int .i64 k, .string s] 43 (0, 0)) from by rw [hw]; exact Cells.stored2 BKq8.out); clear y0 y1 f0 f1; have HO22 := Aside0.mk (show Own w22 w.heap.size (.slice A9 n9 c9) XS from by rw [hw]; exact Kd.own_of_R (Cells.setAll_R (by decide) _ _ _ _ BK8o.out (Kd.R_of_own (enc := Value.int .u8) (h1 := fun _ => rfl) (ok := fun _ => True) HO21.out (fun _ _ => trivial)))); clear BK8o z5; have z0 : w22.cell? ⟨q1, 0, none⟩ = some (.int .i64 cls) := (blk_cell BKq1.out 0).trans rfl; have z1 : w22.cell? ⟨q1, 1, none⟩ = some (.int .i64 lab) := (blk_cell BKq1.out 1).trans rfl; have z2 : w22.cell? ⟨q1, 2, none⟩ = some (.int .i64 hop) := (blk_cell BKq1.out 2).trans rfl; have z3 : w22.cell? ⟨q1, 3, none⟩ = some (.string src) := (blk_cell BKq1.out 3).trans rfl; have z4 : w22.cell? ⟨q1, 4, none⟩ = some (.string dst) := (blk_cell BKq1.out 4).trans rfl; have z5 : w22.cell? ⟨q1, 5, none⟩ = some (.slice (some ad) ex.length c5) := (blk_cell BKq1.out 5).trans rfl; have z6 : w22.cell? ⟨q1, 6, none⟩ = some (.int .i64 nxt) := (blk_cell BKq1.out 6).trans rfl; have z7 : w22.cell? ⟨q1, 7, none⟩ = some (.slice A7 dat.length c7) := (blk_cell BKq1.out 7).trans rfl; clear hw) | (go_at_call 30; refine (KDj.out _ HB22.out).mono ?_; rintro e w23 ⟨rfl, hb⟩; have HO23 := Aside0.mk (own_other HO22.out (grown_of_below hb none) (own_none _)); have BKq1 := Aside0.mk (blk_below BKq1.out hb); have BKq8 := Aside0.mk (blk_below BKq8.out hb); have HB23 := Aside0.mk (HB22.out.trans (hb.mono HB22.out.size)); clear hb) | ((with_reducible refine gate_builtin (b := .append) (xs := #[.tmp 43, .tmp 48]) rfl ?_); at_builtin; refine print_append_num (w0 := w) w.heap.size rfl (.tmp 43) (.tmp 48) 22 5 .u8 1 rfl Try.underlying22 info5 (by decide) (.slice A9 n9 c9) (XS) (kk) rfl rfl ?aO ?aB ?aS ?aL ?_; (case aO => exact HO23.out); (case aB => exact HB23.out); (case aS => exact (HB23.out).size); (case aL => exact len_num HXL.out); intro v24 w24 ho hb hg _; have HO24 := Aside0.mk ho; have HB24 := Aside0.mk hb; have BKq8 := Aside0.mk (blk_grown BKq8.out hg (fun e => own_ne_q HO23.out BKq8.out e)); have BKq1 := Aside0.mk (blk_grown BKq1.out hg (fun e => own_ne HO23.out BKq1.out (by decide) e)); clear ho hb hg; have x0 : w24.cell? ⟨q8, 0, none⟩ = some (.int .i64 k) := (blk_cell BKq8.out 0).trans rfl; have x1 : w24.cell? ⟨q8, 1, none⟩ = some (.string s) := (blk_cell BKq8.out 1).trans rfl) | ((with_reducible refine gate_dst (N := 66) rfl ?_); refine conv_event rfl (N := 66) rfl s rfl ?hx ?hs ?_; (case hx => first | rfl | (go_simp; done)); (case hs => have := HSZ.out; omega); intro A26 c26 w26 hr26 hc26 hb; have BKq1 := Aside0.mk (blk_below BKq1.out hb); have HR26 := Aside0.mk hr26; have HO26 := Aside0.mk (own_other HO24.out (grown_of_below hb none) (own_none _)); have HB26 := Aside0.mk (HB24.out.trans (hb.mono HB24.out.size)); clear hr26 hc26 hb) | ((with_reducible refine gate_builtin (b := .append) (xs := #[.tmp 63, .tmp 66]) rfl ?_); at_builtin; refine print_append_row (w0 := w) w.heap.size rfl (.tmp 63) (.tmp 66) 22 5 .u8 1 rfl Try.underlying22 info5 (by decide) v24 (XS ++ [kk]) (bytesOf s) A26 s.size c26 rfl rfl ?aO ?aR ?aB ?aS ?aL ?_; (case aO => exact HO26.out); (case aR => exact HR26.out); (case aB => exact HB26.out); (case aS => exact HB26.out.size); (case aL => exact len_row' [kk] HXL.out (by simp) HSZ.out); intro v27 w27 ho hb hg _; have BKq1 := Aside0.mk (blk_grown BKq1.out hg (fun e => own_ne HO26.out BKq1.out (by decide) e)); have HO27 := Aside0.mk ho; have HB27 := Aside0.mk hb; clear ho hb hg))
          obtain ⟨A13, c13, hv13⟩ := own_slice HO27.out
          have HV13 := Aside0.mk hv13
          clear hv13
          go_round
          case rel => exact ⟨j + 1, A13, _, c13, hjl, by go_num, HV13.out, Aside0.mk (by rw [← HV13.out, HPS.out, HPC.out, ← List.append_assoc]; exact HO27.out), HB27, BKq1⟩
          case measure => simp [intOf]; omega
        · have d44 : (k != 44) = true := bne_iff_ne.mpr k44
          have hz8 : (S + 2) % 8 = 0 ∧ S + 2 ≤ 2048 := by
            unfold xok at hxo
            simp only [Bool.and_eq_true, decide_eq_true_eq] at hxo
            have h := hxo.1.2
            have hx2 : xsz ⟨k, s⟩ = S + 2 := by unfold xsz ahd; rw [if_neg k44]; show s.size + 2 = S + 2; rw [hS]
            rw [hx2] at h
            exact h
          obtain ⟨Q, hQ⟩ : ∃ Q, (S + 2) / 8 - 1 = Q := ⟨_, rfl⟩
          have T := Aside0.mk (show (((S : Int) + 2) / 8 - 1) % 256 = (Q : Int) from by omega)
          have HPC := Aside0.mk (show piece ex nxt j = [kk] ++ [(Q : Int)] ++ bytesOf s from by rw [HPE.out, if_neg k44]; show kk :: ([((s.size + 2) / 8 - 1 : Nat)].map (fun n : Nat => (n : Int)) ++ bytesOf s) = _; rw [hS, hQ]; rfl)
          clear k44 hxo hps hpl hpe hes hkke hx hXS hS hz8 hQ
          go_wp2_with (first | ((with_reducible refine gate_dst (N := 5) rfl ?_); refine box_event ?hg (N := 5) ?hd (cs := #[.int .i64 0, .string ByteArray.empty]) (t := 43) ?hr ?_; (case hd => rfl); (case hg => rfl); (case hr => first | (go_simp; done) | (go_simp; rfl)); intro q8 hq w21 hbox hb; have HNq1q8 := Aside0.mk (show q1 ≠ q8 from by have := blk_lt BKq1.out; omega); have BKq1 := Aside0.mk (blk_below BKq1.out hb); have BKq8 := Aside0.mk hbox; have HQq8 := Aside0.mk (show w.heap.size ≤ q8 from by rw [hq]; exact HB20.out.size); have HB21 := Aside0.mk (HB20.out.trans (hb.mono HB20.out.size)); have HO21 := Aside0.mk (own_other HO.out (grown_of_below hb none) (own_none _)); clear hbox hb hq) | ((with_reducible refine gate_store (t := 43) (p := 5) rfl ?_); have BK8o := BKq8; have y0 : w21.cell? ⟨q8, 0, none⟩ = some (.int .i64 0) := (blk_cell BKq8.out 0).trans rfl; have y1 : w21.cell? ⟨q8, 1, none⟩ = some (.string ByteArray.empty) := (blk_cell BKq8.out 1).trans rfl; have f0 : w21.frozen? ⟨q8, 0, none⟩ = false := blk_frozen BKq8.out 0; have f1 : w21.frozen? ⟨q8, 1, none⟩ = false := blk_frozen BKq8.out 1; refine store_event (t := 43) (p := 5) (v := ?vo22) (w1 := Cells.setAll w21 q8 0 [.int .i64 k, .string s]) ?hg ?ho ?hn ?hr ?_; (case ho => rfl); (case hg => rfl); (case hn => rfl); (case hr => first | (go_simp; done) | (go_simp; rfl)); intro w22 hw; have BKq1 := Aside0.mk (show w22.heap[q1]? = _ from (congrArg (fun W : World => W.heap[q1]?) hw).trans ((Cells.setAll_far HNq1q8.out _ _ _).trans BKq1.out)); have HB22 := Aside0.mk (show Below w.heap.size w w22 from by rw [hw]; exact Cells.setAll_below HQq8.out _ _ _ HB21.out); have BKq8 := Aside0.mk (show w22.heap[q8]? = some (.cells #[.int .i64 k, .string s] 43 (0, 0)) from by rw [hw]; exact Cells.stored2 BKq8.out); clear y0 y1 f0 f1; have HO22 := Aside0.mk (show Own w22 w.heap.size (.slice A9 n9 c9) XS from by rw [hw]; exact Kd.own_of_R (Cells.setAll_R (by decide) _ _ _ _ BK8o.out (Kd.R_of_own (enc := Value.int .u8) (h1 := fun _ => rfl) (ok := fun _ => True) HO21.out (fun _ _ => trivial)))); clear BK8o z5; have z0 : w22.cell? ⟨q1, 0, none⟩ = some (.int .i64 cls) := (blk_cell BKq1.out 0).trans rfl; have z1 : w22.cell? ⟨q1, 1, none⟩ = some (.int .i64 lab) := (blk_cell BKq1.out 1).trans rfl; have z2 : w22.cell? ⟨q1, 2, none⟩ = some (.int .i64 hop) := (blk_cell BKq1.out 2).trans rfl; have z3 : w22.cell? ⟨q1, 3, none⟩ = some (.string src) := (blk_cell BKq1.out 3).trans rfl; have z4 : w22.cell? ⟨q1, 4, none⟩ = some (.string dst) := (blk_cell BKq1.out 4).trans rfl; have z5 : w22.cell? ⟨q1, 5, none⟩ = some (.slice (some ad) ex.length c5) := (blk_cell BKq1.out 5).trans rfl; have z6 : w22.cell? ⟨q1, 6, none⟩ = some (.int .i64 nxt) := (blk_cell BKq1.out 6).trans rfl; have z7 : w22.cell? ⟨q1, 7, none⟩ = some (.slice A7 dat.length c7) := (blk_cell BKq1.out 7).trans rfl; clear hw) | (go_at_call 30; refine (KDj.out _ HB22.out).mono ?_; rintro e w23 ⟨rfl, hb⟩; have HO23 := Aside0.mk (own_other HO22.out (grown_of_below hb none) (own_none _)); have BKq1 := Aside0.mk (blk_below BKq1.out hb); have BKq8 := Aside0.mk (blk_below BKq8.out hb); have HB23 := Aside0.mk (HB22.out.trans (hb.mono HB22.out.size)); clear hb) | ((with_reducible refine gate_builtin (b := .append) (xs := #[.tmp 43, .tmp 48]) rfl ?_); at_builtin; refine print_append_num (w0 := w) w.heap.size rfl (.tmp 43) (.tmp 48) 22 5 .u8 1 rfl Try.underlying22 info5 (by decide) (.slice A9 n9 c9) (XS) (kk) rfl rfl ?aO ?aB ?aS ?aL ?_; (case aO => exact HO23.out); (case aB => exact HB23.out); (case aS => exact (HB23.out).size); (case aL => exact len_num HXL.out); intro v24 w24 ho hb hg _; have HO24 := Aside0.mk ho; have HB24 := Aside0.mk hb; have BKq8 := Aside0.mk (blk_grown BKq8.out hg (fun e => own_ne_q HO23.out BKq8.out e)); have BKq1 := Aside0.mk (blk_grown BKq1.out hg (fun e => own_ne HO23.out BKq1.out (by decide) e)); clear ho hb hg; have x0 : w24.cell? ⟨q8, 0, none⟩ = some (.int .i64 k) := (blk_cell BKq8.out 0).trans rfl; have x1 : w24.cell? ⟨q8, 1, none⟩ = some (.string s) := (blk_cell BKq8.out 1).trans rfl) | ((with_reducible refine gate_dst (N := 61) rfl ?_); refine Kd.R_lit (Kd.int .u8) (w0 := w) w.heap.size 5 ?hg (N := 61) ?hd (xs := [(Q : Int)]) (inner := [.int .u8 (Q : Int)]) (ok := fun _ => True) (okp := fun _ => True) ?hr ?hp (fun _ hk => hk) trivial HB24.out HB24.out.size (by simp) ?_; (case hd => rfl); (case hg => rfl); (case hr => go_simp; rw [T.out]); (case hp => exact (Reps.one (show Kd.M (Kd.int .u8) _ _ _ (Q : Int) [.int .u8 (Q : Int)] from rfl) (Reps.none _ _))); intro v61 w61 ho hb hg_ hnew_; have BKq8 := Aside0.mk (blk_grown BKq8.out hg_ (by simp)); have BKq1 := Aside0.mk (blk_grown BKq1.out hg_ (by simp)); have HO61 := Aside0.mk (own_other HO24.out (grown_of_below ((Below.refl _ _).grown hg_ (Nat.le_refl _) (fun _ h => by cases h)) none) (own_none _)); obtain ⟨B61, d61, hv61, _, hC61⟩ := Kd.R_reads ho; subst hv61; have HR61 := Aside0.mk (Kd.reads_of_C (enc := Value.int .u8) (d := (0 : Int)) (h1 := fun _ => rfl) hC61); have HB61 := Aside0.mk hb; clear ho hb hg_ hnew_ hC61) | ((with_reducible refine gate_builtin (b := .append) (xs := #[.tmp 53, .tmp 61]) rfl ?_); at_builtin; refine print_append_row (w0 := w) w.heap.size rfl (.tmp 53) (.tmp 61) 22 5 .u8 1 rfl Try.underlying22 info5 (by decide) v24 (XS ++ [kk]) [(Q : Int)] B61 1 d61 rfl rfl ?aO ?aR ?aB ?aS ?aL ?_; (case aO => exact HO61.out); (case aR => exact HR61.out); (case aB => exact HB61.out); (case aS => exact HB61.out.size); (case aL => exact len_num' [kk] HXL.out (by simp)); intro v25 w25 ho hb hg _; have HO25 := Aside0.mk ho; have HB25 := Aside0.mk hb; have BKq8 := Aside0.mk (blk_grown BKq8.out hg (fun e => own_ne_q HO61.out BKq8.out e)); have BKq1 := Aside0.mk (blk_grown BKq1.out hg (fun e => own_ne HO61.out BKq1.out (by decide) e)); clear ho hb hg; clear x0 x1; have x0 : w25.cell? ⟨q8, 0, none⟩ = some (.int .i64 k) := (blk_cell BKq8.out 0).trans rfl; have x1 : w25.cell? ⟨q8, 1, none⟩ = some (.string s) := (blk_cell BKq8.out 1).trans rfl) | ((with_reducible refine gate_dst (N := 66) rfl ?_); refine conv_event rfl (N := 66) rfl s rfl ?hx ?hs ?_; (case hx => first | rfl | (go_simp; done)); (case hs => have := HSZ.out; omega); intro A26 c26 w26 hr26 hc26 hb; have BKq1 := Aside0.mk (blk_below BKq1.out hb); have HR26 := Aside0.mk hr26; have HO26 := Aside0.mk (own_other HO25.out (grown_of_below hb none) (own_none _)); have HB26 := Aside0.mk (HB25.out.trans (hb.mono HB25.out.size)); clear hr26 hc26 hb) | ((with_reducible refine gate_builtin (b := .append) (xs := #[.tmp 63, .tmp 66]) rfl ?_); at_builtin; refine print_append_row (w0 := w) w.heap.size rfl (.tmp 63) (.tmp 66) 22 5 .u8 1 rfl Try.underlying22 info5 (by decide) v25 (XS ++ [kk] ++ [(Q : Int)]) (bytesOf s) A26 s.size c26 rfl rfl ?aO ?aR ?aB ?aS ?aL ?_; (case aO => exact HO26.out); (case aR => exact HR26.out); (case aB => exact HB26.out); (case aS => exact HB26.out.size); (case aL => exact len_row2' [kk] [(Q : Int)] HXL.out (by simp) (by simp) HSZ.out); intro v27 w27 ho hb hg _; have BKq1 := Aside0.mk (blk_grown BKq1.out hg (fun e => own_ne HO26.out BKq1.out (by decide) e)); have HO27 := Aside0.mk ho; have HB27 := Aside0.mk hb; clear ho hb hg))
          obtain ⟨A13, c13, hv13⟩ := own_slice HO27.out
          have HV13 := Aside0.mk hv13
          clear hv13
          go_round
          case rel => exact ⟨j + 1, A13, _, c13, hjl, by go_num, HV13.out, Aside0.mk (by rw [← HV13.out, HPS.out, HPC.out, ← List.append_assoc, ← List.append_assoc]; exact HO27.out), HB27, BKq1⟩
          case measure => simp [intOf]; omega
      · have hd : decide ((j : Int) < (ex.length : Int)) = false := by simp; omega
        obtain rfl : j = ex.length := by omega
        have z7 : wr.cell? ⟨q1, 7, none⟩ = some (.slice A7 dat.length c7) := (blk_cell BKq1.out 7).trans rfl
        have hpl := pre_len ex nxt HP.out.each ex.length (Nat.le_refl _)
        obtain ⟨XS, hXS⟩ : ∃ XS, H0 ++ pre ex nxt ex.length = XS := ⟨_, rfl⟩
        have hex : ex.length ≤ 1000 := HP.out.ex
        have HXL := Aside0.mk (show XS.length ≤ 8000000 from by rw [← hXS, List.length_append, HL0.out]; omega)
        have HXS := Aside0.mk (show bytesE ⟨cls, lab, hop, src, dst, ex, nxt, dat⟩ = XS ++ dat from by rw [← hXS, HH0.out]; rfl)
        rw [hXS] at HO
        have HDL := Aside0.mk (show dat.length ≤ 100000 from HP.out.dat)
        have R7 := Aside0.mk (show ReadsInt wr .u8 A7 dat.length dat from Kd.reads_of_C (enc := Value.int .u8) (d := (0 : Int)) (h1 := fun _ => rfl) (HR.out _ HB20.out).r7)
        clear hpl hXS
        go_wp2_with (first | ((with_reducible refine gate_builtin (b := .append) (xs := #[.tmp 68, .tmp 70]) rfl ?_); at_builtin; refine print_append_row (w0 := w) w.heap.size rfl (.tmp 68) (.tmp 70) 22 5 .u8 1 rfl Try.underlying22 info5 (by decide) (.slice A9 n9 c9) XS dat A7 dat.length c7 rfl rfl ?aO ?aR ?aB ?aS ?aL ?_; (case aO => exact HO.out); (case aR => exact R7.out); (case aB => exact HB20.out); (case aS => exact HB20.out.size); (case aL => exact len_row HXL.out HDL.out); intro v13 w13 ho hb _ _; have HO13 := Aside0.mk ho; have HB13 := Aside0.mk hb; clear ho hb))
        go_ret
        exact ⟨⟨v13, rfl, by rw [HXS.out]; exact HO13.out⟩, HB13.out⟩
end Go.Proofs.Ytpodidgdlcfaeaa.Ip6

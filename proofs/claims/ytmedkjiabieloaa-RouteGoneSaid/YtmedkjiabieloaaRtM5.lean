/- Table.Add. Table.Remove. (Texts of this session, put together by wip/tools/merge.py.) -/
import Derived.Test.YtmedkjiabieloaaRtM4
namespace Go.Proofs.Ytmedkjiabieloaa.Rt
open Go.RowKit Go.Proofs.YtmedkjiabieloaaW.PrintWords Go.Proofs.YtmedkjiabieloaaW.PrintLast Go.Proofs.YtmedkjiabieloaaW.PrintMore Go.Proofs.Ytmedkjiabieloaa.QRd
open Go.Proofs.Ytmedkjiabieloaa
set_option linter.unusedVariables false
set_option linter.unusedSimpArgs false
/-- A table in memory, its row of its own. -/
structure TabO (w : World) (base q : Nat) (v : Value) (l : List S28) : Prop where
  blk : w.heap[q]? = some (.cells #[v, fnV] 54 (0, 0))
  own : OwnT w base v l
  low : base ≤ q
/-- What a call may turn: the table's block and its row. -/
structure Turn (w w' : World) (q : Nat) (v v' : Value) : Prop where
  os : w'.os = w.os
  tape : w'.tape = w.tape
  output : w'.output = w.output
  size : w.heap.size ≤ w'.heap.size
  block : ∀ k, k < w.heap.size → k ≠ q → some k ≠ v.ownBlock → w'.heap[k]? = w.heap[k]?
  row : ∀ k, v'.ownBlock = some k → v.ownBlock = some k ∨ w.heap.size ≤ k
theorem Turn.of_below {w w' : World} (h : Below w.heap.size w w') (q : Nat) (v : Value) : Turn w w' q v v := ⟨h.os, h.tape, h.output, h.size, fun k hk _ _ => h.block k hk, fun k hk => .inl hk⟩
theorem TabO.below {w w' : World} {base q : Nat} {v : Value} {l : List S28} (h : TabO w base q v l) (hb : Below w.heap.size w w') : TabO w' base q v l := ⟨blk_below h.blk hb, pw_own_below h.own hb, h.low⟩
theorem own_slice' {w : World} {base : Nat} {v : Value} {l : List S28} (h : OwnT w base v l) : ∃ A c, v = .slice A l.length c ∧ l.length ≤ c ∧ c ≤ maxLen := by
  rcases h.2 with ⟨e, h1⟩ | ⟨g, cap, cur, hv, hb, hh, h1, h2, h3, h4⟩
  · exact ⟨none, 0, by rw [e, h1], by omega, by unfold maxLen; omega⟩
  · exact ⟨_, cap, hv, h1, h2⟩
theorem TabO.read {w : World} {base q : Nat} {A : Option Addr} {c : Nat} {l : List S28} (h : TabO w base q (.slice A l.length c) l) : TabR w q A c l := by
  have hr := Kd.R_reads' (R_of_own h.own)
  exact ⟨h.blk, hr.2.2, hr.2.1⟩
theorem own_neT {w : World} {base q : Nat} {v : Value} {l : List S28} {cs : Array Value} {t : TypeId} (h : OwnT w base v l) (hb : w.heap[q]? = some (.cells cs t (0, 0))) (ht : 28 ≠ t) : some q ≠ v.ownBlock := own_ne h hb ht
/-- Such a route is refused. -/
def badR (r : S28) : Prop := (maskE r.f0.f0 r.f0.f1).2 ≠ 0 ∨ (r.f1.toList ≠ [] ∧ r.f1.size ≠ (maskE r.f0.f0 r.f0.f1).1.size) ∨ r.f2 < 0
instance (r : S28) : Decidable (badR r) := by unfold badR; infer_instance
/-- A route with its prefix. -/
def normR (r : S28) : S28 := ⟨⟨(maskE r.f0.f0 r.f0.f1).1, r.f0.f1⟩, r.f1, r.f2⟩
/-- What Add answers. -/
def AddP (l : List S28) (r : S28) (er : Int) (l' : List S28) : Prop :=
  (badR r ∧ er = 1 ∧ l' = l) ∨ (¬ badR r ∧ ∃ i b, BsP l (normR r).f0 i b ∧ ((b = true ∧ er = 0 ∧ l' = l.set i (normR r)) ∨ (b = false ∧ 64 ≤ l.length ∧ er = 7 ∧ l' = l) ∨ (b = false ∧ l.length < 64 ∧ er = 0 ∧ l' = l.take i ++ normR r :: l.drop i)))
def AddQ (w : World) (base q : Nat) (v : Value) (l : List S28) (r : S28) (e : Ending) (w' : World) : Prop :=
  ∃ er v' l', e = .returned (.int .i64 er) ∧ AddP l r er l' ∧ TabO w' base q v' l' ∧ Turn w w' q v v'
theorem setA_list : ∀ (vs : List Value) (cs : Array Value) (i : Nat), i + vs.length ≤ cs.size → (Cells.setA cs i vs).toList = spl cs.toList i vs
  | [], cs, i, h => by simp [Cells.setA, spl]
  | v :: vs, cs, i, h => by
    rw [List.length_cons] at h
    rw [Cells.setA, setA_list vs _ (i + 1) (by rw [Array.size_setIfInBounds]; omega), Array.toList_setIfInBounds]
    exact list_seg_step cs.toList i v vs (by rw [Array.length_toList]; omega)
theorem spl_app (a b X : List Value) (o : Nat) (h : o + X.length ≤ a.length) : spl (a ++ b) o X = spl a o X ++ b := by
  unfold spl
  rw [List.take_append_of_le_length (by omega), List.drop_append_of_le_length h, List.append_assoc, List.append_assoc, List.append_assoc]
theorem spl_take (cur X : List Value) (o n : Nat) (h : o + X.length ≤ n) (hn : n ≤ cur.length) : (spl cur o X).take n = spl (cur.take n) o X := by
  have h1 : (cur.take n).length = n := by rw [List.length_take]; omega
  have e : spl cur o X = spl (cur.take n) o X ++ cur.drop n := by rw [← spl_app _ _ _ _ (by omega), List.take_append_drop]
  rw [e]
  exact List.take_left' (by rw [spl_len _ _ _ (by omega), h1])
theorem encs_set (l : List S28) (i : Nat) (x : S28) (h : i < l.length) : spl (encs28 l) (i * 4) (enc28 x) = encs28 (l.set i x) := by
  rw [List.set_eq_take_append_cons_drop, if_pos h, encs_append, encs_cons, ← encs_take l i (by omega), ← encs_drop l (i + 1) (by omega), ← List.append_assoc]
  unfold spl
  congr 2
  show i * 4 + 4 = _
  omega
/-- One element of a row is written. -/
theorem own_put_row {w : World} {base g n c i : Nat} {l : List S28} (h : OwnT w base (.slice (some ⟨g, 0, none⟩) n c) l) (x : S28) (hi : i < l.length) : OwnT (Cells.setAll w g (i * 4) (enc28 x)) base (.slice (some ⟨g, 0, none⟩) n c) (l.set i x) := by
  obtain ⟨g', cur, e, hn, hb, hh, h1, h2, h3, h4⟩ := own_form h (by omega)
  injection e with e
  injection e with e
  subst e
  have hl : (l.set i x).length = l.length := List.length_set
  have hcl : cur.toList.length = c * 4 := Array.length_toList.trans h3
  have hf : i * 4 + 4 ≤ cur.toList.length := by omega
  refine ⟨encs_len _, .inr ⟨g, c, _, by rw [hl, hn], hb, Cells.setAll_blk _ _ _ _ hh, by omega, h2, ?_, ?_⟩⟩
  · rw [← Array.length_toList, setA_list _ _ _ (show i * 4 + 4 ≤ cur.size by omega), spl_len _ _ _ hf, hcl]
  · rw [hl, setA_list _ _ _ (show i * 4 + 4 ≤ cur.size by omega), spl_take _ _ _ _ (show i * 4 + 4 ≤ l.length * 4 by omega) (by omega), h4, encs_set l i x hi]
theorem setAll_turn {w w1 : World} {q g : Nat} {v : Value} (hb : Below w.heap.size w w1) (hg : v.ownBlock = some g) (i : Nat) (vs : List Value) : Turn w (Cells.setAll w1 g i vs) q v v := by
  have hf : ∀ (vs : List Value) (i : Nat) (w1 : World), (Cells.setAll w1 g i vs).os = w1.os ∧ (Cells.setAll w1 g i vs).tape = w1.tape ∧ (Cells.setAll w1 g i vs).output = w1.output := by
    intro vs
    induction vs with
    | nil => exact fun _ _ => ⟨rfl, rfl, rfl⟩
    | cons v vs ih => exact fun i w1 => ih (i + 1) (w1.setCell ⟨g, i, none⟩ v)
  obtain ⟨h1, h2, h3⟩ := hf vs i w1
  exact ⟨h1.trans hb.os, h2.trans hb.tape, h3.trans hb.output, by rw [Cells.setAll_size]; exact hb.size, fun k hk _ hr => (Cells.setAll_far (fun e => hr (by rw [hg, e])) _ _ _).trans (hb.block k hk), fun k hk => .inl hk⟩
set_option maxHeartbeats 1600000 in
set_option maxRecDepth 100000 in
theorem add_good (base q : Nat) (A : Option Addr) (c : Nat) (l : List S28) (a via : ByteArray) (nb port : Int) (w : World) (h : TabO w base q (.slice A l.length c) l) (hlim : l.length ≤ 1000) (ha : a.size ≤ 140737488351232) (hbad : ¬ badR ⟨⟨a, nb⟩, via, port⟩) :
    Calls Try.prog 10 #[.pointer (some ⟨q, 0, none⟩), .agg #[.string a, .int .i64 nb, .string via, .int .i64 port]] w (AddQ w base q (.slice A l.length c) l ⟨⟨a, nb⟩, via, port⟩) := by
  have PW := Aside0.mk fun (W : World) => prefix_walk a nb W ha
  have HBD := Aside0.mk hbad
  obtain ⟨m, hm⟩ : ∃ m, (maskE a nb).1 = m := ⟨_, rfl⟩
  obtain ⟨er, her⟩ : ∃ er, (maskE a nb).2 = er := ⟨_, rfl⟩
  have HNR := Aside0.mk (show normR ⟨⟨a, nb⟩, via, port⟩ = ⟨⟨m, nb⟩, via, port⟩ from by unfold normR; rw [hm])
  unfold badR at hbad
  simp only [not_or, Decidable.not_not, not_and] at hbad
  rw [hm, her] at hbad
  rw [hm, her] at PW
  obtain ⟨rfl, hvia, hport⟩ := hbad
  obtain ⟨nv, hnv⟩ : ∃ k, via.size = k := ⟨_, rfl⟩
  obtain ⟨nm, hnm⟩ : ∃ k, m.size = k := ⟨_, rfl⟩
  have hnvI : (via.size : Int) = (nv : Int) := by rw [hnv]
  have hnmI : (m.size : Int) = (nm : Int) := by rw [hnm]
  rw [hnv, hnm] at hvia
  have hp0 : decide (port < 0) = false := decide_eq_false hport
  have BW := Aside0.mk fun (p : S26) (W : World) (hb : Below w.heap.size w W) => bs_walk A c l p W (h.below hb).read.row h.read.cap (by omega)
  have HO := Aside0.mk h
  have HLT := Aside0.mk (show ∀ k, (Value.slice A l.length c).ownBlock = some k → k < w.heap.size from fun k hk => own_lt h.own k hk)
  have HQL := Aside0.mk (blk_lt h.blk)
  have IW := Aside0.mk fun (i : Nat) (hi : i ≤ l.length) (W : World) (vb : Nat) (hb : Below w.heap.size w W) (hv : W.heap[vb]? = some (.cells (enc28 ⟨⟨m, nb⟩, via, port⟩).toArray 28 (0, 0))) (hvb : w.heap.size ≤ vb) =>
    insert_walk base vb A c l ⟨⟨m, nb⟩, via, port⟩ i W (h.below hb).own hv (fun e => by have := own_lt h.own vb e.symm; omega) hlim hi (by have := h.low; have := blk_lt h.blk; have := hb.size; omega)
  obtain ⟨n, hn⟩ : ∃ n, l.length = n := ⟨_, rfl⟩
  have HN := Aside0.mk hn
  simp only [hn] at BW IW
  rw [hn] at hlim HO HLT ⊢
  have TB := Aside0.mk (show ∀ W, Below w.heap.size w W → W.cell? ⟨q, 0, none⟩ = some (.slice A n c) ∧ W.cell? ⟨q, 1, none⟩ = some fnV from fun W hb => ⟨(blk_cell (HO.out.below hb).blk 0).trans rfl, (blk_cell (HO.out.below hb).blk 1).trans rfl⟩)
  clear h hn ha hport hm her hnv hnm
  go_enter Try.func10, Try.ntmps10
  go_wp2_with (first | ((with_reducible refine gate_dst (N := 3) rfl ?_); refine box_event ?hg (N := 3) ?hd (cs := #[.string a, .int .i64 nb, .string via, .int .i64 port]) (t := 28) ?hr ?_; (case hd => rfl); (case hg => rfl); (case hr => first | (go_simp; done) | (go_simp; rfl)); intro q1 hq w1 hbox hb; have BKq1 := Aside0.mk hbox; have HQq1 := Aside0.mk (show w.heap.size ≤ q1 from by rw [hq]; exact Nat.le_refl _); have HB1 := Aside0.mk hb; clear hbox hb hq; have z0 : w1.cell? ⟨q1, 0, none⟩ = some (.string a) := (blk_cell BKq1.out 0).trans rfl; have z1 : w1.cell? ⟨q1, 1, none⟩ = some (.int .i64 nb) := (blk_cell BKq1.out 1).trans rfl; have z2 : w1.cell? ⟨q1, 2, none⟩ = some (.string via) := (blk_cell BKq1.out 2).trans rfl; have z3 : w1.cell? ⟨q1, 3, none⟩ = some (.int .i64 port) := (blk_cell BKq1.out 3).trans rfl))
  refine (PW.out _).mono ?_
  rintro e w2 ⟨rfl, hb⟩
  have BKq1 := Aside0.mk (blk_below BKq1.out hb)
  have HB2 := Aside0.mk (HB1.out.trans (hb.mono HB1.out.size))
  clear hb z0 z1 z2 z3
  by_cases hv0 : via.toList = []
  · have hv1 : via.toList.isEmpty = true := by rw [hv0]; rfl
    have z0 : w2.cell? ⟨q1, 0, none⟩ = some (.string a) := (blk_cell BKq1.out 0).trans rfl; have z1 : w2.cell? ⟨q1, 1, none⟩ = some (.int .i64 nb) := (blk_cell BKq1.out 1).trans rfl; have z2 : w2.cell? ⟨q1, 2, none⟩ = some (.string via) := (blk_cell BKq1.out 2).trans rfl; have z3 : w2.cell? ⟨q1, 3, none⟩ = some (.int .i64 port) := (blk_cell BKq1.out 3).trans rfl
    go_wp2_with (first | ((with_reducible refine gate_dst (N := 5) rfl ?_); refine box_event ?hg (N := 5) ?hd (cs := #[.string ByteArray.empty, .int .i64 0]) (t := 26) ?hr ?_; (case hd => rfl); (case hg => rfl); (case hr => first | (go_simp; done) | (go_simp; rfl)); intro q2 hq w3 hbox hb; have HNq1q2 := Aside0.mk (show q1 ≠ q2 from by have := blk_lt BKq1.out; omega); have BKq1 := Aside0.mk (blk_below BKq1.out hb); have BKq2 := Aside0.mk hbox; have HQq2 := Aside0.mk (show w.heap.size ≤ q2 from by rw [hq]; exact HB2.out.size); have HB3 := Aside0.mk (HB2.out.trans (hb.mono HB2.out.size)); clear hbox hb hq) | ((with_reducible refine gate_store (t := 26) (p := 5) rfl ?_); have ca0 : w3.cell? ⟨q2, 0, none⟩ = some (.string ByteArray.empty) := (blk_cell BKq2.out 0).trans rfl; have ca1 : w3.cell? ⟨q2, 1, none⟩ = some (.int .i64 0) := (blk_cell BKq2.out 1).trans rfl; have fa0 : w3.frozen? ⟨q2, 0, none⟩ = false := blk_frozen BKq2.out 0; have fa1 : w3.frozen? ⟨q2, 1, none⟩ = false := blk_frozen BKq2.out 1; refine store_event (t := 26) (p := 5) (v := ?vo5_4_1_n1) (w1 := Cells.setAll w3 q2 0 [.string m, .int .i64 nb]) ?hg ?ho ?hn ?hr ?_; (case ho => rfl); (case hg => rfl); (case hn => rfl); (case hr => first | (go_simp; done) | (go_simp; rfl)); intro w4 hw; have BKq1 := Aside0.mk (show w4.heap[q1]? = _ from (congrArg (fun W : World => W.heap[q1]?) hw).trans ((Cells.setAll_far HNq1q2.out _ _ _).trans BKq1.out)); have HB4 := Aside0.mk (show Below w.heap.size w w4 from by rw [hw]; exact Cells.setAll_below HQq2.out _ _ _ HB3.out); have BKq2 := Aside0.mk (show w4.heap[q2]? = some (.cells #[.string m, .int .i64 nb] 26 (0, 0)) from by rw [hw]; exact Cells.stored2 BKq2.out); clear ca0 ca1 fa0 fa1; have z0 : w4.cell? ⟨q1, 0, none⟩ = some (.string a) := (blk_cell BKq1.out 0).trans rfl; have z1 : w4.cell? ⟨q1, 1, none⟩ = some (.int .i64 nb) := (blk_cell BKq1.out 1).trans rfl; have z2 : w4.cell? ⟨q1, 2, none⟩ = some (.string via) := (blk_cell BKq1.out 2).trans rfl; have z3 : w4.cell? ⟨q1, 3, none⟩ = some (.int .i64 port) := (blk_cell BKq1.out 3).trans rfl; have y0 : w4.cell? ⟨q2, 0, none⟩ = some (.string m) := (blk_cell BKq2.out 0).trans rfl; have y1 : w4.cell? ⟨q2, 1, none⟩ = some (.int .i64 nb) := (blk_cell BKq2.out 1).trans rfl; clear hw) | ((with_reducible refine gate_store (t := 26) (p := 39) rfl ?_); have HNq2q1 := Aside0.mk (Ne.symm HNq1q2.out); have fa0 : w4.frozen? ⟨q1, 0, none⟩ = false := blk_frozen BKq1.out 0; have fa1 : w4.frozen? ⟨q1, 1, none⟩ = false := blk_frozen BKq1.out 1; refine store_event (t := 26) (p := 39) (v := ?vo39_5_2_n2) (w1 := Cells.setAll w4 q1 0 [.string m, .int .i64 nb]) ?hg ?ho ?hn ?hr ?_; (case ho => rfl); (case hg => rfl); (case hn => rfl); (case hr => first | (go_simp; done) | (go_simp; rfl)); intro w5 hw; have BKq2 := Aside0.mk (show w5.heap[q2]? = _ from (congrArg (fun W : World => W.heap[q2]?) hw).trans ((Cells.setAll_far HNq2q1.out _ _ _).trans BKq2.out)); have HB5 := Aside0.mk (show Below w.heap.size w w5 from by rw [hw]; exact Cells.setAll_below HQq1.out _ _ _ HB4.out); have BKq1 := Aside0.mk (show w5.heap[q1]? = some (.cells #[.string m, .int .i64 nb, .string via, .int .i64 port] 28 (0, 0)) from by rw [hw]; exact (Cells.setAll_blk _ _ _ _ BKq1.out).trans rfl); clear fa0 fa1; clear hw))
    clear z0 z1 z2 z3 y0 y1
    refine start_ (n := 15) (S := fun W => Below w5.heap.size w5 W) (ds := []) #[false, false, false, false, false, false, false, false, false, false, false, false, false, false, false] (by kernel_rfl) rfl rfl (below_drew (Below.refl w5.heap.size w5)) (fun hHeld => ?_)
    refine pure_ (i := 0) (N := some 41) (v := ?_) (a' := ?_) #[true, false, false, false, false, false, false, false, false, false, false, false, false, false, false] rfl rfl (by kernel_rfl) (fun _ _ _ h => h) (Or.inl ⟨by rfl, ?_⟩) ?_ ?_
    rotate_left
    · intro w'
      go_simp
      with_reducible rfl
    rotate_left
    · simp only [Act.put, List.setIfInBounds_toArray, List.set_cons_zero, List.set_cons_succ]
      rfl
    refine pure_ (i := 1) (N := some 42) (v := ?_) (a' := ?_) #[true, true, false, false, false, false, false, false, false, false, false, false, false, false, false] rfl rfl (by kernel_rfl) (fun _ _ _ h => h) (Or.inl ⟨by rfl, ?_⟩) ?_ ?_
    rotate_left
    · intro w'
      go_simp
      with_reducible rfl
    rotate_left
    · simp only [Act.put, List.setIfInBounds_toArray, List.set_cons_zero, List.set_cons_succ]
      rfl
    refine pure_ (i := 2) (N := some 43) (v := ?_) (a' := ?_) #[true, true, true, false, false, false, false, false, false, false, false, false, false, false, false] rfl rfl (by kernel_rfl) (fun _ _ _ h => h) (Or.inl ⟨by rfl, ?_⟩) ?_ ?_
    rotate_left
    · intro w'
      go_simp
      with_reducible rfl
    rotate_left
    · simp only [Act.put, List.setIfInBounds_toArray, List.set_cons_zero, List.set_cons_succ]
      rfl
    refine take_ (i := 3) (N := some 44) (v := ?_) (a' := ?_) #[true, true, true, true, false, false, false, false, false, false, false, false, false, false, false] rfl rfl (by kernel_rfl) (fun _ _ _ h => h) (Or.inl ⟨by rfl, ?_⟩) hHeld ?_ ?_
    rotate_left
    · intro w' s0
      obtain ⟨x0, x1⟩ := TB.out _ (HB5.out.trans (s0.mono HB5.out.size))
      have BKt := Aside0.mk (blk_below BKq2.out s0)
      have y0 : w'.cell? ⟨q2, 0, none⟩ = some (.string m) := (blk_cell BKt.out 0).trans rfl
      have y1 : w'.cell? ⟨q2, 1, none⟩ = some (.int .i64 nb) := (blk_cell BKt.out 1).trans rfl
      go_simp
      with_reducible rfl
    rotate_left
    · simp only [Act.put, List.setIfInBounds_toArray, List.set_cons_zero, List.set_cons_succ]
      rfl
    refine take_ (i := 4) (N := some 45) (v := ?_) (a' := ?_) #[true, true, true, true, true, false, false, false, false, false, false, false, false, false, false] rfl rfl (by kernel_rfl) (fun _ _ _ h => h) (Or.inl ⟨by rfl, ?_⟩) hHeld ?_ ?_
    rotate_left
    · intro w' s0
      obtain ⟨x0, x1⟩ := TB.out _ (HB5.out.trans (s0.mono HB5.out.size))
      have BKt := Aside0.mk (blk_below BKq2.out s0)
      have y0 : w'.cell? ⟨q2, 0, none⟩ = some (.string m) := (blk_cell BKt.out 0).trans rfl
      have y1 : w'.cell? ⟨q2, 1, none⟩ = some (.int .i64 nb) := (blk_cell BKt.out 1).trans rfl
      go_simp
      with_reducible rfl
    rotate_left
    · simp only [Act.put, List.setIfInBounds_toArray, List.set_cons_zero, List.set_cons_succ]
      rfl
    refine pure_ (i := 5) (N := some 46) (v := ?_) (a' := ?_) #[true, true, true, true, true, true, false, false, false, false, false, false, false, false, false] rfl rfl (by kernel_rfl) (fun _ _ _ h => h) (Or.inl ⟨by rfl, ?_⟩) ?_ ?_
    rotate_left
    · intro w'
      go_simp
      with_reducible rfl
    rotate_left
    · simp only [Act.put, List.setIfInBounds_toArray, List.set_cons_zero, List.set_cons_succ]
      rfl
    refine pure_ (i := 6) (N := some 47) (v := ?_) (a' := ?_) #[true, true, true, true, true, true, true, false, false, false, false, false, false, false, false] rfl rfl (by kernel_rfl) (fun _ _ _ h => h) (Or.inl ⟨by rfl, ?_⟩) ?_ ?_
    rotate_left
    · intro w'
      go_simp
      with_reducible rfl
    rotate_left
    · simp only [Act.put, List.setIfInBounds_toArray, List.set_cons_zero, List.set_cons_succ]
      rfl
    refine pure_ (i := 7) (N := some 48) (v := ?_) (a' := ?_) #[true, true, true, true, true, true, true, true, false, false, false, false, false, false, false] rfl rfl (by kernel_rfl) (fun _ _ _ h => h) (Or.inl ⟨by rfl, ?_⟩) ?_ ?_
    rotate_left
    · intro w'
      go_simp
      with_reducible rfl
    rotate_left
    · simp only [Act.put, List.setIfInBounds_toArray, List.set_cons_zero, List.set_cons_succ]
      rfl
    refine take_ (i := 8) (N := some 49) (v := ?_) (a' := ?_) #[true, true, true, true, true, true, true, true, true, false, false, false, false, false, false] rfl rfl (by kernel_rfl) (fun _ _ _ h => h) (Or.inl ⟨by rfl, ?_⟩) hHeld ?_ ?_
    rotate_left
    · intro w' s0
      obtain ⟨x0, x1⟩ := TB.out _ (HB5.out.trans (s0.mono HB5.out.size))
      have BKt := Aside0.mk (blk_below BKq2.out s0)
      have y0 : w'.cell? ⟨q2, 0, none⟩ = some (.string m) := (blk_cell BKt.out 0).trans rfl
      have y1 : w'.cell? ⟨q2, 1, none⟩ = some (.int .i64 nb) := (blk_cell BKt.out 1).trans rfl
      go_simp
      with_reducible rfl
    rotate_left
    · simp only [Act.put, List.setIfInBounds_toArray, List.set_cons_zero, List.set_cons_succ]
      rfl
    refine one_ (i := 9) (N := some 50) #[true, true, true, true, true, true, true, true, true, true, false, false, false, false, false] rfl rfl (by kernel_rfl) (by decide) (fun K hK => ?_)
    refine goesV_ Try.func24 (by kernel_rfl) rfl #[.slice A n c, .agg #[.string m, .int .i64 nb], fnV] (by rfl) rfl rfl (by first | rfl | go_simp) (by first | rfl | simp [Act.eval] | go_simp) ?_
    refine (BW.out ⟨m, nb⟩ _ (HB5.out.trans (hHeld.mono HB5.out.size))).mono ?_
    rintro e w6 ⟨⟨bi, bb, rfl, hbs⟩, hb⟩
    refine ⟨_, rfl, hK.out _ _ (hHeld.trans (hb.mono hHeld.size)) (fun hHeld => ?_)⟩
    clear hK K hb
    refine norm_ (a' := ?_) ?_ ?_
    rotate_left
    · show Act.put _ (some 50) _ = _
      simp only [Act.put, List.setIfInBounds_toArray, List.set_cons_zero, List.set_cons_succ]
      rfl
    refine pure_ (i := 10) (N := some 40) (v := ?_) (a' := ?_) #[true, true, true, true, true, true, true, true, true, true, true, false, false, false, false] rfl rfl (by kernel_rfl) (fun _ _ _ h => h) (Or.inl ⟨by rfl, ?_⟩) ?_ ?_
    rotate_left
    · intro w'
      go_simp
      with_reducible rfl
    rotate_left
    · simp only [Act.put, List.setIfInBounds_toArray, List.set_cons_zero, List.set_cons_succ]
      rfl
    refine pure_ (i := 11) (N := some 51) (v := ?_) (a' := ?_) #[true, true, true, true, true, true, true, true, true, true, true, true, false, false, false] rfl rfl (by kernel_rfl) (fun _ _ _ h => h) (Or.inl ⟨by rfl, ?_⟩) ?_ ?_
    rotate_left
    · intro w'
      go_simp
      with_reducible rfl
    rotate_left
    · simp only [Act.put, List.setIfInBounds_toArray, List.set_cons_zero, List.set_cons_succ]
      rfl
    refine pure_ (i := 12) (N := some 52) (v := ?_) (a' := ?_) #[true, true, true, true, true, true, true, true, true, true, true, true, true, false, false] rfl rfl (by kernel_rfl) (fun _ _ _ h => h) (Or.inl ⟨by rfl, ?_⟩) ?_ ?_
    rotate_left
    · intro w'
      go_simp
      with_reducible rfl
    rotate_left
    · simp only [Act.put, List.setIfInBounds_toArray, List.set_cons_zero, List.set_cons_succ]
      rfl
    refine pure_ (i := 13) (N := some 7) (v := ?_) (a' := ?_) #[true, true, true, true, true, true, true, true, true, true, true, true, true, true, false] rfl rfl (by kernel_rfl) (fun _ _ _ h => h) (Or.inl ⟨by rfl, ?_⟩) ?_ ?_
    rotate_left
    · intro w'
      go_simp
      with_reducible rfl
    rotate_left
    · simp only [Act.put, List.setIfInBounds_toArray, List.set_cons_zero, List.set_cons_succ]
      rfl
    refine pure_ (i := 14) (N := some 8) (v := ?_) (a' := ?_) #[true, true, true, true, true, true, true, true, true, true, true, true, true, true, true] rfl rfl (by kernel_rfl) (fun _ _ _ h => h) (Or.inl ⟨by rfl, ?_⟩) ?_ ?_
    rotate_left
    · intro w'
      go_simp
      with_reducible rfl
    rotate_left
    · simp only [Act.put, List.setIfInBounds_toArray, List.set_cons_zero, List.set_cons_succ]
      rfl
    refine done_ (by kernel_rfl) ?_
    have BKq1 := Aside0.mk (blk_below BKq1.out hHeld)
    have HB6 := Aside0.mk (HB5.out.trans (hHeld.mono HB5.out.size))
    clear hHeld
    have HBS := Aside0.mk hbs
    clear hbs
    cases bb
    · obtain ⟨x0, x1⟩ := TB.out _ HB6.out
      by_cases h64 : 64 ≤ n
      · have d64 : decide ((64 : Int) ≤ (n : Int)) = true := decide_eq_true (by omega)
        go_wp2_with (fail)
        go_ret
        exact ⟨_, _, _, rfl, Or.inr ⟨HBD.out, bi, false, by rw [HNR.out]; exact HBS.out, Or.inr (Or.inl ⟨rfl, by rw [HN.out]; exact h64, rfl, rfl⟩)⟩, HO.out.below HB6.out, Turn.of_below HB6.out _ _⟩
      · have d64 : decide ((64 : Int) ≤ (n : Int)) = false := decide_eq_false (by omega)
        have hbi : bi ≤ n := by rw [← HN.out]; exact HBS.out.1
        go_wp2_with (fail)
        obtain ⟨l', hl'⟩ : ∃ l', l.take bi ++ ⟨⟨m, nb⟩, via, port⟩ :: l.drop bi = l' := ⟨_, rfl⟩
        have IX := Aside0.mk (IW.out bi hbi)
        rw [hl'] at IX
        have HL' := Aside0.mk hl'
        have hS6 := HO.out.below HB6.out
        have HS6 := Aside0.mk hS6.blk
        clear hl' hS6 x0 x1
        refine start_ (n := 12) (S := fun W => W.heap[q]? = some (.cells #[.slice A n c, fnV] 54 (0, 0)) ∧ W.heap[q1]? = some (.cells #[.string m, .int .i64 nb, .string via, .int .i64 port] 28 (0, 0))) (ds := [11]) #[false, false, false, false, false, false, false, false, false, false, false, false] (by kernel_rfl) rfl rfl ⟨HS6.out, BKq1.out⟩ (fun hHeld => ?_)
        refine pure_ (i := 0) (N := some 53) (v := ?_) (a' := ?_) #[true, false, false, false, false, false, false, false, false, false, false, false] rfl rfl (by kernel_rfl) (fun _ _ _ h => h) (Or.inl ⟨by rfl, ?_⟩) ?_ ?_
        rotate_left
        · intro w'
          go_simp
          with_reducible rfl
        rotate_left
        · simp only [Act.put, List.setIfInBounds_toArray, List.set_cons_zero, List.set_cons_succ]
          rfl
        refine pure_ (i := 1) (N := some 54) (v := ?_) (a' := ?_) #[true, true, false, false, false, false, false, false, false, false, false, false] rfl rfl (by kernel_rfl) (fun _ _ _ h => h) (Or.inl ⟨by rfl, ?_⟩) ?_ ?_
        rotate_left
        · intro w'
          go_simp
          with_reducible rfl
        rotate_left
        · simp only [Act.put, List.setIfInBounds_toArray, List.set_cons_zero, List.set_cons_succ]
          rfl
        refine pure_ (i := 2) (N := some 55) (v := ?_) (a' := ?_) #[true, true, true, false, false, false, false, false, false, false, false, false] rfl rfl (by kernel_rfl) (fun _ _ _ h => h) (Or.inl ⟨by rfl, ?_⟩) ?_ ?_
        rotate_left
        · intro w'
          go_simp
          with_reducible rfl
        rotate_left
        · simp only [Act.put, List.setIfInBounds_toArray, List.set_cons_zero, List.set_cons_succ]
          rfl
        refine pure_ (i := 3) (N := some 56) (v := ?_) (a' := ?_) #[true, true, true, true, false, false, false, false, false, false, false, false] rfl rfl (by kernel_rfl) (fun _ _ _ h => h) (Or.inl ⟨by rfl, ?_⟩) ?_ ?_
        rotate_left
        · intro w'
          go_simp
          with_reducible rfl
        rotate_left
        · simp only [Act.put, List.setIfInBounds_toArray, List.set_cons_zero, List.set_cons_succ]
          rfl
        refine take_ (i := 4) (N := some 57) (v := ?_) (a' := ?_) #[true, true, true, true, true, false, false, false, false, false, false, false] rfl rfl (by kernel_rfl) (fun _ _ _ h => h) (Or.inl ⟨by rfl, ?_⟩) hHeld ?_ ?_
        rotate_left
        · intro w' s0
          have s1 := Aside0.mk s0.1
          have s2 := Aside0.mk s0.2
          clear s0
          have x0 : w'.cell? ⟨q, 0, none⟩ = some (.slice A n c) := (blk_cell s1.out 0).trans rfl
          have y0 : w'.cell? ⟨q1, 0, none⟩ = some (.string m) := (blk_cell s2.out 0).trans rfl
          have y1 : w'.cell? ⟨q1, 1, none⟩ = some (.int .i64 nb) := (blk_cell s2.out 1).trans rfl
          have y2 : w'.cell? ⟨q1, 2, none⟩ = some (.string via) := (blk_cell s2.out 2).trans rfl
          have y3 : w'.cell? ⟨q1, 3, none⟩ = some (.int .i64 port) := (blk_cell s2.out 3).trans rfl
          go_simp
          with_reducible rfl
        rotate_left
        · simp only [Act.put, List.setIfInBounds_toArray, List.set_cons_zero, List.set_cons_succ]
          rfl
        refine pure_ (i := 5) (N := some 58) (v := ?_) (a' := ?_) #[true, true, true, true, true, true, false, false, false, false, false, false] rfl rfl (by kernel_rfl) (fun _ _ _ h => h) (Or.inl ⟨by rfl, ?_⟩) ?_ ?_
        rotate_left
        · intro w'
          go_simp
          with_reducible rfl
        rotate_left
        · simp only [Act.put, List.setIfInBounds_toArray, List.set_cons_zero, List.set_cons_succ]
          rfl
        refine take_ (i := 6) (N := some 59) (v := ?_) (a' := ?_) #[true, true, true, true, true, true, true, false, false, false, false, false] rfl rfl (by kernel_rfl) (fun _ _ _ h => h) (Or.inl ⟨by rfl, ?_⟩) hHeld ?_ ?_
        rotate_left
        · intro w' s0
          have s1 := Aside0.mk s0.1
          have s2 := Aside0.mk s0.2
          clear s0
          have x0 : w'.cell? ⟨q, 0, none⟩ = some (.slice A n c) := (blk_cell s1.out 0).trans rfl
          have y0 : w'.cell? ⟨q1, 0, none⟩ = some (.string m) := (blk_cell s2.out 0).trans rfl
          have y1 : w'.cell? ⟨q1, 1, none⟩ = some (.int .i64 nb) := (blk_cell s2.out 1).trans rfl
          have y2 : w'.cell? ⟨q1, 2, none⟩ = some (.string via) := (blk_cell s2.out 2).trans rfl
          have y3 : w'.cell? ⟨q1, 3, none⟩ = some (.int .i64 port) := (blk_cell s2.out 3).trans rfl
          go_simp
          with_reducible rfl
        rotate_left
        · simp only [Act.put, List.setIfInBounds_toArray, List.set_cons_zero, List.set_cons_succ]
          rfl
        refine one_ (i := 7) (N := some 60) #[true, true, true, true, true, true, true, true, false, false, false, false] rfl rfl (by kernel_rfl) (by decide) (fun K hK => ?_)
        refine value_ (v := .slice (some ⟨w6.heap.size, 0, none⟩) 1 1) (w1 := (w6.alloc (.cells #[.string m, .int .i64 nb, .string via, .int .i64 port] 28 (0, 0))).drew) (by rfl) rfl ?_ ?_
        · go_simp
        obtain ⟨vb, hvb⟩ : ∃ vb, w6.heap.size = vb := ⟨_, rfl⟩
        have HB7 := Aside0.mk (show Below w.heap.size w ((w6.alloc (.cells #[.string m, .int .i64 nb, .string via, .int .i64 port] 28 (0, 0))).drew) from below_drew (below_alloc HB6.out _))
        have BV := Aside0.mk (show ((w6.alloc (.cells #[.string m, .int .i64 nb, .string via, .int .i64 port] 28 (0, 0))).drew).heap[vb]? = some (.cells #[.string m, .int .i64 nb, .string via, .int .i64 port] 28 (0, 0)) from by rw [← hvb]; exact heap_alloc_new w6 _)
        have HVB := Aside0.mk (show w.heap.size ≤ vb from by rw [← hvb]; exact HB6.out.size)
        have HB67 := Aside0.mk (show Below w6.heap.size w6 ((w6.alloc (.cells #[.string m, .int .i64 nb, .string via, .int .i64 port] 28 (0, 0))).drew) from below_drew (below_alloc (Below.refl _ _) _))
        obtain ⟨W7, hW7⟩ : ∃ W7, (w6.alloc (.cells #[.string m, .int .i64 nb, .string via, .int .i64 port] 28 (0, 0))).drew = W7 := ⟨_, rfl⟩
        rw [hW7] at HB7 BV HB67 ⊢
        rw [hvb]
        clear hW7 hvb
        refine hK.out _ _ ⟨blk_below HS6.out HB67.out, blk_below BKq1.out HB67.out⟩ (fun hHeld => ?_)
        clear hK K
        refine norm_ (a' := ?_) ?_ ?_
        rotate_left
        · show Act.put _ (some 60) _ = _
          simp only [Act.put, List.setIfInBounds_toArray, List.set_cons_zero, List.set_cons_succ]
          rfl
        refine one_ (i := 8) (N := some 61) #[true, true, true, true, true, true, true, true, true, false, false, false] rfl rfl (by kernel_rfl) (by decide) (fun K hK => ?_)
        refine goesV_ Try.func25 (by kernel_rfl) rfl #[.slice A n c, .int .i64 bi, .slice (some ⟨vb, 0, none⟩) 1 1] (by rfl) rfl rfl (by first | rfl | go_simp) (by first | rfl | simp [Act.eval] | go_simp) ?_
        refine (IX.out _ _ HB7.out BV.out HVB.out).mono ?_
        rintro e w8 ⟨v', rfl, ho, hg, hat⟩
        obtain ⟨A', c', rfl, _, _⟩ := own_slice' ho
        have HO8 := Aside0.mk ho
        have HG8 := Aside0.mk hg
        have HA8 := Aside0.mk hat
        clear ho hg hat
        refine ⟨_, rfl, hK.out _ _ ⟨blk_grown hHeld.1 HG8.out (fun e => own_neT HO.out.own HO.out.blk (by decide) e), blk_grown hHeld.2 HG8.out (fun e => by have h1 := HLT.out q1 e.symm; have h2 := HQq1.out; omega)⟩ (fun hHeld => ?_)⟩
        clear hK K
        refine norm_ (a' := ?_) ?_ ?_
        rotate_left
        · show Act.put _ (some 61) _ = _
          simp only [Act.put, List.setIfInBounds_toArray, List.set_cons_zero, List.set_cons_succ]
          rfl
        refine pure_ (i := 9) (N := some 62) (v := ?_) (a' := ?_) #[true, true, true, true, true, true, true, true, true, true, false, false] rfl rfl (by kernel_rfl) (fun _ _ _ h => h) (Or.inl ⟨by rfl, ?_⟩) ?_ ?_
        rotate_left
        · intro w'
          go_simp
          with_reducible rfl
        rotate_left
        · simp only [Act.put, List.setIfInBounds_toArray, List.set_cons_zero, List.set_cons_succ]
          rfl
        refine pure_ (i := 10) (N := some 63) (v := ?_) (a' := ?_) #[true, true, true, true, true, true, true, true, true, true, true, false] rfl rfl (by kernel_rfl) (fun _ _ _ h => h) (Or.inl ⟨by rfl, ?_⟩) ?_ ?_
        rotate_left
        · intro w'
          go_simp
          with_reducible rfl
        rotate_left
        · simp only [Act.put, List.setIfInBounds_toArray, List.set_cons_zero, List.set_cons_succ]
          rfl
        refine last_ (i := 11) (N := none) #[true, true, true, true, true, true, true, true, true, true, true, true] rfl rfl (by kernel_rfl) (by decide) (fun K hK => ?_)
        refine skip_ (w1 := w8.setCell ⟨q, 0, none⟩ (.slice A' l'.length c')) (by rfl) rfl ?_ ?_
        · have c0 : w8.cell? ⟨q, 0, none⟩ = some (.slice A n c) := (blk_cell hHeld.1 0).trans rfl
          have f0 : w8.frozen? ⟨q, 0, none⟩ = false := blk_frozen hHeld.1 0
          clear hHeld
          go_simp
        have HT := Aside0.mk (show TabO (w8.setCell ⟨q, 0, none⟩ (.slice A' l'.length c')) base q (.slice A' l'.length c') l' ∧ Turn w (w8.setCell ⟨q, 0, none⟩ (.slice A' l'.length c')) q (.slice A n c) (.slice A' l'.length c') from by
          have hq : some q ≠ (Value.slice A' l'.length c').ownBlock := own_neT HO8.out hHeld.1 (by decide)
          refine ⟨⟨(blk_set hHeld.1 0 _).trans rfl, own_setCell HO8.out hq _, HO.out.low⟩, HG8.out.os.trans HB7.out.os, HG8.out.tape.trans HB7.out.tape, HG8.out.output.trans HB7.out.output, ?_, fun k hk h1 h2 => ?_, ?_⟩
          · have e : (w8.setCell ⟨q, 0, none⟩ (.slice A' l'.length c')).heap.size = w8.heap.size := by simp [World.setCell]
            rw [e]
            exact Nat.le_trans HB7.out.size HG8.out.size
          · exact (Below.heap_setCell w8 ⟨q, 0, none⟩ _ k h1).trans ((HG8.out.block k (Nat.lt_of_lt_of_le hk HB7.out.size) h2).trans (HB7.out.block k hk))
          · intro k hk
            rcases HA8.out with h | ⟨b, h1, h2⟩
            · exact .inl (by rw [← h]; exact hk)
            · rw [h1] at hk
              injection hk with hk
              exact .inr (by rw [← hk]; exact Nat.le_trans HB7.out.size h2))
        refine hK.out _ _ ?_
        clear hK K hHeld
        refine done_ (by kernel_rfl) ?_
        (try simp only [Exit.inBlock, Exit.then])
        go_wp2_with (fail)
        go_ret
        exact ⟨_, _, _, rfl, Or.inr ⟨HBD.out, bi, false, by rw [HNR.out]; exact HBS.out, Or.inr (Or.inr ⟨rfl, by rw [HN.out]; omega, rfl, by rw [HNR.out]; exact HL'.out.symm⟩)⟩, HT.out⟩
    · have hbi : bi < n := by
        have h0 := HBS.out.2.2.2
        rw [eq_comm, decide_eq_true_iff] at h0
        have h1 := h0.1
        rw [HN.out] at h1
        exact h1
      have hbiI : (bi : Int) < (n : Int) := by omega
      obtain ⟨g, cur, hA, hnl, hgb, hgh, hgc, hgm, hgs, hgt⟩ := own_form (HO.out.below HB6.out).own (by rw [HN.out]; omega)
      subst hA
      have HGH := Aside0.mk hgh
      have HGS := Aside0.mk hgs
      have HGC := Aside0.mk hgc
      clear hgb hgh hgm hgs hgt hgc hnl
      have HT := Aside0.mk (show TabO (Cells.setAll w6 g (bi * 4) [.string m, .int .i64 nb, .string via, .int .i64 port]).drew base q (.slice (some ⟨g, 0, none⟩) n c) (l.set bi (normR ⟨⟨a, nb⟩, via, port⟩)) ∧ Turn w (Cells.setAll w6 g (bi * 4) [.string m, .int .i64 nb, .string via, .int .i64 port]).drew q (.slice (some ⟨g, 0, none⟩) n c) (.slice (some ⟨g, 0, none⟩) n c) from by
        have ht := HO.out.below HB6.out
        have hq : q ≠ g := fun e => own_neT ht.own ht.blk (by decide) (by rw [e]; rfl)
        rw [HNR.out]
        have h1 : TabO (Cells.setAll w6 g (bi * 4) (enc28 ⟨⟨m, nb⟩, via, port⟩)) base q (.slice (some ⟨g, 0, none⟩) n c) (l.set bi ⟨⟨m, nb⟩, via, port⟩) := ⟨(Cells.setAll_far hq _ _ _).trans ht.blk, own_put_row ht.own _ (by rw [HN.out]; exact hbi), ht.low⟩
        have h2 := setAll_turn (q := q) (v := .slice (some ⟨g, 0, none⟩) n c) HB6.out rfl (bi * 4) (enc28 ⟨⟨m, nb⟩, via, port⟩)
        exact ⟨h1.below (below_drew (Below.refl _ _)), h2.os, h2.tape, h2.output, h2.size, h2.block, h2.row⟩)
      have CE := Aside0.mk (show (∃ u, w6.cell? ⟨g, bi * 4, none⟩ = some u) ∧ (∃ u, w6.cell? ⟨g, bi * 4 + 1, none⟩ = some u) ∧ (∃ u, w6.cell? ⟨g, bi * 4 + 2, none⟩ = some u) ∧ (∃ u, w6.cell? ⟨g, bi * 4 + 3, none⟩ = some u) from by
        have hs := HGS.out
        have hc := HGC.out
        refine ⟨?_, ?_, ?_, ?_⟩ <;> (rw [blk_cell HGH.out]; exact ⟨_, Array.getElem?_eq_getElem (by omega)⟩))
      have FE := Aside0.mk (And.intro (blk_frozen HGH.out (bi * 4)) (And.intro (blk_frozen HGH.out (bi * 4 + 1)) (And.intro (blk_frozen HGH.out (bi * 4 + 2)) (blk_frozen HGH.out (bi * 4 + 3)))))
      go_wp2_with (fail)
      refine start_ (n := 8) (S := fun W => Below w6.heap.size w6 W) (ds := [7]) #[false, false, false, false, false, false, false, false] (by kernel_rfl) rfl rfl (below_drew (Below.refl w6.heap.size w6)) (fun hHeld => ?_)
      refine pure_ (i := 0) (N := some 66) (v := ?_) (a' := ?_) #[true, false, false, false, false, false, false, false] rfl rfl (by kernel_rfl) (fun _ _ _ h => h) (Or.inl ⟨by rfl, ?_⟩) ?_ ?_
      rotate_left
      · intro w'
        go_simp
        with_reducible rfl
      rotate_left
      · simp only [Act.put, List.setIfInBounds_toArray, List.set_cons_zero, List.set_cons_succ]
        rfl
      refine pure_ (i := 1) (N := some 67) (v := ?_) (a' := ?_) #[true, true, false, false, false, false, false, false] rfl rfl (by kernel_rfl) (fun _ _ _ h => h) (Or.inl ⟨by rfl, ?_⟩) ?_ ?_
      rotate_left
      · intro w'
        go_simp
        with_reducible rfl
      rotate_left
      · simp only [Act.put, List.setIfInBounds_toArray, List.set_cons_zero, List.set_cons_succ]
        rfl
      refine pure_ (i := 2) (N := some 68) (v := ?_) (a' := ?_) #[true, true, true, false, false, false, false, false] rfl rfl (by kernel_rfl) (fun _ _ _ h => h) (Or.inl ⟨by rfl, ?_⟩) ?_ ?_
      rotate_left
      · intro w'
        go_simp
        with_reducible rfl
      rotate_left
      · simp only [Act.put, List.setIfInBounds_toArray, List.set_cons_zero, List.set_cons_succ]
        rfl
      refine take_ (i := 3) (N := some 69) (v := ?_) (a' := ?_) #[true, true, true, true, false, false, false, false] rfl rfl (by kernel_rfl) (fun _ _ _ h => h) (Or.inl ⟨by rfl, ?_⟩) hHeld ?_ ?_
      rotate_left
      · intro w' s0
        obtain ⟨x0, x1⟩ := TB.out _ (HB6.out.trans (s0.mono HB6.out.size))
        have BKt := Aside0.mk (blk_below BKq1.out s0)
        have y0 : w'.cell? ⟨q1, 0, none⟩ = some (.string m) := (blk_cell BKt.out 0).trans rfl
        have y1 : w'.cell? ⟨q1, 1, none⟩ = some (.int .i64 nb) := (blk_cell BKt.out 1).trans rfl
        have y2 : w'.cell? ⟨q1, 2, none⟩ = some (.string via) := (blk_cell BKt.out 2).trans rfl
        have y3 : w'.cell? ⟨q1, 3, none⟩ = some (.int .i64 port) := (blk_cell BKt.out 3).trans rfl
        go_simp
        with_reducible rfl
      rotate_left
      · simp only [Act.put, List.setIfInBounds_toArray, List.set_cons_zero, List.set_cons_succ]
        rfl
      refine pure_ (i := 4) (N := some 70) (v := ?_) (a' := ?_) #[true, true, true, true, true, false, false, false] rfl rfl (by kernel_rfl) (fun _ _ _ h => h) (Or.inl ⟨by rfl, ?_⟩) ?_ ?_
      rotate_left
      · intro w'
        go_simp
        with_reducible rfl
      rotate_left
      · simp only [Act.put, List.setIfInBounds_toArray, List.set_cons_zero, List.set_cons_succ]
        rfl
      refine take_ (i := 5) (N := some 71) (v := ?_) (a' := ?_) #[true, true, true, true, true, true, false, false] rfl rfl (by kernel_rfl) (fun _ _ _ h => h) (Or.inl ⟨by rfl, ?_⟩) hHeld ?_ ?_
      rotate_left
      · intro w' s0
        obtain ⟨x0, x1⟩ := TB.out _ (HB6.out.trans (s0.mono HB6.out.size))
        have BKt := Aside0.mk (blk_below BKq1.out s0)
        have y0 : w'.cell? ⟨q1, 0, none⟩ = some (.string m) := (blk_cell BKt.out 0).trans rfl
        have y1 : w'.cell? ⟨q1, 1, none⟩ = some (.int .i64 nb) := (blk_cell BKt.out 1).trans rfl
        have y2 : w'.cell? ⟨q1, 2, none⟩ = some (.string via) := (blk_cell BKt.out 2).trans rfl
        have y3 : w'.cell? ⟨q1, 3, none⟩ = some (.int .i64 port) := (blk_cell BKt.out 3).trans rfl
        go_simp
        with_reducible rfl
      rotate_left
      · simp only [Act.put, List.setIfInBounds_toArray, List.set_cons_zero, List.set_cons_succ]
        rfl
      refine pure_ (i := 6) (N := some 72) (v := ?_) (a' := ?_) #[true, true, true, true, true, true, true, false] rfl rfl (by kernel_rfl) (fun _ _ _ h => h) (Or.inl ⟨by rfl, ?_⟩) ?_ ?_
      rotate_left
      · intro w'
        go_simp
        with_reducible rfl
      rotate_left
      · simp only [Act.put, List.setIfInBounds_toArray, List.set_cons_zero, List.set_cons_succ]
        rfl
      refine last_ (i := 7) (N := none) #[true, true, true, true, true, true, true, true] rfl rfl (by kernel_rfl) (by decide) (fun K hK => ?_)
      refine skip_ (w1 := (Cells.setAll w6 g (bi * 4) [.string m, .int .i64 nb, .string via, .int .i64 port]).drew) (by rfl) rfl ?_ ?_
      · obtain ⟨⟨u0, c0⟩, ⟨u1, c1⟩, ⟨u2, c2⟩, ⟨u3, c3⟩⟩ := CE.out
        obtain ⟨f0, f1, f2, f3⟩ := FE.out
        go_simp
        rfl
      refine hK.out _ _ ?_
      clear hK K
      refine done_ (by kernel_rfl) ?_
      (try simp only [Exit.inBlock, Exit.then])
      go_wp2_with (fail)
      go_ret
      exact ⟨_, _, _, rfl, Or.inr ⟨HBD.out, bi, true, by rw [HNR.out]; exact HBS.out, Or.inl ⟨rfl, rfl, rfl⟩⟩, HT.out⟩
  · have hv1 : via.toList.isEmpty = false := by cases hh : via.toList with | nil => exact absurd hh hv0 | cons x xs => rfl
    obtain rfl := hvia hv0
    have z0 : w2.cell? ⟨q1, 0, none⟩ = some (.string a) := (blk_cell BKq1.out 0).trans rfl; have z1 : w2.cell? ⟨q1, 1, none⟩ = some (.int .i64 nb) := (blk_cell BKq1.out 1).trans rfl; have z2 : w2.cell? ⟨q1, 2, none⟩ = some (.string via) := (blk_cell BKq1.out 2).trans rfl; have z3 : w2.cell? ⟨q1, 3, none⟩ = some (.int .i64 port) := (blk_cell BKq1.out 3).trans rfl
    go_wp2_with (first | ((with_reducible refine gate_dst (N := 5) rfl ?_); refine box_event ?hg (N := 5) ?hd (cs := #[.string ByteArray.empty, .int .i64 0]) (t := 26) ?hr ?_; (case hd => rfl); (case hg => rfl); (case hr => first | (go_simp; done) | (go_simp; rfl)); intro q2 hq w3 hbox hb; have HNq1q2 := Aside0.mk (show q1 ≠ q2 from by have := blk_lt BKq1.out; omega); have BKq1 := Aside0.mk (blk_below BKq1.out hb); have BKq2 := Aside0.mk hbox; have HQq2 := Aside0.mk (show w.heap.size ≤ q2 from by rw [hq]; exact HB2.out.size); have HB3 := Aside0.mk (HB2.out.trans (hb.mono HB2.out.size)); clear hbox hb hq) | ((with_reducible refine gate_store (t := 26) (p := 5) rfl ?_); have ca0 : w3.cell? ⟨q2, 0, none⟩ = some (.string ByteArray.empty) := (blk_cell BKq2.out 0).trans rfl; have ca1 : w3.cell? ⟨q2, 1, none⟩ = some (.int .i64 0) := (blk_cell BKq2.out 1).trans rfl; have fa0 : w3.frozen? ⟨q2, 0, none⟩ = false := blk_frozen BKq2.out 0; have fa1 : w3.frozen? ⟨q2, 1, none⟩ = false := blk_frozen BKq2.out 1; refine store_event (t := 26) (p := 5) (v := ?vo5_4_1_n3) (w1 := Cells.setAll w3 q2 0 [.string m, .int .i64 nb]) ?hg ?ho ?hn ?hr ?_; (case ho => rfl); (case hg => rfl); (case hn => rfl); (case hr => first | (go_simp; done) | (go_simp; rfl)); intro w4 hw; have BKq1 := Aside0.mk (show w4.heap[q1]? = _ from (congrArg (fun W : World => W.heap[q1]?) hw).trans ((Cells.setAll_far HNq1q2.out _ _ _).trans BKq1.out)); have HB4 := Aside0.mk (show Below w.heap.size w w4 from by rw [hw]; exact Cells.setAll_below HQq2.out _ _ _ HB3.out); have BKq2 := Aside0.mk (show w4.heap[q2]? = some (.cells #[.string m, .int .i64 nb] 26 (0, 0)) from by rw [hw]; exact Cells.stored2 BKq2.out); clear ca0 ca1 fa0 fa1; have z0 : w4.cell? ⟨q1, 0, none⟩ = some (.string a) := (blk_cell BKq1.out 0).trans rfl; have z1 : w4.cell? ⟨q1, 1, none⟩ = some (.int .i64 nb) := (blk_cell BKq1.out 1).trans rfl; have z2 : w4.cell? ⟨q1, 2, none⟩ = some (.string via) := (blk_cell BKq1.out 2).trans rfl; have z3 : w4.cell? ⟨q1, 3, none⟩ = some (.int .i64 port) := (blk_cell BKq1.out 3).trans rfl; have y0 : w4.cell? ⟨q2, 0, none⟩ = some (.string m) := (blk_cell BKq2.out 0).trans rfl; have y1 : w4.cell? ⟨q2, 1, none⟩ = some (.int .i64 nb) := (blk_cell BKq2.out 1).trans rfl; clear hw) | ((with_reducible refine gate_store (t := 26) (p := 39) rfl ?_); have HNq2q1 := Aside0.mk (Ne.symm HNq1q2.out); have fa0 : w4.frozen? ⟨q1, 0, none⟩ = false := blk_frozen BKq1.out 0; have fa1 : w4.frozen? ⟨q1, 1, none⟩ = false := blk_frozen BKq1.out 1; refine store_event (t := 26) (p := 39) (v := ?vo39_5_2_n4) (w1 := Cells.setAll w4 q1 0 [.string m, .int .i64 nb]) ?hg ?ho ?hn ?hr ?_; (case ho => rfl); (case hg => rfl); (case hn => rfl); (case hr => first | (go_simp; done) | (go_simp; rfl)); intro w5 hw; have BKq2 := Aside0.mk (show w5.heap[q2]? = _ from (congrArg (fun W : World => W.heap[q2]?) hw).trans ((Cells.setAll_far HNq2q1.out _ _ _).trans BKq2.out)); have HB5 := Aside0.mk (show Below w.heap.size w w5 from by rw [hw]; exact Cells.setAll_below HQq1.out _ _ _ HB4.out); have BKq1 := Aside0.mk (show w5.heap[q1]? = some (.cells #[.string m, .int .i64 nb, .string via, .int .i64 port] 28 (0, 0)) from by rw [hw]; exact (Cells.setAll_blk _ _ _ _ BKq1.out).trans rfl); clear fa0 fa1; clear hw))
    clear z0 z1 z2 z3 y0 y1
    refine start_ (n := 15) (S := fun W => Below w5.heap.size w5 W) (ds := []) #[false, false, false, false, false, false, false, false, false, false, false, false, false, false, false] (by kernel_rfl) rfl rfl (below_drew (Below.refl w5.heap.size w5)) (fun hHeld => ?_)
    refine pure_ (i := 0) (N := some 41) (v := ?_) (a' := ?_) #[true, false, false, false, false, false, false, false, false, false, false, false, false, false, false] rfl rfl (by kernel_rfl) (fun _ _ _ h => h) (Or.inl ⟨by rfl, ?_⟩) ?_ ?_
    rotate_left
    · intro w'
      go_simp
      with_reducible rfl
    rotate_left
    · simp only [Act.put, List.setIfInBounds_toArray, List.set_cons_zero, List.set_cons_succ]
      rfl
    refine pure_ (i := 1) (N := some 42) (v := ?_) (a' := ?_) #[true, true, false, false, false, false, false, false, false, false, false, false, false, false, false] rfl rfl (by kernel_rfl) (fun _ _ _ h => h) (Or.inl ⟨by rfl, ?_⟩) ?_ ?_
    rotate_left
    · intro w'
      go_simp
      with_reducible rfl
    rotate_left
    · simp only [Act.put, List.setIfInBounds_toArray, List.set_cons_zero, List.set_cons_succ]
      rfl
    refine pure_ (i := 2) (N := some 43) (v := ?_) (a' := ?_) #[true, true, true, false, false, false, false, false, false, false, false, false, false, false, false] rfl rfl (by kernel_rfl) (fun _ _ _ h => h) (Or.inl ⟨by rfl, ?_⟩) ?_ ?_
    rotate_left
    · intro w'
      go_simp
      with_reducible rfl
    rotate_left
    · simp only [Act.put, List.setIfInBounds_toArray, List.set_cons_zero, List.set_cons_succ]
      rfl
    refine take_ (i := 3) (N := some 44) (v := ?_) (a' := ?_) #[true, true, true, true, false, false, false, false, false, false, false, false, false, false, false] rfl rfl (by kernel_rfl) (fun _ _ _ h => h) (Or.inl ⟨by rfl, ?_⟩) hHeld ?_ ?_
    rotate_left
    · intro w' s0
      obtain ⟨x0, x1⟩ := TB.out _ (HB5.out.trans (s0.mono HB5.out.size))
      have BKt := Aside0.mk (blk_below BKq2.out s0)
      have y0 : w'.cell? ⟨q2, 0, none⟩ = some (.string m) := (blk_cell BKt.out 0).trans rfl
      have y1 : w'.cell? ⟨q2, 1, none⟩ = some (.int .i64 nb) := (blk_cell BKt.out 1).trans rfl
      go_simp
      with_reducible rfl
    rotate_left
    · simp only [Act.put, List.setIfInBounds_toArray, List.set_cons_zero, List.set_cons_succ]
      rfl
    refine take_ (i := 4) (N := some 45) (v := ?_) (a' := ?_) #[true, true, true, true, true, false, false, false, false, false, false, false, false, false, false] rfl rfl (by kernel_rfl) (fun _ _ _ h => h) (Or.inl ⟨by rfl, ?_⟩) hHeld ?_ ?_
    rotate_left
    · intro w' s0
      obtain ⟨x0, x1⟩ := TB.out _ (HB5.out.trans (s0.mono HB5.out.size))
      have BKt := Aside0.mk (blk_below BKq2.out s0)
      have y0 : w'.cell? ⟨q2, 0, none⟩ = some (.string m) := (blk_cell BKt.out 0).trans rfl
      have y1 : w'.cell? ⟨q2, 1, none⟩ = some (.int .i64 nb) := (blk_cell BKt.out 1).trans rfl
      go_simp
      with_reducible rfl
    rotate_left
    · simp only [Act.put, List.setIfInBounds_toArray, List.set_cons_zero, List.set_cons_succ]
      rfl
    refine pure_ (i := 5) (N := some 46) (v := ?_) (a' := ?_) #[true, true, true, true, true, true, false, false, false, false, false, false, false, false, false] rfl rfl (by kernel_rfl) (fun _ _ _ h => h) (Or.inl ⟨by rfl, ?_⟩) ?_ ?_
    rotate_left
    · intro w'
      go_simp
      with_reducible rfl
    rotate_left
    · simp only [Act.put, List.setIfInBounds_toArray, List.set_cons_zero, List.set_cons_succ]
      rfl
    refine pure_ (i := 6) (N := some 47) (v := ?_) (a' := ?_) #[true, true, true, true, true, true, true, false, false, false, false, false, false, false, false] rfl rfl (by kernel_rfl) (fun _ _ _ h => h) (Or.inl ⟨by rfl, ?_⟩) ?_ ?_
    rotate_left
    · intro w'
      go_simp
      with_reducible rfl
    rotate_left
    · simp only [Act.put, List.setIfInBounds_toArray, List.set_cons_zero, List.set_cons_succ]
      rfl
    refine pure_ (i := 7) (N := some 48) (v := ?_) (a' := ?_) #[true, true, true, true, true, true, true, true, false, false, false, false, false, false, false] rfl rfl (by kernel_rfl) (fun _ _ _ h => h) (Or.inl ⟨by rfl, ?_⟩) ?_ ?_
    rotate_left
    · intro w'
      go_simp
      with_reducible rfl
    rotate_left
    · simp only [Act.put, List.setIfInBounds_toArray, List.set_cons_zero, List.set_cons_succ]
      rfl
    refine take_ (i := 8) (N := some 49) (v := ?_) (a' := ?_) #[true, true, true, true, true, true, true, true, true, false, false, false, false, false, false] rfl rfl (by kernel_rfl) (fun _ _ _ h => h) (Or.inl ⟨by rfl, ?_⟩) hHeld ?_ ?_
    rotate_left
    · intro w' s0
      obtain ⟨x0, x1⟩ := TB.out _ (HB5.out.trans (s0.mono HB5.out.size))
      have BKt := Aside0.mk (blk_below BKq2.out s0)
      have y0 : w'.cell? ⟨q2, 0, none⟩ = some (.string m) := (blk_cell BKt.out 0).trans rfl
      have y1 : w'.cell? ⟨q2, 1, none⟩ = some (.int .i64 nb) := (blk_cell BKt.out 1).trans rfl
      go_simp
      with_reducible rfl
    rotate_left
    · simp only [Act.put, List.setIfInBounds_toArray, List.set_cons_zero, List.set_cons_succ]
      rfl
    refine one_ (i := 9) (N := some 50) #[true, true, true, true, true, true, true, true, true, true, false, false, false, false, false] rfl rfl (by kernel_rfl) (by decide) (fun K hK => ?_)
    refine goesV_ Try.func24 (by kernel_rfl) rfl #[.slice A n c, .agg #[.string m, .int .i64 nb], fnV] (by rfl) rfl rfl (by first | rfl | go_simp) (by first | rfl | simp [Act.eval] | go_simp) ?_
    refine (BW.out ⟨m, nb⟩ _ (HB5.out.trans (hHeld.mono HB5.out.size))).mono ?_
    rintro e w6 ⟨⟨bi, bb, rfl, hbs⟩, hb⟩
    refine ⟨_, rfl, hK.out _ _ (hHeld.trans (hb.mono hHeld.size)) (fun hHeld => ?_)⟩
    clear hK K hb
    refine norm_ (a' := ?_) ?_ ?_
    rotate_left
    · show Act.put _ (some 50) _ = _
      simp only [Act.put, List.setIfInBounds_toArray, List.set_cons_zero, List.set_cons_succ]
      rfl
    refine pure_ (i := 10) (N := some 40) (v := ?_) (a' := ?_) #[true, true, true, true, true, true, true, true, true, true, true, false, false, false, false] rfl rfl (by kernel_rfl) (fun _ _ _ h => h) (Or.inl ⟨by rfl, ?_⟩) ?_ ?_
    rotate_left
    · intro w'
      go_simp
      with_reducible rfl
    rotate_left
    · simp only [Act.put, List.setIfInBounds_toArray, List.set_cons_zero, List.set_cons_succ]
      rfl
    refine pure_ (i := 11) (N := some 51) (v := ?_) (a' := ?_) #[true, true, true, true, true, true, true, true, true, true, true, true, false, false, false] rfl rfl (by kernel_rfl) (fun _ _ _ h => h) (Or.inl ⟨by rfl, ?_⟩) ?_ ?_
    rotate_left
    · intro w'
      go_simp
      with_reducible rfl
    rotate_left
    · simp only [Act.put, List.setIfInBounds_toArray, List.set_cons_zero, List.set_cons_succ]
      rfl
    refine pure_ (i := 12) (N := some 52) (v := ?_) (a' := ?_) #[true, true, true, true, true, true, true, true, true, true, true, true, true, false, false] rfl rfl (by kernel_rfl) (fun _ _ _ h => h) (Or.inl ⟨by rfl, ?_⟩) ?_ ?_
    rotate_left
    · intro w'
      go_simp
      with_reducible rfl
    rotate_left
    · simp only [Act.put, List.setIfInBounds_toArray, List.set_cons_zero, List.set_cons_succ]
      rfl
    refine pure_ (i := 13) (N := some 7) (v := ?_) (a' := ?_) #[true, true, true, true, true, true, true, true, true, true, true, true, true, true, false] rfl rfl (by kernel_rfl) (fun _ _ _ h => h) (Or.inl ⟨by rfl, ?_⟩) ?_ ?_
    rotate_left
    · intro w'
      go_simp
      with_reducible rfl
    rotate_left
    · simp only [Act.put, List.setIfInBounds_toArray, List.set_cons_zero, List.set_cons_succ]
      rfl
    refine pure_ (i := 14) (N := some 8) (v := ?_) (a' := ?_) #[true, true, true, true, true, true, true, true, true, true, true, true, true, true, true] rfl rfl (by kernel_rfl) (fun _ _ _ h => h) (Or.inl ⟨by rfl, ?_⟩) ?_ ?_
    rotate_left
    · intro w'
      go_simp
      with_reducible rfl
    rotate_left
    · simp only [Act.put, List.setIfInBounds_toArray, List.set_cons_zero, List.set_cons_succ]
      rfl
    refine done_ (by kernel_rfl) ?_
    have BKq1 := Aside0.mk (blk_below BKq1.out hHeld)
    have HB6 := Aside0.mk (HB5.out.trans (hHeld.mono HB5.out.size))
    clear hHeld
    have HBS := Aside0.mk hbs
    clear hbs
    cases bb
    · obtain ⟨x0, x1⟩ := TB.out _ HB6.out
      by_cases h64 : 64 ≤ n
      · have d64 : decide ((64 : Int) ≤ (n : Int)) = true := decide_eq_true (by omega)
        go_wp2_with (fail)
        go_ret
        exact ⟨_, _, _, rfl, Or.inr ⟨HBD.out, bi, false, by rw [HNR.out]; exact HBS.out, Or.inr (Or.inl ⟨rfl, by rw [HN.out]; exact h64, rfl, rfl⟩)⟩, HO.out.below HB6.out, Turn.of_below HB6.out _ _⟩
      · have d64 : decide ((64 : Int) ≤ (n : Int)) = false := decide_eq_false (by omega)
        have hbi : bi ≤ n := by rw [← HN.out]; exact HBS.out.1
        go_wp2_with (fail)
        obtain ⟨l', hl'⟩ : ∃ l', l.take bi ++ ⟨⟨m, nb⟩, via, port⟩ :: l.drop bi = l' := ⟨_, rfl⟩
        have IX := Aside0.mk (IW.out bi hbi)
        rw [hl'] at IX
        have HL' := Aside0.mk hl'
        have hS6 := HO.out.below HB6.out
        have HS6 := Aside0.mk hS6.blk
        clear hl' hS6 x0 x1
        refine start_ (n := 12) (S := fun W => W.heap[q]? = some (.cells #[.slice A n c, fnV] 54 (0, 0)) ∧ W.heap[q1]? = some (.cells #[.string m, .int .i64 nb, .string via, .int .i64 port] 28 (0, 0))) (ds := [11]) #[false, false, false, false, false, false, false, false, false, false, false, false] (by kernel_rfl) rfl rfl ⟨HS6.out, BKq1.out⟩ (fun hHeld => ?_)
        refine pure_ (i := 0) (N := some 53) (v := ?_) (a' := ?_) #[true, false, false, false, false, false, false, false, false, false, false, false] rfl rfl (by kernel_rfl) (fun _ _ _ h => h) (Or.inl ⟨by rfl, ?_⟩) ?_ ?_
        rotate_left
        · intro w'
          go_simp
          with_reducible rfl
        rotate_left
        · simp only [Act.put, List.setIfInBounds_toArray, List.set_cons_zero, List.set_cons_succ]
          rfl
        refine pure_ (i := 1) (N := some 54) (v := ?_) (a' := ?_) #[true, true, false, false, false, false, false, false, false, false, false, false] rfl rfl (by kernel_rfl) (fun _ _ _ h => h) (Or.inl ⟨by rfl, ?_⟩) ?_ ?_
        rotate_left
        · intro w'
          go_simp
          with_reducible rfl
        rotate_left
        · simp only [Act.put, List.setIfInBounds_toArray, List.set_cons_zero, List.set_cons_succ]
          rfl
        refine pure_ (i := 2) (N := some 55) (v := ?_) (a' := ?_) #[true, true, true, false, false, false, false, false, false, false, false, false] rfl rfl (by kernel_rfl) (fun _ _ _ h => h) (Or.inl ⟨by rfl, ?_⟩) ?_ ?_
        rotate_left
        · intro w'
          go_simp
          with_reducible rfl
        rotate_left
        · simp only [Act.put, List.setIfInBounds_toArray, List.set_cons_zero, List.set_cons_succ]
          rfl
        refine pure_ (i := 3) (N := some 56) (v := ?_) (a' := ?_) #[true, true, true, true, false, false, false, false, false, false, false, false] rfl rfl (by kernel_rfl) (fun _ _ _ h => h) (Or.inl ⟨by rfl, ?_⟩) ?_ ?_
        rotate_left
        · intro w'
          go_simp
          with_reducible rfl
        rotate_left
        · simp only [Act.put, List.setIfInBounds_toArray, List.set_cons_zero, List.set_cons_succ]
          rfl
        refine take_ (i := 4) (N := some 57) (v := ?_) (a' := ?_) #[true, true, true, true, true, false, false, false, false, false, false, false] rfl rfl (by kernel_rfl) (fun _ _ _ h => h) (Or.inl ⟨by rfl, ?_⟩) hHeld ?_ ?_
        rotate_left
        · intro w' s0
          have s1 := Aside0.mk s0.1
          have s2 := Aside0.mk s0.2
          clear s0
          have x0 : w'.cell? ⟨q, 0, none⟩ = some (.slice A n c) := (blk_cell s1.out 0).trans rfl
          have y0 : w'.cell? ⟨q1, 0, none⟩ = some (.string m) := (blk_cell s2.out 0).trans rfl
          have y1 : w'.cell? ⟨q1, 1, none⟩ = some (.int .i64 nb) := (blk_cell s2.out 1).trans rfl
          have y2 : w'.cell? ⟨q1, 2, none⟩ = some (.string via) := (blk_cell s2.out 2).trans rfl
          have y3 : w'.cell? ⟨q1, 3, none⟩ = some (.int .i64 port) := (blk_cell s2.out 3).trans rfl
          go_simp
          with_reducible rfl
        rotate_left
        · simp only [Act.put, List.setIfInBounds_toArray, List.set_cons_zero, List.set_cons_succ]
          rfl
        refine pure_ (i := 5) (N := some 58) (v := ?_) (a' := ?_) #[true, true, true, true, true, true, false, false, false, false, false, false] rfl rfl (by kernel_rfl) (fun _ _ _ h => h) (Or.inl ⟨by rfl, ?_⟩) ?_ ?_
        rotate_left
        · intro w'
          go_simp
          with_reducible rfl
        rotate_left
        · simp only [Act.put, List.setIfInBounds_toArray, List.set_cons_zero, List.set_cons_succ]
          rfl
        refine take_ (i := 6) (N := some 59) (v := ?_) (a' := ?_) #[true, true, true, true, true, true, true, false, false, false, false, false] rfl rfl (by kernel_rfl) (fun _ _ _ h => h) (Or.inl ⟨by rfl, ?_⟩) hHeld ?_ ?_
        rotate_left
        · intro w' s0
          have s1 := Aside0.mk s0.1
          have s2 := Aside0.mk s0.2
          clear s0
          have x0 : w'.cell? ⟨q, 0, none⟩ = some (.slice A n c) := (blk_cell s1.out 0).trans rfl
          have y0 : w'.cell? ⟨q1, 0, none⟩ = some (.string m) := (blk_cell s2.out 0).trans rfl
          have y1 : w'.cell? ⟨q1, 1, none⟩ = some (.int .i64 nb) := (blk_cell s2.out 1).trans rfl
          have y2 : w'.cell? ⟨q1, 2, none⟩ = some (.string via) := (blk_cell s2.out 2).trans rfl
          have y3 : w'.cell? ⟨q1, 3, none⟩ = some (.int .i64 port) := (blk_cell s2.out 3).trans rfl
          go_simp
          with_reducible rfl
        rotate_left
        · simp only [Act.put, List.setIfInBounds_toArray, List.set_cons_zero, List.set_cons_succ]
          rfl
        refine one_ (i := 7) (N := some 60) #[true, true, true, true, true, true, true, true, false, false, false, false] rfl rfl (by kernel_rfl) (by decide) (fun K hK => ?_)
        refine value_ (v := .slice (some ⟨w6.heap.size, 0, none⟩) 1 1) (w1 := (w6.alloc (.cells #[.string m, .int .i64 nb, .string via, .int .i64 port] 28 (0, 0))).drew) (by rfl) rfl ?_ ?_
        · go_simp
        obtain ⟨vb, hvb⟩ : ∃ vb, w6.heap.size = vb := ⟨_, rfl⟩
        have HB7 := Aside0.mk (show Below w.heap.size w ((w6.alloc (.cells #[.string m, .int .i64 nb, .string via, .int .i64 port] 28 (0, 0))).drew) from below_drew (below_alloc HB6.out _))
        have BV := Aside0.mk (show ((w6.alloc (.cells #[.string m, .int .i64 nb, .string via, .int .i64 port] 28 (0, 0))).drew).heap[vb]? = some (.cells #[.string m, .int .i64 nb, .string via, .int .i64 port] 28 (0, 0)) from by rw [← hvb]; exact heap_alloc_new w6 _)
        have HVB := Aside0.mk (show w.heap.size ≤ vb from by rw [← hvb]; exact HB6.out.size)
        have HB67 := Aside0.mk (show Below w6.heap.size w6 ((w6.alloc (.cells #[.string m, .int .i64 nb, .string via, .int .i64 port] 28 (0, 0))).drew) from below_drew (below_alloc (Below.refl _ _) _))
        obtain ⟨W7, hW7⟩ : ∃ W7, (w6.alloc (.cells #[.string m, .int .i64 nb, .string via, .int .i64 port] 28 (0, 0))).drew = W7 := ⟨_, rfl⟩
        rw [hW7] at HB7 BV HB67 ⊢
        rw [hvb]
        clear hW7 hvb
        refine hK.out _ _ ⟨blk_below HS6.out HB67.out, blk_below BKq1.out HB67.out⟩ (fun hHeld => ?_)
        clear hK K
        refine norm_ (a' := ?_) ?_ ?_
        rotate_left
        · show Act.put _ (some 60) _ = _
          simp only [Act.put, List.setIfInBounds_toArray, List.set_cons_zero, List.set_cons_succ]
          rfl
        refine one_ (i := 8) (N := some 61) #[true, true, true, true, true, true, true, true, true, false, false, false] rfl rfl (by kernel_rfl) (by decide) (fun K hK => ?_)
        refine goesV_ Try.func25 (by kernel_rfl) rfl #[.slice A n c, .int .i64 bi, .slice (some ⟨vb, 0, none⟩) 1 1] (by rfl) rfl rfl (by first | rfl | go_simp) (by first | rfl | simp [Act.eval] | go_simp) ?_
        refine (IX.out _ _ HB7.out BV.out HVB.out).mono ?_
        rintro e w8 ⟨v', rfl, ho, hg, hat⟩
        obtain ⟨A', c', rfl, _, _⟩ := own_slice' ho
        have HO8 := Aside0.mk ho
        have HG8 := Aside0.mk hg
        have HA8 := Aside0.mk hat
        clear ho hg hat
        refine ⟨_, rfl, hK.out _ _ ⟨blk_grown hHeld.1 HG8.out (fun e => own_neT HO.out.own HO.out.blk (by decide) e), blk_grown hHeld.2 HG8.out (fun e => by have h1 := HLT.out q1 e.symm; have h2 := HQq1.out; omega)⟩ (fun hHeld => ?_)⟩
        clear hK K
        refine norm_ (a' := ?_) ?_ ?_
        rotate_left
        · show Act.put _ (some 61) _ = _
          simp only [Act.put, List.setIfInBounds_toArray, List.set_cons_zero, List.set_cons_succ]
          rfl
        refine pure_ (i := 9) (N := some 62) (v := ?_) (a' := ?_) #[true, true, true, true, true, true, true, true, true, true, false, false] rfl rfl (by kernel_rfl) (fun _ _ _ h => h) (Or.inl ⟨by rfl, ?_⟩) ?_ ?_
        rotate_left
        · intro w'
          go_simp
          with_reducible rfl
        rotate_left
        · simp only [Act.put, List.setIfInBounds_toArray, List.set_cons_zero, List.set_cons_succ]
          rfl
        refine pure_ (i := 10) (N := some 63) (v := ?_) (a' := ?_) #[true, true, true, true, true, true, true, true, true, true, true, false] rfl rfl (by kernel_rfl) (fun _ _ _ h => h) (Or.inl ⟨by rfl, ?_⟩) ?_ ?_
        rotate_left
        · intro w'
          go_simp
          with_reducible rfl
        rotate_left
        · simp only [Act.put, List.setIfInBounds_toArray, List.set_cons_zero, List.set_cons_succ]
          rfl
        refine last_ (i := 11) (N := none) #[true, true, true, true, true, true, true, true, true, true, true, true] rfl rfl (by kernel_rfl) (by decide) (fun K hK => ?_)
        refine skip_ (w1 := w8.setCell ⟨q, 0, none⟩ (.slice A' l'.length c')) (by rfl) rfl ?_ ?_
        · have c0 : w8.cell? ⟨q, 0, none⟩ = some (.slice A n c) := (blk_cell hHeld.1 0).trans rfl
          have f0 : w8.frozen? ⟨q, 0, none⟩ = false := blk_frozen hHeld.1 0
          clear hHeld
          go_simp
        have HT := Aside0.mk (show TabO (w8.setCell ⟨q, 0, none⟩ (.slice A' l'.length c')) base q (.slice A' l'.length c') l' ∧ Turn w (w8.setCell ⟨q, 0, none⟩ (.slice A' l'.length c')) q (.slice A n c) (.slice A' l'.length c') from by
          have hq : some q ≠ (Value.slice A' l'.length c').ownBlock := own_neT HO8.out hHeld.1 (by decide)
          refine ⟨⟨(blk_set hHeld.1 0 _).trans rfl, own_setCell HO8.out hq _, HO.out.low⟩, HG8.out.os.trans HB7.out.os, HG8.out.tape.trans HB7.out.tape, HG8.out.output.trans HB7.out.output, ?_, fun k hk h1 h2 => ?_, ?_⟩
          · have e : (w8.setCell ⟨q, 0, none⟩ (.slice A' l'.length c')).heap.size = w8.heap.size := by simp [World.setCell]
            rw [e]
            exact Nat.le_trans HB7.out.size HG8.out.size
          · exact (Below.heap_setCell w8 ⟨q, 0, none⟩ _ k h1).trans ((HG8.out.block k (Nat.lt_of_lt_of_le hk HB7.out.size) h2).trans (HB7.out.block k hk))
          · intro k hk
            rcases HA8.out with h | ⟨b, h1, h2⟩
            · exact .inl (by rw [← h]; exact hk)
            · rw [h1] at hk
              injection hk with hk
              exact .inr (by rw [← hk]; exact Nat.le_trans HB7.out.size h2))
        refine hK.out _ _ ?_
        clear hK K hHeld
        refine done_ (by kernel_rfl) ?_
        (try simp only [Exit.inBlock, Exit.then])
        go_wp2_with (fail)
        go_ret
        exact ⟨_, _, _, rfl, Or.inr ⟨HBD.out, bi, false, by rw [HNR.out]; exact HBS.out, Or.inr (Or.inr ⟨rfl, by rw [HN.out]; omega, rfl, by rw [HNR.out]; exact HL'.out.symm⟩)⟩, HT.out⟩
    · have hbi : bi < n := by
        have h0 := HBS.out.2.2.2
        rw [eq_comm, decide_eq_true_iff] at h0
        have h1 := h0.1
        rw [HN.out] at h1
        exact h1
      have hbiI : (bi : Int) < (n : Int) := by omega
      obtain ⟨g, cur, hA, hnl, hgb, hgh, hgc, hgm, hgs, hgt⟩ := own_form (HO.out.below HB6.out).own (by rw [HN.out]; omega)
      subst hA
      have HGH := Aside0.mk hgh
      have HGS := Aside0.mk hgs
      have HGC := Aside0.mk hgc
      clear hgb hgh hgm hgs hgt hgc hnl
      have HT := Aside0.mk (show TabO (Cells.setAll w6 g (bi * 4) [.string m, .int .i64 nb, .string via, .int .i64 port]).drew base q (.slice (some ⟨g, 0, none⟩) n c) (l.set bi (normR ⟨⟨a, nb⟩, via, port⟩)) ∧ Turn w (Cells.setAll w6 g (bi * 4) [.string m, .int .i64 nb, .string via, .int .i64 port]).drew q (.slice (some ⟨g, 0, none⟩) n c) (.slice (some ⟨g, 0, none⟩) n c) from by
        have ht := HO.out.below HB6.out
        have hq : q ≠ g := fun e => own_neT ht.own ht.blk (by decide) (by rw [e]; rfl)
        rw [HNR.out]
        have h1 : TabO (Cells.setAll w6 g (bi * 4) (enc28 ⟨⟨m, nb⟩, via, port⟩)) base q (.slice (some ⟨g, 0, none⟩) n c) (l.set bi ⟨⟨m, nb⟩, via, port⟩) := ⟨(Cells.setAll_far hq _ _ _).trans ht.blk, own_put_row ht.own _ (by rw [HN.out]; exact hbi), ht.low⟩
        have h2 := setAll_turn (q := q) (v := .slice (some ⟨g, 0, none⟩) n c) HB6.out rfl (bi * 4) (enc28 ⟨⟨m, nb⟩, via, port⟩)
        exact ⟨h1.below (below_drew (Below.refl _ _)), h2.os, h2.tape, h2.output, h2.size, h2.block, h2.row⟩)
      have CE := Aside0.mk (show (∃ u, w6.cell? ⟨g, bi * 4, none⟩ = some u) ∧ (∃ u, w6.cell? ⟨g, bi * 4 + 1, none⟩ = some u) ∧ (∃ u, w6.cell? ⟨g, bi * 4 + 2, none⟩ = some u) ∧ (∃ u, w6.cell? ⟨g, bi * 4 + 3, none⟩ = some u) from by
        have hs := HGS.out
        have hc := HGC.out
        refine ⟨?_, ?_, ?_, ?_⟩ <;> (rw [blk_cell HGH.out]; exact ⟨_, Array.getElem?_eq_getElem (by omega)⟩))
      have FE := Aside0.mk (And.intro (blk_frozen HGH.out (bi * 4)) (And.intro (blk_frozen HGH.out (bi * 4 + 1)) (And.intro (blk_frozen HGH.out (bi * 4 + 2)) (blk_frozen HGH.out (bi * 4 + 3)))))
      go_wp2_with (fail)
      refine start_ (n := 8) (S := fun W => Below w6.heap.size w6 W) (ds := [7]) #[false, false, false, false, false, false, false, false] (by kernel_rfl) rfl rfl (below_drew (Below.refl w6.heap.size w6)) (fun hHeld => ?_)
      refine pure_ (i := 0) (N := some 66) (v := ?_) (a' := ?_) #[true, false, false, false, false, false, false, false] rfl rfl (by kernel_rfl) (fun _ _ _ h => h) (Or.inl ⟨by rfl, ?_⟩) ?_ ?_
      rotate_left
      · intro w'
        go_simp
        with_reducible rfl
      rotate_left
      · simp only [Act.put, List.setIfInBounds_toArray, List.set_cons_zero, List.set_cons_succ]
        rfl
      refine pure_ (i := 1) (N := some 67) (v := ?_) (a' := ?_) #[true, true, false, false, false, false, false, false] rfl rfl (by kernel_rfl) (fun _ _ _ h => h) (Or.inl ⟨by rfl, ?_⟩) ?_ ?_
      rotate_left
      · intro w'
        go_simp
        with_reducible rfl
      rotate_left
      · simp only [Act.put, List.setIfInBounds_toArray, List.set_cons_zero, List.set_cons_succ]
        rfl
      refine pure_ (i := 2) (N := some 68) (v := ?_) (a' := ?_) #[true, true, true, false, false, false, false, false] rfl rfl (by kernel_rfl) (fun _ _ _ h => h) (Or.inl ⟨by rfl, ?_⟩) ?_ ?_
      rotate_left
      · intro w'
        go_simp
        with_reducible rfl
      rotate_left
      · simp only [Act.put, List.setIfInBounds_toArray, List.set_cons_zero, List.set_cons_succ]
        rfl
      refine take_ (i := 3) (N := some 69) (v := ?_) (a' := ?_) #[true, true, true, true, false, false, false, false] rfl rfl (by kernel_rfl) (fun _ _ _ h => h) (Or.inl ⟨by rfl, ?_⟩) hHeld ?_ ?_
      rotate_left
      · intro w' s0
        obtain ⟨x0, x1⟩ := TB.out _ (HB6.out.trans (s0.mono HB6.out.size))
        have BKt := Aside0.mk (blk_below BKq1.out s0)
        have y0 : w'.cell? ⟨q1, 0, none⟩ = some (.string m) := (blk_cell BKt.out 0).trans rfl
        have y1 : w'.cell? ⟨q1, 1, none⟩ = some (.int .i64 nb) := (blk_cell BKt.out 1).trans rfl
        have y2 : w'.cell? ⟨q1, 2, none⟩ = some (.string via) := (blk_cell BKt.out 2).trans rfl
        have y3 : w'.cell? ⟨q1, 3, none⟩ = some (.int .i64 port) := (blk_cell BKt.out 3).trans rfl
        go_simp
        with_reducible rfl
      rotate_left
      · simp only [Act.put, List.setIfInBounds_toArray, List.set_cons_zero, List.set_cons_succ]
        rfl
      refine pure_ (i := 4) (N := some 70) (v := ?_) (a' := ?_) #[true, true, true, true, true, false, false, false] rfl rfl (by kernel_rfl) (fun _ _ _ h => h) (Or.inl ⟨by rfl, ?_⟩) ?_ ?_
      rotate_left
      · intro w'
        go_simp
        with_reducible rfl
      rotate_left
      · simp only [Act.put, List.setIfInBounds_toArray, List.set_cons_zero, List.set_cons_succ]
        rfl
      refine take_ (i := 5) (N := some 71) (v := ?_) (a' := ?_) #[true, true, true, true, true, true, false, false] rfl rfl (by kernel_rfl) (fun _ _ _ h => h) (Or.inl ⟨by rfl, ?_⟩) hHeld ?_ ?_
      rotate_left
      · intro w' s0
        obtain ⟨x0, x1⟩ := TB.out _ (HB6.out.trans (s0.mono HB6.out.size))
        have BKt := Aside0.mk (blk_below BKq1.out s0)
        have y0 : w'.cell? ⟨q1, 0, none⟩ = some (.string m) := (blk_cell BKt.out 0).trans rfl
        have y1 : w'.cell? ⟨q1, 1, none⟩ = some (.int .i64 nb) := (blk_cell BKt.out 1).trans rfl
        have y2 : w'.cell? ⟨q1, 2, none⟩ = some (.string via) := (blk_cell BKt.out 2).trans rfl
        have y3 : w'.cell? ⟨q1, 3, none⟩ = some (.int .i64 port) := (blk_cell BKt.out 3).trans rfl
        go_simp
        with_reducible rfl
      rotate_left
      · simp only [Act.put, List.setIfInBounds_toArray, List.set_cons_zero, List.set_cons_succ]
        rfl
      refine pure_ (i := 6) (N := some 72) (v := ?_) (a' := ?_) #[true, true, true, true, true, true, true, false] rfl rfl (by kernel_rfl) (fun _ _ _ h => h) (Or.inl ⟨by rfl, ?_⟩) ?_ ?_
      rotate_left
      · intro w'
        go_simp
        with_reducible rfl
      rotate_left
      · simp only [Act.put, List.setIfInBounds_toArray, List.set_cons_zero, List.set_cons_succ]
        rfl
      refine last_ (i := 7) (N := none) #[true, true, true, true, true, true, true, true] rfl rfl (by kernel_rfl) (by decide) (fun K hK => ?_)
      refine skip_ (w1 := (Cells.setAll w6 g (bi * 4) [.string m, .int .i64 nb, .string via, .int .i64 port]).drew) (by rfl) rfl ?_ ?_
      · obtain ⟨⟨u0, c0⟩, ⟨u1, c1⟩, ⟨u2, c2⟩, ⟨u3, c3⟩⟩ := CE.out
        obtain ⟨f0, f1, f2, f3⟩ := FE.out
        go_simp
        rfl
      refine hK.out _ _ ?_
      clear hK K
      refine done_ (by kernel_rfl) ?_
      (try simp only [Exit.inBlock, Exit.then])
      go_wp2_with (fail)
      go_ret
      exact ⟨_, _, _, rfl, Or.inr ⟨HBD.out, bi, true, by rw [HNR.out]; exact HBS.out, Or.inl ⟨rfl, rfl, rfl⟩⟩, HT.out⟩
set_option maxHeartbeats 1600000 in
set_option maxRecDepth 100000 in
theorem add_bad (base q : Nat) (v : Value) (l : List S28) (a via : ByteArray) (nb port : Int) (w : World) (h : TabO w base q v l) (ha : a.size ≤ 140737488351232) (hbad : badR ⟨⟨a, nb⟩, via, port⟩) :
    Calls Try.prog 10 #[.pointer (some ⟨q, 0, none⟩), .agg #[.string a, .int .i64 nb, .string via, .int .i64 port]] w (AddQ w base q v l ⟨⟨a, nb⟩, via, port⟩) := by
  have PW := Aside0.mk fun (W : World) => prefix_walk a nb W ha
  have HF := Aside0.mk (show ∀ w', Below w.heap.size w w' → AddQ w base q v l ⟨⟨a, nb⟩, via, port⟩ (.returned (.int .i64 1)) w' from fun w' hb => ⟨_, _, _, rfl, Or.inl ⟨hbad, rfl, rfl⟩, h.below hb, Turn.of_below hb _ _⟩)
  obtain ⟨m, hm⟩ : ∃ m, (maskE a nb).1 = m := ⟨_, rfl⟩
  obtain ⟨er, her⟩ : ∃ er, (maskE a nb).2 = er := ⟨_, rfl⟩
  unfold badR at hbad
  rw [hm, her] at hbad
  rw [hm, her] at PW
  obtain ⟨nv, hnv⟩ : ∃ k, via.size = k := ⟨_, rfl⟩
  obtain ⟨nm, hnm⟩ : ∃ k, m.size = k := ⟨_, rfl⟩
  have hnvI : (via.size : Int) = (nv : Int) := by rw [hnv]
  have hnmI : (m.size : Int) = (nm : Int) := by rw [hnm]
  rw [hnv, hnm] at hbad
  clear h ha hm her hnv hnm
  by_cases h1 : er = 0
  · subst h1
    by_cases hv0 : via.toList = []
    · have hp0 : decide (port < 0) = true := decide_eq_true (by
        rcases hbad with h | h | h
        · exact absurd rfl h
        · exact absurd hv0 h.1
        · exact h)
      have hv1 : via.toList.isEmpty = true := by rw [hv0]; rfl
      clear hbad
      go_enter Try.func10, Try.ntmps10
      go_wp2_with (first | ((with_reducible refine gate_dst (N := 3) rfl ?_); refine box_event ?hg (N := 3) ?hd (cs := #[.string a, .int .i64 nb, .string via, .int .i64 port]) (t := 28) ?hr ?_; (case hd => rfl); (case hg => rfl); (case hr => first | (go_simp; done) | (go_simp; rfl)); intro q1 hq w1 hbox hb; have BKq1 := Aside0.mk hbox; have HQq1 := Aside0.mk (show w.heap.size ≤ q1 from by rw [hq]; exact Nat.le_refl _); have HB1 := Aside0.mk hb; clear hbox hb hq; have z0 : w1.cell? ⟨q1, 0, none⟩ = some (.string a) := (blk_cell BKq1.out 0).trans rfl; have z1 : w1.cell? ⟨q1, 1, none⟩ = some (.int .i64 nb) := (blk_cell BKq1.out 1).trans rfl; have z2 : w1.cell? ⟨q1, 2, none⟩ = some (.string via) := (blk_cell BKq1.out 2).trans rfl; have z3 : w1.cell? ⟨q1, 3, none⟩ = some (.int .i64 port) := (blk_cell BKq1.out 3).trans rfl))
      refine (PW.out _).mono ?_
      rintro e w2 ⟨rfl, hb⟩
      have BKq1 := Aside0.mk (blk_below BKq1.out hb)
      have HB2 := Aside0.mk (HB1.out.trans (hb.mono HB1.out.size))
      clear hb z0 z1 z2 z3
      have z0 : w2.cell? ⟨q1, 0, none⟩ = some (.string a) := (blk_cell BKq1.out 0).trans rfl; have z1 : w2.cell? ⟨q1, 1, none⟩ = some (.int .i64 nb) := (blk_cell BKq1.out 1).trans rfl; have z2 : w2.cell? ⟨q1, 2, none⟩ = some (.string via) := (blk_cell BKq1.out 2).trans rfl; have z3 : w2.cell? ⟨q1, 3, none⟩ = some (.int .i64 port) := (blk_cell BKq1.out 3).trans rfl
      go_wp2_with (first | ((with_reducible refine gate_dst (N := 5) rfl ?_); refine box_event ?hg (N := 5) ?hd (cs := #[.string ByteArray.empty, .int .i64 0]) (t := 26) ?hr ?_; (case hd => rfl); (case hg => rfl); (case hr => first | (go_simp; done) | (go_simp; rfl)); intro q2 hq w3 hbox hb; have HNq1q2 := Aside0.mk (show q1 ≠ q2 from by have := blk_lt BKq1.out; omega); have BKq1 := Aside0.mk (blk_below BKq1.out hb); have BKq2 := Aside0.mk hbox; have HQq2 := Aside0.mk (show w.heap.size ≤ q2 from by rw [hq]; exact HB2.out.size); have HB3 := Aside0.mk (HB2.out.trans (hb.mono HB2.out.size)); clear hbox hb hq) | ((with_reducible refine gate_store (t := 26) (p := 5) rfl ?_); have ca0 : w3.cell? ⟨q2, 0, none⟩ = some (.string ByteArray.empty) := (blk_cell BKq2.out 0).trans rfl; have ca1 : w3.cell? ⟨q2, 1, none⟩ = some (.int .i64 0) := (blk_cell BKq2.out 1).trans rfl; have fa0 : w3.frozen? ⟨q2, 0, none⟩ = false := blk_frozen BKq2.out 0; have fa1 : w3.frozen? ⟨q2, 1, none⟩ = false := blk_frozen BKq2.out 1; refine store_event (t := 26) (p := 5) (v := ?vo5_4_1_n5) (w1 := Cells.setAll w3 q2 0 [.string m, .int .i64 nb]) ?hg ?ho ?hn ?hr ?_; (case ho => rfl); (case hg => rfl); (case hn => rfl); (case hr => first | (go_simp; done) | (go_simp; rfl)); intro w4 hw; have BKq1 := Aside0.mk (show w4.heap[q1]? = _ from (congrArg (fun W : World => W.heap[q1]?) hw).trans ((Cells.setAll_far HNq1q2.out _ _ _).trans BKq1.out)); have HB4 := Aside0.mk (show Below w.heap.size w w4 from by rw [hw]; exact Cells.setAll_below HQq2.out _ _ _ HB3.out); have BKq2 := Aside0.mk (show w4.heap[q2]? = some (.cells #[.string m, .int .i64 nb] 26 (0, 0)) from by rw [hw]; exact Cells.stored2 BKq2.out); clear ca0 ca1 fa0 fa1; have z0 : w4.cell? ⟨q1, 0, none⟩ = some (.string a) := (blk_cell BKq1.out 0).trans rfl; have z1 : w4.cell? ⟨q1, 1, none⟩ = some (.int .i64 nb) := (blk_cell BKq1.out 1).trans rfl; have z2 : w4.cell? ⟨q1, 2, none⟩ = some (.string via) := (blk_cell BKq1.out 2).trans rfl; have z3 : w4.cell? ⟨q1, 3, none⟩ = some (.int .i64 port) := (blk_cell BKq1.out 3).trans rfl; have y0 : w4.cell? ⟨q2, 0, none⟩ = some (.string m) := (blk_cell BKq2.out 0).trans rfl; have y1 : w4.cell? ⟨q2, 1, none⟩ = some (.int .i64 nb) := (blk_cell BKq2.out 1).trans rfl; clear hw))
      go_ret
      exact HF.out _ HB4.out
    · have hv1 : via.toList.isEmpty = false := by cases hh : via.toList with | nil => exact absurd hh hv0 | cons x xs => rfl
      by_cases hsz : nv = nm
      · subst hsz
        have hp0 : decide (port < 0) = true := decide_eq_true (by
          rcases hbad with h | h | h
          · exact absurd rfl h
          · exact absurd rfl h.2
          · exact h)
        clear hbad
        go_enter Try.func10, Try.ntmps10
        go_wp2_with (first | ((with_reducible refine gate_dst (N := 3) rfl ?_); refine box_event ?hg (N := 3) ?hd (cs := #[.string a, .int .i64 nb, .string via, .int .i64 port]) (t := 28) ?hr ?_; (case hd => rfl); (case hg => rfl); (case hr => first | (go_simp; done) | (go_simp; rfl)); intro q1 hq w1 hbox hb; have BKq1 := Aside0.mk hbox; have HQq1 := Aside0.mk (show w.heap.size ≤ q1 from by rw [hq]; exact Nat.le_refl _); have HB1 := Aside0.mk hb; clear hbox hb hq; have z0 : w1.cell? ⟨q1, 0, none⟩ = some (.string a) := (blk_cell BKq1.out 0).trans rfl; have z1 : w1.cell? ⟨q1, 1, none⟩ = some (.int .i64 nb) := (blk_cell BKq1.out 1).trans rfl; have z2 : w1.cell? ⟨q1, 2, none⟩ = some (.string via) := (blk_cell BKq1.out 2).trans rfl; have z3 : w1.cell? ⟨q1, 3, none⟩ = some (.int .i64 port) := (blk_cell BKq1.out 3).trans rfl))
        refine (PW.out _).mono ?_
        rintro e w2 ⟨rfl, hb⟩
        have BKq1 := Aside0.mk (blk_below BKq1.out hb)
        have HB2 := Aside0.mk (HB1.out.trans (hb.mono HB1.out.size))
        clear hb z0 z1 z2 z3
        have z0 : w2.cell? ⟨q1, 0, none⟩ = some (.string a) := (blk_cell BKq1.out 0).trans rfl; have z1 : w2.cell? ⟨q1, 1, none⟩ = some (.int .i64 nb) := (blk_cell BKq1.out 1).trans rfl; have z2 : w2.cell? ⟨q1, 2, none⟩ = some (.string via) := (blk_cell BKq1.out 2).trans rfl; have z3 : w2.cell? ⟨q1, 3, none⟩ = some (.int .i64 port) := (blk_cell BKq1.out 3).trans rfl
        go_wp2_with (first | ((with_reducible refine gate_dst (N := 5) rfl ?_); refine box_event ?hg (N := 5) ?hd (cs := #[.string ByteArray.empty, .int .i64 0]) (t := 26) ?hr ?_; (case hd => rfl); (case hg => rfl); (case hr => first | (go_simp; done) | (go_simp; rfl)); intro q2 hq w3 hbox hb; have HNq1q2 := Aside0.mk (show q1 ≠ q2 from by have := blk_lt BKq1.out; omega); have BKq1 := Aside0.mk (blk_below BKq1.out hb); have BKq2 := Aside0.mk hbox; have HQq2 := Aside0.mk (show w.heap.size ≤ q2 from by rw [hq]; exact HB2.out.size); have HB3 := Aside0.mk (HB2.out.trans (hb.mono HB2.out.size)); clear hbox hb hq) | ((with_reducible refine gate_store (t := 26) (p := 5) rfl ?_); have ca0 : w3.cell? ⟨q2, 0, none⟩ = some (.string ByteArray.empty) := (blk_cell BKq2.out 0).trans rfl; have ca1 : w3.cell? ⟨q2, 1, none⟩ = some (.int .i64 0) := (blk_cell BKq2.out 1).trans rfl; have fa0 : w3.frozen? ⟨q2, 0, none⟩ = false := blk_frozen BKq2.out 0; have fa1 : w3.frozen? ⟨q2, 1, none⟩ = false := blk_frozen BKq2.out 1; refine store_event (t := 26) (p := 5) (v := ?vo5_4_1_n6) (w1 := Cells.setAll w3 q2 0 [.string m, .int .i64 nb]) ?hg ?ho ?hn ?hr ?_; (case ho => rfl); (case hg => rfl); (case hn => rfl); (case hr => first | (go_simp; done) | (go_simp; rfl)); intro w4 hw; have BKq1 := Aside0.mk (show w4.heap[q1]? = _ from (congrArg (fun W : World => W.heap[q1]?) hw).trans ((Cells.setAll_far HNq1q2.out _ _ _).trans BKq1.out)); have HB4 := Aside0.mk (show Below w.heap.size w w4 from by rw [hw]; exact Cells.setAll_below HQq2.out _ _ _ HB3.out); have BKq2 := Aside0.mk (show w4.heap[q2]? = some (.cells #[.string m, .int .i64 nb] 26 (0, 0)) from by rw [hw]; exact Cells.stored2 BKq2.out); clear ca0 ca1 fa0 fa1; have z0 : w4.cell? ⟨q1, 0, none⟩ = some (.string a) := (blk_cell BKq1.out 0).trans rfl; have z1 : w4.cell? ⟨q1, 1, none⟩ = some (.int .i64 nb) := (blk_cell BKq1.out 1).trans rfl; have z2 : w4.cell? ⟨q1, 2, none⟩ = some (.string via) := (blk_cell BKq1.out 2).trans rfl; have z3 : w4.cell? ⟨q1, 3, none⟩ = some (.int .i64 port) := (blk_cell BKq1.out 3).trans rfl; have y0 : w4.cell? ⟨q2, 0, none⟩ = some (.string m) := (blk_cell BKq2.out 0).trans rfl; have y1 : w4.cell? ⟨q2, 1, none⟩ = some (.int .i64 nb) := (blk_cell BKq2.out 1).trans rfl; clear hw))
        go_ret
        exact HF.out _ HB4.out
      · have hszI : ¬ (nv : Int) = (nm : Int) := by omega
        have hszB : ((nv : Int) != (nm : Int)) = true := by rw [bne_iff_ne]; exact hszI
        clear hbad
        go_enter Try.func10, Try.ntmps10
        go_wp2_with (first | ((with_reducible refine gate_dst (N := 3) rfl ?_); refine box_event ?hg (N := 3) ?hd (cs := #[.string a, .int .i64 nb, .string via, .int .i64 port]) (t := 28) ?hr ?_; (case hd => rfl); (case hg => rfl); (case hr => first | (go_simp; done) | (go_simp; rfl)); intro q1 hq w1 hbox hb; have BKq1 := Aside0.mk hbox; have HQq1 := Aside0.mk (show w.heap.size ≤ q1 from by rw [hq]; exact Nat.le_refl _); have HB1 := Aside0.mk hb; clear hbox hb hq; have z0 : w1.cell? ⟨q1, 0, none⟩ = some (.string a) := (blk_cell BKq1.out 0).trans rfl; have z1 : w1.cell? ⟨q1, 1, none⟩ = some (.int .i64 nb) := (blk_cell BKq1.out 1).trans rfl; have z2 : w1.cell? ⟨q1, 2, none⟩ = some (.string via) := (blk_cell BKq1.out 2).trans rfl; have z3 : w1.cell? ⟨q1, 3, none⟩ = some (.int .i64 port) := (blk_cell BKq1.out 3).trans rfl))
        refine (PW.out _).mono ?_
        rintro e w2 ⟨rfl, hb⟩
        have BKq1 := Aside0.mk (blk_below BKq1.out hb)
        have HB2 := Aside0.mk (HB1.out.trans (hb.mono HB1.out.size))
        clear hb z0 z1 z2 z3
        have z0 : w2.cell? ⟨q1, 0, none⟩ = some (.string a) := (blk_cell BKq1.out 0).trans rfl; have z1 : w2.cell? ⟨q1, 1, none⟩ = some (.int .i64 nb) := (blk_cell BKq1.out 1).trans rfl; have z2 : w2.cell? ⟨q1, 2, none⟩ = some (.string via) := (blk_cell BKq1.out 2).trans rfl; have z3 : w2.cell? ⟨q1, 3, none⟩ = some (.int .i64 port) := (blk_cell BKq1.out 3).trans rfl
        go_wp2_with (first | ((with_reducible refine gate_dst (N := 5) rfl ?_); refine box_event ?hg (N := 5) ?hd (cs := #[.string ByteArray.empty, .int .i64 0]) (t := 26) ?hr ?_; (case hd => rfl); (case hg => rfl); (case hr => first | (go_simp; done) | (go_simp; rfl)); intro q2 hq w3 hbox hb; have HNq1q2 := Aside0.mk (show q1 ≠ q2 from by have := blk_lt BKq1.out; omega); have BKq1 := Aside0.mk (blk_below BKq1.out hb); have BKq2 := Aside0.mk hbox; have HQq2 := Aside0.mk (show w.heap.size ≤ q2 from by rw [hq]; exact HB2.out.size); have HB3 := Aside0.mk (HB2.out.trans (hb.mono HB2.out.size)); clear hbox hb hq) | ((with_reducible refine gate_store (t := 26) (p := 5) rfl ?_); have ca0 : w3.cell? ⟨q2, 0, none⟩ = some (.string ByteArray.empty) := (blk_cell BKq2.out 0).trans rfl; have ca1 : w3.cell? ⟨q2, 1, none⟩ = some (.int .i64 0) := (blk_cell BKq2.out 1).trans rfl; have fa0 : w3.frozen? ⟨q2, 0, none⟩ = false := blk_frozen BKq2.out 0; have fa1 : w3.frozen? ⟨q2, 1, none⟩ = false := blk_frozen BKq2.out 1; refine store_event (t := 26) (p := 5) (v := ?vo5_4_1_n7) (w1 := Cells.setAll w3 q2 0 [.string m, .int .i64 nb]) ?hg ?ho ?hn ?hr ?_; (case ho => rfl); (case hg => rfl); (case hn => rfl); (case hr => first | (go_simp; done) | (go_simp; rfl)); intro w4 hw; have BKq1 := Aside0.mk (show w4.heap[q1]? = _ from (congrArg (fun W : World => W.heap[q1]?) hw).trans ((Cells.setAll_far HNq1q2.out _ _ _).trans BKq1.out)); have HB4 := Aside0.mk (show Below w.heap.size w w4 from by rw [hw]; exact Cells.setAll_below HQq2.out _ _ _ HB3.out); have BKq2 := Aside0.mk (show w4.heap[q2]? = some (.cells #[.string m, .int .i64 nb] 26 (0, 0)) from by rw [hw]; exact Cells.stored2 BKq2.out); clear ca0 ca1 fa0 fa1; have z0 : w4.cell? ⟨q1, 0, none⟩ = some (.string a) := (blk_cell BKq1.out 0).trans rfl; have z1 : w4.cell? ⟨q1, 1, none⟩ = some (.int .i64 nb) := (blk_cell BKq1.out 1).trans rfl; have z2 : w4.cell? ⟨q1, 2, none⟩ = some (.string via) := (blk_cell BKq1.out 2).trans rfl; have z3 : w4.cell? ⟨q1, 3, none⟩ = some (.int .i64 port) := (blk_cell BKq1.out 3).trans rfl; have y0 : w4.cell? ⟨q2, 0, none⟩ = some (.string m) := (blk_cell BKq2.out 0).trans rfl; have y1 : w4.cell? ⟨q2, 1, none⟩ = some (.int .i64 nb) := (blk_cell BKq2.out 1).trans rfl; clear hw))
        go_ret
        exact HF.out _ HB4.out
  · have h1B : (er != 0) = true := by rw [bne_iff_ne]; exact h1
    clear hbad
    go_enter Try.func10, Try.ntmps10
    go_wp2_with (first | ((with_reducible refine gate_dst (N := 3) rfl ?_); refine box_event ?hg (N := 3) ?hd (cs := #[.string a, .int .i64 nb, .string via, .int .i64 port]) (t := 28) ?hr ?_; (case hd => rfl); (case hg => rfl); (case hr => first | (go_simp; done) | (go_simp; rfl)); intro q1 hq w1 hbox hb; have BKq1 := Aside0.mk hbox; have HQq1 := Aside0.mk (show w.heap.size ≤ q1 from by rw [hq]; exact Nat.le_refl _); have HB1 := Aside0.mk hb; clear hbox hb hq; have z0 : w1.cell? ⟨q1, 0, none⟩ = some (.string a) := (blk_cell BKq1.out 0).trans rfl; have z1 : w1.cell? ⟨q1, 1, none⟩ = some (.int .i64 nb) := (blk_cell BKq1.out 1).trans rfl; have z2 : w1.cell? ⟨q1, 2, none⟩ = some (.string via) := (blk_cell BKq1.out 2).trans rfl; have z3 : w1.cell? ⟨q1, 3, none⟩ = some (.int .i64 port) := (blk_cell BKq1.out 3).trans rfl))
    refine (PW.out _).mono ?_
    rintro e w2 ⟨rfl, hb⟩
    have BKq1 := Aside0.mk (blk_below BKq1.out hb)
    have HB2 := Aside0.mk (HB1.out.trans (hb.mono HB1.out.size))
    clear hb z0 z1 z2 z3
    have z0 : w2.cell? ⟨q1, 0, none⟩ = some (.string a) := (blk_cell BKq1.out 0).trans rfl; have z1 : w2.cell? ⟨q1, 1, none⟩ = some (.int .i64 nb) := (blk_cell BKq1.out 1).trans rfl; have z2 : w2.cell? ⟨q1, 2, none⟩ = some (.string via) := (blk_cell BKq1.out 2).trans rfl; have z3 : w2.cell? ⟨q1, 3, none⟩ = some (.int .i64 port) := (blk_cell BKq1.out 3).trans rfl
    go_wp2_with (first | ((with_reducible refine gate_dst (N := 5) rfl ?_); refine box_event ?hg (N := 5) ?hd (cs := #[.string ByteArray.empty, .int .i64 0]) (t := 26) ?hr ?_; (case hd => rfl); (case hg => rfl); (case hr => first | (go_simp; done) | (go_simp; rfl)); intro q2 hq w3 hbox hb; have HNq1q2 := Aside0.mk (show q1 ≠ q2 from by have := blk_lt BKq1.out; omega); have BKq1 := Aside0.mk (blk_below BKq1.out hb); have BKq2 := Aside0.mk hbox; have HQq2 := Aside0.mk (show w.heap.size ≤ q2 from by rw [hq]; exact HB2.out.size); have HB3 := Aside0.mk (HB2.out.trans (hb.mono HB2.out.size)); clear hbox hb hq) | ((with_reducible refine gate_store (t := 26) (p := 5) rfl ?_); have ca0 : w3.cell? ⟨q2, 0, none⟩ = some (.string ByteArray.empty) := (blk_cell BKq2.out 0).trans rfl; have ca1 : w3.cell? ⟨q2, 1, none⟩ = some (.int .i64 0) := (blk_cell BKq2.out 1).trans rfl; have fa0 : w3.frozen? ⟨q2, 0, none⟩ = false := blk_frozen BKq2.out 0; have fa1 : w3.frozen? ⟨q2, 1, none⟩ = false := blk_frozen BKq2.out 1; refine store_event (t := 26) (p := 5) (v := ?vo5_4_1_n8) (w1 := Cells.setAll w3 q2 0 [.string m, .int .i64 nb]) ?hg ?ho ?hn ?hr ?_; (case ho => rfl); (case hg => rfl); (case hn => rfl); (case hr => first | (go_simp; done) | (go_simp; rfl)); intro w4 hw; have BKq1 := Aside0.mk (show w4.heap[q1]? = _ from (congrArg (fun W : World => W.heap[q1]?) hw).trans ((Cells.setAll_far HNq1q2.out _ _ _).trans BKq1.out)); have HB4 := Aside0.mk (show Below w.heap.size w w4 from by rw [hw]; exact Cells.setAll_below HQq2.out _ _ _ HB3.out); have BKq2 := Aside0.mk (show w4.heap[q2]? = some (.cells #[.string m, .int .i64 nb] 26 (0, 0)) from by rw [hw]; exact Cells.stored2 BKq2.out); clear ca0 ca1 fa0 fa1; have z0 : w4.cell? ⟨q1, 0, none⟩ = some (.string a) := (blk_cell BKq1.out 0).trans rfl; have z1 : w4.cell? ⟨q1, 1, none⟩ = some (.int .i64 nb) := (blk_cell BKq1.out 1).trans rfl; have z2 : w4.cell? ⟨q1, 2, none⟩ = some (.string via) := (blk_cell BKq1.out 2).trans rfl; have z3 : w4.cell? ⟨q1, 3, none⟩ = some (.int .i64 port) := (blk_cell BKq1.out 3).trans rfl; have y0 : w4.cell? ⟨q2, 0, none⟩ = some (.string m) := (blk_cell BKq2.out 0).trans rfl; have y1 : w4.cell? ⟨q2, 1, none⟩ = some (.int .i64 nb) := (blk_cell BKq2.out 1).trans rfl; clear hw))
    go_ret
    exact HF.out _ HB4.out
theorem add_walk (base q : Nat) (v : Value) (l : List S28) (r : S28) (w : World) (h : TabO w base q v l) (hlim : l.length ≤ 1000) (ha : r.f0.f0.size ≤ 140737488351232) :
    Calls Try.prog 10 #[.pointer (some ⟨q, 0, none⟩), v28 r] w (AddQ w base q v l r) := by
  by_cases hb : badR r
  · exact add_bad base q v l r.f0.f0 r.f1 r.f0.f1 r.f2 w h ha hb
  · obtain ⟨A, c, rfl, _, _⟩ := own_slice' h.own
    exact add_good base q A c l r.f0.f0 r.f1 r.f0.f1 r.f2 w h hlim ha hb
end Go.Proofs.Ytmedkjiabieloaa.Rt
namespace Go.Proofs.Ytmedkjiabieloaa.Rt
open Go.RowKit Go.Proofs.YtmedkjiabieloaaW.PrintWords Go.Proofs.YtmedkjiabieloaaW.PrintLast Go.Proofs.YtmedkjiabieloaaW.PrintMore Go.Proofs.Ytmedkjiabieloaa.QRd
open Go.Proofs.Ytmedkjiabieloaa
set_option linter.unusedVariables false
set_option linter.unusedSimpArgs false
/-- What Remove answers. -/
def RemP (l : List S28) (p : S26) (er : Int) (l' : List S28) : Prop :=
  ((maskE p.f0 p.f1).2 ≠ 0 ∧ er = 6 ∧ l' = l) ∨ ((maskE p.f0 p.f1).2 = 0 ∧ ∃ i b, BsP l ⟨(maskE p.f0 p.f1).1, p.f1⟩ i b ∧ ((b = true ∧ er = 0 ∧ l' = l.eraseIdx i) ∨ (b = false ∧ er = 6 ∧ l' = l)))
def RemQ (w : World) (base q : Nat) (v : Value) (l : List S28) (p : S26) (e : Ending) (w' : World) : Prop :=
  ∃ er v' l', e = .returned (.int .i64 er) ∧ RemP l p er l' ∧ TabO w' base q v' l' ∧ Turn w w' q v v'
set_option maxHeartbeats 1600000 in
set_option maxRecDepth 100000 in
theorem remove_walk' (base q : Nat) (A : Option Addr) (c : Nat) (l : List S28) (a : ByteArray) (nb : Int) (w : World) (h : TabO w base q (.slice A l.length c) l) (hlim : l.length ≤ 1000) (ha : a.size ≤ 140737488351232) :
    Calls Try.prog 19 #[.pointer (some ⟨q, 0, none⟩), .agg #[.string a, .int .i64 nb]] w (RemQ w base q (.slice A l.length c) l ⟨a, nb⟩) := by
  have PW := Aside0.mk fun (W : World) => prefix_walk a nb W ha
  obtain ⟨m, hm⟩ : ∃ m, (maskE a nb).1 = m := ⟨_, rfl⟩
  obtain ⟨er, her⟩ : ∃ er, (maskE a nb).2 = er := ⟨_, rfl⟩
  have HM := Aside0.mk hm
  have HER := Aside0.mk her
  rw [hm, her] at PW
  have BW := Aside0.mk fun (p : S26) (W : World) (hb : Below w.heap.size w W) => bs_walk A c l p W (h.below hb).read.row h.read.cap (by omega)
  have HO := Aside0.mk h
  have DW := Aside0.mk fun (g : Nat) (hg : A = some ⟨g, 0, none⟩) (i : Nat) (hi : i < l.length) (W : World) (hb : Below w.heap.size w W) => (by
    subst hg
    exact delete_walk base g c l i W (h.below hb).own hlim hi (by have := h.low; have := blk_lt h.blk; have := hb.size; omega) : Calls Try.prog 32 #[.slice A l.length c, .int .i64 i, .int .i64 ((i : Int) + 1)] W (DelP W base g c (l.length - 1) (l.eraseIdx i)))
  obtain ⟨n, hn⟩ : ∃ n, l.length = n := ⟨_, rfl⟩
  have HN := Aside0.mk hn
  simp only [hn] at BW DW
  rw [hn] at hlim HO ⊢
  have TB := Aside0.mk (show ∀ W, Below w.heap.size w W → W.cell? ⟨q, 0, none⟩ = some (.slice A n c) ∧ W.cell? ⟨q, 1, none⟩ = some fnV from fun W hb => ⟨(blk_cell (HO.out.below hb).blk 0).trans rfl, (blk_cell (HO.out.below hb).blk 1).trans rfl⟩)
  clear h hn ha hm her
  by_cases h1 : er = 0
  · subst h1
    go_enter Try.func19, Try.ntmps19
    go_wp2_with (first | ((with_reducible refine gate_dst (N := 3) rfl ?_); refine box_event ?hg (N := 3) ?hd (cs := #[.string a, .int .i64 nb]) (t := 26) ?hr ?_; (case hd => rfl); (case hg => rfl); (case hr => first | (go_simp; done) | (go_simp; rfl)); intro q1 hq w1 hbox hb; have BKq1 := Aside0.mk hbox; have HQq1 := Aside0.mk (show w.heap.size ≤ q1 from by rw [hq]; exact Nat.le_refl _); have HB1 := Aside0.mk hb; clear hbox hb hq; have z0 : w1.cell? ⟨q1, 0, none⟩ = some (.string a) := (blk_cell BKq1.out 0).trans rfl; have z1 : w1.cell? ⟨q1, 1, none⟩ = some (.int .i64 nb) := (blk_cell BKq1.out 1).trans rfl))
    refine (PW.out _).mono ?_
    rintro e w2 ⟨rfl, hb⟩
    have BKq1 := Aside0.mk (blk_below BKq1.out hb)
    have HB2 := Aside0.mk (HB1.out.trans (hb.mono HB1.out.size))
    clear hb z0 z1
    go_wp2_with (first | ((with_reducible refine gate_store (t := 26) (p := 3) rfl ?_); have ca0 : w2.cell? ⟨q1, 0, none⟩ = some (.string a) := (blk_cell BKq1.out 0).trans rfl; have ca1 : w2.cell? ⟨q1, 1, none⟩ = some (.int .i64 nb) := (blk_cell BKq1.out 1).trans rfl; have fa0 : w2.frozen? ⟨q1, 0, none⟩ = false := blk_frozen BKq1.out 0; have fa1 : w2.frozen? ⟨q1, 1, none⟩ = false := blk_frozen BKq1.out 1; refine store_event (t := 26) (p := 3) (v := ?vo3_3_1_n1) (w1 := Cells.setAll w2 q1 0 [.string m, .int .i64 nb]) ?hg ?ho ?hn ?hr ?_; (case ho => rfl); (case hg => rfl); (case hn => rfl); (case hr => first | (go_simp; done) | (go_simp; rfl)); intro w3 hw; have HB3 := Aside0.mk (show Below w.heap.size w w3 from by rw [hw]; exact Cells.setAll_below HQq1.out _ _ _ HB2.out); have BKq1 := Aside0.mk (show w3.heap[q1]? = some (.cells #[.string m, .int .i64 nb] 26 (0, 0)) from by rw [hw]; exact Cells.stored2 BKq1.out); clear ca0 ca1 fa0 fa1; clear hw))
    refine start_ (n := 15) (S := fun W => Below w3.heap.size w3 W) (ds := []) #[false, false, false, false, false, false, false, false, false, false, false, false, false, false, false] (by kernel_rfl) rfl rfl (below_drew (Below.refl w3.heap.size w3)) (fun hHeld => ?_)
    refine pure_ (i := 0) (N := some 18) (v := ?_) (a' := ?_) #[true, false, false, false, false, false, false, false, false, false, false, false, false, false, false] rfl rfl (by kernel_rfl) (fun _ _ _ h => h) (Or.inl ⟨by rfl, ?_⟩) ?_ ?_
    rotate_left
    · intro w'
      go_simp
      with_reducible rfl
    rotate_left
    · simp only [Act.put, List.setIfInBounds_toArray, List.set_cons_zero, List.set_cons_succ]
      rfl
    refine pure_ (i := 1) (N := some 19) (v := ?_) (a' := ?_) #[true, true, false, false, false, false, false, false, false, false, false, false, false, false, false] rfl rfl (by kernel_rfl) (fun _ _ _ h => h) (Or.inl ⟨by rfl, ?_⟩) ?_ ?_
    rotate_left
    · intro w'
      go_simp
      with_reducible rfl
    rotate_left
    · simp only [Act.put, List.setIfInBounds_toArray, List.set_cons_zero, List.set_cons_succ]
      rfl
    refine pure_ (i := 2) (N := some 20) (v := ?_) (a' := ?_) #[true, true, true, false, false, false, false, false, false, false, false, false, false, false, false] rfl rfl (by kernel_rfl) (fun _ _ _ h => h) (Or.inl ⟨by rfl, ?_⟩) ?_ ?_
    rotate_left
    · intro w'
      go_simp
      with_reducible rfl
    rotate_left
    · simp only [Act.put, List.setIfInBounds_toArray, List.set_cons_zero, List.set_cons_succ]
      rfl
    refine take_ (i := 3) (N := some 21) (v := ?_) (a' := ?_) #[true, true, true, true, false, false, false, false, false, false, false, false, false, false, false] rfl rfl (by kernel_rfl) (fun _ _ _ h => h) (Or.inl ⟨by rfl, ?_⟩) hHeld ?_ ?_
    rotate_left
    · intro w' s0
      obtain ⟨x0, x1⟩ := TB.out _ (HB3.out.trans (s0.mono HB3.out.size))
      have BKt := Aside0.mk (blk_below BKq1.out s0)
      have y0 : w'.cell? ⟨q1, 0, none⟩ = some (.string m) := (blk_cell BKt.out 0).trans rfl
      have y1 : w'.cell? ⟨q1, 1, none⟩ = some (.int .i64 nb) := (blk_cell BKt.out 1).trans rfl
      go_simp
      with_reducible rfl
    rotate_left
    · simp only [Act.put, List.setIfInBounds_toArray, List.set_cons_zero, List.set_cons_succ]
      rfl
    refine take_ (i := 4) (N := some 22) (v := ?_) (a' := ?_) #[true, true, true, true, true, false, false, false, false, false, false, false, false, false, false] rfl rfl (by kernel_rfl) (fun _ _ _ h => h) (Or.inl ⟨by rfl, ?_⟩) hHeld ?_ ?_
    rotate_left
    · intro w' s0
      obtain ⟨x0, x1⟩ := TB.out _ (HB3.out.trans (s0.mono HB3.out.size))
      have BKt := Aside0.mk (blk_below BKq1.out s0)
      have y0 : w'.cell? ⟨q1, 0, none⟩ = some (.string m) := (blk_cell BKt.out 0).trans rfl
      have y1 : w'.cell? ⟨q1, 1, none⟩ = some (.int .i64 nb) := (blk_cell BKt.out 1).trans rfl
      go_simp
      with_reducible rfl
    rotate_left
    · simp only [Act.put, List.setIfInBounds_toArray, List.set_cons_zero, List.set_cons_succ]
      rfl
    refine pure_ (i := 5) (N := some 23) (v := ?_) (a' := ?_) #[true, true, true, true, true, true, false, false, false, false, false, false, false, false, false] rfl rfl (by kernel_rfl) (fun _ _ _ h => h) (Or.inl ⟨by rfl, ?_⟩) ?_ ?_
    rotate_left
    · intro w'
      go_simp
      with_reducible rfl
    rotate_left
    · simp only [Act.put, List.setIfInBounds_toArray, List.set_cons_zero, List.set_cons_succ]
      rfl
    refine pure_ (i := 6) (N := some 24) (v := ?_) (a' := ?_) #[true, true, true, true, true, true, true, false, false, false, false, false, false, false, false] rfl rfl (by kernel_rfl) (fun _ _ _ h => h) (Or.inl ⟨by rfl, ?_⟩) ?_ ?_
    rotate_left
    · intro w'
      go_simp
      with_reducible rfl
    rotate_left
    · simp only [Act.put, List.setIfInBounds_toArray, List.set_cons_zero, List.set_cons_succ]
      rfl
    refine pure_ (i := 7) (N := some 25) (v := ?_) (a' := ?_) #[true, true, true, true, true, true, true, true, false, false, false, false, false, false, false] rfl rfl (by kernel_rfl) (fun _ _ _ h => h) (Or.inl ⟨by rfl, ?_⟩) ?_ ?_
    rotate_left
    · intro w'
      go_simp
      with_reducible rfl
    rotate_left
    · simp only [Act.put, List.setIfInBounds_toArray, List.set_cons_zero, List.set_cons_succ]
      rfl
    refine take_ (i := 8) (N := some 26) (v := ?_) (a' := ?_) #[true, true, true, true, true, true, true, true, true, false, false, false, false, false, false] rfl rfl (by kernel_rfl) (fun _ _ _ h => h) (Or.inl ⟨by rfl, ?_⟩) hHeld ?_ ?_
    rotate_left
    · intro w' s0
      obtain ⟨x0, x1⟩ := TB.out _ (HB3.out.trans (s0.mono HB3.out.size))
      have BKt := Aside0.mk (blk_below BKq1.out s0)
      have y0 : w'.cell? ⟨q1, 0, none⟩ = some (.string m) := (blk_cell BKt.out 0).trans rfl
      have y1 : w'.cell? ⟨q1, 1, none⟩ = some (.int .i64 nb) := (blk_cell BKt.out 1).trans rfl
      go_simp
      with_reducible rfl
    rotate_left
    · simp only [Act.put, List.setIfInBounds_toArray, List.set_cons_zero, List.set_cons_succ]
      rfl
    refine one_ (i := 9) (N := some 27) #[true, true, true, true, true, true, true, true, true, true, false, false, false, false, false] rfl rfl (by kernel_rfl) (by decide) (fun K hK => ?_)
    refine goesV_ Try.func24 (by kernel_rfl) rfl #[.slice A n c, .agg #[.string m, .int .i64 nb], fnV] (by rfl) rfl rfl (by first | rfl | go_simp) (by first | rfl | simp [Act.eval] | go_simp) ?_
    refine (BW.out ⟨m, nb⟩ _ (HB3.out.trans (hHeld.mono HB3.out.size))).mono ?_
    rintro e w4 ⟨⟨bi, bb, rfl, hbs⟩, hb⟩
    refine ⟨_, rfl, hK.out _ _ (hHeld.trans (hb.mono hHeld.size)) (fun hHeld => ?_)⟩
    clear hK K hb
    refine norm_ (a' := ?_) ?_ ?_
    rotate_left
    · show Act.put _ (some 27) _ = _
      simp only [Act.put, List.setIfInBounds_toArray, List.set_cons_zero, List.set_cons_succ]
      rfl
    refine pure_ (i := 10) (N := some 17) (v := ?_) (a' := ?_) #[true, true, true, true, true, true, true, true, true, true, true, false, false, false, false] rfl rfl (by kernel_rfl) (fun _ _ _ h => h) (Or.inl ⟨by rfl, ?_⟩) ?_ ?_
    rotate_left
    · intro w'
      go_simp
      with_reducible rfl
    rotate_left
    · simp only [Act.put, List.setIfInBounds_toArray, List.set_cons_zero, List.set_cons_succ]
      rfl
    refine pure_ (i := 11) (N := some 28) (v := ?_) (a' := ?_) #[true, true, true, true, true, true, true, true, true, true, true, true, false, false, false] rfl rfl (by kernel_rfl) (fun _ _ _ h => h) (Or.inl ⟨by rfl, ?_⟩) ?_ ?_
    rotate_left
    · intro w'
      go_simp
      with_reducible rfl
    rotate_left
    · simp only [Act.put, List.setIfInBounds_toArray, List.set_cons_zero, List.set_cons_succ]
      rfl
    refine pure_ (i := 12) (N := some 29) (v := ?_) (a' := ?_) #[true, true, true, true, true, true, true, true, true, true, true, true, true, false, false] rfl rfl (by kernel_rfl) (fun _ _ _ h => h) (Or.inl ⟨by rfl, ?_⟩) ?_ ?_
    rotate_left
    · intro w'
      go_simp
      with_reducible rfl
    rotate_left
    · simp only [Act.put, List.setIfInBounds_toArray, List.set_cons_zero, List.set_cons_succ]
      rfl
    refine pure_ (i := 13) (N := some 6) (v := ?_) (a' := ?_) #[true, true, true, true, true, true, true, true, true, true, true, true, true, true, false] rfl rfl (by kernel_rfl) (fun _ _ _ h => h) (Or.inl ⟨by rfl, ?_⟩) ?_ ?_
    rotate_left
    · intro w'
      go_simp
      with_reducible rfl
    rotate_left
    · simp only [Act.put, List.setIfInBounds_toArray, List.set_cons_zero, List.set_cons_succ]
      rfl
    refine pure_ (i := 14) (N := some 7) (v := ?_) (a' := ?_) #[true, true, true, true, true, true, true, true, true, true, true, true, true, true, true] rfl rfl (by kernel_rfl) (fun _ _ _ h => h) (Or.inl ⟨by rfl, ?_⟩) ?_ ?_
    rotate_left
    · intro w'
      go_simp
      with_reducible rfl
    rotate_left
    · simp only [Act.put, List.setIfInBounds_toArray, List.set_cons_zero, List.set_cons_succ]
      rfl
    refine done_ (by kernel_rfl) ?_
    have HB4 := Aside0.mk (HB3.out.trans (hHeld.mono HB3.out.size))
    clear hHeld
    have HBS := Aside0.mk hbs
    clear hbs
    cases bb
    · go_wp2_with (fail)
      go_ret
      exact ⟨_, _, _, rfl, Or.inr ⟨HER.out, bi, false, by rw [HM.out]; exact HBS.out, Or.inr ⟨rfl, rfl, rfl⟩⟩, HO.out.below HB4.out, Turn.of_below HB4.out _ _⟩
    · have hbi : bi < n := by
        have h0 := HBS.out.2.2.2
        rw [eq_comm, decide_eq_true_iff] at h0
        have h1 := h0.1
        rw [HN.out] at h1
        exact h1
      obtain ⟨g, cur, hA, hnl, _, _, _, _, _, _⟩ := own_form HO.out.own (by rw [HN.out]; omega)
      subst hA
      clear hnl
      obtain ⟨x0, x1⟩ := TB.out _ HB4.out
      have DX := Aside0.mk (DW.out g rfl bi hbi _ HB4.out)
      go_wp2_with (fail)
      refine DX.out.mono ?_
      rintro e w5 ⟨rfl, ho, hg⟩
      have HO5 := Aside0.mk ho
      have HG5 := Aside0.mk hg
      have BK5 := Aside0.mk (blk_grown (HO.out.below HB4.out).blk hg (fun e => own_neT HO.out.own HO.out.blk (by decide) e))
      clear ho hg x0 x1
      have c0 : w5.cell? ⟨q, 0, none⟩ = some (.slice (some ⟨g, 0, none⟩) n c) := (blk_cell BK5.out 0).trans rfl
      have f0 : w5.frozen? ⟨q, 0, none⟩ = false := blk_frozen BK5.out 0
      have HT := Aside0.mk (show TabO (w5.setCell ⟨q, 0, none⟩ (.slice (some ⟨g, 0, none⟩) (n - 1) c)) base q (.slice (some ⟨g, 0, none⟩) (n - 1) c) (l.eraseIdx bi) ∧ Turn w (w5.setCell ⟨q, 0, none⟩ (.slice (some ⟨g, 0, none⟩) (n - 1) c)) q (.slice (some ⟨g, 0, none⟩) n c) (.slice (some ⟨g, 0, none⟩) (n - 1) c) from by
        have hq : some q ≠ (Value.slice (some ⟨g, 0, none⟩) (n - 1) c).ownBlock := own_neT HO5.out BK5.out (by decide)
        refine ⟨⟨(blk_set BK5.out 0 _).trans rfl, own_setCell HO5.out hq _, HO.out.low⟩, HG5.out.os.trans HB4.out.os, HG5.out.tape.trans HB4.out.tape, HG5.out.output.trans HB4.out.output, ?_, fun k hk h1 h2 => ?_, fun k hk => .inl hk⟩
        · have e : (w5.setCell ⟨q, 0, none⟩ (.slice (some ⟨g, 0, none⟩) (n - 1) c)).heap.size = w5.heap.size := by simp [World.setCell]
          rw [e]
          exact Nat.le_trans HB4.out.size HG5.out.size
        · exact (Below.heap_setCell w5 ⟨q, 0, none⟩ _ k h1).trans ((HG5.out.block k (Nat.lt_of_lt_of_le hk HB4.out.size) h2).trans (HB4.out.block k hk)))
      go_wp2_with (fail)
      go_ret
      exact ⟨_, _, _, rfl, Or.inr ⟨HER.out, bi, true, by rw [HM.out]; exact HBS.out, Or.inl ⟨rfl, rfl, rfl⟩⟩, HT.out⟩
  · have h1B : (er != 0) = true := by rw [bne_iff_ne]; exact h1
    have HF := Aside0.mk (show ∀ w', Below w.heap.size w w' → RemQ w base q (.slice A n c) l ⟨a, nb⟩ (.returned (.int .i64 6)) w' from fun w' hb => ⟨_, _, _, rfl, Or.inl ⟨by rw [HER.out]; exact h1, rfl, rfl⟩, HO.out.below hb, Turn.of_below hb _ _⟩)
    go_enter Try.func19, Try.ntmps19
    go_wp2_with (first | ((with_reducible refine gate_dst (N := 3) rfl ?_); refine box_event ?hg (N := 3) ?hd (cs := #[.string a, .int .i64 nb]) (t := 26) ?hr ?_; (case hd => rfl); (case hg => rfl); (case hr => first | (go_simp; done) | (go_simp; rfl)); intro q1 hq w1 hbox hb; have BKq1 := Aside0.mk hbox; have HQq1 := Aside0.mk (show w.heap.size ≤ q1 from by rw [hq]; exact Nat.le_refl _); have HB1 := Aside0.mk hb; clear hbox hb hq; have z0 : w1.cell? ⟨q1, 0, none⟩ = some (.string a) := (blk_cell BKq1.out 0).trans rfl; have z1 : w1.cell? ⟨q1, 1, none⟩ = some (.int .i64 nb) := (blk_cell BKq1.out 1).trans rfl))
    refine (PW.out _).mono ?_
    rintro e w2 ⟨rfl, hb⟩
    have BKq1 := Aside0.mk (blk_below BKq1.out hb)
    have HB2 := Aside0.mk (HB1.out.trans (hb.mono HB1.out.size))
    clear hb z0 z1
    go_wp2_with (first | ((with_reducible refine gate_store (t := 26) (p := 3) rfl ?_); have ca0 : w2.cell? ⟨q1, 0, none⟩ = some (.string a) := (blk_cell BKq1.out 0).trans rfl; have ca1 : w2.cell? ⟨q1, 1, none⟩ = some (.int .i64 nb) := (blk_cell BKq1.out 1).trans rfl; have fa0 : w2.frozen? ⟨q1, 0, none⟩ = false := blk_frozen BKq1.out 0; have fa1 : w2.frozen? ⟨q1, 1, none⟩ = false := blk_frozen BKq1.out 1; refine store_event (t := 26) (p := 3) (v := ?vo3_3_1_n2) (w1 := Cells.setAll w2 q1 0 [.string m, .int .i64 nb]) ?hg ?ho ?hn ?hr ?_; (case ho => rfl); (case hg => rfl); (case hn => rfl); (case hr => first | (go_simp; done) | (go_simp; rfl)); intro w3 hw; have HB3 := Aside0.mk (show Below w.heap.size w w3 from by rw [hw]; exact Cells.setAll_below HQq1.out _ _ _ HB2.out); have BKq1 := Aside0.mk (show w3.heap[q1]? = some (.cells #[.string m, .int .i64 nb] 26 (0, 0)) from by rw [hw]; exact Cells.stored2 BKq1.out); clear ca0 ca1 fa0 fa1; clear hw))
    go_ret
    exact HF.out _ HB3.out
theorem remove_walk (base q : Nat) (v : Value) (l : List S28) (p : S26) (w : World) (h : TabO w base q v l) (hlim : l.length ≤ 1000) (ha : p.f0.size ≤ 140737488351232) :
    Calls Try.prog 19 #[.pointer (some ⟨q, 0, none⟩), .agg #[.string p.f0, .int .i64 p.f1]] w (RemQ w base q v l p) := by
  obtain ⟨A, c, rfl, _, _⟩ := own_slice' h.own
  exact remove_walk' base q A c l p.f0 p.f1 w h hlim ha
set_option maxHeartbeats 1600000 in
set_option maxRecDepth 100000 in
theorem add_nil (a via : ByteArray) (nb port : Int) (w : World) : Calls Try.prog 10 #[.pointer none, .agg #[.string a, .int .i64 nb, .string via, .int .i64 port]] w fun e w' => e = .returned (.int .i64 3) ∧ Below w.heap.size w w' := by
  go_enter Try.func10, Try.ntmps10
  go_wp2_with (first | ((with_reducible refine gate_dst (N := 3) rfl ?_); refine box_event ?hg (N := 3) ?hd (cs := #[.string a, .int .i64 nb, .string via, .int .i64 port]) (t := 28) ?hr ?_; (case hd => rfl); (case hg => rfl); (case hr => first | (go_simp; done) | (go_simp; rfl)); intro q1 hq w1 hbox hb; have BKq1 := Aside0.mk hbox; have HQq1 := Aside0.mk (show w.heap.size ≤ q1 from by rw [hq]; exact Nat.le_refl _); have HB1 := Aside0.mk hb; clear hbox hb hq))
  go_ret
  exact ⟨rfl, HB1.out⟩
set_option maxHeartbeats 1600000 in
set_option maxRecDepth 100000 in
theorem remove_nil (a : ByteArray) (nb : Int) (w : World) : Calls Try.prog 19 #[.pointer none, .agg #[.string a, .int .i64 nb]] w fun e w' => e = .returned (.int .i64 3) ∧ Below w.heap.size w w' := by
  go_enter Try.func19, Try.ntmps19
  go_wp2_with (first | ((with_reducible refine gate_dst (N := 3) rfl ?_); refine box_event ?hg (N := 3) ?hd (cs := #[.string a, .int .i64 nb]) (t := 26) ?hr ?_; (case hd => rfl); (case hg => rfl); (case hr => first | (go_simp; done) | (go_simp; rfl)); intro q1 hq w1 hbox hb; have BKq1 := Aside0.mk hbox; have HQq1 := Aside0.mk (show w.heap.size ≤ q1 from by rw [hq]; exact Nat.le_refl _); have HB1 := Aside0.mk hb; clear hbox hb hq))
  go_ret
  exact ⟨rfl, HB1.out⟩
end Go.Proofs.Ytmedkjiabieloaa.Rt

/- The reference's Add. The reference's Remove. (Texts of this session, put together by wip/tools/merge.py.) -/
import Derived.Test.YtmedkjiabieloaaRtM5
namespace Go.Proofs.Ytmedkjiabieloaa.Rt
open Go.RowKit Go.Proofs.YtmedkjiabieloaaW.PrintWords Go.Proofs.YtmedkjiabieloaaW.PrintLast Go.Proofs.YtmedkjiabieloaaW.PrintMore Go.Proofs.Ytmedkjiabieloaa.QRd
open Go.Proofs.Ytmedkjiabieloaa
set_option linter.unusedVariables false
set_option linter.unusedSimpArgs false
theorem make_event {P : Program} {ops : Array Oper} {rest : List Oper} {o : Oper} {a : Act} {Q : Exit → Act → World → Prop} {W : World} (hgd : o.guard = none) {N : Tmp} (_hd : o.dst = some N) {cs : Array Value} {t : TypeId} {n c : Nat}
    (hrun : (execOp a.eval o).run P W = .ok (.value (.slice (some ⟨W.heap.size, 0, none⟩) n c)) (W.alloc (.cells cs t (0, 0))))
    (h : ∀ g, g = W.heap.size → ∀ w1, w1.heap[g]? = some (.cells cs t (0, 0)) → Below W.heap.size W w1 → wpList P ops Q rest (a.put o.dst (.slice (some ⟨g, 0, none⟩) n c)) w1) : wpList P ops Q (o :: rest) a W :=
  Kd.event_run hgd hrun (h _ rfl _ (blk_new W _) (below_alloc (Below.refl _ _) _))
/-- The reference's table in memory, its row of its own. -/
structure TabX (w : World) (base q : Nat) (v : Value) (l : List S28) : Prop where
  blk : w.heap[q]? = some (.cells #[v] 46 (0, 0))
  own : OwnT w base v l
  low : base ≤ q
theorem TabX.below {w w' : World} {base q : Nat} {v : Value} {l : List S28} (h : TabX w base q v l) (hb : Below w.heap.size w w') : TabX w' base q v l := ⟨blk_below h.blk hb, pw_own_below h.own hb, h.low⟩
theorem TabX.read {w : World} {base q : Nat} {A : Option Addr} {c : Nat} {l : List S28} (h : TabX w base q (.slice A l.length c) l) : RTabR w q A c l := by
  have hr := Kd.R_reads' (R_of_own h.own)
  exact ⟨h.blk, hr.2.2, hr.2.1⟩
/-- What the reference's Add answers. -/
def RAddP (l : List S28) (r : S28) (er : Int) (l' : List S28) : Prop :=
  (badR r ∧ er = 1 ∧ l' = l) ∨ (¬ badR r ∧ ∃ i b, PlaceP l (normR r).f0 i b ∧ ((b = true ∧ er = 0 ∧ l' = l.set i (normR r)) ∨ (b = false ∧ 64 ≤ l.length ∧ er = 7 ∧ l' = l) ∨ (b = false ∧ l.length < 64 ∧ er = 0 ∧ l' = l.take i ++ normR r :: l.drop i)))
def RAddQ (w : World) (base q : Nat) (v : Value) (l : List S28) (r : S28) (e : Ending) (w' : World) : Prop :=
  ∃ er v' l', e = .returned (.int .i64 er) ∧ RAddP l r er l' ∧ TabX w' base q v' l' ∧ Turn w w' q v v'
set_option maxHeartbeats 1600000 in
set_option maxRecDepth 100000 in
theorem radd_good (base q : Nat) (A : Option Addr) (c : Nat) (l : List S28) (a via : ByteArray) (nb port : Int) (w : World) (h : TabX w base q (.slice A l.length c) l) (hlim : l.length ≤ 1000) (ha : a.size ≤ 140737488351232) (hbad : ¬ badR ⟨⟨a, nb⟩, via, port⟩) :
    Calls Try.prog 18 #[.pointer (some ⟨q, 0, none⟩), .agg #[.string a, .int .i64 nb, .string via, .int .i64 port]] w (RAddQ w base q (.slice A l.length c) l ⟨⟨a, nb⟩, via, port⟩) := by
  have PW := Aside0.mk fun (W : World) => rprefix_walk a nb W ha
  have HBD := Aside0.mk hbad
  obtain ⟨m, hm⟩ : ∃ m, (maskE a nb).1 = m := ⟨_, rfl⟩
  obtain ⟨er, her⟩ : ∃ er, (maskE a nb).2 = er := ⟨_, rfl⟩
  have HNR := Aside0.mk (show normR ⟨⟨a, nb⟩, via, port⟩ = ⟨⟨m, nb⟩, via, port⟩ from by unfold normR; rw [hm])
  unfold badR at hbad
  simp only [not_or, Decidable.not_not, not_and] at hbad
  rw [hm, her] at hbad
  rw [hm, her] at PW
  obtain ⟨rfl, hvia, hport⟩ := hbad
  have PW := Aside0.mk (show ∀ W, Calls Try.prog 30 #[.agg #[.string a, .int .i64 nb]] W fun e w' => e = .returned (.tuple #[.agg #[.string m, .int .i64 nb], .bool true]) ∧ Below W.heap.size W w' from PW.out)
  obtain ⟨nv, hnv⟩ : ∃ k, via.size = k := ⟨_, rfl⟩
  obtain ⟨nm, hnm⟩ : ∃ k, m.size = k := ⟨_, rfl⟩
  have hnvI : (via.size : Int) = (nv : Int) := by rw [hnv]
  have hnmI : (m.size : Int) = (nm : Int) := by rw [hnm]
  rw [hnv, hnm] at hvia
  have hp0 : decide (port < 0) = false := decide_eq_false hport
  have BW := Aside0.mk fun (p : S26) (W : World) (hb : Below w.heap.size w W) => place_walk q A c l p W (h.below hb).read (by omega)
  have HO := Aside0.mk h
  have HLT := Aside0.mk (show ∀ k, (Value.slice A l.length c).ownBlock = some k → k < w.heap.size from fun k hk => own_lt h.own k hk)
  have HQL := Aside0.mk (blk_lt h.blk)
  have HC := Aside0.mk fun (W : World) (hb : Below w.heap.size w W) => (h.below hb).read
  obtain ⟨n, hn⟩ : ∃ n, l.length = n := ⟨_, rfl⟩
  have HN := Aside0.mk hn
  have hnc : n ≤ c := by rw [← hn]; exact h.read.cap
  rw [hn] at hlim HO HLT ⊢
  have TB := Aside0.mk (show ∀ W, Below w.heap.size w W → W.cell? ⟨q, 0, none⟩ = some (.slice A n c) from fun W hb => (blk_cell (HO.out.below hb).blk 0).trans rfl)
  clear h hn ha hport hm her hnv hnm
  go_enter Try.func18, Try.ntmps18
  go_wp2_with (first | ((with_reducible refine gate_dst (N := 3) rfl ?_); refine box_event ?hg (N := 3) ?hd (cs := #[.string a, .int .i64 nb, .string via, .int .i64 port]) (t := 28) ?hr ?_; (case hd => rfl); (case hg => rfl); (case hr => first | (go_simp; done) | (go_simp; rfl)); intro q1 hq w1 hbox hb; have BKq1 := Aside0.mk hbox; have HQq1 := Aside0.mk (show w.heap.size ≤ q1 from by rw [hq]; exact Nat.le_refl _); have HB1 := Aside0.mk hb; clear hbox hb hq; have z0 : w1.cell? ⟨q1, 0, none⟩ = some (.string a) := (blk_cell BKq1.out 0).trans rfl; have z1 : w1.cell? ⟨q1, 1, none⟩ = some (.int .i64 nb) := (blk_cell BKq1.out 1).trans rfl; have z2 : w1.cell? ⟨q1, 2, none⟩ = some (.string via) := (blk_cell BKq1.out 2).trans rfl; have z3 : w1.cell? ⟨q1, 3, none⟩ = some (.int .i64 port) := (blk_cell BKq1.out 3).trans rfl))
  refine (PW.out _).mono ?_
  rintro e w2 ⟨rfl, hb⟩
  have BKq1 := Aside0.mk (blk_below BKq1.out hb)
  have HB2 := Aside0.mk (HB1.out.trans (hb.mono HB1.out.size))
  clear hb z0 z1 z2 z3
  by_cases hv0 : via.toList = []
  · have hv1 : via.toList.isEmpty = true := by rw [hv0]; rfl
    have z0 : w2.cell? ⟨q1, 0, none⟩ = some (.string a) := (blk_cell BKq1.out 0).trans rfl; have z1 : w2.cell? ⟨q1, 1, none⟩ = some (.int .i64 nb) := (blk_cell BKq1.out 1).trans rfl; have z2 : w2.cell? ⟨q1, 2, none⟩ = some (.string via) := (blk_cell BKq1.out 2).trans rfl; have z3 : w2.cell? ⟨q1, 3, none⟩ = some (.int .i64 port) := (blk_cell BKq1.out 3).trans rfl
    go_wp2_with (first | ((with_reducible refine gate_dst (N := 5) rfl ?_); refine box_event ?hg (N := 5) ?hd (cs := #[.string ByteArray.empty, .int .i64 0]) (t := 26) ?hr ?_; (case hd => rfl); (case hg => rfl); (case hr => first | (go_simp; done) | (go_simp; rfl)); intro q2 hq w3 hbox hb; have HNq1q2 := Aside0.mk (show q1 ≠ q2 from by have := blk_lt BKq1.out; omega); have BKq1 := Aside0.mk (blk_below BKq1.out hb); have BKq2 := Aside0.mk hbox; have HQq2 := Aside0.mk (show w.heap.size ≤ q2 from by rw [hq]; exact HB2.out.size); have HB3 := Aside0.mk (HB2.out.trans (hb.mono HB2.out.size)); clear hbox hb hq) | ((with_reducible refine gate_store (t := 26) (p := 5) rfl ?_); have ca0 : w3.cell? ⟨q2, 0, none⟩ = some (.string ByteArray.empty) := (blk_cell BKq2.out 0).trans rfl; have ca1 : w3.cell? ⟨q2, 1, none⟩ = some (.int .i64 0) := (blk_cell BKq2.out 1).trans rfl; have fa0 : w3.frozen? ⟨q2, 0, none⟩ = false := blk_frozen BKq2.out 0; have fa1 : w3.frozen? ⟨q2, 1, none⟩ = false := blk_frozen BKq2.out 1; refine store_event (t := 26) (p := 5) (v := ?vo5_4_1_n1) (w1 := Cells.setAll w3 q2 0 [.string m, .int .i64 nb]) ?hg ?ho ?hn ?hr ?_; (case ho => rfl); (case hg => rfl); (case hn => rfl); (case hr => first | (go_simp; done) | (go_simp; rfl)); intro w4 hw; have BKq1 := Aside0.mk (show w4.heap[q1]? = _ from (congrArg (fun W : World => W.heap[q1]?) hw).trans ((Cells.setAll_far HNq1q2.out _ _ _).trans BKq1.out)); have HB4 := Aside0.mk (show Below w.heap.size w w4 from by rw [hw]; exact Cells.setAll_below HQq2.out _ _ _ HB3.out); have BKq2 := Aside0.mk (show w4.heap[q2]? = some (.cells #[.string m, .int .i64 nb] 26 (0, 0)) from by rw [hw]; exact Cells.stored2 BKq2.out); clear ca0 ca1 fa0 fa1; have z0 : w4.cell? ⟨q1, 0, none⟩ = some (.string a) := (blk_cell BKq1.out 0).trans rfl; have z1 : w4.cell? ⟨q1, 1, none⟩ = some (.int .i64 nb) := (blk_cell BKq1.out 1).trans rfl; have z2 : w4.cell? ⟨q1, 2, none⟩ = some (.string via) := (blk_cell BKq1.out 2).trans rfl; have z3 : w4.cell? ⟨q1, 3, none⟩ = some (.int .i64 port) := (blk_cell BKq1.out 3).trans rfl; have y0 : w4.cell? ⟨q2, 0, none⟩ = some (.string m) := (blk_cell BKq2.out 0).trans rfl; have y1 : w4.cell? ⟨q2, 1, none⟩ = some (.int .i64 nb) := (blk_cell BKq2.out 1).trans rfl; clear hw) | ((with_reducible refine gate_store (t := 26) (p := 38) rfl ?_); have HNq2q1 := Aside0.mk (Ne.symm HNq1q2.out); have fa0 : w4.frozen? ⟨q1, 0, none⟩ = false := blk_frozen BKq1.out 0; have fa1 : w4.frozen? ⟨q1, 1, none⟩ = false := blk_frozen BKq1.out 1; refine store_event (t := 26) (p := 38) (v := ?vo38_5_2_n2) (w1 := Cells.setAll w4 q1 0 [.string m, .int .i64 nb]) ?hg ?ho ?hn ?hr ?_; (case ho => rfl); (case hg => rfl); (case hn => rfl); (case hr => first | (go_simp; done) | (go_simp; rfl)); intro w5 hw; have BKq2 := Aside0.mk (show w5.heap[q2]? = _ from (congrArg (fun W : World => W.heap[q2]?) hw).trans ((Cells.setAll_far HNq2q1.out _ _ _).trans BKq2.out)); have HB5 := Aside0.mk (show Below w.heap.size w w5 from by rw [hw]; exact Cells.setAll_below HQq1.out _ _ _ HB4.out); have BKq1 := Aside0.mk (show w5.heap[q1]? = some (.cells #[.string m, .int .i64 nb, .string via, .int .i64 port] 28 (0, 0)) from by rw [hw]; exact (Cells.setAll_blk _ _ _ _ BKq1.out).trans rfl); clear fa0 fa1 y0 y1; have y0 : w5.cell? ⟨q2, 0, none⟩ = some (.string m) := (blk_cell BKq2.out 0).trans rfl; have y1 : w5.cell? ⟨q2, 1, none⟩ = some (.int .i64 nb) := (blk_cell BKq2.out 1).trans rfl; clear hw))
    clear z0 z1 z2 z3
    refine (BW.out ⟨m, nb⟩ _ HB5.out).mono ?_
    rintro e w6 ⟨⟨bi, bb, rfl, hbs⟩, hb⟩
    have BKq1 := Aside0.mk (blk_below BKq1.out hb)
    have HB6 := Aside0.mk (HB5.out.trans (hb.mono HB5.out.size))
    have HBS := Aside0.mk hbs
    clear hb hbs y0 y1
    cases bb
    · have x0 := TB.out _ HB6.out
      by_cases h64 : 64 ≤ n
      · have d64 : decide ((64 : Int) ≤ (n : Int)) = true := decide_eq_true (by omega)
        go_wp2_with (fail)
        go_ret
        exact ⟨_, _, _, rfl, Or.inr ⟨HBD.out, bi, false, by rw [HNR.out]; exact HBS.out, Or.inr (Or.inl ⟨rfl, by rw [HN.out]; exact h64, rfl, rfl⟩)⟩, HO.out.below HB6.out, Turn.of_below HB6.out _ _⟩
      · have d64 : decide ((64 : Int) ≤ (n : Int)) = false := decide_eq_false (by omega)
        have hbi : bi ≤ n := by rw [← HN.out]; exact HBS.out.1
        have hbiI : (bi : Int) ≤ (n : Int) := by omega
        have hbc : bi ≤ c := by omega
        have hcI : (n : Int) ≤ (c : Int) := by omega
        have HLEN := Aside0.mk (show (l.take bi).length = bi ∧ (l.drop bi).length = n - bi ∧ n ≤ 1000 from ⟨by rw [List.length_take, HN.out]; omega, by rw [List.length_drop, HN.out], hlim⟩)
        have HTK := Aside0.mk (show k28.C w6 A bi (l.take bi) from by
          have h := Kd.C_take (m := bi) ((HC.out _ HB6.out).row) (by rw [HN.out]; exact hbi)
          rwa [HLEN.out.1] at h)
        have HDK := Aside0.mk (show ∀ W, Below w.heap.size w W → k28.C W (if c = bi then A else A.map (·.add (bi * 4))) (n - bi) (l.drop bi) from fun W hW => by
          have h := Kd.C_drop (m := bi) ((HC.out _ hW).row) (by rw [HN.out]; exact hbi) (c := c) (by rw [HN.out]; exact hnc)
          rwa [HLEN.out.2.1] at h)
        clear x0
        by_cases hcb : c = bi
        · subst hcb
          obtain rfl : n = c := by omega
          rw [if_pos rfl, Nat.sub_self] at HDK
          clear hbc hcI hbiI hnc hbi
          have x0 := TB.out _ HB6.out
          have y0 : w6.cell? ⟨q1, 0, none⟩ = some (.string m) := (blk_cell BKq1.out 0).trans rfl
          have y1 : w6.cell? ⟨q1, 1, none⟩ = some (.int .i64 nb) := (blk_cell BKq1.out 1).trans rfl
          have y2 : w6.cell? ⟨q1, 2, none⟩ = some (.string via) := (blk_cell BKq1.out 2).trans rfl
          have y3 : w6.cell? ⟨q1, 3, none⟩ = some (.int .i64 port) := (blk_cell BKq1.out 3).trans rfl
          go_wp2_with (first | ((with_reducible refine gate_builtin (b := .append) (xs := #[.tmp 59, .tmp 65]) rfl ?_); at_builtin; refine Kd.R_append_rows k28 (Rr := k28.K w6) (w0 := w) w.heap.size rfl (.tmp 59) (.tmp 65) 22 28 (.agg #[.string ByteArray.empty, .int .i64 0, .string ByteArray.empty, .int .i64 0]) 48 rfl Try.underlying22 info28 rfl (by decide) (by decide) (.slice none 0 0) [] (l.take n) A n n (fun _ => True) (fun _ => False) rfl rfl (Kd.R_nil k28 28 w6 w.heap.size _) HTK.out (fun _ _ h => by rw [k28_open h]; exact k28_mkM _ _ _ _) (fun _ h => h.elim) (fun _ _ => trivial) HB6.out HB6.out.size ?aL7 ?_; (case aL7 => have h1 := HLEN.out; have h2 := HN.out; simp; omega); intro v7 w7 ho hb hg hat; have HO7 := Aside0.mk ho; have HB7 := Aside0.mk hb; have BKq1 := Aside0.mk (blk_grown BKq1.out hg (by simp [Value.ownBlock])); clear ho hb hg hat; have y0 : w7.cell? ⟨q1, 0, none⟩ = some (.string m) := (blk_cell BKq1.out 0).trans rfl; have y1 : w7.cell? ⟨q1, 1, none⟩ = some (.int .i64 nb) := (blk_cell BKq1.out 1).trans rfl; have y2 : w7.cell? ⟨q1, 2, none⟩ = some (.string via) := (blk_cell BKq1.out 2).trans rfl; have y3 : w7.cell? ⟨q1, 3, none⟩ = some (.int .i64 port) := (blk_cell BKq1.out 3).trans rfl; have x0 := TB.out _ HB7.out; have HO7 := Aside0.mk (show k28.R 28 w7 w.heap.size (fun _ => True) v7 (l.take n) from HO7.out)) | ((with_reducible refine gate_dst (N := 69) rfl ?_); refine make_event ?hg (N := 69) ?hd (cs := #[.string m, .int .i64 nb, .string via, .int .i64 port]) (t := 28) (n := 1) (c := 1) ?hr ?_; (case hd => rfl); (case hg => rfl); (case hr => first | (go_simp; done) | (go_simp; rfl)); intro q3 hq w8 hbox hb; have HNq1q3 := Aside0.mk (show q1 ≠ q3 from by have := blk_lt BKq1.out; omega); have BKq1 := Aside0.mk (blk_below BKq1.out hb); have BKq3 := Aside0.mk hbox; have HQq3 := Aside0.mk (show w.heap.size ≤ q3 from by rw [hq]; exact HB7.out.size); have HB8 := Aside0.mk (HB7.out.trans (hb.mono HB7.out.size)); have HO8 := Aside0.mk (Kd.R_below HO7.out hb); clear x0; clear hbox hb hq) | ((with_reducible refine gate_builtin (b := .append) (xs := #[.tmp 67, .tmp 69]) rfl ?_); at_builtin; refine Kd.R_append_rows k28 (Rr := k28.K w8) (w0 := w) w.heap.size rfl (.tmp 67) (.tmp 69) 22 28 (.agg #[.string ByteArray.empty, .int .i64 0, .string ByteArray.empty, .int .i64 0]) 48 rfl Try.underlying22 info28 rfl (by decide) (by decide) v7 (l.take n) [(⟨⟨m, nb⟩, via, port⟩ : S28)] (some ⟨q3, 0, none⟩) 1 1 (fun _ => True) (fun _ => False) rfl rfl HO8.out (one_C BKq3.out) (fun _ _ h => by rw [k28_open h]; exact k28_mkM _ _ _ _) (fun _ h => h.elim) (fun _ _ => trivial) HB8.out HB8.out.size ?aL9 ?_; (case aL9 => have h1 := HLEN.out; have h2 := HN.out; simp; omega); intro v9 w9 ho hb hg hat; have HO9 := Aside0.mk ho; have HB9 := Aside0.mk hb; clear ho hb hg hat; have x0 := TB.out _ HB9.out; have HDR := Aside0.mk (HDK.out _ HB9.out)) | ((with_reducible refine gate_builtin (b := .append) (xs := #[.tmp 71, .tmp 77]) rfl ?_); at_builtin; refine Kd.R_append_rows k28 (Rr := k28.K w9) (w0 := w) w.heap.size rfl (.tmp 71) (.tmp 77) 22 28 (.agg #[.string ByteArray.empty, .int .i64 0, .string ByteArray.empty, .int .i64 0]) 48 rfl Try.underlying22 info28 rfl (by decide) (by decide) v9 (l.take n ++ [(⟨⟨m, nb⟩, via, port⟩ : S28)]) (l.drop n) A 0 0 (fun _ => True) (fun _ => False) rfl rfl HO9.out HDR.out (fun _ _ h => by rw [k28_open h]; exact k28_mkM _ _ _ _) (fun _ h => h.elim) (fun _ _ => trivial) HB9.out HB9.out.size ?aL10 ?_; (case aL10 => have h1 := HLEN.out; have h2 := HN.out; simp; omega); intro v10 w10 ho hb hg hat; have HO10 := Aside0.mk ho; have HB10 := Aside0.mk hb; clear ho hb hg hat; have BQ := Aside0.mk (HO.out.below HB10.out).blk; have c0 : w10.cell? ⟨q, 0, none⟩ = some (.slice A n n) := (blk_cell BQ.out 0).trans rfl; have f0 : w10.frozen? ⟨q, 0, none⟩ = false := blk_frozen BQ.out 0; obtain ⟨A', c', hv10⟩ := Kd.R_slice HO10.out; obtain ⟨L, hL⟩ : ∃ L, (l.take n ++ [(⟨⟨m, nb⟩, via, port⟩ : S28)] ++ l.drop n).length = L := ⟨_, rfl⟩; rw [hL] at hv10; clear hL; subst hv10; clear x0))
          have HT := Aside0.mk (show TabX (w10.setCell ⟨q, 0, none⟩ (.slice A' L c')) base q (.slice A' L c') (l.take n ++ (⟨⟨m, nb⟩, via, port⟩ : S28) :: l.drop n) ∧ Turn w (w10.setCell ⟨q, 0, none⟩ (.slice A' L c')) q (.slice A n n) (.slice A' L c') from by
            have ho := own_of_R HO10.out
            have hq := own_neT ho BQ.out (by decide)
            refine ⟨⟨(blk_set BQ.out 0 _).trans rfl, ?_, HO.out.low⟩, HB10.out.os, HB10.out.tape, HB10.out.output, ?_, fun k hk h1 h2 => ?_, ?_⟩
            · have h3 := own_setCell (own_less ho (show base ≤ w.heap.size by have := HO.out.low; have := HQL.out; omega)) (p := ⟨q, 0, none⟩) hq (.slice A' L c')
              rw [show l.take n ++ [(⟨⟨m, nb⟩, via, port⟩ : S28)] ++ l.drop n = l.take n ++ (⟨⟨m, nb⟩, via, port⟩ : S28) :: l.drop n by simp] at h3
              exact h3
            · have e : (w10.setCell ⟨q, 0, none⟩ (.slice A' L c')).heap.size = w10.heap.size := by simp [World.setCell]
              rw [e]
              exact HB10.out.size
            · exact (Below.heap_setCell w10 ⟨q, 0, none⟩ _ k h1).trans (HB10.out.block k hk)
            · exact fun k hk => .inr (own_base ho k hk))
          go_wp2_with (fail)
          go_ret
          exact ⟨_, _, _, rfl, Or.inr ⟨HBD.out, n, false, by rw [HNR.out]; exact HBS.out, Or.inr (Or.inr ⟨rfl, by rw [HN.out]; omega, rfl, by rw [HNR.out]⟩)⟩, HT.out⟩
        · have hcb' : ¬ (bi = c) := fun h => hcb h.symm
          rw [if_neg hcb] at HDK
          have x0 := TB.out _ HB6.out
          have y0 : w6.cell? ⟨q1, 0, none⟩ = some (.string m) := (blk_cell BKq1.out 0).trans rfl
          have y1 : w6.cell? ⟨q1, 1, none⟩ = some (.int .i64 nb) := (blk_cell BKq1.out 1).trans rfl
          have y2 : w6.cell? ⟨q1, 2, none⟩ = some (.string via) := (blk_cell BKq1.out 2).trans rfl
          have y3 : w6.cell? ⟨q1, 3, none⟩ = some (.int .i64 port) := (blk_cell BKq1.out 3).trans rfl
          go_wp2_with (first | ((with_reducible refine gate_builtin (b := .append) (xs := #[.tmp 59, .tmp 65]) rfl ?_); at_builtin; refine Kd.R_append_rows k28 (Rr := k28.K w6) (w0 := w) w.heap.size rfl (.tmp 59) (.tmp 65) 22 28 (.agg #[.string ByteArray.empty, .int .i64 0, .string ByteArray.empty, .int .i64 0]) 48 rfl Try.underlying22 info28 rfl (by decide) (by decide) (.slice none 0 0) [] (l.take bi) A bi c (fun _ => True) (fun _ => False) rfl rfl (Kd.R_nil k28 28 w6 w.heap.size _) HTK.out (fun _ _ h => by rw [k28_open h]; exact k28_mkM _ _ _ _) (fun _ h => h.elim) (fun _ _ => trivial) HB6.out HB6.out.size ?aL7 ?_; (case aL7 => have h1 := HLEN.out; have h2 := HN.out; simp; omega); intro v7 w7 ho hb hg hat; have HO7 := Aside0.mk ho; have HB7 := Aside0.mk hb; have BKq1 := Aside0.mk (blk_grown BKq1.out hg (by simp [Value.ownBlock])); clear ho hb hg hat; have y0 : w7.cell? ⟨q1, 0, none⟩ = some (.string m) := (blk_cell BKq1.out 0).trans rfl; have y1 : w7.cell? ⟨q1, 1, none⟩ = some (.int .i64 nb) := (blk_cell BKq1.out 1).trans rfl; have y2 : w7.cell? ⟨q1, 2, none⟩ = some (.string via) := (blk_cell BKq1.out 2).trans rfl; have y3 : w7.cell? ⟨q1, 3, none⟩ = some (.int .i64 port) := (blk_cell BKq1.out 3).trans rfl; have x0 := TB.out _ HB7.out; have HO7 := Aside0.mk (show k28.R 28 w7 w.heap.size (fun _ => True) v7 (l.take bi) from HO7.out)) | ((with_reducible refine gate_dst (N := 69) rfl ?_); refine make_event ?hg (N := 69) ?hd (cs := #[.string m, .int .i64 nb, .string via, .int .i64 port]) (t := 28) (n := 1) (c := 1) ?hr ?_; (case hd => rfl); (case hg => rfl); (case hr => first | (go_simp; done) | (go_simp; rfl)); intro q3 hq w8 hbox hb; have HNq1q3 := Aside0.mk (show q1 ≠ q3 from by have := blk_lt BKq1.out; omega); have BKq1 := Aside0.mk (blk_below BKq1.out hb); have BKq3 := Aside0.mk hbox; have HQq3 := Aside0.mk (show w.heap.size ≤ q3 from by rw [hq]; exact HB7.out.size); have HB8 := Aside0.mk (HB7.out.trans (hb.mono HB7.out.size)); have HO8 := Aside0.mk (Kd.R_below HO7.out hb); clear x0; clear hbox hb hq) | ((with_reducible refine gate_builtin (b := .append) (xs := #[.tmp 67, .tmp 69]) rfl ?_); at_builtin; refine Kd.R_append_rows k28 (Rr := k28.K w8) (w0 := w) w.heap.size rfl (.tmp 67) (.tmp 69) 22 28 (.agg #[.string ByteArray.empty, .int .i64 0, .string ByteArray.empty, .int .i64 0]) 48 rfl Try.underlying22 info28 rfl (by decide) (by decide) v7 (l.take bi) [(⟨⟨m, nb⟩, via, port⟩ : S28)] (some ⟨q3, 0, none⟩) 1 1 (fun _ => True) (fun _ => False) rfl rfl HO8.out (one_C BKq3.out) (fun _ _ h => by rw [k28_open h]; exact k28_mkM _ _ _ _) (fun _ h => h.elim) (fun _ _ => trivial) HB8.out HB8.out.size ?aL9 ?_; (case aL9 => have h1 := HLEN.out; have h2 := HN.out; simp; omega); intro v9 w9 ho hb hg hat; have HO9 := Aside0.mk ho; have HB9 := Aside0.mk hb; clear ho hb hg hat; have x0 := TB.out _ HB9.out; have HDR := Aside0.mk (HDK.out _ HB9.out)) | ((with_reducible refine gate_builtin (b := .append) (xs := #[.tmp 71, .tmp 77]) rfl ?_); at_builtin; refine Kd.R_append_rows k28 (Rr := k28.K w9) (w0 := w) w.heap.size rfl (.tmp 71) (.tmp 77) 22 28 (.agg #[.string ByteArray.empty, .int .i64 0, .string ByteArray.empty, .int .i64 0]) 48 rfl Try.underlying22 info28 rfl (by decide) (by decide) v9 (l.take bi ++ [(⟨⟨m, nb⟩, via, port⟩ : S28)]) (l.drop bi) (A.map (·.add (bi * 4))) (n - bi) (c - bi) (fun _ => True) (fun _ => False) rfl rfl HO9.out HDR.out (fun _ _ h => by rw [k28_open h]; exact k28_mkM _ _ _ _) (fun _ h => h.elim) (fun _ _ => trivial) HB9.out HB9.out.size ?aL10 ?_; (case aL10 => have h1 := HLEN.out; have h2 := HN.out; simp; omega); intro v10 w10 ho hb hg hat; have HO10 := Aside0.mk ho; have HB10 := Aside0.mk hb; clear ho hb hg hat; have BQ := Aside0.mk (HO.out.below HB10.out).blk; have c0 : w10.cell? ⟨q, 0, none⟩ = some (.slice A n c) := (blk_cell BQ.out 0).trans rfl; have f0 : w10.frozen? ⟨q, 0, none⟩ = false := blk_frozen BQ.out 0; obtain ⟨A', c', hv10⟩ := Kd.R_slice HO10.out; obtain ⟨L, hL⟩ : ∃ L, (l.take bi ++ [(⟨⟨m, nb⟩, via, port⟩ : S28)] ++ l.drop bi).length = L := ⟨_, rfl⟩; rw [hL] at hv10; clear hL; subst hv10; clear x0))
          have HT := Aside0.mk (show TabX (w10.setCell ⟨q, 0, none⟩ (.slice A' L c')) base q (.slice A' L c') (l.take bi ++ (⟨⟨m, nb⟩, via, port⟩ : S28) :: l.drop bi) ∧ Turn w (w10.setCell ⟨q, 0, none⟩ (.slice A' L c')) q (.slice A n c) (.slice A' L c') from by
            have ho := own_of_R HO10.out
            have hq := own_neT ho BQ.out (by decide)
            refine ⟨⟨(blk_set BQ.out 0 _).trans rfl, ?_, HO.out.low⟩, HB10.out.os, HB10.out.tape, HB10.out.output, ?_, fun k hk h1 h2 => ?_, ?_⟩
            · have h3 := own_setCell (own_less ho (show base ≤ w.heap.size by have := HO.out.low; have := HQL.out; omega)) (p := ⟨q, 0, none⟩) hq (.slice A' L c')
              rw [show l.take bi ++ [(⟨⟨m, nb⟩, via, port⟩ : S28)] ++ l.drop bi = l.take bi ++ (⟨⟨m, nb⟩, via, port⟩ : S28) :: l.drop bi by simp] at h3
              exact h3
            · have e : (w10.setCell ⟨q, 0, none⟩ (.slice A' L c')).heap.size = w10.heap.size := by simp [World.setCell]
              rw [e]
              exact HB10.out.size
            · exact (Below.heap_setCell w10 ⟨q, 0, none⟩ _ k h1).trans (HB10.out.block k hk)
            · exact fun k hk => .inr (own_base ho k hk))
          go_wp2_with (fail)
          go_ret
          exact ⟨_, _, _, rfl, Or.inr ⟨HBD.out, bi, false, by rw [HNR.out]; exact HBS.out, Or.inr (Or.inr ⟨rfl, by rw [HN.out]; omega, rfl, by rw [HNR.out]⟩)⟩, HT.out⟩
    · have hbi : bi < n := by
        have h0 := HBS.out.2.2.2
        have h1 : bi < l.length := by
          cases hd : decide (bi < l.length) with
          | true => exact of_decide_eq_true hd
          | false => rw [hd] at h0; cases h0
        rw [HN.out] at h1
        exact h1
      have hbiI : (bi : Int) < (n : Int) := by omega
      obtain ⟨g, cur, hA, hnl, hgb, hgh, hgc, hgm, hgs, hgt⟩ := own_form (HO.out.below HB6.out).own (by rw [HN.out]; omega)
      subst hA
      have HGH := Aside0.mk hgh
      have HGS := Aside0.mk hgs
      have HGC := Aside0.mk hgc
      clear hgb hgh hgm hgs hgt hgc hnl
      have HT := Aside0.mk (show TabX (Cells.setAll w6 g (bi * 4) [.string m, .int .i64 nb, .string via, .int .i64 port]).drew base q (.slice (some ⟨g, 0, none⟩) n c) (l.set bi (normR ⟨⟨a, nb⟩, via, port⟩)) ∧ Turn w (Cells.setAll w6 g (bi * 4) [.string m, .int .i64 nb, .string via, .int .i64 port]).drew q (.slice (some ⟨g, 0, none⟩) n c) (.slice (some ⟨g, 0, none⟩) n c) from by
        have ht := HO.out.below HB6.out
        have hq : q ≠ g := fun e => own_neT ht.own ht.blk (by decide) (by rw [e]; rfl)
        rw [HNR.out]
        have h1 : TabX (Cells.setAll w6 g (bi * 4) (enc28 ⟨⟨m, nb⟩, via, port⟩)) base q (.slice (some ⟨g, 0, none⟩) n c) (l.set bi ⟨⟨m, nb⟩, via, port⟩) := ⟨(Cells.setAll_far hq _ _ _).trans ht.blk, own_put_row ht.own _ (by rw [HN.out]; exact hbi), ht.low⟩
        have h2 := setAll_turn (q := q) (v := .slice (some ⟨g, 0, none⟩) n c) HB6.out rfl (bi * 4) (enc28 ⟨⟨m, nb⟩, via, port⟩)
        exact ⟨h1.below (below_drew (Below.refl _ _)), h2.os, h2.tape, h2.output, h2.size, h2.block, h2.row⟩)
      have CE := Aside0.mk (show (∃ u, w6.cell? ⟨g, bi * 4, none⟩ = some u) ∧ (∃ u, w6.cell? ⟨g, bi * 4 + 1, none⟩ = some u) ∧ (∃ u, w6.cell? ⟨g, bi * 4 + 2, none⟩ = some u) ∧ (∃ u, w6.cell? ⟨g, bi * 4 + 3, none⟩ = some u) from by
        have hs := HGS.out
        have hc := HGC.out
        refine ⟨?_, ?_, ?_, ?_⟩ <;> (rw [blk_cell HGH.out]; exact ⟨_, Array.getElem?_eq_getElem (by omega)⟩))
      have FE := Aside0.mk (And.intro (blk_frozen HGH.out (bi * 4)) (And.intro (blk_frozen HGH.out (bi * 4 + 1)) (And.intro (blk_frozen HGH.out (bi * 4 + 2)) (blk_frozen HGH.out (bi * 4 + 3)))))
      clear hnc
      go_wp2_with (fail)
      refine start_ (n := 8) (S := fun W => Below w6.heap.size w6 W) (ds := [7]) #[false, false, false, false, false, false, false, false] (by kernel_rfl) rfl rfl (below_drew (Below.refl w6.heap.size w6)) (fun hHeld => ?_)
      refine pure_ (i := 0) (N := some 46) (v := ?_) (a' := ?_) #[true, false, false, false, false, false, false, false] rfl rfl (by kernel_rfl) (fun _ _ _ h => h) (Or.inl ⟨by rfl, ?_⟩) ?_ ?_
      rotate_left
      · intro w'
        go_simp
        with_reducible rfl
      rotate_left
      · simp only [Act.put, List.setIfInBounds_toArray, List.set_cons_zero, List.set_cons_succ]
        rfl
      refine pure_ (i := 1) (N := some 47) (v := ?_) (a' := ?_) #[true, true, false, false, false, false, false, false] rfl rfl (by kernel_rfl) (fun _ _ _ h => h) (Or.inl ⟨by rfl, ?_⟩) ?_ ?_
      rotate_left
      · intro w'
        go_simp
        with_reducible rfl
      rotate_left
      · simp only [Act.put, List.setIfInBounds_toArray, List.set_cons_zero, List.set_cons_succ]
        rfl
      refine pure_ (i := 2) (N := some 48) (v := ?_) (a' := ?_) #[true, true, true, false, false, false, false, false] rfl rfl (by kernel_rfl) (fun _ _ _ h => h) (Or.inl ⟨by rfl, ?_⟩) ?_ ?_
      rotate_left
      · intro w'
        go_simp
        with_reducible rfl
      rotate_left
      · simp only [Act.put, List.setIfInBounds_toArray, List.set_cons_zero, List.set_cons_succ]
        rfl
      refine take_ (i := 3) (N := some 49) (v := ?_) (a' := ?_) #[true, true, true, true, false, false, false, false] rfl rfl (by kernel_rfl) (fun _ _ _ h => h) (Or.inl ⟨by rfl, ?_⟩) hHeld ?_ ?_
      rotate_left
      · intro w' s0
        have x0 := TB.out _ (HB6.out.trans (s0.mono HB6.out.size))
        have BKt := Aside0.mk (blk_below BKq1.out s0)
        have y0 : w'.cell? ⟨q1, 0, none⟩ = some (.string m) := (blk_cell BKt.out 0).trans rfl
        have y1 : w'.cell? ⟨q1, 1, none⟩ = some (.int .i64 nb) := (blk_cell BKt.out 1).trans rfl
        have y2 : w'.cell? ⟨q1, 2, none⟩ = some (.string via) := (blk_cell BKt.out 2).trans rfl
        have y3 : w'.cell? ⟨q1, 3, none⟩ = some (.int .i64 port) := (blk_cell BKt.out 3).trans rfl
        go_simp
        with_reducible rfl
      rotate_left
      · simp only [Act.put, List.setIfInBounds_toArray, List.set_cons_zero, List.set_cons_succ]
        rfl
      refine pure_ (i := 4) (N := some 50) (v := ?_) (a' := ?_) #[true, true, true, true, true, false, false, false] rfl rfl (by kernel_rfl) (fun _ _ _ h => h) (Or.inl ⟨by rfl, ?_⟩) ?_ ?_
      rotate_left
      · intro w'
        go_simp
        with_reducible rfl
      rotate_left
      · simp only [Act.put, List.setIfInBounds_toArray, List.set_cons_zero, List.set_cons_succ]
        rfl
      refine take_ (i := 5) (N := some 51) (v := ?_) (a' := ?_) #[true, true, true, true, true, true, false, false] rfl rfl (by kernel_rfl) (fun _ _ _ h => h) (Or.inl ⟨by rfl, ?_⟩) hHeld ?_ ?_
      rotate_left
      · intro w' s0
        have x0 := TB.out _ (HB6.out.trans (s0.mono HB6.out.size))
        have BKt := Aside0.mk (blk_below BKq1.out s0)
        have y0 : w'.cell? ⟨q1, 0, none⟩ = some (.string m) := (blk_cell BKt.out 0).trans rfl
        have y1 : w'.cell? ⟨q1, 1, none⟩ = some (.int .i64 nb) := (blk_cell BKt.out 1).trans rfl
        have y2 : w'.cell? ⟨q1, 2, none⟩ = some (.string via) := (blk_cell BKt.out 2).trans rfl
        have y3 : w'.cell? ⟨q1, 3, none⟩ = some (.int .i64 port) := (blk_cell BKt.out 3).trans rfl
        go_simp
        with_reducible rfl
      rotate_left
      · simp only [Act.put, List.setIfInBounds_toArray, List.set_cons_zero, List.set_cons_succ]
        rfl
      refine pure_ (i := 6) (N := some 52) (v := ?_) (a' := ?_) #[true, true, true, true, true, true, true, false] rfl rfl (by kernel_rfl) (fun _ _ _ h => h) (Or.inl ⟨by rfl, ?_⟩) ?_ ?_
      rotate_left
      · intro w'
        go_simp
        with_reducible rfl
      rotate_left
      · simp only [Act.put, List.setIfInBounds_toArray, List.set_cons_zero, List.set_cons_succ]
        rfl
      refine last_ (i := 7) (N := none) #[true, true, true, true, true, true, true, true] rfl rfl (by kernel_rfl) (by decide) (fun K hK => ?_)
      refine skip_ (w1 := (Cells.setAll w6 g (bi * 4) [.string m, .int .i64 nb, .string via, .int .i64 port]).drew) (by rfl) rfl ?_ ?_
      · obtain ⟨⟨u0, c0⟩, ⟨u1, c1⟩, ⟨u2, c2⟩, ⟨u3, c3⟩⟩ := CE.out
        obtain ⟨f0, f1, f2, f3⟩ := FE.out
        go_simp
        rfl
      refine hK.out _ _ ?_
      clear hK K
      refine done_ (by kernel_rfl) ?_
      (try simp only [Exit.inBlock, Exit.then])
      go_wp2_with (fail)
      go_ret
      exact ⟨_, _, _, rfl, Or.inr ⟨HBD.out, bi, true, by rw [HNR.out]; exact HBS.out, Or.inl ⟨rfl, rfl, rfl⟩⟩, HT.out⟩
  · have hv1 : via.toList.isEmpty = false := by cases hh : via.toList with | nil => exact absurd hh hv0 | cons x xs => rfl
    obtain rfl := hvia hv0
    have z0 : w2.cell? ⟨q1, 0, none⟩ = some (.string a) := (blk_cell BKq1.out 0).trans rfl; have z1 : w2.cell? ⟨q1, 1, none⟩ = some (.int .i64 nb) := (blk_cell BKq1.out 1).trans rfl; have z2 : w2.cell? ⟨q1, 2, none⟩ = some (.string via) := (blk_cell BKq1.out 2).trans rfl; have z3 : w2.cell? ⟨q1, 3, none⟩ = some (.int .i64 port) := (blk_cell BKq1.out 3).trans rfl
    go_wp2_with (first | ((with_reducible refine gate_dst (N := 5) rfl ?_); refine box_event ?hg (N := 5) ?hd (cs := #[.string ByteArray.empty, .int .i64 0]) (t := 26) ?hr ?_; (case hd => rfl); (case hg => rfl); (case hr => first | (go_simp; done) | (go_simp; rfl)); intro q2 hq w3 hbox hb; have HNq1q2 := Aside0.mk (show q1 ≠ q2 from by have := blk_lt BKq1.out; omega); have BKq1 := Aside0.mk (blk_below BKq1.out hb); have BKq2 := Aside0.mk hbox; have HQq2 := Aside0.mk (show w.heap.size ≤ q2 from by rw [hq]; exact HB2.out.size); have HB3 := Aside0.mk (HB2.out.trans (hb.mono HB2.out.size)); clear hbox hb hq) | ((with_reducible refine gate_store (t := 26) (p := 5) rfl ?_); have ca0 : w3.cell? ⟨q2, 0, none⟩ = some (.string ByteArray.empty) := (blk_cell BKq2.out 0).trans rfl; have ca1 : w3.cell? ⟨q2, 1, none⟩ = some (.int .i64 0) := (blk_cell BKq2.out 1).trans rfl; have fa0 : w3.frozen? ⟨q2, 0, none⟩ = false := blk_frozen BKq2.out 0; have fa1 : w3.frozen? ⟨q2, 1, none⟩ = false := blk_frozen BKq2.out 1; refine store_event (t := 26) (p := 5) (v := ?vo5_4_1_n3) (w1 := Cells.setAll w3 q2 0 [.string m, .int .i64 nb]) ?hg ?ho ?hn ?hr ?_; (case ho => rfl); (case hg => rfl); (case hn => rfl); (case hr => first | (go_simp; done) | (go_simp; rfl)); intro w4 hw; have BKq1 := Aside0.mk (show w4.heap[q1]? = _ from (congrArg (fun W : World => W.heap[q1]?) hw).trans ((Cells.setAll_far HNq1q2.out _ _ _).trans BKq1.out)); have HB4 := Aside0.mk (show Below w.heap.size w w4 from by rw [hw]; exact Cells.setAll_below HQq2.out _ _ _ HB3.out); have BKq2 := Aside0.mk (show w4.heap[q2]? = some (.cells #[.string m, .int .i64 nb] 26 (0, 0)) from by rw [hw]; exact Cells.stored2 BKq2.out); clear ca0 ca1 fa0 fa1; have z0 : w4.cell? ⟨q1, 0, none⟩ = some (.string a) := (blk_cell BKq1.out 0).trans rfl; have z1 : w4.cell? ⟨q1, 1, none⟩ = some (.int .i64 nb) := (blk_cell BKq1.out 1).trans rfl; have z2 : w4.cell? ⟨q1, 2, none⟩ = some (.string via) := (blk_cell BKq1.out 2).trans rfl; have z3 : w4.cell? ⟨q1, 3, none⟩ = some (.int .i64 port) := (blk_cell BKq1.out 3).trans rfl; have y0 : w4.cell? ⟨q2, 0, none⟩ = some (.string m) := (blk_cell BKq2.out 0).trans rfl; have y1 : w4.cell? ⟨q2, 1, none⟩ = some (.int .i64 nb) := (blk_cell BKq2.out 1).trans rfl; clear hw) | ((with_reducible refine gate_store (t := 26) (p := 38) rfl ?_); have HNq2q1 := Aside0.mk (Ne.symm HNq1q2.out); have fa0 : w4.frozen? ⟨q1, 0, none⟩ = false := blk_frozen BKq1.out 0; have fa1 : w4.frozen? ⟨q1, 1, none⟩ = false := blk_frozen BKq1.out 1; refine store_event (t := 26) (p := 38) (v := ?vo38_5_2_n4) (w1 := Cells.setAll w4 q1 0 [.string m, .int .i64 nb]) ?hg ?ho ?hn ?hr ?_; (case ho => rfl); (case hg => rfl); (case hn => rfl); (case hr => first | (go_simp; done) | (go_simp; rfl)); intro w5 hw; have BKq2 := Aside0.mk (show w5.heap[q2]? = _ from (congrArg (fun W : World => W.heap[q2]?) hw).trans ((Cells.setAll_far HNq2q1.out _ _ _).trans BKq2.out)); have HB5 := Aside0.mk (show Below w.heap.size w w5 from by rw [hw]; exact Cells.setAll_below HQq1.out _ _ _ HB4.out); have BKq1 := Aside0.mk (show w5.heap[q1]? = some (.cells #[.string m, .int .i64 nb, .string via, .int .i64 port] 28 (0, 0)) from by rw [hw]; exact (Cells.setAll_blk _ _ _ _ BKq1.out).trans rfl); clear fa0 fa1 y0 y1; have y0 : w5.cell? ⟨q2, 0, none⟩ = some (.string m) := (blk_cell BKq2.out 0).trans rfl; have y1 : w5.cell? ⟨q2, 1, none⟩ = some (.int .i64 nb) := (blk_cell BKq2.out 1).trans rfl; clear hw))
    clear z0 z1 z2 z3
    refine (BW.out ⟨m, nb⟩ _ HB5.out).mono ?_
    rintro e w6 ⟨⟨bi, bb, rfl, hbs⟩, hb⟩
    have BKq1 := Aside0.mk (blk_below BKq1.out hb)
    have HB6 := Aside0.mk (HB5.out.trans (hb.mono HB5.out.size))
    have HBS := Aside0.mk hbs
    clear hb hbs y0 y1
    cases bb
    · have x0 := TB.out _ HB6.out
      by_cases h64 : 64 ≤ n
      · have d64 : decide ((64 : Int) ≤ (n : Int)) = true := decide_eq_true (by omega)
        go_wp2_with (fail)
        go_ret
        exact ⟨_, _, _, rfl, Or.inr ⟨HBD.out, bi, false, by rw [HNR.out]; exact HBS.out, Or.inr (Or.inl ⟨rfl, by rw [HN.out]; exact h64, rfl, rfl⟩)⟩, HO.out.below HB6.out, Turn.of_below HB6.out _ _⟩
      · have d64 : decide ((64 : Int) ≤ (n : Int)) = false := decide_eq_false (by omega)
        have hbi : bi ≤ n := by rw [← HN.out]; exact HBS.out.1
        have hbiI : (bi : Int) ≤ (n : Int) := by omega
        have hbc : bi ≤ c := by omega
        have hcI : (n : Int) ≤ (c : Int) := by omega
        have HLEN := Aside0.mk (show (l.take bi).length = bi ∧ (l.drop bi).length = n - bi ∧ n ≤ 1000 from ⟨by rw [List.length_take, HN.out]; omega, by rw [List.length_drop, HN.out], hlim⟩)
        have HTK := Aside0.mk (show k28.C w6 A bi (l.take bi) from by
          have h := Kd.C_take (m := bi) ((HC.out _ HB6.out).row) (by rw [HN.out]; exact hbi)
          rwa [HLEN.out.1] at h)
        have HDK := Aside0.mk (show ∀ W, Below w.heap.size w W → k28.C W (if c = bi then A else A.map (·.add (bi * 4))) (n - bi) (l.drop bi) from fun W hW => by
          have h := Kd.C_drop (m := bi) ((HC.out _ hW).row) (by rw [HN.out]; exact hbi) (c := c) (by rw [HN.out]; exact hnc)
          rwa [HLEN.out.2.1] at h)
        clear x0
        by_cases hcb : c = bi
        · subst hcb
          obtain rfl : n = c := by omega
          rw [if_pos rfl, Nat.sub_self] at HDK
          clear hbc hcI hbiI hnc hbi
          have x0 := TB.out _ HB6.out
          have y0 : w6.cell? ⟨q1, 0, none⟩ = some (.string m) := (blk_cell BKq1.out 0).trans rfl
          have y1 : w6.cell? ⟨q1, 1, none⟩ = some (.int .i64 nb) := (blk_cell BKq1.out 1).trans rfl
          have y2 : w6.cell? ⟨q1, 2, none⟩ = some (.string via) := (blk_cell BKq1.out 2).trans rfl
          have y3 : w6.cell? ⟨q1, 3, none⟩ = some (.int .i64 port) := (blk_cell BKq1.out 3).trans rfl
          go_wp2_with (first | ((with_reducible refine gate_builtin (b := .append) (xs := #[.tmp 59, .tmp 65]) rfl ?_); at_builtin; refine Kd.R_append_rows k28 (Rr := k28.K w6) (w0 := w) w.heap.size rfl (.tmp 59) (.tmp 65) 22 28 (.agg #[.string ByteArray.empty, .int .i64 0, .string ByteArray.empty, .int .i64 0]) 48 rfl Try.underlying22 info28 rfl (by decide) (by decide) (.slice none 0 0) [] (l.take n) A n n (fun _ => True) (fun _ => False) rfl rfl (Kd.R_nil k28 28 w6 w.heap.size _) HTK.out (fun _ _ h => by rw [k28_open h]; exact k28_mkM _ _ _ _) (fun _ h => h.elim) (fun _ _ => trivial) HB6.out HB6.out.size ?aL7 ?_; (case aL7 => have h1 := HLEN.out; have h2 := HN.out; simp; omega); intro v7 w7 ho hb hg hat; have HO7 := Aside0.mk ho; have HB7 := Aside0.mk hb; have BKq1 := Aside0.mk (blk_grown BKq1.out hg (by simp [Value.ownBlock])); clear ho hb hg hat; have y0 : w7.cell? ⟨q1, 0, none⟩ = some (.string m) := (blk_cell BKq1.out 0).trans rfl; have y1 : w7.cell? ⟨q1, 1, none⟩ = some (.int .i64 nb) := (blk_cell BKq1.out 1).trans rfl; have y2 : w7.cell? ⟨q1, 2, none⟩ = some (.string via) := (blk_cell BKq1.out 2).trans rfl; have y3 : w7.cell? ⟨q1, 3, none⟩ = some (.int .i64 port) := (blk_cell BKq1.out 3).trans rfl; have x0 := TB.out _ HB7.out; have HO7 := Aside0.mk (show k28.R 28 w7 w.heap.size (fun _ => True) v7 (l.take n) from HO7.out)) | ((with_reducible refine gate_dst (N := 69) rfl ?_); refine make_event ?hg (N := 69) ?hd (cs := #[.string m, .int .i64 nb, .string via, .int .i64 port]) (t := 28) (n := 1) (c := 1) ?hr ?_; (case hd => rfl); (case hg => rfl); (case hr => first | (go_simp; done) | (go_simp; rfl)); intro q3 hq w8 hbox hb; have HNq1q3 := Aside0.mk (show q1 ≠ q3 from by have := blk_lt BKq1.out; omega); have BKq1 := Aside0.mk (blk_below BKq1.out hb); have BKq3 := Aside0.mk hbox; have HQq3 := Aside0.mk (show w.heap.size ≤ q3 from by rw [hq]; exact HB7.out.size); have HB8 := Aside0.mk (HB7.out.trans (hb.mono HB7.out.size)); have HO8 := Aside0.mk (Kd.R_below HO7.out hb); clear x0; clear hbox hb hq) | ((with_reducible refine gate_builtin (b := .append) (xs := #[.tmp 67, .tmp 69]) rfl ?_); at_builtin; refine Kd.R_append_rows k28 (Rr := k28.K w8) (w0 := w) w.heap.size rfl (.tmp 67) (.tmp 69) 22 28 (.agg #[.string ByteArray.empty, .int .i64 0, .string ByteArray.empty, .int .i64 0]) 48 rfl Try.underlying22 info28 rfl (by decide) (by decide) v7 (l.take n) [(⟨⟨m, nb⟩, via, port⟩ : S28)] (some ⟨q3, 0, none⟩) 1 1 (fun _ => True) (fun _ => False) rfl rfl HO8.out (one_C BKq3.out) (fun _ _ h => by rw [k28_open h]; exact k28_mkM _ _ _ _) (fun _ h => h.elim) (fun _ _ => trivial) HB8.out HB8.out.size ?aL9 ?_; (case aL9 => have h1 := HLEN.out; have h2 := HN.out; simp; omega); intro v9 w9 ho hb hg hat; have HO9 := Aside0.mk ho; have HB9 := Aside0.mk hb; clear ho hb hg hat; have x0 := TB.out _ HB9.out; have HDR := Aside0.mk (HDK.out _ HB9.out)) | ((with_reducible refine gate_builtin (b := .append) (xs := #[.tmp 71, .tmp 77]) rfl ?_); at_builtin; refine Kd.R_append_rows k28 (Rr := k28.K w9) (w0 := w) w.heap.size rfl (.tmp 71) (.tmp 77) 22 28 (.agg #[.string ByteArray.empty, .int .i64 0, .string ByteArray.empty, .int .i64 0]) 48 rfl Try.underlying22 info28 rfl (by decide) (by decide) v9 (l.take n ++ [(⟨⟨m, nb⟩, via, port⟩ : S28)]) (l.drop n) A 0 0 (fun _ => True) (fun _ => False) rfl rfl HO9.out HDR.out (fun _ _ h => by rw [k28_open h]; exact k28_mkM _ _ _ _) (fun _ h => h.elim) (fun _ _ => trivial) HB9.out HB9.out.size ?aL10 ?_; (case aL10 => have h1 := HLEN.out; have h2 := HN.out; simp; omega); intro v10 w10 ho hb hg hat; have HO10 := Aside0.mk ho; have HB10 := Aside0.mk hb; clear ho hb hg hat; have BQ := Aside0.mk (HO.out.below HB10.out).blk; have c0 : w10.cell? ⟨q, 0, none⟩ = some (.slice A n n) := (blk_cell BQ.out 0).trans rfl; have f0 : w10.frozen? ⟨q, 0, none⟩ = false := blk_frozen BQ.out 0; obtain ⟨A', c', hv10⟩ := Kd.R_slice HO10.out; obtain ⟨L, hL⟩ : ∃ L, (l.take n ++ [(⟨⟨m, nb⟩, via, port⟩ : S28)] ++ l.drop n).length = L := ⟨_, rfl⟩; rw [hL] at hv10; clear hL; subst hv10; clear x0))
          have HT := Aside0.mk (show TabX (w10.setCell ⟨q, 0, none⟩ (.slice A' L c')) base q (.slice A' L c') (l.take n ++ (⟨⟨m, nb⟩, via, port⟩ : S28) :: l.drop n) ∧ Turn w (w10.setCell ⟨q, 0, none⟩ (.slice A' L c')) q (.slice A n n) (.slice A' L c') from by
            have ho := own_of_R HO10.out
            have hq := own_neT ho BQ.out (by decide)
            refine ⟨⟨(blk_set BQ.out 0 _).trans rfl, ?_, HO.out.low⟩, HB10.out.os, HB10.out.tape, HB10.out.output, ?_, fun k hk h1 h2 => ?_, ?_⟩
            · have h3 := own_setCell (own_less ho (show base ≤ w.heap.size by have := HO.out.low; have := HQL.out; omega)) (p := ⟨q, 0, none⟩) hq (.slice A' L c')
              rw [show l.take n ++ [(⟨⟨m, nb⟩, via, port⟩ : S28)] ++ l.drop n = l.take n ++ (⟨⟨m, nb⟩, via, port⟩ : S28) :: l.drop n by simp] at h3
              exact h3
            · have e : (w10.setCell ⟨q, 0, none⟩ (.slice A' L c')).heap.size = w10.heap.size := by simp [World.setCell]
              rw [e]
              exact HB10.out.size
            · exact (Below.heap_setCell w10 ⟨q, 0, none⟩ _ k h1).trans (HB10.out.block k hk)
            · exact fun k hk => .inr (own_base ho k hk))
          go_wp2_with (fail)
          go_ret
          exact ⟨_, _, _, rfl, Or.inr ⟨HBD.out, n, false, by rw [HNR.out]; exact HBS.out, Or.inr (Or.inr ⟨rfl, by rw [HN.out]; omega, rfl, by rw [HNR.out]⟩)⟩, HT.out⟩
        · have hcb' : ¬ (bi = c) := fun h => hcb h.symm
          rw [if_neg hcb] at HDK
          have x0 := TB.out _ HB6.out
          have y0 : w6.cell? ⟨q1, 0, none⟩ = some (.string m) := (blk_cell BKq1.out 0).trans rfl
          have y1 : w6.cell? ⟨q1, 1, none⟩ = some (.int .i64 nb) := (blk_cell BKq1.out 1).trans rfl
          have y2 : w6.cell? ⟨q1, 2, none⟩ = some (.string via) := (blk_cell BKq1.out 2).trans rfl
          have y3 : w6.cell? ⟨q1, 3, none⟩ = some (.int .i64 port) := (blk_cell BKq1.out 3).trans rfl
          go_wp2_with (first | ((with_reducible refine gate_builtin (b := .append) (xs := #[.tmp 59, .tmp 65]) rfl ?_); at_builtin; refine Kd.R_append_rows k28 (Rr := k28.K w6) (w0 := w) w.heap.size rfl (.tmp 59) (.tmp 65) 22 28 (.agg #[.string ByteArray.empty, .int .i64 0, .string ByteArray.empty, .int .i64 0]) 48 rfl Try.underlying22 info28 rfl (by decide) (by decide) (.slice none 0 0) [] (l.take bi) A bi c (fun _ => True) (fun _ => False) rfl rfl (Kd.R_nil k28 28 w6 w.heap.size _) HTK.out (fun _ _ h => by rw [k28_open h]; exact k28_mkM _ _ _ _) (fun _ h => h.elim) (fun _ _ => trivial) HB6.out HB6.out.size ?aL7 ?_; (case aL7 => have h1 := HLEN.out; have h2 := HN.out; simp; omega); intro v7 w7 ho hb hg hat; have HO7 := Aside0.mk ho; have HB7 := Aside0.mk hb; have BKq1 := Aside0.mk (blk_grown BKq1.out hg (by simp [Value.ownBlock])); clear ho hb hg hat; have y0 : w7.cell? ⟨q1, 0, none⟩ = some (.string m) := (blk_cell BKq1.out 0).trans rfl; have y1 : w7.cell? ⟨q1, 1, none⟩ = some (.int .i64 nb) := (blk_cell BKq1.out 1).trans rfl; have y2 : w7.cell? ⟨q1, 2, none⟩ = some (.string via) := (blk_cell BKq1.out 2).trans rfl; have y3 : w7.cell? ⟨q1, 3, none⟩ = some (.int .i64 port) := (blk_cell BKq1.out 3).trans rfl; have x0 := TB.out _ HB7.out; have HO7 := Aside0.mk (show k28.R 28 w7 w.heap.size (fun _ => True) v7 (l.take bi) from HO7.out)) | ((with_reducible refine gate_dst (N := 69) rfl ?_); refine make_event ?hg (N := 69) ?hd (cs := #[.string m, .int .i64 nb, .string via, .int .i64 port]) (t := 28) (n := 1) (c := 1) ?hr ?_; (case hd => rfl); (case hg => rfl); (case hr => first | (go_simp; done) | (go_simp; rfl)); intro q3 hq w8 hbox hb; have HNq1q3 := Aside0.mk (show q1 ≠ q3 from by have := blk_lt BKq1.out; omega); have BKq1 := Aside0.mk (blk_below BKq1.out hb); have BKq3 := Aside0.mk hbox; have HQq3 := Aside0.mk (show w.heap.size ≤ q3 from by rw [hq]; exact HB7.out.size); have HB8 := Aside0.mk (HB7.out.trans (hb.mono HB7.out.size)); have HO8 := Aside0.mk (Kd.R_below HO7.out hb); clear x0; clear hbox hb hq) | ((with_reducible refine gate_builtin (b := .append) (xs := #[.tmp 67, .tmp 69]) rfl ?_); at_builtin; refine Kd.R_append_rows k28 (Rr := k28.K w8) (w0 := w) w.heap.size rfl (.tmp 67) (.tmp 69) 22 28 (.agg #[.string ByteArray.empty, .int .i64 0, .string ByteArray.empty, .int .i64 0]) 48 rfl Try.underlying22 info28 rfl (by decide) (by decide) v7 (l.take bi) [(⟨⟨m, nb⟩, via, port⟩ : S28)] (some ⟨q3, 0, none⟩) 1 1 (fun _ => True) (fun _ => False) rfl rfl HO8.out (one_C BKq3.out) (fun _ _ h => by rw [k28_open h]; exact k28_mkM _ _ _ _) (fun _ h => h.elim) (fun _ _ => trivial) HB8.out HB8.out.size ?aL9 ?_; (case aL9 => have h1 := HLEN.out; have h2 := HN.out; simp; omega); intro v9 w9 ho hb hg hat; have HO9 := Aside0.mk ho; have HB9 := Aside0.mk hb; clear ho hb hg hat; have x0 := TB.out _ HB9.out; have HDR := Aside0.mk (HDK.out _ HB9.out)) | ((with_reducible refine gate_builtin (b := .append) (xs := #[.tmp 71, .tmp 77]) rfl ?_); at_builtin; refine Kd.R_append_rows k28 (Rr := k28.K w9) (w0 := w) w.heap.size rfl (.tmp 71) (.tmp 77) 22 28 (.agg #[.string ByteArray.empty, .int .i64 0, .string ByteArray.empty, .int .i64 0]) 48 rfl Try.underlying22 info28 rfl (by decide) (by decide) v9 (l.take bi ++ [(⟨⟨m, nb⟩, via, port⟩ : S28)]) (l.drop bi) (A.map (·.add (bi * 4))) (n - bi) (c - bi) (fun _ => True) (fun _ => False) rfl rfl HO9.out HDR.out (fun _ _ h => by rw [k28_open h]; exact k28_mkM _ _ _ _) (fun _ h => h.elim) (fun _ _ => trivial) HB9.out HB9.out.size ?aL10 ?_; (case aL10 => have h1 := HLEN.out; have h2 := HN.out; simp; omega); intro v10 w10 ho hb hg hat; have HO10 := Aside0.mk ho; have HB10 := Aside0.mk hb; clear ho hb hg hat; have BQ := Aside0.mk (HO.out.below HB10.out).blk; have c0 : w10.cell? ⟨q, 0, none⟩ = some (.slice A n c) := (blk_cell BQ.out 0).trans rfl; have f0 : w10.frozen? ⟨q, 0, none⟩ = false := blk_frozen BQ.out 0; obtain ⟨A', c', hv10⟩ := Kd.R_slice HO10.out; obtain ⟨L, hL⟩ : ∃ L, (l.take bi ++ [(⟨⟨m, nb⟩, via, port⟩ : S28)] ++ l.drop bi).length = L := ⟨_, rfl⟩; rw [hL] at hv10; clear hL; subst hv10; clear x0))
          have HT := Aside0.mk (show TabX (w10.setCell ⟨q, 0, none⟩ (.slice A' L c')) base q (.slice A' L c') (l.take bi ++ (⟨⟨m, nb⟩, via, port⟩ : S28) :: l.drop bi) ∧ Turn w (w10.setCell ⟨q, 0, none⟩ (.slice A' L c')) q (.slice A n c) (.slice A' L c') from by
            have ho := own_of_R HO10.out
            have hq := own_neT ho BQ.out (by decide)
            refine ⟨⟨(blk_set BQ.out 0 _).trans rfl, ?_, HO.out.low⟩, HB10.out.os, HB10.out.tape, HB10.out.output, ?_, fun k hk h1 h2 => ?_, ?_⟩
            · have h3 := own_setCell (own_less ho (show base ≤ w.heap.size by have := HO.out.low; have := HQL.out; omega)) (p := ⟨q, 0, none⟩) hq (.slice A' L c')
              rw [show l.take bi ++ [(⟨⟨m, nb⟩, via, port⟩ : S28)] ++ l.drop bi = l.take bi ++ (⟨⟨m, nb⟩, via, port⟩ : S28) :: l.drop bi by simp] at h3
              exact h3
            · have e : (w10.setCell ⟨q, 0, none⟩ (.slice A' L c')).heap.size = w10.heap.size := by simp [World.setCell]
              rw [e]
              exact HB10.out.size
            · exact (Below.heap_setCell w10 ⟨q, 0, none⟩ _ k h1).trans (HB10.out.block k hk)
            · exact fun k hk => .inr (own_base ho k hk))
          go_wp2_with (fail)
          go_ret
          exact ⟨_, _, _, rfl, Or.inr ⟨HBD.out, bi, false, by rw [HNR.out]; exact HBS.out, Or.inr (Or.inr ⟨rfl, by rw [HN.out]; omega, rfl, by rw [HNR.out]⟩)⟩, HT.out⟩
    · have hbi : bi < n := by
        have h0 := HBS.out.2.2.2
        have h1 : bi < l.length := by
          cases hd : decide (bi < l.length) with
          | true => exact of_decide_eq_true hd
          | false => rw [hd] at h0; cases h0
        rw [HN.out] at h1
        exact h1
      have hbiI : (bi : Int) < (n : Int) := by omega
      obtain ⟨g, cur, hA, hnl, hgb, hgh, hgc, hgm, hgs, hgt⟩ := own_form (HO.out.below HB6.out).own (by rw [HN.out]; omega)
      subst hA
      have HGH := Aside0.mk hgh
      have HGS := Aside0.mk hgs
      have HGC := Aside0.mk hgc
      clear hgb hgh hgm hgs hgt hgc hnl
      have HT := Aside0.mk (show TabX (Cells.setAll w6 g (bi * 4) [.string m, .int .i64 nb, .string via, .int .i64 port]).drew base q (.slice (some ⟨g, 0, none⟩) n c) (l.set bi (normR ⟨⟨a, nb⟩, via, port⟩)) ∧ Turn w (Cells.setAll w6 g (bi * 4) [.string m, .int .i64 nb, .string via, .int .i64 port]).drew q (.slice (some ⟨g, 0, none⟩) n c) (.slice (some ⟨g, 0, none⟩) n c) from by
        have ht := HO.out.below HB6.out
        have hq : q ≠ g := fun e => own_neT ht.own ht.blk (by decide) (by rw [e]; rfl)
        rw [HNR.out]
        have h1 : TabX (Cells.setAll w6 g (bi * 4) (enc28 ⟨⟨m, nb⟩, via, port⟩)) base q (.slice (some ⟨g, 0, none⟩) n c) (l.set bi ⟨⟨m, nb⟩, via, port⟩) := ⟨(Cells.setAll_far hq _ _ _).trans ht.blk, own_put_row ht.own _ (by rw [HN.out]; exact hbi), ht.low⟩
        have h2 := setAll_turn (q := q) (v := .slice (some ⟨g, 0, none⟩) n c) HB6.out rfl (bi * 4) (enc28 ⟨⟨m, nb⟩, via, port⟩)
        exact ⟨h1.below (below_drew (Below.refl _ _)), h2.os, h2.tape, h2.output, h2.size, h2.block, h2.row⟩)
      have CE := Aside0.mk (show (∃ u, w6.cell? ⟨g, bi * 4, none⟩ = some u) ∧ (∃ u, w6.cell? ⟨g, bi * 4 + 1, none⟩ = some u) ∧ (∃ u, w6.cell? ⟨g, bi * 4 + 2, none⟩ = some u) ∧ (∃ u, w6.cell? ⟨g, bi * 4 + 3, none⟩ = some u) from by
        have hs := HGS.out
        have hc := HGC.out
        refine ⟨?_, ?_, ?_, ?_⟩ <;> (rw [blk_cell HGH.out]; exact ⟨_, Array.getElem?_eq_getElem (by omega)⟩))
      have FE := Aside0.mk (And.intro (blk_frozen HGH.out (bi * 4)) (And.intro (blk_frozen HGH.out (bi * 4 + 1)) (And.intro (blk_frozen HGH.out (bi * 4 + 2)) (blk_frozen HGH.out (bi * 4 + 3)))))
      clear hnc
      go_wp2_with (fail)
      refine start_ (n := 8) (S := fun W => Below w6.heap.size w6 W) (ds := [7]) #[false, false, false, false, false, false, false, false] (by kernel_rfl) rfl rfl (below_drew (Below.refl w6.heap.size w6)) (fun hHeld => ?_)
      refine pure_ (i := 0) (N := some 46) (v := ?_) (a' := ?_) #[true, false, false, false, false, false, false, false] rfl rfl (by kernel_rfl) (fun _ _ _ h => h) (Or.inl ⟨by rfl, ?_⟩) ?_ ?_
      rotate_left
      · intro w'
        go_simp
        with_reducible rfl
      rotate_left
      · simp only [Act.put, List.setIfInBounds_toArray, List.set_cons_zero, List.set_cons_succ]
        rfl
      refine pure_ (i := 1) (N := some 47) (v := ?_) (a' := ?_) #[true, true, false, false, false, false, false, false] rfl rfl (by kernel_rfl) (fun _ _ _ h => h) (Or.inl ⟨by rfl, ?_⟩) ?_ ?_
      rotate_left
      · intro w'
        go_simp
        with_reducible rfl
      rotate_left
      · simp only [Act.put, List.setIfInBounds_toArray, List.set_cons_zero, List.set_cons_succ]
        rfl
      refine pure_ (i := 2) (N := some 48) (v := ?_) (a' := ?_) #[true, true, true, false, false, false, false, false] rfl rfl (by kernel_rfl) (fun _ _ _ h => h) (Or.inl ⟨by rfl, ?_⟩) ?_ ?_
      rotate_left
      · intro w'
        go_simp
        with_reducible rfl
      rotate_left
      · simp only [Act.put, List.setIfInBounds_toArray, List.set_cons_zero, List.set_cons_succ]
        rfl
      refine take_ (i := 3) (N := some 49) (v := ?_) (a' := ?_) #[true, true, true, true, false, false, false, false] rfl rfl (by kernel_rfl) (fun _ _ _ h => h) (Or.inl ⟨by rfl, ?_⟩) hHeld ?_ ?_
      rotate_left
      · intro w' s0
        have x0 := TB.out _ (HB6.out.trans (s0.mono HB6.out.size))
        have BKt := Aside0.mk (blk_below BKq1.out s0)
        have y0 : w'.cell? ⟨q1, 0, none⟩ = some (.string m) := (blk_cell BKt.out 0).trans rfl
        have y1 : w'.cell? ⟨q1, 1, none⟩ = some (.int .i64 nb) := (blk_cell BKt.out 1).trans rfl
        have y2 : w'.cell? ⟨q1, 2, none⟩ = some (.string via) := (blk_cell BKt.out 2).trans rfl
        have y3 : w'.cell? ⟨q1, 3, none⟩ = some (.int .i64 port) := (blk_cell BKt.out 3).trans rfl
        go_simp
        with_reducible rfl
      rotate_left
      · simp only [Act.put, List.setIfInBounds_toArray, List.set_cons_zero, List.set_cons_succ]
        rfl
      refine pure_ (i := 4) (N := some 50) (v := ?_) (a' := ?_) #[true, true, true, true, true, false, false, false] rfl rfl (by kernel_rfl) (fun _ _ _ h => h) (Or.inl ⟨by rfl, ?_⟩) ?_ ?_
      rotate_left
      · intro w'
        go_simp
        with_reducible rfl
      rotate_left
      · simp only [Act.put, List.setIfInBounds_toArray, List.set_cons_zero, List.set_cons_succ]
        rfl
      refine take_ (i := 5) (N := some 51) (v := ?_) (a' := ?_) #[true, true, true, true, true, true, false, false] rfl rfl (by kernel_rfl) (fun _ _ _ h => h) (Or.inl ⟨by rfl, ?_⟩) hHeld ?_ ?_
      rotate_left
      · intro w' s0
        have x0 := TB.out _ (HB6.out.trans (s0.mono HB6.out.size))
        have BKt := Aside0.mk (blk_below BKq1.out s0)
        have y0 : w'.cell? ⟨q1, 0, none⟩ = some (.string m) := (blk_cell BKt.out 0).trans rfl
        have y1 : w'.cell? ⟨q1, 1, none⟩ = some (.int .i64 nb) := (blk_cell BKt.out 1).trans rfl
        have y2 : w'.cell? ⟨q1, 2, none⟩ = some (.string via) := (blk_cell BKt.out 2).trans rfl
        have y3 : w'.cell? ⟨q1, 3, none⟩ = some (.int .i64 port) := (blk_cell BKt.out 3).trans rfl
        go_simp
        with_reducible rfl
      rotate_left
      · simp only [Act.put, List.setIfInBounds_toArray, List.set_cons_zero, List.set_cons_succ]
        rfl
      refine pure_ (i := 6) (N := some 52) (v := ?_) (a' := ?_) #[true, true, true, true, true, true, true, false] rfl rfl (by kernel_rfl) (fun _ _ _ h => h) (Or.inl ⟨by rfl, ?_⟩) ?_ ?_
      rotate_left
      · intro w'
        go_simp
        with_reducible rfl
      rotate_left
      · simp only [Act.put, List.setIfInBounds_toArray, List.set_cons_zero, List.set_cons_succ]
        rfl
      refine last_ (i := 7) (N := none) #[true, true, true, true, true, true, true, true] rfl rfl (by kernel_rfl) (by decide) (fun K hK => ?_)
      refine skip_ (w1 := (Cells.setAll w6 g (bi * 4) [.string m, .int .i64 nb, .string via, .int .i64 port]).drew) (by rfl) rfl ?_ ?_
      · obtain ⟨⟨u0, c0⟩, ⟨u1, c1⟩, ⟨u2, c2⟩, ⟨u3, c3⟩⟩ := CE.out
        obtain ⟨f0, f1, f2, f3⟩ := FE.out
        go_simp
        rfl
      refine hK.out _ _ ?_
      clear hK K
      refine done_ (by kernel_rfl) ?_
      (try simp only [Exit.inBlock, Exit.then])
      go_wp2_with (fail)
      go_ret
      exact ⟨_, _, _, rfl, Or.inr ⟨HBD.out, bi, true, by rw [HNR.out]; exact HBS.out, Or.inl ⟨rfl, rfl, rfl⟩⟩, HT.out⟩
set_option maxHeartbeats 1600000 in
set_option maxRecDepth 100000 in
theorem radd_bad (base q : Nat) (v : Value) (l : List S28) (a via : ByteArray) (nb port : Int) (w : World) (h : TabX w base q v l) (ha : a.size ≤ 140737488351232) (hbad : badR ⟨⟨a, nb⟩, via, port⟩) :
    Calls Try.prog 18 #[.pointer (some ⟨q, 0, none⟩), .agg #[.string a, .int .i64 nb, .string via, .int .i64 port]] w (RAddQ w base q v l ⟨⟨a, nb⟩, via, port⟩) := by
  have PW := Aside0.mk fun (W : World) => rprefix_walk a nb W ha
  have HF := Aside0.mk (show ∀ w', Below w.heap.size w w' → RAddQ w base q v l ⟨⟨a, nb⟩, via, port⟩ (.returned (.int .i64 1)) w' from fun w' hb => ⟨_, _, _, rfl, Or.inl ⟨hbad, rfl, rfl⟩, h.below hb, Turn.of_below hb _ _⟩)
  obtain ⟨m, hm⟩ : ∃ m, (maskE a nb).1 = m := ⟨_, rfl⟩
  obtain ⟨er, her⟩ : ∃ er, (maskE a nb).2 = er := ⟨_, rfl⟩
  unfold badR at hbad
  rw [hm, her] at hbad
  rw [hm, her] at PW
  obtain ⟨nv, hnv⟩ : ∃ k, via.size = k := ⟨_, rfl⟩
  obtain ⟨nm, hnm⟩ : ∃ k, m.size = k := ⟨_, rfl⟩
  have hnvI : (via.size : Int) = (nv : Int) := by rw [hnv]
  have hnmI : (m.size : Int) = (nm : Int) := by rw [hnm]
  rw [hnv, hnm] at hbad
  clear h ha hm her hnv hnm
  by_cases h1 : er = 0
  · subst h1
    have PW := Aside0.mk (show ∀ W, Calls Try.prog 30 #[.agg #[.string a, .int .i64 nb]] W fun e w' => e = .returned (.tuple #[.agg #[.string m, .int .i64 nb], .bool true]) ∧ Below W.heap.size W w' from PW.out)
    by_cases hv0 : via.toList = []
    · have hp0 : decide (port < 0) = true := decide_eq_true (by
        rcases hbad with h | h | h
        · exact absurd rfl h
        · exact absurd hv0 h.1
        · exact h)
      have hv1 : via.toList.isEmpty = true := by rw [hv0]; rfl
      clear hbad
      go_enter Try.func18, Try.ntmps18
      go_wp2_with (first | ((with_reducible refine gate_dst (N := 3) rfl ?_); refine box_event ?hg (N := 3) ?hd (cs := #[.string a, .int .i64 nb, .string via, .int .i64 port]) (t := 28) ?hr ?_; (case hd => rfl); (case hg => rfl); (case hr => first | (go_simp; done) | (go_simp; rfl)); intro q1 hq w1 hbox hb; have BKq1 := Aside0.mk hbox; have HQq1 := Aside0.mk (show w.heap.size ≤ q1 from by rw [hq]; exact Nat.le_refl _); have HB1 := Aside0.mk hb; clear hbox hb hq; have z0 : w1.cell? ⟨q1, 0, none⟩ = some (.string a) := (blk_cell BKq1.out 0).trans rfl; have z1 : w1.cell? ⟨q1, 1, none⟩ = some (.int .i64 nb) := (blk_cell BKq1.out 1).trans rfl; have z2 : w1.cell? ⟨q1, 2, none⟩ = some (.string via) := (blk_cell BKq1.out 2).trans rfl; have z3 : w1.cell? ⟨q1, 3, none⟩ = some (.int .i64 port) := (blk_cell BKq1.out 3).trans rfl))
      refine (PW.out _).mono ?_
      rintro e w2 ⟨rfl, hb⟩
      have BKq1 := Aside0.mk (blk_below BKq1.out hb)
      have HB2 := Aside0.mk (HB1.out.trans (hb.mono HB1.out.size))
      clear hb z0 z1 z2 z3
      have z0 : w2.cell? ⟨q1, 0, none⟩ = some (.string a) := (blk_cell BKq1.out 0).trans rfl; have z1 : w2.cell? ⟨q1, 1, none⟩ = some (.int .i64 nb) := (blk_cell BKq1.out 1).trans rfl; have z2 : w2.cell? ⟨q1, 2, none⟩ = some (.string via) := (blk_cell BKq1.out 2).trans rfl; have z3 : w2.cell? ⟨q1, 3, none⟩ = some (.int .i64 port) := (blk_cell BKq1.out 3).trans rfl
      go_wp2_with (first | ((with_reducible refine gate_dst (N := 5) rfl ?_); refine box_event ?hg (N := 5) ?hd (cs := #[.string ByteArray.empty, .int .i64 0]) (t := 26) ?hr ?_; (case hd => rfl); (case hg => rfl); (case hr => first | (go_simp; done) | (go_simp; rfl)); intro q2 hq w3 hbox hb; have HNq1q2 := Aside0.mk (show q1 ≠ q2 from by have := blk_lt BKq1.out; omega); have BKq1 := Aside0.mk (blk_below BKq1.out hb); have BKq2 := Aside0.mk hbox; have HQq2 := Aside0.mk (show w.heap.size ≤ q2 from by rw [hq]; exact HB2.out.size); have HB3 := Aside0.mk (HB2.out.trans (hb.mono HB2.out.size)); clear hbox hb hq) | ((with_reducible refine gate_store (t := 26) (p := 5) rfl ?_); have ca0 : w3.cell? ⟨q2, 0, none⟩ = some (.string ByteArray.empty) := (blk_cell BKq2.out 0).trans rfl; have ca1 : w3.cell? ⟨q2, 1, none⟩ = some (.int .i64 0) := (blk_cell BKq2.out 1).trans rfl; have fa0 : w3.frozen? ⟨q2, 0, none⟩ = false := blk_frozen BKq2.out 0; have fa1 : w3.frozen? ⟨q2, 1, none⟩ = false := blk_frozen BKq2.out 1; refine store_event (t := 26) (p := 5) (v := ?vo5_4_1_n5) (w1 := Cells.setAll w3 q2 0 [.string m, .int .i64 nb]) ?hg ?ho ?hn ?hr ?_; (case ho => rfl); (case hg => rfl); (case hn => rfl); (case hr => first | (go_simp; done) | (go_simp; rfl)); intro w4 hw; have BKq1 := Aside0.mk (show w4.heap[q1]? = _ from (congrArg (fun W : World => W.heap[q1]?) hw).trans ((Cells.setAll_far HNq1q2.out _ _ _).trans BKq1.out)); have HB4 := Aside0.mk (show Below w.heap.size w w4 from by rw [hw]; exact Cells.setAll_below HQq2.out _ _ _ HB3.out); have BKq2 := Aside0.mk (show w4.heap[q2]? = some (.cells #[.string m, .int .i64 nb] 26 (0, 0)) from by rw [hw]; exact Cells.stored2 BKq2.out); clear ca0 ca1 fa0 fa1; have z0 : w4.cell? ⟨q1, 0, none⟩ = some (.string a) := (blk_cell BKq1.out 0).trans rfl; have z1 : w4.cell? ⟨q1, 1, none⟩ = some (.int .i64 nb) := (blk_cell BKq1.out 1).trans rfl; have z2 : w4.cell? ⟨q1, 2, none⟩ = some (.string via) := (blk_cell BKq1.out 2).trans rfl; have z3 : w4.cell? ⟨q1, 3, none⟩ = some (.int .i64 port) := (blk_cell BKq1.out 3).trans rfl; have y0 : w4.cell? ⟨q2, 0, none⟩ = some (.string m) := (blk_cell BKq2.out 0).trans rfl; have y1 : w4.cell? ⟨q2, 1, none⟩ = some (.int .i64 nb) := (blk_cell BKq2.out 1).trans rfl; clear hw))
      go_ret
      exact HF.out _ HB4.out
    · have hv1 : via.toList.isEmpty = false := by cases hh : via.toList with | nil => exact absurd hh hv0 | cons x xs => rfl
      by_cases hsz : nv = nm
      · subst hsz
        have hp0 : decide (port < 0) = true := decide_eq_true (by
          rcases hbad with h | h | h
          · exact absurd rfl h
          · exact absurd rfl h.2
          · exact h)
        clear hbad
        go_enter Try.func18, Try.ntmps18
        go_wp2_with (first | ((with_reducible refine gate_dst (N := 3) rfl ?_); refine box_event ?hg (N := 3) ?hd (cs := #[.string a, .int .i64 nb, .string via, .int .i64 port]) (t := 28) ?hr ?_; (case hd => rfl); (case hg => rfl); (case hr => first | (go_simp; done) | (go_simp; rfl)); intro q1 hq w1 hbox hb; have BKq1 := Aside0.mk hbox; have HQq1 := Aside0.mk (show w.heap.size ≤ q1 from by rw [hq]; exact Nat.le_refl _); have HB1 := Aside0.mk hb; clear hbox hb hq; have z0 : w1.cell? ⟨q1, 0, none⟩ = some (.string a) := (blk_cell BKq1.out 0).trans rfl; have z1 : w1.cell? ⟨q1, 1, none⟩ = some (.int .i64 nb) := (blk_cell BKq1.out 1).trans rfl; have z2 : w1.cell? ⟨q1, 2, none⟩ = some (.string via) := (blk_cell BKq1.out 2).trans rfl; have z3 : w1.cell? ⟨q1, 3, none⟩ = some (.int .i64 port) := (blk_cell BKq1.out 3).trans rfl))
        refine (PW.out _).mono ?_
        rintro e w2 ⟨rfl, hb⟩
        have BKq1 := Aside0.mk (blk_below BKq1.out hb)
        have HB2 := Aside0.mk (HB1.out.trans (hb.mono HB1.out.size))
        clear hb z0 z1 z2 z3
        have z0 : w2.cell? ⟨q1, 0, none⟩ = some (.string a) := (blk_cell BKq1.out 0).trans rfl; have z1 : w2.cell? ⟨q1, 1, none⟩ = some (.int .i64 nb) := (blk_cell BKq1.out 1).trans rfl; have z2 : w2.cell? ⟨q1, 2, none⟩ = some (.string via) := (blk_cell BKq1.out 2).trans rfl; have z3 : w2.cell? ⟨q1, 3, none⟩ = some (.int .i64 port) := (blk_cell BKq1.out 3).trans rfl
        go_wp2_with (first | ((with_reducible refine gate_dst (N := 5) rfl ?_); refine box_event ?hg (N := 5) ?hd (cs := #[.string ByteArray.empty, .int .i64 0]) (t := 26) ?hr ?_; (case hd => rfl); (case hg => rfl); (case hr => first | (go_simp; done) | (go_simp; rfl)); intro q2 hq w3 hbox hb; have HNq1q2 := Aside0.mk (show q1 ≠ q2 from by have := blk_lt BKq1.out; omega); have BKq1 := Aside0.mk (blk_below BKq1.out hb); have BKq2 := Aside0.mk hbox; have HQq2 := Aside0.mk (show w.heap.size ≤ q2 from by rw [hq]; exact HB2.out.size); have HB3 := Aside0.mk (HB2.out.trans (hb.mono HB2.out.size)); clear hbox hb hq) | ((with_reducible refine gate_store (t := 26) (p := 5) rfl ?_); have ca0 : w3.cell? ⟨q2, 0, none⟩ = some (.string ByteArray.empty) := (blk_cell BKq2.out 0).trans rfl; have ca1 : w3.cell? ⟨q2, 1, none⟩ = some (.int .i64 0) := (blk_cell BKq2.out 1).trans rfl; have fa0 : w3.frozen? ⟨q2, 0, none⟩ = false := blk_frozen BKq2.out 0; have fa1 : w3.frozen? ⟨q2, 1, none⟩ = false := blk_frozen BKq2.out 1; refine store_event (t := 26) (p := 5) (v := ?vo5_4_1_n6) (w1 := Cells.setAll w3 q2 0 [.string m, .int .i64 nb]) ?hg ?ho ?hn ?hr ?_; (case ho => rfl); (case hg => rfl); (case hn => rfl); (case hr => first | (go_simp; done) | (go_simp; rfl)); intro w4 hw; have BKq1 := Aside0.mk (show w4.heap[q1]? = _ from (congrArg (fun W : World => W.heap[q1]?) hw).trans ((Cells.setAll_far HNq1q2.out _ _ _).trans BKq1.out)); have HB4 := Aside0.mk (show Below w.heap.size w w4 from by rw [hw]; exact Cells.setAll_below HQq2.out _ _ _ HB3.out); have BKq2 := Aside0.mk (show w4.heap[q2]? = some (.cells #[.string m, .int .i64 nb] 26 (0, 0)) from by rw [hw]; exact Cells.stored2 BKq2.out); clear ca0 ca1 fa0 fa1; have z0 : w4.cell? ⟨q1, 0, none⟩ = some (.string a) := (blk_cell BKq1.out 0).trans rfl; have z1 : w4.cell? ⟨q1, 1, none⟩ = some (.int .i64 nb) := (blk_cell BKq1.out 1).trans rfl; have z2 : w4.cell? ⟨q1, 2, none⟩ = some (.string via) := (blk_cell BKq1.out 2).trans rfl; have z3 : w4.cell? ⟨q1, 3, none⟩ = some (.int .i64 port) := (blk_cell BKq1.out 3).trans rfl; have y0 : w4.cell? ⟨q2, 0, none⟩ = some (.string m) := (blk_cell BKq2.out 0).trans rfl; have y1 : w4.cell? ⟨q2, 1, none⟩ = some (.int .i64 nb) := (blk_cell BKq2.out 1).trans rfl; clear hw))
        go_ret
        exact HF.out _ HB4.out
      · have hszI : ¬ (nv : Int) = (nm : Int) := by omega
        have hszB : ((nv : Int) != (nm : Int)) = true := by rw [bne_iff_ne]; exact hszI
        clear hbad
        go_enter Try.func18, Try.ntmps18
        go_wp2_with (first | ((with_reducible refine gate_dst (N := 3) rfl ?_); refine box_event ?hg (N := 3) ?hd (cs := #[.string a, .int .i64 nb, .string via, .int .i64 port]) (t := 28) ?hr ?_; (case hd => rfl); (case hg => rfl); (case hr => first | (go_simp; done) | (go_simp; rfl)); intro q1 hq w1 hbox hb; have BKq1 := Aside0.mk hbox; have HQq1 := Aside0.mk (show w.heap.size ≤ q1 from by rw [hq]; exact Nat.le_refl _); have HB1 := Aside0.mk hb; clear hbox hb hq; have z0 : w1.cell? ⟨q1, 0, none⟩ = some (.string a) := (blk_cell BKq1.out 0).trans rfl; have z1 : w1.cell? ⟨q1, 1, none⟩ = some (.int .i64 nb) := (blk_cell BKq1.out 1).trans rfl; have z2 : w1.cell? ⟨q1, 2, none⟩ = some (.string via) := (blk_cell BKq1.out 2).trans rfl; have z3 : w1.cell? ⟨q1, 3, none⟩ = some (.int .i64 port) := (blk_cell BKq1.out 3).trans rfl))
        refine (PW.out _).mono ?_
        rintro e w2 ⟨rfl, hb⟩
        have BKq1 := Aside0.mk (blk_below BKq1.out hb)
        have HB2 := Aside0.mk (HB1.out.trans (hb.mono HB1.out.size))
        clear hb z0 z1 z2 z3
        have z0 : w2.cell? ⟨q1, 0, none⟩ = some (.string a) := (blk_cell BKq1.out 0).trans rfl; have z1 : w2.cell? ⟨q1, 1, none⟩ = some (.int .i64 nb) := (blk_cell BKq1.out 1).trans rfl; have z2 : w2.cell? ⟨q1, 2, none⟩ = some (.string via) := (blk_cell BKq1.out 2).trans rfl; have z3 : w2.cell? ⟨q1, 3, none⟩ = some (.int .i64 port) := (blk_cell BKq1.out 3).trans rfl
        go_wp2_with (first | ((with_reducible refine gate_dst (N := 5) rfl ?_); refine box_event ?hg (N := 5) ?hd (cs := #[.string ByteArray.empty, .int .i64 0]) (t := 26) ?hr ?_; (case hd => rfl); (case hg => rfl); (case hr => first | (go_simp; done) | (go_simp; rfl)); intro q2 hq w3 hbox hb; have HNq1q2 := Aside0.mk (show q1 ≠ q2 from by have := blk_lt BKq1.out; omega); have BKq1 := Aside0.mk (blk_below BKq1.out hb); have BKq2 := Aside0.mk hbox; have HQq2 := Aside0.mk (show w.heap.size ≤ q2 from by rw [hq]; exact HB2.out.size); have HB3 := Aside0.mk (HB2.out.trans (hb.mono HB2.out.size)); clear hbox hb hq) | ((with_reducible refine gate_store (t := 26) (p := 5) rfl ?_); have ca0 : w3.cell? ⟨q2, 0, none⟩ = some (.string ByteArray.empty) := (blk_cell BKq2.out 0).trans rfl; have ca1 : w3.cell? ⟨q2, 1, none⟩ = some (.int .i64 0) := (blk_cell BKq2.out 1).trans rfl; have fa0 : w3.frozen? ⟨q2, 0, none⟩ = false := blk_frozen BKq2.out 0; have fa1 : w3.frozen? ⟨q2, 1, none⟩ = false := blk_frozen BKq2.out 1; refine store_event (t := 26) (p := 5) (v := ?vo5_4_1_n7) (w1 := Cells.setAll w3 q2 0 [.string m, .int .i64 nb]) ?hg ?ho ?hn ?hr ?_; (case ho => rfl); (case hg => rfl); (case hn => rfl); (case hr => first | (go_simp; done) | (go_simp; rfl)); intro w4 hw; have BKq1 := Aside0.mk (show w4.heap[q1]? = _ from (congrArg (fun W : World => W.heap[q1]?) hw).trans ((Cells.setAll_far HNq1q2.out _ _ _).trans BKq1.out)); have HB4 := Aside0.mk (show Below w.heap.size w w4 from by rw [hw]; exact Cells.setAll_below HQq2.out _ _ _ HB3.out); have BKq2 := Aside0.mk (show w4.heap[q2]? = some (.cells #[.string m, .int .i64 nb] 26 (0, 0)) from by rw [hw]; exact Cells.stored2 BKq2.out); clear ca0 ca1 fa0 fa1; have z0 : w4.cell? ⟨q1, 0, none⟩ = some (.string a) := (blk_cell BKq1.out 0).trans rfl; have z1 : w4.cell? ⟨q1, 1, none⟩ = some (.int .i64 nb) := (blk_cell BKq1.out 1).trans rfl; have z2 : w4.cell? ⟨q1, 2, none⟩ = some (.string via) := (blk_cell BKq1.out 2).trans rfl; have z3 : w4.cell? ⟨q1, 3, none⟩ = some (.int .i64 port) := (blk_cell BKq1.out 3).trans rfl; have y0 : w4.cell? ⟨q2, 0, none⟩ = some (.string m) := (blk_cell BKq2.out 0).trans rfl; have y1 : w4.cell? ⟨q2, 1, none⟩ = some (.int .i64 nb) := (blk_cell BKq2.out 1).trans rfl; clear hw))
        go_ret
        exact HF.out _ HB4.out
  · have h1B : (er == 0) = false := by rw [beq_eq_false_iff_ne]; exact h1
    rw [h1B] at PW
    clear hbad
    go_enter Try.func18, Try.ntmps18
    go_wp2_with (first | ((with_reducible refine gate_dst (N := 3) rfl ?_); refine box_event ?hg (N := 3) ?hd (cs := #[.string a, .int .i64 nb, .string via, .int .i64 port]) (t := 28) ?hr ?_; (case hd => rfl); (case hg => rfl); (case hr => first | (go_simp; done) | (go_simp; rfl)); intro q1 hq w1 hbox hb; have BKq1 := Aside0.mk hbox; have HQq1 := Aside0.mk (show w.heap.size ≤ q1 from by rw [hq]; exact Nat.le_refl _); have HB1 := Aside0.mk hb; clear hbox hb hq; have z0 : w1.cell? ⟨q1, 0, none⟩ = some (.string a) := (blk_cell BKq1.out 0).trans rfl; have z1 : w1.cell? ⟨q1, 1, none⟩ = some (.int .i64 nb) := (blk_cell BKq1.out 1).trans rfl; have z2 : w1.cell? ⟨q1, 2, none⟩ = some (.string via) := (blk_cell BKq1.out 2).trans rfl; have z3 : w1.cell? ⟨q1, 3, none⟩ = some (.int .i64 port) := (blk_cell BKq1.out 3).trans rfl))
    refine (PW.out _).mono ?_
    rintro e w2 ⟨rfl, hb⟩
    have BKq1 := Aside0.mk (blk_below BKq1.out hb)
    have HB2 := Aside0.mk (HB1.out.trans (hb.mono HB1.out.size))
    clear hb z0 z1 z2 z3
    have z0 : w2.cell? ⟨q1, 0, none⟩ = some (.string a) := (blk_cell BKq1.out 0).trans rfl; have z1 : w2.cell? ⟨q1, 1, none⟩ = some (.int .i64 nb) := (blk_cell BKq1.out 1).trans rfl; have z2 : w2.cell? ⟨q1, 2, none⟩ = some (.string via) := (blk_cell BKq1.out 2).trans rfl; have z3 : w2.cell? ⟨q1, 3, none⟩ = some (.int .i64 port) := (blk_cell BKq1.out 3).trans rfl
    go_wp2_with (first | ((with_reducible refine gate_dst (N := 5) rfl ?_); refine box_event ?hg (N := 5) ?hd (cs := #[.string ByteArray.empty, .int .i64 0]) (t := 26) ?hr ?_; (case hd => rfl); (case hg => rfl); (case hr => first | (go_simp; done) | (go_simp; rfl)); intro q2 hq w3 hbox hb; have HNq1q2 := Aside0.mk (show q1 ≠ q2 from by have := blk_lt BKq1.out; omega); have BKq1 := Aside0.mk (blk_below BKq1.out hb); have BKq2 := Aside0.mk hbox; have HQq2 := Aside0.mk (show w.heap.size ≤ q2 from by rw [hq]; exact HB2.out.size); have HB3 := Aside0.mk (HB2.out.trans (hb.mono HB2.out.size)); clear hbox hb hq) | ((with_reducible refine gate_store (t := 26) (p := 5) rfl ?_); have ca0 : w3.cell? ⟨q2, 0, none⟩ = some (.string ByteArray.empty) := (blk_cell BKq2.out 0).trans rfl; have ca1 : w3.cell? ⟨q2, 1, none⟩ = some (.int .i64 0) := (blk_cell BKq2.out 1).trans rfl; have fa0 : w3.frozen? ⟨q2, 0, none⟩ = false := blk_frozen BKq2.out 0; have fa1 : w3.frozen? ⟨q2, 1, none⟩ = false := blk_frozen BKq2.out 1; refine store_event (t := 26) (p := 5) (v := ?vo5_4_1_n8) (w1 := Cells.setAll w3 q2 0 [.string m, .int .i64 nb]) ?hg ?ho ?hn ?hr ?_; (case ho => rfl); (case hg => rfl); (case hn => rfl); (case hr => first | (go_simp; done) | (go_simp; rfl)); intro w4 hw; have BKq1 := Aside0.mk (show w4.heap[q1]? = _ from (congrArg (fun W : World => W.heap[q1]?) hw).trans ((Cells.setAll_far HNq1q2.out _ _ _).trans BKq1.out)); have HB4 := Aside0.mk (show Below w.heap.size w w4 from by rw [hw]; exact Cells.setAll_below HQq2.out _ _ _ HB3.out); have BKq2 := Aside0.mk (show w4.heap[q2]? = some (.cells #[.string m, .int .i64 nb] 26 (0, 0)) from by rw [hw]; exact Cells.stored2 BKq2.out); clear ca0 ca1 fa0 fa1; have z0 : w4.cell? ⟨q1, 0, none⟩ = some (.string a) := (blk_cell BKq1.out 0).trans rfl; have z1 : w4.cell? ⟨q1, 1, none⟩ = some (.int .i64 nb) := (blk_cell BKq1.out 1).trans rfl; have z2 : w4.cell? ⟨q1, 2, none⟩ = some (.string via) := (blk_cell BKq1.out 2).trans rfl; have z3 : w4.cell? ⟨q1, 3, none⟩ = some (.int .i64 port) := (blk_cell BKq1.out 3).trans rfl; have y0 : w4.cell? ⟨q2, 0, none⟩ = some (.string m) := (blk_cell BKq2.out 0).trans rfl; have y1 : w4.cell? ⟨q2, 1, none⟩ = some (.int .i64 nb) := (blk_cell BKq2.out 1).trans rfl; clear hw))
    go_ret
    exact HF.out _ HB4.out
theorem radd_walk (base q : Nat) (v : Value) (l : List S28) (r : S28) (w : World) (h : TabX w base q v l) (hlim : l.length ≤ 1000) (ha : r.f0.f0.size ≤ 140737488351232) :
    Calls Try.prog 18 #[.pointer (some ⟨q, 0, none⟩), v28 r] w (RAddQ w base q v l r) := by
  by_cases hb : badR r
  · exact radd_bad base q v l r.f0.f0 r.f1 r.f0.f1 r.f2 w h ha hb
  · obtain ⟨A, c, rfl, _, _⟩ := own_slice' h.own
    exact radd_good base q A c l r.f0.f0 r.f1 r.f0.f1 r.f2 w h hlim ha hb
end Go.Proofs.Ytmedkjiabieloaa.Rt
namespace Go.Proofs.Ytmedkjiabieloaa.Rt
open Go.RowKit Go.Proofs.YtmedkjiabieloaaW.PrintWords Go.Proofs.YtmedkjiabieloaaW.PrintLast Go.Proofs.YtmedkjiabieloaaW.PrintMore Go.Proofs.Ytmedkjiabieloaa.QRd
open Go.Proofs.Ytmedkjiabieloaa
set_option linter.unusedVariables false
set_option linter.unusedSimpArgs false
/-- What the reference's Remove answers. -/
def RRemP (l : List S28) (p : S26) (er : Int) (l' : List S28) : Prop :=
  ((maskE p.f0 p.f1).2 ≠ 0 ∧ er = 6 ∧ l' = l) ∨ ((maskE p.f0 p.f1).2 = 0 ∧ ∃ i b, PlaceP l ⟨(maskE p.f0 p.f1).1, p.f1⟩ i b ∧ ((b = true ∧ er = 0 ∧ l' = l.take i ++ l.drop (i + 1)) ∨ (b = false ∧ er = 6 ∧ l' = l)))
def RRemQ (w : World) (base q : Nat) (v : Value) (l : List S28) (p : S26) (e : Ending) (w' : World) : Prop :=
  ∃ er v' l', e = .returned (.int .i64 er) ∧ RRemP l p er l' ∧ TabX w' base q v' l' ∧ Turn w w' q v v'
set_option maxHeartbeats 1600000 in
set_option maxRecDepth 100000 in
theorem rremove_walk' (base q : Nat) (A : Option Addr) (c : Nat) (l : List S28) (a : ByteArray) (nb : Int) (w : World) (h : TabX w base q (.slice A l.length c) l) (hlim : l.length ≤ 1000) (ha : a.size ≤ 140737488351232) :
    Calls Try.prog 20 #[.pointer (some ⟨q, 0, none⟩), .agg #[.string a, .int .i64 nb]] w (RRemQ w base q (.slice A l.length c) l ⟨a, nb⟩) := by
  have PW := Aside0.mk fun (W : World) => rprefix_walk a nb W ha
  obtain ⟨m, hm⟩ : ∃ m, (maskE a nb).1 = m := ⟨_, rfl⟩
  obtain ⟨er, her⟩ : ∃ er, (maskE a nb).2 = er := ⟨_, rfl⟩
  have HM := Aside0.mk hm
  have HER := Aside0.mk her
  rw [hm, her] at PW
  have BW := Aside0.mk fun (p : S26) (W : World) (hb : Below w.heap.size w W) => place_walk q A c l p W (h.below hb).read (by omega)
  have HO := Aside0.mk h
  have HQL := Aside0.mk (blk_lt h.blk)
  have HC := Aside0.mk fun (W : World) (hb : Below w.heap.size w W) => (h.below hb).read
  obtain ⟨n, hn⟩ : ∃ n, l.length = n := ⟨_, rfl⟩
  have HN := Aside0.mk hn
  have hnc : n ≤ c := by rw [← hn]; exact h.read.cap
  rw [hn] at hlim HO ⊢
  have TB := Aside0.mk (show ∀ W, Below w.heap.size w W → W.cell? ⟨q, 0, none⟩ = some (.slice A n c) from fun W hb => (blk_cell (HO.out.below hb).blk 0).trans rfl)
  clear h hn ha hm her
  by_cases h1 : er = 0
  · subst h1
    have PW := Aside0.mk (show ∀ W, Calls Try.prog 30 #[.agg #[.string a, .int .i64 nb]] W fun e w' => e = .returned (.tuple #[.agg #[.string m, .int .i64 nb], .bool true]) ∧ Below W.heap.size W w' from PW.out)
    go_enter Try.func20, Try.ntmps20
    go_wp2_with (first | ((with_reducible refine gate_dst (N := 3) rfl ?_); refine box_event ?hg (N := 3) ?hd (cs := #[.string a, .int .i64 nb]) (t := 26) ?hr ?_; (case hd => rfl); (case hg => rfl); (case hr => first | (go_simp; done) | (go_simp; rfl)); intro q1 hq w1 hbox hb; have BKq1 := Aside0.mk hbox; have HQq1 := Aside0.mk (show w.heap.size ≤ q1 from by rw [hq]; exact Nat.le_refl _); have HB1 := Aside0.mk hb; clear hbox hb hq; have z0 : w1.cell? ⟨q1, 0, none⟩ = some (.string a) := (blk_cell BKq1.out 0).trans rfl; have z1 : w1.cell? ⟨q1, 1, none⟩ = some (.int .i64 nb) := (blk_cell BKq1.out 1).trans rfl))
    refine (PW.out _).mono ?_
    rintro e w2 ⟨rfl, hb⟩
    have BKq1 := Aside0.mk (blk_below BKq1.out hb)
    have HB2 := Aside0.mk (HB1.out.trans (hb.mono HB1.out.size))
    clear hb z0 z1
    go_wp2_with (first | ((with_reducible refine gate_dst (N := 5) rfl ?_); refine box_event ?hg (N := 5) ?hd (cs := #[.string ByteArray.empty, .int .i64 0]) (t := 26) ?hr ?_; (case hd => rfl); (case hg => rfl); (case hr => first | (go_simp; done) | (go_simp; rfl)); intro q2 hq w3 hbox hb; have HNq1q2 := Aside0.mk (show q1 ≠ q2 from by have := blk_lt BKq1.out; omega); have BKq1 := Aside0.mk (blk_below BKq1.out hb); have BKq2 := Aside0.mk hbox; have HQq2 := Aside0.mk (show w.heap.size ≤ q2 from by rw [hq]; exact HB2.out.size); have HB3 := Aside0.mk (HB2.out.trans (hb.mono HB2.out.size)); clear hbox hb hq) | ((with_reducible refine gate_store (t := 26) (p := 5) rfl ?_); have ca0 : w3.cell? ⟨q2, 0, none⟩ = some (.string ByteArray.empty) := (blk_cell BKq2.out 0).trans rfl; have ca1 : w3.cell? ⟨q2, 1, none⟩ = some (.int .i64 0) := (blk_cell BKq2.out 1).trans rfl; have fa0 : w3.frozen? ⟨q2, 0, none⟩ = false := blk_frozen BKq2.out 0; have fa1 : w3.frozen? ⟨q2, 1, none⟩ = false := blk_frozen BKq2.out 1; refine store_event (t := 26) (p := 5) (v := ?vo5_4_1_n1) (w1 := Cells.setAll w3 q2 0 [.string m, .int .i64 nb]) ?hg ?ho ?hn ?hr ?_; (case ho => rfl); (case hg => rfl); (case hn => rfl); (case hr => first | (go_simp; done) | (go_simp; rfl)); intro w4 hw; have BKq1 := Aside0.mk (show w4.heap[q1]? = _ from (congrArg (fun W : World => W.heap[q1]?) hw).trans ((Cells.setAll_far HNq1q2.out _ _ _).trans BKq1.out)); have HB4 := Aside0.mk (show Below w.heap.size w w4 from by rw [hw]; exact Cells.setAll_below HQq2.out _ _ _ HB3.out); have BKq2 := Aside0.mk (show w4.heap[q2]? = some (.cells #[.string m, .int .i64 nb] 26 (0, 0)) from by rw [hw]; exact Cells.stored2 BKq2.out); clear ca0 ca1 fa0 fa1; have y0 : w4.cell? ⟨q2, 0, none⟩ = some (.string m) := (blk_cell BKq2.out 0).trans rfl; have y1 : w4.cell? ⟨q2, 1, none⟩ = some (.int .i64 nb) := (blk_cell BKq2.out 1).trans rfl; clear hw))
    refine (BW.out ⟨m, nb⟩ _ HB4.out).mono ?_
    rintro e w5 ⟨⟨bi, bb, rfl, hbs⟩, hb⟩
    have HB5 := Aside0.mk (HB4.out.trans (hb.mono HB4.out.size))
    have HBS := Aside0.mk hbs
    clear hb hbs y0 y1
    cases bb
    · go_wp2_with (fail)
      go_ret
      exact ⟨_, _, _, rfl, Or.inr ⟨HER.out, bi, false, by rw [HM.out]; exact HBS.out, Or.inr ⟨rfl, rfl, rfl⟩⟩, HO.out.below HB5.out, Turn.of_below HB5.out _ _⟩
    · have hbi : bi < n := by
        have h0 := HBS.out.2.2.2
        have h1 : bi < l.length := by
          cases hd : decide (bi < l.length) with
          | true => exact of_decide_eq_true hd
          | false => rw [hd] at h0; cases h0
        rw [HN.out] at h1
        exact h1
      have hbiI : (bi : Int) + 1 ≤ (n : Int) := by omega
      have hbjI : (bi : Int) ≤ (n : Int) := by omega
      have hb0 : (0 : Int) ≤ (bi : Int) + 1 := by omega
      have hbc : bi ≤ c := by omega
      have hbn : bi ≤ n := by omega
      have hbc1 : bi + 1 ≤ c := by omega
      have hcI : (n : Int) ≤ (c : Int) := by omega
      have hbm : (bi : Int) ≤ 100000 := by omega
      have htn : ((bi : Int) + 1).toNat = bi + 1 := by omega
      have HLEN := Aside0.mk (show (l.take bi).length = bi ∧ (l.drop (bi + 1)).length = n - (bi + 1) ∧ n ≤ 1000 from ⟨by rw [List.length_take, HN.out]; omega, by rw [List.length_drop, HN.out], hlim⟩)
      have HTK := Aside0.mk (show k28.C w5 A bi (l.take bi) from by
        have h := Kd.C_take (m := bi) ((HC.out _ HB5.out).row) (by rw [HN.out]; omega)
        rwa [HLEN.out.1] at h)
      have HDK := Aside0.mk (show ∀ W, Below w.heap.size w W → k28.C W (if c = bi + 1 then A else A.map (·.add ((bi + 1) * 4))) (n - (bi + 1)) (l.drop (bi + 1)) from fun W hW => by
        have h := Kd.C_drop (m := bi + 1) ((HC.out _ hW).row) (by rw [HN.out]; omega) (c := c) (by rw [HN.out]; exact hnc)
        rwa [HLEN.out.2.1] at h)
      by_cases hcb : c = bi + 1
      · subst hcb
        obtain rfl : n = bi + 1 := by omega
        rw [if_pos rfl, Nat.sub_self] at HDK
        clear hcI hbc1 hbiI hnc hbi
        have x0 := TB.out _ HB5.out
        go_wp2_with (first | ((with_reducible refine gate_builtin (b := .append) (xs := #[.tmp 27, .tmp 33]) rfl ?_); at_builtin; refine Kd.R_append_rows k28 (Rr := k28.K w5) (w0 := w) w.heap.size rfl (.tmp 27) (.tmp 33) 22 28 (.agg #[.string ByteArray.empty, .int .i64 0, .string ByteArray.empty, .int .i64 0]) 48 rfl Try.underlying22 info28 rfl (by decide) (by decide) (.slice none 0 0) [] (l.take bi) A bi (bi + 1) (fun _ => True) (fun _ => False) rfl rfl (Kd.R_nil k28 28 w5 w.heap.size _) HTK.out (fun _ _ h => by rw [k28_open h]; exact k28_mkM _ _ _ _) (fun _ h => h.elim) (fun _ _ => trivial) HB5.out HB5.out.size ?aL6 ?_; (case aL6 => have h1 := HLEN.out; have h2 := HN.out; simp; omega); intro v6 w6 ho hb hg hat; have HO6 := Aside0.mk ho; have HB6 := Aside0.mk hb; clear ho hb hg hat; clear x0; have x0 := TB.out _ HB6.out; have HO6 := Aside0.mk (show k28.R 28 w6 w.heap.size (fun _ => True) v6 (l.take bi) from HO6.out); have HDR := Aside0.mk (HDK.out _ HB6.out)) | ((with_reducible refine gate_builtin (b := .append) (xs := #[.tmp 35, .tmp 42]) rfl ?_); at_builtin; refine Kd.R_append_rows k28 (Rr := k28.K w6) (w0 := w) w.heap.size rfl (.tmp 35) (.tmp 42) 22 28 (.agg #[.string ByteArray.empty, .int .i64 0, .string ByteArray.empty, .int .i64 0]) 48 rfl Try.underlying22 info28 rfl (by decide) (by decide) v6 (l.take bi) (l.drop (bi + 1)) A 0 0 (fun _ => True) (fun _ => False) rfl rfl HO6.out HDR.out (fun _ _ h => by rw [k28_open h]; exact k28_mkM _ _ _ _) (fun _ h => h.elim) (fun _ _ => trivial) HB6.out HB6.out.size ?aL7 ?_; (case aL7 => have h1 := HLEN.out; have h2 := HN.out; simp; omega); intro v7 w7 ho hb hg hat; have HO7 := Aside0.mk ho; have HB7 := Aside0.mk hb; clear ho hb hg hat; have BQ := Aside0.mk (HO.out.below HB7.out).blk; have c0 : w7.cell? ⟨q, 0, none⟩ = some (.slice A (bi + 1) (bi + 1)) := (blk_cell BQ.out 0).trans rfl; have f0 : w7.frozen? ⟨q, 0, none⟩ = false := blk_frozen BQ.out 0; obtain ⟨A', c', hv7⟩ := Kd.R_slice HO7.out; obtain ⟨L, hL⟩ : ∃ L, (l.take bi ++ l.drop (bi + 1)).length = L := ⟨_, rfl⟩; rw [hL] at hv7; clear hL; subst hv7; clear x0))
        have HT := Aside0.mk (show TabX (w7.setCell ⟨q, 0, none⟩ (.slice A' L c')) base q (.slice A' L c') (l.take bi ++ l.drop (bi + 1)) ∧ Turn w (w7.setCell ⟨q, 0, none⟩ (.slice A' L c')) q (.slice A (bi + 1) (bi + 1)) (.slice A' L c') from by
          have ho := own_of_R HO7.out
          have hq := own_neT ho BQ.out (by decide)
          refine ⟨⟨(blk_set BQ.out 0 _).trans rfl, own_setCell (own_less ho (show base ≤ w.heap.size by have := HO.out.low; have := HQL.out; omega)) (p := ⟨q, 0, none⟩) hq _, HO.out.low⟩, HB7.out.os, HB7.out.tape, HB7.out.output, ?_, fun k hk h1 h2 => ?_, ?_⟩
          · have e : (w7.setCell ⟨q, 0, none⟩ (.slice A' L c')).heap.size = w7.heap.size := by simp [World.setCell]
            rw [e]
            exact HB7.out.size
          · exact (Below.heap_setCell w7 ⟨q, 0, none⟩ _ k h1).trans (HB7.out.block k hk)
          · exact fun k hk => .inr (own_base ho k hk))
        go_wp2_with (fail)
        go_ret
        exact ⟨_, _, _, rfl, Or.inr ⟨HER.out, bi, true, by rw [HM.out]; exact HBS.out, Or.inl ⟨rfl, rfl, rfl⟩⟩, HT.out⟩
      · have hcb' : ¬ (bi + 1 = c) := fun h => hcb h.symm
        rw [if_neg hcb] at HDK
        have x0 := TB.out _ HB5.out
        go_wp2_with (first | ((with_reducible refine gate_builtin (b := .append) (xs := #[.tmp 27, .tmp 33]) rfl ?_); at_builtin; refine Kd.R_append_rows k28 (Rr := k28.K w5) (w0 := w) w.heap.size rfl (.tmp 27) (.tmp 33) 22 28 (.agg #[.string ByteArray.empty, .int .i64 0, .string ByteArray.empty, .int .i64 0]) 48 rfl Try.underlying22 info28 rfl (by decide) (by decide) (.slice none 0 0) [] (l.take bi) A bi c (fun _ => True) (fun _ => False) rfl rfl (Kd.R_nil k28 28 w5 w.heap.size _) HTK.out (fun _ _ h => by rw [k28_open h]; exact k28_mkM _ _ _ _) (fun _ h => h.elim) (fun _ _ => trivial) HB5.out HB5.out.size ?aL6 ?_; (case aL6 => have h1 := HLEN.out; have h2 := HN.out; simp; omega); intro v6 w6 ho hb hg hat; have HO6 := Aside0.mk ho; have HB6 := Aside0.mk hb; clear ho hb hg hat; clear x0; have x0 := TB.out _ HB6.out; have HO6 := Aside0.mk (show k28.R 28 w6 w.heap.size (fun _ => True) v6 (l.take bi) from HO6.out); have HDR := Aside0.mk (HDK.out _ HB6.out)) | ((with_reducible refine gate_builtin (b := .append) (xs := #[.tmp 35, .tmp 42]) rfl ?_); at_builtin; refine Kd.R_append_rows k28 (Rr := k28.K w6) (w0 := w) w.heap.size rfl (.tmp 35) (.tmp 42) 22 28 (.agg #[.string ByteArray.empty, .int .i64 0, .string ByteArray.empty, .int .i64 0]) 48 rfl Try.underlying22 info28 rfl (by decide) (by decide) v6 (l.take bi) (l.drop (bi + 1)) (A.map (·.add ((bi + 1) * 4))) (n - (bi + 1)) (c - (bi + 1)) (fun _ => True) (fun _ => False) rfl rfl HO6.out HDR.out (fun _ _ h => by rw [k28_open h]; exact k28_mkM _ _ _ _) (fun _ h => h.elim) (fun _ _ => trivial) HB6.out HB6.out.size ?aL7 ?_; (case aL7 => have h1 := HLEN.out; have h2 := HN.out; simp; omega); intro v7 w7 ho hb hg hat; have HO7 := Aside0.mk ho; have HB7 := Aside0.mk hb; clear ho hb hg hat; have BQ := Aside0.mk (HO.out.below HB7.out).blk; have c0 : w7.cell? ⟨q, 0, none⟩ = some (.slice A n c) := (blk_cell BQ.out 0).trans rfl; have f0 : w7.frozen? ⟨q, 0, none⟩ = false := blk_frozen BQ.out 0; obtain ⟨A', c', hv7⟩ := Kd.R_slice HO7.out; obtain ⟨L, hL⟩ : ∃ L, (l.take bi ++ l.drop (bi + 1)).length = L := ⟨_, rfl⟩; rw [hL] at hv7; clear hL; subst hv7; clear x0))
        have HT := Aside0.mk (show TabX (w7.setCell ⟨q, 0, none⟩ (.slice A' L c')) base q (.slice A' L c') (l.take bi ++ l.drop (bi + 1)) ∧ Turn w (w7.setCell ⟨q, 0, none⟩ (.slice A' L c')) q (.slice A n c) (.slice A' L c') from by
          have ho := own_of_R HO7.out
          have hq := own_neT ho BQ.out (by decide)
          refine ⟨⟨(blk_set BQ.out 0 _).trans rfl, own_setCell (own_less ho (show base ≤ w.heap.size by have := HO.out.low; have := HQL.out; omega)) (p := ⟨q, 0, none⟩) hq _, HO.out.low⟩, HB7.out.os, HB7.out.tape, HB7.out.output, ?_, fun k hk h1 h2 => ?_, ?_⟩
          · have e : (w7.setCell ⟨q, 0, none⟩ (.slice A' L c')).heap.size = w7.heap.size := by simp [World.setCell]
            rw [e]
            exact HB7.out.size
          · exact (Below.heap_setCell w7 ⟨q, 0, none⟩ _ k h1).trans (HB7.out.block k hk)
          · exact fun k hk => .inr (own_base ho k hk))
        go_wp2_with (fail)
        go_ret
        exact ⟨_, _, _, rfl, Or.inr ⟨HER.out, bi, true, by rw [HM.out]; exact HBS.out, Or.inl ⟨rfl, rfl, rfl⟩⟩, HT.out⟩
  · have h1B : (er == 0) = false := by rw [beq_eq_false_iff_ne]; exact h1
    rw [h1B] at PW
    go_enter Try.func20, Try.ntmps20
    go_wp2_with (first | ((with_reducible refine gate_dst (N := 3) rfl ?_); refine box_event ?hg (N := 3) ?hd (cs := #[.string a, .int .i64 nb]) (t := 26) ?hr ?_; (case hd => rfl); (case hg => rfl); (case hr => first | (go_simp; done) | (go_simp; rfl)); intro q1 hq w1 hbox hb; have BKq1 := Aside0.mk hbox; have HQq1 := Aside0.mk (show w.heap.size ≤ q1 from by rw [hq]; exact Nat.le_refl _); have HB1 := Aside0.mk hb; clear hbox hb hq; have z0 : w1.cell? ⟨q1, 0, none⟩ = some (.string a) := (blk_cell BKq1.out 0).trans rfl; have z1 : w1.cell? ⟨q1, 1, none⟩ = some (.int .i64 nb) := (blk_cell BKq1.out 1).trans rfl))
    refine (PW.out _).mono ?_
    rintro e w2 ⟨rfl, hb⟩
    have BKq1 := Aside0.mk (blk_below BKq1.out hb)
    have HB2 := Aside0.mk (HB1.out.trans (hb.mono HB1.out.size))
    clear hb z0 z1
    go_wp2_with (first | ((with_reducible refine gate_dst (N := 5) rfl ?_); refine box_event ?hg (N := 5) ?hd (cs := #[.string ByteArray.empty, .int .i64 0]) (t := 26) ?hr ?_; (case hd => rfl); (case hg => rfl); (case hr => first | (go_simp; done) | (go_simp; rfl)); intro q2 hq w3 hbox hb; have HNq1q2 := Aside0.mk (show q1 ≠ q2 from by have := blk_lt BKq1.out; omega); have BKq1 := Aside0.mk (blk_below BKq1.out hb); have BKq2 := Aside0.mk hbox; have HQq2 := Aside0.mk (show w.heap.size ≤ q2 from by rw [hq]; exact HB2.out.size); have HB3 := Aside0.mk (HB2.out.trans (hb.mono HB2.out.size)); clear hbox hb hq) | ((with_reducible refine gate_store (t := 26) (p := 5) rfl ?_); have ca0 : w3.cell? ⟨q2, 0, none⟩ = some (.string ByteArray.empty) := (blk_cell BKq2.out 0).trans rfl; have ca1 : w3.cell? ⟨q2, 1, none⟩ = some (.int .i64 0) := (blk_cell BKq2.out 1).trans rfl; have fa0 : w3.frozen? ⟨q2, 0, none⟩ = false := blk_frozen BKq2.out 0; have fa1 : w3.frozen? ⟨q2, 1, none⟩ = false := blk_frozen BKq2.out 1; refine store_event (t := 26) (p := 5) (v := ?vo5_4_1_n2) (w1 := Cells.setAll w3 q2 0 [.string m, .int .i64 nb]) ?hg ?ho ?hn ?hr ?_; (case ho => rfl); (case hg => rfl); (case hn => rfl); (case hr => first | (go_simp; done) | (go_simp; rfl)); intro w4 hw; have BKq1 := Aside0.mk (show w4.heap[q1]? = _ from (congrArg (fun W : World => W.heap[q1]?) hw).trans ((Cells.setAll_far HNq1q2.out _ _ _).trans BKq1.out)); have HB4 := Aside0.mk (show Below w.heap.size w w4 from by rw [hw]; exact Cells.setAll_below HQq2.out _ _ _ HB3.out); have BKq2 := Aside0.mk (show w4.heap[q2]? = some (.cells #[.string m, .int .i64 nb] 26 (0, 0)) from by rw [hw]; exact Cells.stored2 BKq2.out); clear ca0 ca1 fa0 fa1; have y0 : w4.cell? ⟨q2, 0, none⟩ = some (.string m) := (blk_cell BKq2.out 0).trans rfl; have y1 : w4.cell? ⟨q2, 1, none⟩ = some (.int .i64 nb) := (blk_cell BKq2.out 1).trans rfl; clear hw))
    refine (BW.out ⟨m, nb⟩ _ HB4.out).mono ?_
    rintro e w5 ⟨⟨bi, bb, rfl, hbs⟩, hb⟩
    have HB5 := Aside0.mk (HB4.out.trans (hb.mono HB4.out.size))
    have HBS := Aside0.mk hbs
    clear hb hbs y0 y1
    go_wp2_with (fail)
    go_ret
    exact ⟨_, _, _, rfl, Or.inl ⟨by rw [HER.out]; exact h1, rfl, rfl⟩, HO.out.below HB5.out, Turn.of_below HB5.out _ _⟩
theorem rremove_walk (base q : Nat) (v : Value) (l : List S28) (p : S26) (w : World) (h : TabX w base q v l) (hlim : l.length ≤ 1000) (ha : p.f0.size ≤ 140737488351232) :
    Calls Try.prog 20 #[.pointer (some ⟨q, 0, none⟩), .agg #[.string p.f0, .int .i64 p.f1]] w (RRemQ w base q v l p) := by
  obtain ⟨A, c, rfl, _, _⟩ := own_slice' h.own
  exact rremove_walk' base q A c l p.f0 p.f1 w h hlim ha
end Go.Proofs.Ytmedkjiabieloaa.Rt

/- redoubtref04.Parse. -/
import Derived.Test.YtpodidgdlcfaeaaIp6R
import Derived.Test.YtpodidgdlcfaeaaIp6S
namespace Go.Proofs.Ytpodidgdlcfaeaa.Ip6
open Go.RowKit Go.Proofs.YtpodidgdlcfaeaaW.PrintWords Go.Proofs.YtpodidgdlcfaeaaW.PrintLast Go.Proofs.YtpodidgdlcfaeaaW.PrintMore Go.Proofs.Ytpodidgdlcfaeaa.PIp6Lays
open Go.Proofs.Ytpodidgdlcfaeaa
set_option linter.unusedVariables false
set_option linter.unusedSimpArgs false
theorem add_pos {ad : Addr} {k : Nat} (h : k ≠ 0) : ad.add k = { block := ad.block, off := ad.off + k } := by unfold Addr.add; rw [if_neg h]
theorem zPk_read' (w : World) : PkR w zPk none 0 none 0 := ⟨Kd.C_nil _ _, by decide, Kd.C_nil _ _, by decide⟩
/-- The packet that is put together. -/
def asmP (c l h : Int) (s d : ByteArray) : Option (List S43 × Int × List Int) → Int × Pk
  | none => (4, zPk)
  | some r => (0, ⟨c, l, h, s, d, r.1, r.2.1, r.2.2⟩)
/-- The ways on which the document's Parse refuses ahead of the headers between. -/
def RefP (w0 w : World) (r : Int × Pk) (e : Ending) : Prop := ∃ A5 c5 A7 c7, e = .returned (.tuple #[.agg (r.2.cells A5 c5 A7 c7), .int .i64 r.1]) ∧ PkR w r.2 A5 c5 A7 c7
set_option maxHeartbeats 8000000 in
set_option maxRecDepth 100000 in
theorem refParse_walk (A0 : Option Addr) (c0 : Nat) (b : List Int) (w : World) (hr : ReadsInt w .u8 A0 b.length b) (hc : b.length ≤ c0) (hl : b.length ≤ 100000) (hby : ∀ x ∈ b, 0 ≤ x ∧ x ≤ 255) :
    Calls Try.prog 9 #[.slice A0 b.length c0] w fun e w' => RefP w w' (parseE b) e ∧ Below w.heap.size w w' := by
  have HR := Aside0.mk fun (W : World) (hb : Below w.heap.size w W) => readsInt_below hr hb
  have HBY := Aside0.mk hby
  obtain ⟨ad0, hA0⟩ : ∃ x, A0 = x := ⟨_, rfl⟩
  obtain ⟨n, hn⟩ : ∃ n, b.length = n := ⟨_, rfl⟩
  have HN := Aside0.mk hn
  have HRW := Aside0.mk hr
  rw [hn] at hc hl HR ⊢
  clear hr hby hn hA0
  by_cases h40 : n < 40
  · have d40 : decide ((n : Int) < 40) = true := decide_eq_true (by omega)
    have PE := Aside0.mk (show parseE b = (8, zPk) from by unfold parseE; rw [if_pos (by rw [HN.out]; exact h40)])
    clear h40
    go_enter Try.func9, Try.ntmps9
    go_wp2_with (first | ((with_reducible refine gate_dst (N := 2) rfl ?_); refine box_event ?hg (N := 2) ?hd (cs := #[.int .i64 0, .int .i64 0, .int .i64 0, .string ByteArray.empty, .string ByteArray.empty, .slice none 0 0, .int .i64 0, .slice none 0 0]) (t := 26) ?hr ?_; (case hd => rfl); (case hg => rfl); (case hr => first | (go_simp; done) | (go_simp; rfl)); intro q2 hq w1 hbox hb; have BKq2 := Aside0.mk hbox; have HQq2 := Aside0.mk (show w.heap.size ≤ q2 from by rw [hq]; exact Nat.le_refl _); have HB1 := Aside0.mk hb; clear hbox hb hq) | ((with_reducible refine gate_store (t := 26) (p := 2) rfl ?_); have ca0 : w1.cell? ⟨q2, 0, none⟩ = some (.int .i64 0) := (blk_cell BKq2.out 0).trans rfl; have ca1 : w1.cell? ⟨q2, 1, none⟩ = some (.int .i64 0) := (blk_cell BKq2.out 1).trans rfl; have ca2 : w1.cell? ⟨q2, 2, none⟩ = some (.int .i64 0) := (blk_cell BKq2.out 2).trans rfl; have ca3 : w1.cell? ⟨q2, 3, none⟩ = some (.string ByteArray.empty) := (blk_cell BKq2.out 3).trans rfl; have ca4 : w1.cell? ⟨q2, 4, none⟩ = some (.string ByteArray.empty) := (blk_cell BKq2.out 4).trans rfl; have ca5 : w1.cell? ⟨q2, 5, none⟩ = some (.slice none 0 0) := (blk_cell BKq2.out 5).trans rfl; have ca6 : w1.cell? ⟨q2, 6, none⟩ = some (.int .i64 0) := (blk_cell BKq2.out 6).trans rfl; have ca7 : w1.cell? ⟨q2, 7, none⟩ = some (.slice none 0 0) := (blk_cell BKq2.out 7).trans rfl; have fa0 : w1.frozen? ⟨q2, 0, none⟩ = false := blk_frozen BKq2.out 0; have fa1 : w1.frozen? ⟨q2, 1, none⟩ = false := blk_frozen BKq2.out 1; have fa2 : w1.frozen? ⟨q2, 2, none⟩ = false := blk_frozen BKq2.out 2; have fa3 : w1.frozen? ⟨q2, 3, none⟩ = false := blk_frozen BKq2.out 3; have fa4 : w1.frozen? ⟨q2, 4, none⟩ = false := blk_frozen BKq2.out 4; have fa5 : w1.frozen? ⟨q2, 5, none⟩ = false := blk_frozen BKq2.out 5; have fa6 : w1.frozen? ⟨q2, 6, none⟩ = false := blk_frozen BKq2.out 6; have fa7 : w1.frozen? ⟨q2, 7, none⟩ = false := blk_frozen BKq2.out 7; refine store_event (t := 26) (p := 2) (v := ?vo2_2_8) (w1 := Cells.setAll w1 q2 0 [.int .i64 0, .int .i64 0, .int .i64 0, .string ByteArray.empty, .string ByteArray.empty, .slice none 0 0, .int .i64 0, .slice none 0 0]) ?hg ?ho ?hn ?hr ?_; (case ho => rfl); (case hg => rfl); (case hn => rfl); (case hr => first | (go_simp; done) | (go_simp; rfl)); intro w2 hw; have HB2 := Aside0.mk (show Below w.heap.size w w2 from by rw [hw]; exact Cells.setAll_below HQq2.out _ _ _ HB1.out); have BKq2 := Aside0.mk (show w2.heap[q2]? = some (.cells #[.int .i64 0, .int .i64 0, .int .i64 0, .string ByteArray.empty, .string ByteArray.empty, .slice none 0 0, .int .i64 0, .slice none 0 0] 26 (0, 0)) from by rw [hw]; exact Cells.stored8 BKq2.out); clear ca0 ca1 ca2 ca3 ca4 ca5 ca6 ca7; clear fa0 fa1 fa2 fa3 fa4 fa5 fa6 fa7; clear hw))
    (try simp only [Exit.inBlock, Exit.then])
    refine bodyPost_ret (results_ct rfl _ _ q2 26 _ (0, 0) _ rfl BKq2.out Try.underlying26 rfl info26) rfl ?_
    rw [PE.out]
    exact ⟨⟨none, 0, none, 0, rfl, zPk_read' _⟩, HB2.out⟩
  have d40 : decide ((n : Int) < 40) = false := decide_eq_false (by omega)
  have hn40 : 40 ≤ b.length := by have := HN.out; omega
  obtain ⟨ad, hA, hcell⟩ := (HR.out w (Below.refl _ _)).2.2 (by omega)
  subst hA
  have hmem : ∀ i : Nat, i < 8 → 0 ≤ b.getD i 0 ∧ b.getD i 0 ≤ 255 := fun i hi => HBY.out _ (by rw [List.getD_eq_getElem?_getD, List.getElem?_eq_getElem (by omega)]; exact List.getElem_mem (by omega))
  have hPE : parseE b = (if b.getD 0 0 / 16 ≠ 6 then (4, zPk) else if (n : Int) < 40 + b.getD 4 0 * 256 + b.getD 5 0 then (8, zPk) else if 40 + b.getD 4 0 * 256 + b.getD 5 0 < (n : Int) then (4, zPk) else match btwE (n + 1) 0 (b.getD 6 0) (b.drop 40) with
      | none => (4, zPk)
      | some r => (0, ⟨b.getD 0 0 % 16 * 16 + b.getD 1 0 / 16, b.getD 1 0 % 16 * 65536 + b.getD 2 0 * 256 + b.getD 3 0, b.getD 7 0, strOfNums ((b.take 24).drop 8), strOfNums ((b.take 40).drop 24), r.1, r.2.1, r.2.2⟩) : Int × Pk) := by
    unfold parseE
    rw [if_neg (by omega), HN.out]
    rfl
  have hc0 := hcell 0 (by omega)
  have hy0 := hmem 0 (by omega)
  obtain ⟨y0, e0⟩ : ∃ y, b.getD 0 0 = y := ⟨_, rfl⟩
  rw [e0] at hc0 hy0
  rw [e0] at hPE
  have hc1 := hcell 1 (by omega)
  have hy1 := hmem 1 (by omega)
  obtain ⟨y1, e1⟩ : ∃ y, b.getD 1 0 = y := ⟨_, rfl⟩
  rw [e1] at hc1 hy1
  rw [e1] at hPE
  have hc2 := hcell 2 (by omega)
  have hy2 := hmem 2 (by omega)
  obtain ⟨y2, e2⟩ : ∃ y, b.getD 2 0 = y := ⟨_, rfl⟩
  rw [e2] at hc2 hy2
  rw [e2] at hPE
  have hc3 := hcell 3 (by omega)
  have hy3 := hmem 3 (by omega)
  obtain ⟨y3, e3⟩ : ∃ y, b.getD 3 0 = y := ⟨_, rfl⟩
  rw [e3] at hc3 hy3
  rw [e3] at hPE
  have hc4 := hcell 4 (by omega)
  have hy4 := hmem 4 (by omega)
  obtain ⟨y4, e4⟩ : ∃ y, b.getD 4 0 = y := ⟨_, rfl⟩
  rw [e4] at hc4 hy4
  rw [e4] at hPE
  have hc5 := hcell 5 (by omega)
  have hy5 := hmem 5 (by omega)
  obtain ⟨y5, e5⟩ : ∃ y, b.getD 5 0 = y := ⟨_, rfl⟩
  rw [e5] at hc5 hy5
  rw [e5] at hPE
  have hc6 := hcell 6 (by omega)
  have hy6 := hmem 6 (by omega)
  obtain ⟨y6, e6⟩ : ∃ y, b.getD 6 0 = y := ⟨_, rfl⟩
  rw [e6] at hc6 hy6
  rw [e6] at hPE
  have hc7 := hcell 7 (by omega)
  have hy7 := hmem 7 (by omega)
  obtain ⟨y7, e7⟩ : ∃ y, b.getD 7 0 = y := ⟨_, rfl⟩
  rw [e7] at hc7 hy7
  rw [e7] at hPE
  have HC := Aside0.mk (show ∀ W, Below w.heap.size w W → W.cell? ad = some (.int .u8 y0) ∧ W.cell? { block := ad.block, off := ad.off + 1 } = some (.int .u8 y1) ∧ W.cell? { block := ad.block, off := ad.off + 2 } = some (.int .u8 y2) ∧ W.cell? { block := ad.block, off := ad.off + 3 } = some (.int .u8 y3) ∧ W.cell? { block := ad.block, off := ad.off + 4 } = some (.int .u8 y4) ∧ W.cell? { block := ad.block, off := ad.off + 5 } = some (.int .u8 y5) ∧ W.cell? { block := ad.block, off := ad.off + 6 } = some (.int .u8 y6) ∧ W.cell? { block := ad.block, off := ad.off + 7 } = some (.int .u8 y7) from fun W hW => ⟨pw_cell_below hW hc0, pw_cell_below hW hc1, pw_cell_below hW hc2, pw_cell_below hW hc3, pw_cell_below hW hc4, pw_cell_below hW hc5, pw_cell_below hW hc6, pw_cell_below hW hc7⟩)
  have p0 : (0 : Int) < (n : Int) := by omega
  have p1 : (1 : Int) < (n : Int) := by omega
  have p2 : (2 : Int) < (n : Int) := by omega
  have p3 : (3 : Int) < (n : Int) := by omega
  have p4 : (4 : Int) < (n : Int) := by omega
  have p5 : (5 : Int) < (n : Int) := by omega
  have p6 : (6 : Int) < (n : Int) := by omega
  have p7 : (7 : Int) < (n : Int) := by omega
  have p0' : 0 < n := by omega
  have HPE := Aside0.mk hPE
  clear hPE hmem hcell h40 hc0 e0 hc1 e1 hc2 e2 hc3 e3 hc4 e4 hc5 e5 hc6 e6 hc7 e7
  obtain ⟨z, hz⟩ : ∃ z, y0 / 16 = z := ⟨_, rfl⟩
  have hzr : 0 ≤ z ∧ z ≤ 15 := by omega
  have u1 : Int.tdiv y0 16 = z := by rw [Int.tdiv_eq_ediv_of_nonneg (by omega)]; exact hz
  have u2 : IntKind.u8.wrap z = z := by rw [wraps_u8 _ (by omega) (by omega)]
  have HU := Aside0.mk (And.intro u1 (And.intro u2 hz))
  by_cases hv : z = 6
  rotate_left
  · have dz : (z != 6) = true := bne_iff_ne.mpr hv
    have PE := Aside0.mk (show parseE b = (4, zPk) from by rw [HPE.out, hz, if_pos hv])
    clear hv
    go_enter Try.func9, Try.ntmps9
    go_wp2_with (first | ((with_reducible refine gate_dst (N := 2) rfl ?_); refine box_event ?hg (N := 2) ?hd (cs := #[.int .i64 0, .int .i64 0, .int .i64 0, .string ByteArray.empty, .string ByteArray.empty, .slice none 0 0, .int .i64 0, .slice none 0 0]) (t := 26) ?hr ?_; (case hd => rfl); (case hg => rfl); (case hr => first | (go_simp; done) | (go_simp; rfl)); intro q2 hq w1 hbox hb; have BKq2 := Aside0.mk hbox; have HQq2 := Aside0.mk (show w.heap.size ≤ q2 from by rw [hq]; exact Nat.le_refl _); have HB1 := Aside0.mk hb; clear hbox hb hq; obtain ⟨v0, v1, v2, v3, v4, v5, v6, v7⟩ := HC.out _ HB1.out) | ((with_reducible refine gate_store (t := 26) (p := 2) rfl ?_); have ca0 : w1.cell? ⟨q2, 0, none⟩ = some (.int .i64 0) := (blk_cell BKq2.out 0).trans rfl; have ca1 : w1.cell? ⟨q2, 1, none⟩ = some (.int .i64 0) := (blk_cell BKq2.out 1).trans rfl; have ca2 : w1.cell? ⟨q2, 2, none⟩ = some (.int .i64 0) := (blk_cell BKq2.out 2).trans rfl; have ca3 : w1.cell? ⟨q2, 3, none⟩ = some (.string ByteArray.empty) := (blk_cell BKq2.out 3).trans rfl; have ca4 : w1.cell? ⟨q2, 4, none⟩ = some (.string ByteArray.empty) := (blk_cell BKq2.out 4).trans rfl; have ca5 : w1.cell? ⟨q2, 5, none⟩ = some (.slice none 0 0) := (blk_cell BKq2.out 5).trans rfl; have ca6 : w1.cell? ⟨q2, 6, none⟩ = some (.int .i64 0) := (blk_cell BKq2.out 6).trans rfl; have ca7 : w1.cell? ⟨q2, 7, none⟩ = some (.slice none 0 0) := (blk_cell BKq2.out 7).trans rfl; have fa0 : w1.frozen? ⟨q2, 0, none⟩ = false := blk_frozen BKq2.out 0; have fa1 : w1.frozen? ⟨q2, 1, none⟩ = false := blk_frozen BKq2.out 1; have fa2 : w1.frozen? ⟨q2, 2, none⟩ = false := blk_frozen BKq2.out 2; have fa3 : w1.frozen? ⟨q2, 3, none⟩ = false := blk_frozen BKq2.out 3; have fa4 : w1.frozen? ⟨q2, 4, none⟩ = false := blk_frozen BKq2.out 4; have fa5 : w1.frozen? ⟨q2, 5, none⟩ = false := blk_frozen BKq2.out 5; have fa6 : w1.frozen? ⟨q2, 6, none⟩ = false := blk_frozen BKq2.out 6; have fa7 : w1.frozen? ⟨q2, 7, none⟩ = false := blk_frozen BKq2.out 7; refine store_event (t := 26) (p := 2) (v := ?vo2_2_9) (w1 := Cells.setAll w1 q2 0 [.int .i64 0, .int .i64 0, .int .i64 0, .string ByteArray.empty, .string ByteArray.empty, .slice none 0 0, .int .i64 0, .slice none 0 0]) ?hg ?ho ?hn ?hr ?_; (case ho => rfl); (case hg => rfl); (case hn => rfl); (case hr => first | (go_simp; done) | (go_simp; rfl)); intro w2 hw; have HB2 := Aside0.mk (show Below w.heap.size w w2 from by rw [hw]; exact Cells.setAll_below HQq2.out _ _ _ HB1.out); have BKq2 := Aside0.mk (show w2.heap[q2]? = some (.cells #[.int .i64 0, .int .i64 0, .int .i64 0, .string ByteArray.empty, .string ByteArray.empty, .slice none 0 0, .int .i64 0, .slice none 0 0] 26 (0, 0)) from by rw [hw]; exact Cells.stored8 BKq2.out); clear ca0 ca1 ca2 ca3 ca4 ca5 ca6 ca7; clear fa0 fa1 fa2 fa3 fa4 fa5 fa6 fa7; clear hw))
    (try simp only [Exit.inBlock, Exit.then])
    refine bodyPost_ret (results_ct rfl _ _ q2 26 _ (0, 0) _ rfl BKq2.out Try.underlying26 rfl info26) rfl ?_
    rw [PE.out]
    exact ⟨⟨none, 0, none, 0, rfl, zPk_read' _⟩, HB2.out⟩
  subst hv
  obtain ⟨al, hal⟩ : ∃ x, 40 + y4 * 256 + y5 = x := ⟨_, rfl⟩
  have HPE := Aside0.mk (show parseE b = (if (n : Int) < al then (8, zPk) else if al < (n : Int) then (4, zPk) else match btwE (n + 1) 0 y6 (b.drop 40) with | none => (4, zPk) | some r => (0, ⟨y0 % 16 * 16 + y1 / 16, y1 % 16 * 65536 + y2 * 256 + y3, y7, strOfNums ((b.take 24).drop 8), strOfNums ((b.take 40).drop 24), r.1, r.2.1, r.2.2⟩) : Int × Pk) from by rw [HPE.out, hz, if_neg (by decide), hal])
  have s1 : IntKind.i64.wrap y4 = y4 := IntWalk.i64_in _ (by omega)
  obtain ⟨m1, hm1⟩ : ∃ x, 256 * y4 = x := ⟨_, rfl⟩
  have s2 : IntKind.i64.wrap (256 * y4) = m1 := by rw [hm1]; exact IntWalk.i64_in _ (by omega)
  obtain ⟨m2, hm2⟩ : ∃ x, 40 + m1 = x := ⟨_, rfl⟩
  have s3 : IntKind.i64.wrap (40 + m1) = m2 := by rw [hm2]; exact IntWalk.i64_in _ (by omega)
  have s4 : IntKind.i64.wrap y5 = y5 := IntWalk.i64_in _ (by omega)
  have s5 : IntKind.i64.wrap (m2 + y5) = al := by rw [← hal, ← hm2, ← hm1, IntWalk.i64_in _ (by omega)]; omega
  have HS5 := Aside0.mk (And.intro s1 (And.intro s2 (And.intro s3 (And.intro s4 s5))))
  have halr : 40 ≤ al ∧ al ≤ 66000 := by omega
  clear hm1 hm2 s1 s2 s3 s4 s5 u1 u2 hz
  go_enter Try.func9, Try.ntmps9
  obtain ⟨u1, u2, hz⟩ := HU.out
  go_wp2_with (first | ((with_reducible refine gate_dst (N := 2) rfl ?_); refine box_event ?hg (N := 2) ?hd (cs := #[.int .i64 0, .int .i64 0, .int .i64 0, .string ByteArray.empty, .string ByteArray.empty, .slice none 0 0, .int .i64 0, .slice none 0 0]) (t := 26) ?hr ?_; (case hd => rfl); (case hg => rfl); (case hr => first | (go_simp; done) | (go_simp; rfl)); intro q2 hq w1 hbox hb; have BKq2 := Aside0.mk hbox; have HQq2 := Aside0.mk (show w.heap.size ≤ q2 from by rw [hq]; exact Nat.le_refl _); have HB1 := Aside0.mk hb; clear hbox hb hq; obtain ⟨v0, v1, v2, v3, v4, v5, v6, v7⟩ := HC.out _ HB1.out))
  clear v0 v1 v2 v3 v4 v5 v6 v7 u1 u2 hz
  obtain ⟨s1, s2, s3, s4, s5⟩ := HS5.out
  refine start_ (n := 12) (S := fun W => Below w1.heap.size w1 W) (ds := []) #[false, false, false, false, false, false, false, false, false, false, false, false] (by kernel_rfl) rfl rfl (below_drew (Below.refl w1.heap.size w1)) (fun hHeld => ?_)
  refine pure_ (i := 0) (N := some 20) (v := ?_) (a' := ?_) #[true, false, false, false, false, false, false, false, false, false, false, false] rfl rfl (by as_aux_lemma => kernel_rfl) (fun _ _ _ h => h) (Or.inl ⟨by rfl, ?_⟩) ?_ ?_
  rotate_left
  · intro w'
    go_simp
    with_reducible rfl
  rotate_left
  · simp only [Act.put, List.setIfInBounds_toArray, List.set_cons_zero, List.set_cons_succ]
    rfl
  refine pure_ (i := 1) (N := some 21) (v := ?_) (a' := ?_) #[true, true, false, false, false, false, false, false, false, false, false, false] rfl rfl (by as_aux_lemma => kernel_rfl) (fun _ _ _ h => h) (Or.inl ⟨by rfl, ?_⟩) ?_ ?_
  rotate_left
  · intro w'
    go_simp
    with_reducible rfl
  rotate_left
  · simp only [Act.put, List.setIfInBounds_toArray, List.set_cons_zero, List.set_cons_succ]
    rfl
  refine take_ (i := 2) (N := some 22) (v := ?_) (a' := ?_) #[true, true, true, false, false, false, false, false, false, false, false, false] rfl rfl (by as_aux_lemma => kernel_rfl) (fun _ _ _ h => h) (Or.inl ⟨by rfl, ?_⟩) hHeld ?_ ?_
  rotate_left
  · intro w' s0
    obtain ⟨v0, v1, v2, v3, v4, v5, v6, v7⟩ := HC.out _ (HB1.out.trans (s0.mono HB1.out.size))
    go_simp
    with_reducible rfl
  rotate_left
  · simp only [Act.put, List.setIfInBounds_toArray, List.set_cons_zero, List.set_cons_succ]
    rfl
  refine pure_ (i := 3) (N := some 23) (v := ?_) (a' := ?_) #[true, true, true, true, false, false, false, false, false, false, false, false] rfl rfl (by as_aux_lemma => kernel_rfl) (fun _ _ _ h => h) (Or.inl ⟨by rfl, ?_⟩) ?_ ?_
  rotate_left
  · intro w'
    go_simp
    with_reducible rfl
  rotate_left
  · simp only [Act.put, List.setIfInBounds_toArray, List.set_cons_zero, List.set_cons_succ]
    rfl
  refine pure_ (i := 4) (N := some 24) (v := ?_) (a' := ?_) #[true, true, true, true, true, false, false, false, false, false, false, false] rfl rfl (by as_aux_lemma => kernel_rfl) (fun _ _ _ h => h) (Or.inl ⟨by rfl, ?_⟩) ?_ ?_
  rotate_left
  · intro w'
    go_simp
    with_reducible rfl
  rotate_left
  · simp only [Act.put, List.setIfInBounds_toArray, List.set_cons_zero, List.set_cons_succ]
    rfl
  refine pure_ (i := 5) (N := some 25) (v := ?_) (a' := ?_) #[true, true, true, true, true, true, false, false, false, false, false, false] rfl rfl (by as_aux_lemma => kernel_rfl) (fun _ _ _ h => h) (Or.inl ⟨by rfl, ?_⟩) ?_ ?_
  rotate_left
  · intro w'
    go_simp
    with_reducible rfl
  rotate_left
  · simp only [Act.put, List.setIfInBounds_toArray, List.set_cons_zero, List.set_cons_succ]
    rfl
  refine pure_ (i := 6) (N := some 26) (v := ?_) (a' := ?_) #[true, true, true, true, true, true, true, false, false, false, false, false] rfl rfl (by as_aux_lemma => kernel_rfl) (fun _ _ _ h => h) (Or.inl ⟨by rfl, ?_⟩) ?_ ?_
  rotate_left
  · intro w'
    go_simp
    with_reducible rfl
  rotate_left
  · simp only [Act.put, List.setIfInBounds_toArray, List.set_cons_zero, List.set_cons_succ]
    rfl
  refine pure_ (i := 7) (N := some 27) (v := ?_) (a' := ?_) #[true, true, true, true, true, true, true, true, false, false, false, false] rfl rfl (by as_aux_lemma => kernel_rfl) (fun _ _ _ h => h) (Or.inl ⟨by rfl, ?_⟩) ?_ ?_
  rotate_left
  · intro w'
    go_simp
    with_reducible rfl
  rotate_left
  · simp only [Act.put, List.setIfInBounds_toArray, List.set_cons_zero, List.set_cons_succ]
    rfl
  refine take_ (i := 8) (N := some 28) (v := ?_) (a' := ?_) #[true, true, true, true, true, true, true, true, true, false, false, false] rfl rfl (by as_aux_lemma => kernel_rfl) (fun _ _ _ h => h) (Or.inl ⟨by rfl, ?_⟩) hHeld ?_ ?_
  rotate_left
  · intro w' s0
    obtain ⟨v0, v1, v2, v3, v4, v5, v6, v7⟩ := HC.out _ (HB1.out.trans (s0.mono HB1.out.size))
    go_simp
    with_reducible rfl
  rotate_left
  · simp only [Act.put, List.setIfInBounds_toArray, List.set_cons_zero, List.set_cons_succ]
    rfl
  refine pure_ (i := 9) (N := some 29) (v := ?_) (a' := ?_) #[true, true, true, true, true, true, true, true, true, true, false, false] rfl rfl (by as_aux_lemma => kernel_rfl) (fun _ _ _ h => h) (Or.inl ⟨by rfl, ?_⟩) ?_ ?_
  rotate_left
  · intro w'
    go_simp
    with_reducible rfl
  rotate_left
  · simp only [Act.put, List.setIfInBounds_toArray, List.set_cons_zero, List.set_cons_succ]
    rfl
  refine pure_ (i := 10) (N := some 30) (v := ?_) (a' := ?_) #[true, true, true, true, true, true, true, true, true, true, true, false] rfl rfl (by as_aux_lemma => kernel_rfl) (fun _ _ _ h => h) (Or.inl ⟨by rfl, ?_⟩) ?_ ?_
  rotate_left
  · intro w'
    go_simp
    with_reducible rfl
  rotate_left
  · simp only [Act.put, List.setIfInBounds_toArray, List.set_cons_zero, List.set_cons_succ]
    rfl
  refine pure_ (i := 11) (N := some 4) (v := ?_) (a' := ?_) #[true, true, true, true, true, true, true, true, true, true, true, true] rfl rfl (by as_aux_lemma => kernel_rfl) (fun _ _ _ h => h) (Or.inl ⟨by rfl, ?_⟩) ?_ ?_
  rotate_left
  · intro w'
    go_simp
    with_reducible rfl
  rotate_left
  · simp only [Act.put, List.setIfInBounds_toArray, List.set_cons_zero, List.set_cons_succ]
    rfl
  refine done_ (by kernel_rfl) ?_
  have HB2 := Aside0.mk (HB1.out.trans (hHeld.mono HB1.out.size))
  have BKq2 := Aside0.mk (blk_below BKq2.out hHeld)
  generalize w1.drew = w2 at HB2 BKq2 hHeld ⊢
  clear hHeld s1 s2 s3 s4 s5
  have e4' : ((4 : Int) = 4) := rfl
  clear e4'
  by_cases hs1 : (n : Int) < al
  · have ds1 : decide ((n : Int) < al) = true := decide_eq_true hs1
    have PE := Aside0.mk (show parseE b = (8, zPk) from by rw [HPE.out, if_pos hs1])
    clear hs1
    go_wp2_with (first | ((with_reducible refine gate_store (t := 26) (p := 2) rfl ?_); have ca0 : w2.cell? ⟨q2, 0, none⟩ = some (.int .i64 0) := (blk_cell BKq2.out 0).trans rfl; have ca1 : w2.cell? ⟨q2, 1, none⟩ = some (.int .i64 0) := (blk_cell BKq2.out 1).trans rfl; have ca2 : w2.cell? ⟨q2, 2, none⟩ = some (.int .i64 0) := (blk_cell BKq2.out 2).trans rfl; have ca3 : w2.cell? ⟨q2, 3, none⟩ = some (.string ByteArray.empty) := (blk_cell BKq2.out 3).trans rfl; have ca4 : w2.cell? ⟨q2, 4, none⟩ = some (.string ByteArray.empty) := (blk_cell BKq2.out 4).trans rfl; have ca5 : w2.cell? ⟨q2, 5, none⟩ = some (.slice none 0 0) := (blk_cell BKq2.out 5).trans rfl; have ca6 : w2.cell? ⟨q2, 6, none⟩ = some (.int .i64 0) := (blk_cell BKq2.out 6).trans rfl; have ca7 : w2.cell? ⟨q2, 7, none⟩ = some (.slice none 0 0) := (blk_cell BKq2.out 7).trans rfl; have fa0 : w2.frozen? ⟨q2, 0, none⟩ = false := blk_frozen BKq2.out 0; have fa1 : w2.frozen? ⟨q2, 1, none⟩ = false := blk_frozen BKq2.out 1; have fa2 : w2.frozen? ⟨q2, 2, none⟩ = false := blk_frozen BKq2.out 2; have fa3 : w2.frozen? ⟨q2, 3, none⟩ = false := blk_frozen BKq2.out 3; have fa4 : w2.frozen? ⟨q2, 4, none⟩ = false := blk_frozen BKq2.out 4; have fa5 : w2.frozen? ⟨q2, 5, none⟩ = false := blk_frozen BKq2.out 5; have fa6 : w2.frozen? ⟨q2, 6, none⟩ = false := blk_frozen BKq2.out 6; have fa7 : w2.frozen? ⟨q2, 7, none⟩ = false := blk_frozen BKq2.out 7; refine store_event (t := 26) (p := 2) (v := ?vo2_3_10) (w1 := Cells.setAll w2 q2 0 [.int .i64 0, .int .i64 0, .int .i64 0, .string ByteArray.empty, .string ByteArray.empty, .slice none 0 0, .int .i64 0, .slice none 0 0]) ?hg ?ho ?hn ?hr ?_; (case ho => rfl); (case hg => rfl); (case hn => rfl); (case hr => first | (go_simp; done) | (go_simp; rfl)); intro w3 hw; have HB3 := Aside0.mk (show Below w.heap.size w w3 from by rw [hw]; exact Cells.setAll_below HQq2.out _ _ _ HB2.out); have BKq2 := Aside0.mk (show w3.heap[q2]? = some (.cells #[.int .i64 0, .int .i64 0, .int .i64 0, .string ByteArray.empty, .string ByteArray.empty, .slice none 0 0, .int .i64 0, .slice none 0 0] 26 (0, 0)) from by rw [hw]; exact Cells.stored8 BKq2.out); clear ca0 ca1 ca2 ca3 ca4 ca5 ca6 ca7; clear fa0 fa1 fa2 fa3 fa4 fa5 fa6 fa7; clear hw))
    (try simp only [Exit.inBlock, Exit.then])
    refine bodyPost_ret (results_ct rfl _ _ q2 26 _ (0, 0) _ rfl BKq2.out Try.underlying26 rfl info26) rfl ?_
    rw [PE.out]
    exact ⟨⟨none, 0, none, 0, rfl, zPk_read' _⟩, HB3.out⟩
  have ds1 : decide ((n : Int) < al) = false := decide_eq_false hs1
  by_cases hs2 : al < (n : Int)
  · have ds2 : decide (al < (n : Int)) = true := decide_eq_true hs2
    have PE := Aside0.mk (show parseE b = (4, zPk) from by rw [HPE.out, if_neg hs1, if_pos hs2])
    clear hs1 hs2
    go_wp2_with (first | ((with_reducible refine gate_store (t := 26) (p := 2) rfl ?_); have ca0 : w2.cell? ⟨q2, 0, none⟩ = some (.int .i64 0) := (blk_cell BKq2.out 0).trans rfl; have ca1 : w2.cell? ⟨q2, 1, none⟩ = some (.int .i64 0) := (blk_cell BKq2.out 1).trans rfl; have ca2 : w2.cell? ⟨q2, 2, none⟩ = some (.int .i64 0) := (blk_cell BKq2.out 2).trans rfl; have ca3 : w2.cell? ⟨q2, 3, none⟩ = some (.string ByteArray.empty) := (blk_cell BKq2.out 3).trans rfl; have ca4 : w2.cell? ⟨q2, 4, none⟩ = some (.string ByteArray.empty) := (blk_cell BKq2.out 4).trans rfl; have ca5 : w2.cell? ⟨q2, 5, none⟩ = some (.slice none 0 0) := (blk_cell BKq2.out 5).trans rfl; have ca6 : w2.cell? ⟨q2, 6, none⟩ = some (.int .i64 0) := (blk_cell BKq2.out 6).trans rfl; have ca7 : w2.cell? ⟨q2, 7, none⟩ = some (.slice none 0 0) := (blk_cell BKq2.out 7).trans rfl; have fa0 : w2.frozen? ⟨q2, 0, none⟩ = false := blk_frozen BKq2.out 0; have fa1 : w2.frozen? ⟨q2, 1, none⟩ = false := blk_frozen BKq2.out 1; have fa2 : w2.frozen? ⟨q2, 2, none⟩ = false := blk_frozen BKq2.out 2; have fa3 : w2.frozen? ⟨q2, 3, none⟩ = false := blk_frozen BKq2.out 3; have fa4 : w2.frozen? ⟨q2, 4, none⟩ = false := blk_frozen BKq2.out 4; have fa5 : w2.frozen? ⟨q2, 5, none⟩ = false := blk_frozen BKq2.out 5; have fa6 : w2.frozen? ⟨q2, 6, none⟩ = false := blk_frozen BKq2.out 6; have fa7 : w2.frozen? ⟨q2, 7, none⟩ = false := blk_frozen BKq2.out 7; refine store_event (t := 26) (p := 2) (v := ?vo2_3_11) (w1 := Cells.setAll w2 q2 0 [.int .i64 0, .int .i64 0, .int .i64 0, .string ByteArray.empty, .string ByteArray.empty, .slice none 0 0, .int .i64 0, .slice none 0 0]) ?hg ?ho ?hn ?hr ?_; (case ho => rfl); (case hg => rfl); (case hn => rfl); (case hr => first | (go_simp; done) | (go_simp; rfl)); intro w3 hw; have HB3 := Aside0.mk (show Below w.heap.size w w3 from by rw [hw]; exact Cells.setAll_below HQq2.out _ _ _ HB2.out); have BKq2 := Aside0.mk (show w3.heap[q2]? = some (.cells #[.int .i64 0, .int .i64 0, .int .i64 0, .string ByteArray.empty, .string ByteArray.empty, .slice none 0 0, .int .i64 0, .slice none 0 0] 26 (0, 0)) from by rw [hw]; exact Cells.stored8 BKq2.out); clear ca0 ca1 ca2 ca3 ca4 ca5 ca6 ca7; clear fa0 fa1 fa2 fa3 fa4 fa5 fa6 fa7; clear hw))
    (try simp only [Exit.inBlock, Exit.then])
    refine bodyPost_ret (results_ct rfl _ _ q2 26 _ (0, 0) _ rfl BKq2.out Try.underlying26 rfl info26) rfl ?_
    rw [PE.out]
    exact ⟨⟨none, 0, none, 0, rfl, zPk_read' _⟩, HB3.out⟩
  have ds2 : decide (al < (n : Int)) = false := decide_eq_false hs2
  obtain ⟨res, hres⟩ : ∃ x, btwE (n + 1) 0 y6 (b.drop 40) = x := ⟨_, rfl⟩
  have HRES := Aside0.mk hres
  have HPE := Aside0.mk (show parseE b = asmP (y0 % 16 * 16 + y1 / 16) (y1 % 16 * 65536 + y2 * 256 + y3) y7 (strOfNums ((b.take 24).drop 8)) (strOfNums ((b.take 40).drop 24)) res from by rw [HPE.out, if_neg hs1, if_neg hs2, hres]; clear HRES hres; cases res <;> rfl)
  clear hs1 hs2 hres
  obtain ⟨CLS, hCLS⟩ : ∃ x, y0 % 16 * 16 + y1 / 16 = x := ⟨_, rfl⟩
  obtain ⟨LAB, hLAB⟩ : ∃ x, y1 % 16 * 65536 + y2 * 256 + y3 = x := ⟨_, rfl⟩
  obtain ⟨SRC, hSRC⟩ : ∃ x, strOfNums ((b.take 24).drop 8) = x := ⟨_, rfl⟩
  obtain ⟨DST, hDST⟩ : ∃ x, strOfNums ((b.take 40).drop 24) = x := ⟨_, rfl⟩
  have r0 : IntKind.i64.wrap y0 = y0 := IntWalk.i64_in _ (by omega)
  have r1 : IntKind.i64.wrap y1 = y1 := IntWalk.i64_in _ (by omega)
  have r2 : IntKind.i64.wrap y2 = y2 := IntWalk.i64_in _ (by omega)
  have r3 : IntKind.i64.wrap y3 = y3 := IntWalk.i64_in _ (by omega)
  have r7 : IntKind.i64.wrap y7 = y7 := IntWalk.i64_in _ (by omega)
  obtain ⟨a1, ha1⟩ : ∃ x, y0 % 16 = x := ⟨_, rfl⟩
  obtain ⟨a2, ha2⟩ : ∃ x, a1 * 16 = x := ⟨_, rfl⟩
  obtain ⟨a3, ha3⟩ : ∃ x, y1 / 16 = x := ⟨_, rfl⟩
  obtain ⟨a4, ha4⟩ : ∃ x, y1 % 16 = x := ⟨_, rfl⟩
  obtain ⟨a5, ha5⟩ : ∃ x, 65536 * a4 = x := ⟨_, rfl⟩
  obtain ⟨a6, ha6⟩ : ∃ x, 256 * y2 = x := ⟨_, rfl⟩
  obtain ⟨a7, ha7⟩ : ∃ x, a5 + a6 = x := ⟨_, rfl⟩
  have q1 : Int.tmod y0 16 = a1 := by rw [Int.tmod_eq_emod_of_nonneg (by omega)]; exact ha1
  have q2' : IntKind.i64.wrap (a1 * 16) = a2 := by rw [ha2]; exact IntWalk.i64_in _ (by omega)
  have q3 : Int.tdiv y1 16 = a3 := by rw [Int.tdiv_eq_ediv_of_nonneg (by omega)]; exact ha3
  have q3' : IntKind.i64.wrap a3 = a3 := IntWalk.i64_in _ (by omega)
  have q4 : IntKind.i64.wrap (a2 + a3) = CLS := by rw [IntWalk.i64_in _ (by omega)]; omega
  have q5' : Int.tmod y1 16 = a4 := by rw [Int.tmod_eq_emod_of_nonneg (by omega)]; exact ha4
  have q6 : IntKind.i64.wrap (65536 * a4) = a5 := by rw [ha5]; exact IntWalk.i64_in _ (by omega)
  have q7 : IntKind.i64.wrap (256 * y2) = a6 := by rw [ha6]; exact IntWalk.i64_in _ (by omega)
  have q8 : IntKind.i64.wrap (a5 + a6) = a7 := by rw [ha7]; exact IntWalk.i64_in _ (by omega)
  have q9 : IntKind.i64.wrap (a7 + y3) = LAB := by rw [IntWalk.i64_in _ (by omega)]; omega
  have HPE := Aside0.mk (show parseE b = asmP CLS LAB y7 SRC DST res from by rw [HPE.out, hCLS, hLAB, hSRC, hDST])
  obtain ⟨i5, hi5, _, hsz5, _⟩ := info_parts info5'
  obtain ⟨A8, hm8, hm8r, _⟩ := print_mid_int (P := Try.prog) (k := .u8) 22 5 Try.underlying22 hi5 hsz5 (some ad) c0 b (8 : Int) (24 : Int) (by omega) (by omega) (by omega) (by have := HN.out; omega)
  obtain ⟨A24, hm24, hm24r, _⟩ := print_mid_int (P := Try.prog) (k := .u8) 22 5 Try.underlying22 hi5 hsz5 (some ad) c0 b (24 : Int) (40 : Int) (by omega) (by omega) (by omega) (by have := HN.out; omega)
  rw [show ((8 : Int)).toNat = 8 from rfl, show ((24 : Int)).toNat = 24 from rfl] at hm8 hm8r
  rw [show ((24 : Int)).toNat = 24 from rfl, show ((40 : Int)).toNat = 40 from rfl] at hm24 hm24r
  have hl8 : ((b.take 24).drop 8).length = 16 := by rw [List.length_drop, List.length_take]; omega
  have hl24 : ((b.take 40).drop 24).length = 16 := by rw [List.length_drop, List.length_take]; omega
  have CV := Aside0.mk (show ∀ W, Below w.heap.size w W → (convert 22 9 (.slice A8 16 (c0 - 8))).run Try.prog W = .ok (.string SRC) W ∧ (convert 22 9 (.slice A24 16 (c0 - 24))).run Try.prog W = .ok (.string DST) W from fun W hW => by
    have q1 := string_of_reads (P := Try.prog) (c := c0 - 8) Try.underlying22 Try.underlying5 Try.underlying9 (hm8r W (readsInt_below HRW.out hW))
    have q2 := string_of_reads (P := Try.prog) (c := c0 - 24) Try.underlying22 Try.underlying5 Try.underlying9 (hm24r W (readsInt_below HRW.out hW))
    rw [hl8, hSRC] at q1
    rw [hl24, hDST] at q2
    exact ⟨q1, q2⟩)
  rw [hl8, HN.out] at hm8
  rw [hl24, HN.out] at hm24
  clear ha1 ha2 ha3 ha4 ha5 ha6 ha7 hCLS hLAB hSRC hDST hm8r hm24r hl8 hl24 hi5 hsz5
  have QA := Aside0.mk (And.intro r0 (And.intro r1 (And.intro r2 (And.intro r3 (And.intro r7 (And.intro q1 (And.intro q2' (And.intro q3 (And.intro q3' (And.intro q4 (And.intro q5' (And.intro q6 (And.intro q7 (And.intro q8 q9))))))))))))))
  clear r0 r1 r2 r3 r7 q1 q2' q3 q3' q4 q5' q6 q7 q8 q9
  go_wp2_with (fail)
  obtain ⟨r0, r1, r2, r3, r7, q1, q2', q3, q3', q4, q5', q6, q7, q8, q9⟩ := QA.out
  refine start_ (n := 42) (S := fun W => Below w2.heap.size w2 W) (ds := []) #[false, false, false, false, false, false, false, false, false, false, false, false, false, false, false, false, false, false, false, false, false, false, false, false, false, false, false, false, false, false, false, false, false, false, false, false, false, false, false, false, false, false] (by kernel_rfl) rfl rfl (below_drew (Below.refl w2.heap.size w2)) (fun hHeld => ?_)
  refine pure_ (i := 0) (N := some 41) (v := ?_) (a' := ?_) #[true, false, false, false, false, false, false, false, false, false, false, false, false, false, false, false, false, false, false, false, false, false, false, false, false, false, false, false, false, false, false, false, false, false, false, false, false, false, false, false, false, false] rfl rfl (by as_aux_lemma => kernel_rfl) (fun _ _ _ h => h) (Or.inl ⟨by rfl, ?_⟩) ?_ ?_
  rotate_left
  · intro w'
    go_simp
    with_reducible rfl
  rotate_left
  · simp only [Act.put, List.setIfInBounds_toArray, List.set_cons_zero, List.set_cons_succ]
    rfl
  refine pure_ (i := 1) (N := some 42) (v := ?_) (a' := ?_) #[true, true, false, false, false, false, false, false, false, false, false, false, false, false, false, false, false, false, false, false, false, false, false, false, false, false, false, false, false, false, false, false, false, false, false, false, false, false, false, false, false, false] rfl rfl (by as_aux_lemma => kernel_rfl) (fun _ _ _ h => h) (Or.inl ⟨by rfl, ?_⟩) ?_ ?_
  rotate_left
  · intro w'
    go_simp
    with_reducible rfl
  rotate_left
  · simp only [Act.put, List.setIfInBounds_toArray, List.set_cons_zero, List.set_cons_succ]
    rfl
  refine take_ (i := 2) (N := some 43) (v := ?_) (a' := ?_) #[true, true, true, false, false, false, false, false, false, false, false, false, false, false, false, false, false, false, false, false, false, false, false, false, false, false, false, false, false, false, false, false, false, false, false, false, false, false, false, false, false, false] rfl rfl (by as_aux_lemma => kernel_rfl) (fun _ _ _ h => h) (Or.inl ⟨by rfl, ?_⟩) hHeld ?_ ?_
  rotate_left
  · intro w' s0
    obtain ⟨v0, v1, v2, v3, v4, v5, v6, v7⟩ := HC.out _ (HB2.out.trans (s0.mono HB2.out.size))
    obtain ⟨cv1, cv2⟩ := CV.out _ (HB2.out.trans (s0.mono HB2.out.size))
    go_simp
    with_reducible rfl
  rotate_left
  · simp only [Act.put, List.setIfInBounds_toArray, List.set_cons_zero, List.set_cons_succ]
    rfl
  refine pure_ (i := 3) (N := some 44) (v := ?_) (a' := ?_) #[true, true, true, true, false, false, false, false, false, false, false, false, false, false, false, false, false, false, false, false, false, false, false, false, false, false, false, false, false, false, false, false, false, false, false, false, false, false, false, false, false, false] rfl rfl (by as_aux_lemma => kernel_rfl) (fun _ _ _ h => h) (Or.inl ⟨by rfl, ?_⟩) ?_ ?_
  rotate_left
  · intro w'
    go_simp
    with_reducible rfl
  rotate_left
  · simp only [Act.put, List.setIfInBounds_toArray, List.set_cons_zero, List.set_cons_succ]
    rfl
  refine pure_ (i := 4) (N := some 45) (v := ?_) (a' := ?_) #[true, true, true, true, true, false, false, false, false, false, false, false, false, false, false, false, false, false, false, false, false, false, false, false, false, false, false, false, false, false, false, false, false, false, false, false, false, false, false, false, false, false] rfl rfl (by as_aux_lemma => kernel_rfl) (fun _ _ _ h => h) (Or.inl ⟨by rfl, ?_⟩) ?_ ?_
  rotate_left
  · intro w'
    go_simp
    with_reducible rfl
  rotate_left
  · simp only [Act.put, List.setIfInBounds_toArray, List.set_cons_zero, List.set_cons_succ]
    rfl
  refine pure_ (i := 5) (N := some 46) (v := ?_) (a' := ?_) #[true, true, true, true, true, true, false, false, false, false, false, false, false, false, false, false, false, false, false, false, false, false, false, false, false, false, false, false, false, false, false, false, false, false, false, false, false, false, false, false, false, false] rfl rfl (by as_aux_lemma => kernel_rfl) (fun _ _ _ h => h) (Or.inl ⟨by rfl, ?_⟩) ?_ ?_
  rotate_left
  · intro w'
    go_simp
    with_reducible rfl
  rotate_left
  · simp only [Act.put, List.setIfInBounds_toArray, List.set_cons_zero, List.set_cons_succ]
    rfl
  refine pure_ (i := 6) (N := some 47) (v := ?_) (a' := ?_) #[true, true, true, true, true, true, true, false, false, false, false, false, false, false, false, false, false, false, false, false, false, false, false, false, false, false, false, false, false, false, false, false, false, false, false, false, false, false, false, false, false, false] rfl rfl (by as_aux_lemma => kernel_rfl) (fun _ _ _ h => h) (Or.inl ⟨by rfl, ?_⟩) ?_ ?_
  rotate_left
  · intro w'
    go_simp
    with_reducible rfl
  rotate_left
  · simp only [Act.put, List.setIfInBounds_toArray, List.set_cons_zero, List.set_cons_succ]
    rfl
  refine pure_ (i := 7) (N := some 48) (v := ?_) (a' := ?_) #[true, true, true, true, true, true, true, true, false, false, false, false, false, false, false, false, false, false, false, false, false, false, false, false, false, false, false, false, false, false, false, false, false, false, false, false, false, false, false, false, false, false] rfl rfl (by as_aux_lemma => kernel_rfl) (fun _ _ _ h => h) (Or.inl ⟨by rfl, ?_⟩) ?_ ?_
  rotate_left
  · intro w'
    go_simp
    with_reducible rfl
  rotate_left
  · simp only [Act.put, List.setIfInBounds_toArray, List.set_cons_zero, List.set_cons_succ]
    rfl
  refine take_ (i := 8) (N := some 49) (v := ?_) (a' := ?_) #[true, true, true, true, true, true, true, true, true, false, false, false, false, false, false, false, false, false, false, false, false, false, false, false, false, false, false, false, false, false, false, false, false, false, false, false, false, false, false, false, false, false] rfl rfl (by as_aux_lemma => kernel_rfl) (fun _ _ _ h => h) (Or.inl ⟨by rfl, ?_⟩) hHeld ?_ ?_
  rotate_left
  · intro w' s0
    obtain ⟨v0, v1, v2, v3, v4, v5, v6, v7⟩ := HC.out _ (HB2.out.trans (s0.mono HB2.out.size))
    obtain ⟨cv1, cv2⟩ := CV.out _ (HB2.out.trans (s0.mono HB2.out.size))
    go_simp
    with_reducible rfl
  rotate_left
  · simp only [Act.put, List.setIfInBounds_toArray, List.set_cons_zero, List.set_cons_succ]
    rfl
  refine pure_ (i := 9) (N := some 50) (v := ?_) (a' := ?_) #[true, true, true, true, true, true, true, true, true, true, false, false, false, false, false, false, false, false, false, false, false, false, false, false, false, false, false, false, false, false, false, false, false, false, false, false, false, false, false, false, false, false] rfl rfl (by as_aux_lemma => kernel_rfl) (fun _ _ _ h => h) (Or.inl ⟨by rfl, ?_⟩) ?_ ?_
  rotate_left
  · intro w'
    go_simp
    with_reducible rfl
  rotate_left
  · simp only [Act.put, List.setIfInBounds_toArray, List.set_cons_zero, List.set_cons_succ]
    rfl
  refine pure_ (i := 10) (N := some 51) (v := ?_) (a' := ?_) #[true, true, true, true, true, true, true, true, true, true, true, false, false, false, false, false, false, false, false, false, false, false, false, false, false, false, false, false, false, false, false, false, false, false, false, false, false, false, false, false, false, false] rfl rfl (by as_aux_lemma => kernel_rfl) (fun _ _ _ h => h) (Or.inl ⟨by rfl, ?_⟩) ?_ ?_
  rotate_left
  · intro w'
    go_simp
    with_reducible rfl
  rotate_left
  · simp only [Act.put, List.setIfInBounds_toArray, List.set_cons_zero, List.set_cons_succ]
    rfl
  refine pure_ (i := 11) (N := some 52) (v := ?_) (a' := ?_) #[true, true, true, true, true, true, true, true, true, true, true, true, false, false, false, false, false, false, false, false, false, false, false, false, false, false, false, false, false, false, false, false, false, false, false, false, false, false, false, false, false, false] rfl rfl (by as_aux_lemma => kernel_rfl) (fun _ _ _ h => h) (Or.inl ⟨by rfl, ?_⟩) ?_ ?_
  rotate_left
  · intro w'
    go_simp
    with_reducible rfl
  rotate_left
  · simp only [Act.put, List.setIfInBounds_toArray, List.set_cons_zero, List.set_cons_succ]
    rfl
  refine pure_ (i := 12) (N := some 53) (v := ?_) (a' := ?_) #[true, true, true, true, true, true, true, true, true, true, true, true, true, false, false, false, false, false, false, false, false, false, false, false, false, false, false, false, false, false, false, false, false, false, false, false, false, false, false, false, false, false] rfl rfl (by as_aux_lemma => kernel_rfl) (fun _ _ _ h => h) (Or.inl ⟨by rfl, ?_⟩) ?_ ?_
  rotate_left
  · intro w'
    go_simp
    with_reducible rfl
  rotate_left
  · simp only [Act.put, List.setIfInBounds_toArray, List.set_cons_zero, List.set_cons_succ]
    rfl
  refine pure_ (i := 13) (N := some 54) (v := ?_) (a' := ?_) #[true, true, true, true, true, true, true, true, true, true, true, true, true, true, false, false, false, false, false, false, false, false, false, false, false, false, false, false, false, false, false, false, false, false, false, false, false, false, false, false, false, false] rfl rfl (by as_aux_lemma => kernel_rfl) (fun _ _ _ h => h) (Or.inl ⟨by rfl, ?_⟩) ?_ ?_
  rotate_left
  · intro w'
    go_simp
    with_reducible rfl
  rotate_left
  · simp only [Act.put, List.setIfInBounds_toArray, List.set_cons_zero, List.set_cons_succ]
    rfl
  refine take_ (i := 14) (N := some 55) (v := ?_) (a' := ?_) #[true, true, true, true, true, true, true, true, true, true, true, true, true, true, true, false, false, false, false, false, false, false, false, false, false, false, false, false, false, false, false, false, false, false, false, false, false, false, false, false, false, false] rfl rfl (by as_aux_lemma => kernel_rfl) (fun _ _ _ h => h) (Or.inl ⟨by rfl, ?_⟩) hHeld ?_ ?_
  rotate_left
  · intro w' s0
    obtain ⟨v0, v1, v2, v3, v4, v5, v6, v7⟩ := HC.out _ (HB2.out.trans (s0.mono HB2.out.size))
    obtain ⟨cv1, cv2⟩ := CV.out _ (HB2.out.trans (s0.mono HB2.out.size))
    go_simp
    with_reducible rfl
  rotate_left
  · simp only [Act.put, List.setIfInBounds_toArray, List.set_cons_zero, List.set_cons_succ]
    rfl
  refine pure_ (i := 15) (N := some 56) (v := ?_) (a' := ?_) #[true, true, true, true, true, true, true, true, true, true, true, true, true, true, true, true, false, false, false, false, false, false, false, false, false, false, false, false, false, false, false, false, false, false, false, false, false, false, false, false, false, false] rfl rfl (by as_aux_lemma => kernel_rfl) (fun _ _ _ h => h) (Or.inl ⟨by rfl, ?_⟩) ?_ ?_
  rotate_left
  · intro w'
    go_simp
    with_reducible rfl
  rotate_left
  · simp only [Act.put, List.setIfInBounds_toArray, List.set_cons_zero, List.set_cons_succ]
    rfl
  refine pure_ (i := 16) (N := some 57) (v := ?_) (a' := ?_) #[true, true, true, true, true, true, true, true, true, true, true, true, true, true, true, true, true, false, false, false, false, false, false, false, false, false, false, false, false, false, false, false, false, false, false, false, false, false, false, false, false, false] rfl rfl (by as_aux_lemma => kernel_rfl) (fun _ _ _ h => h) (Or.inl ⟨by rfl, ?_⟩) ?_ ?_
  rotate_left
  · intro w'
    go_simp
    with_reducible rfl
  rotate_left
  · simp only [Act.put, List.setIfInBounds_toArray, List.set_cons_zero, List.set_cons_succ]
    rfl
  refine pure_ (i := 17) (N := some 58) (v := ?_) (a' := ?_) #[true, true, true, true, true, true, true, true, true, true, true, true, true, true, true, true, true, true, false, false, false, false, false, false, false, false, false, false, false, false, false, false, false, false, false, false, false, false, false, false, false, false] rfl rfl (by as_aux_lemma => kernel_rfl) (fun _ _ _ h => h) (Or.inl ⟨by rfl, ?_⟩) ?_ ?_
  rotate_left
  · intro w'
    go_simp
    with_reducible rfl
  rotate_left
  · simp only [Act.put, List.setIfInBounds_toArray, List.set_cons_zero, List.set_cons_succ]
    rfl
  refine pure_ (i := 18) (N := some 59) (v := ?_) (a' := ?_) #[true, true, true, true, true, true, true, true, true, true, true, true, true, true, true, true, true, true, true, false, false, false, false, false, false, false, false, false, false, false, false, false, false, false, false, false, false, false, false, false, false, false] rfl rfl (by as_aux_lemma => kernel_rfl) (fun _ _ _ h => h) (Or.inl ⟨by rfl, ?_⟩) ?_ ?_
  rotate_left
  · intro w'
    go_simp
    with_reducible rfl
  rotate_left
  · simp only [Act.put, List.setIfInBounds_toArray, List.set_cons_zero, List.set_cons_succ]
    rfl
  refine pure_ (i := 19) (N := some 60) (v := ?_) (a' := ?_) #[true, true, true, true, true, true, true, true, true, true, true, true, true, true, true, true, true, true, true, true, false, false, false, false, false, false, false, false, false, false, false, false, false, false, false, false, false, false, false, false, false, false] rfl rfl (by as_aux_lemma => kernel_rfl) (fun _ _ _ h => h) (Or.inl ⟨by rfl, ?_⟩) ?_ ?_
  rotate_left
  · intro w'
    go_simp
    with_reducible rfl
  rotate_left
  · simp only [Act.put, List.setIfInBounds_toArray, List.set_cons_zero, List.set_cons_succ]
    rfl
  refine take_ (i := 20) (N := some 61) (v := ?_) (a' := ?_) #[true, true, true, true, true, true, true, true, true, true, true, true, true, true, true, true, true, true, true, true, true, false, false, false, false, false, false, false, false, false, false, false, false, false, false, false, false, false, false, false, false, false] rfl rfl (by as_aux_lemma => kernel_rfl) (fun _ _ _ h => h) (Or.inl ⟨by rfl, ?_⟩) hHeld ?_ ?_
  rotate_left
  · intro w' s0
    obtain ⟨v0, v1, v2, v3, v4, v5, v6, v7⟩ := HC.out _ (HB2.out.trans (s0.mono HB2.out.size))
    obtain ⟨cv1, cv2⟩ := CV.out _ (HB2.out.trans (s0.mono HB2.out.size))
    go_simp
    with_reducible rfl
  rotate_left
  · simp only [Act.put, List.setIfInBounds_toArray, List.set_cons_zero, List.set_cons_succ]
    rfl
  refine pure_ (i := 21) (N := some 62) (v := ?_) (a' := ?_) #[true, true, true, true, true, true, true, true, true, true, true, true, true, true, true, true, true, true, true, true, true, true, false, false, false, false, false, false, false, false, false, false, false, false, false, false, false, false, false, false, false, false] rfl rfl (by as_aux_lemma => kernel_rfl) (fun _ _ _ h => h) (Or.inl ⟨by rfl, ?_⟩) ?_ ?_
  rotate_left
  · intro w'
    go_simp
    with_reducible rfl
  rotate_left
  · simp only [Act.put, List.setIfInBounds_toArray, List.set_cons_zero, List.set_cons_succ]
    rfl
  refine pure_ (i := 22) (N := some 63) (v := ?_) (a' := ?_) #[true, true, true, true, true, true, true, true, true, true, true, true, true, true, true, true, true, true, true, true, true, true, true, false, false, false, false, false, false, false, false, false, false, false, false, false, false, false, false, false, false, false] rfl rfl (by as_aux_lemma => kernel_rfl) (fun _ _ _ h => h) (Or.inl ⟨by rfl, ?_⟩) ?_ ?_
  rotate_left
  · intro w'
    go_simp
    with_reducible rfl
  rotate_left
  · simp only [Act.put, List.setIfInBounds_toArray, List.set_cons_zero, List.set_cons_succ]
    rfl
  refine pure_ (i := 23) (N := some 64) (v := ?_) (a' := ?_) #[true, true, true, true, true, true, true, true, true, true, true, true, true, true, true, true, true, true, true, true, true, true, true, true, false, false, false, false, false, false, false, false, false, false, false, false, false, false, false, false, false, false] rfl rfl (by as_aux_lemma => kernel_rfl) (fun _ _ _ h => h) (Or.inl ⟨by rfl, ?_⟩) ?_ ?_
  rotate_left
  · intro w'
    go_simp
    with_reducible rfl
  rotate_left
  · simp only [Act.put, List.setIfInBounds_toArray, List.set_cons_zero, List.set_cons_succ]
    rfl
  refine pure_ (i := 24) (N := some 65) (v := ?_) (a' := ?_) #[true, true, true, true, true, true, true, true, true, true, true, true, true, true, true, true, true, true, true, true, true, true, true, true, true, false, false, false, false, false, false, false, false, false, false, false, false, false, false, false, false, false] rfl rfl (by as_aux_lemma => kernel_rfl) (fun _ _ _ h => h) (Or.inl ⟨by rfl, ?_⟩) ?_ ?_
  rotate_left
  · intro w'
    go_simp
    with_reducible rfl
  rotate_left
  · simp only [Act.put, List.setIfInBounds_toArray, List.set_cons_zero, List.set_cons_succ]
    rfl
  refine pure_ (i := 25) (N := some 66) (v := ?_) (a' := ?_) #[true, true, true, true, true, true, true, true, true, true, true, true, true, true, true, true, true, true, true, true, true, true, true, true, true, true, false, false, false, false, false, false, false, false, false, false, false, false, false, false, false, false] rfl rfl (by as_aux_lemma => kernel_rfl) (fun _ _ _ h => h) (Or.inl ⟨by rfl, ?_⟩) ?_ ?_
  rotate_left
  · intro w'
    go_simp
    with_reducible rfl
  rotate_left
  · simp only [Act.put, List.setIfInBounds_toArray, List.set_cons_zero, List.set_cons_succ]
    rfl
  refine take_ (i := 26) (N := some 67) (v := ?_) (a' := ?_) #[true, true, true, true, true, true, true, true, true, true, true, true, true, true, true, true, true, true, true, true, true, true, true, true, true, true, true, false, false, false, false, false, false, false, false, false, false, false, false, false, false, false] rfl rfl (by as_aux_lemma => kernel_rfl) (fun _ _ _ h => h) (Or.inl ⟨by rfl, ?_⟩) hHeld ?_ ?_
  rotate_left
  · intro w' s0
    obtain ⟨v0, v1, v2, v3, v4, v5, v6, v7⟩ := HC.out _ (HB2.out.trans (s0.mono HB2.out.size))
    obtain ⟨cv1, cv2⟩ := CV.out _ (HB2.out.trans (s0.mono HB2.out.size))
    go_simp
    with_reducible rfl
  rotate_left
  · simp only [Act.put, List.setIfInBounds_toArray, List.set_cons_zero, List.set_cons_succ]
    rfl
  refine pure_ (i := 27) (N := some 68) (v := ?_) (a' := ?_) #[true, true, true, true, true, true, true, true, true, true, true, true, true, true, true, true, true, true, true, true, true, true, true, true, true, true, true, true, false, false, false, false, false, false, false, false, false, false, false, false, false, false] rfl rfl (by as_aux_lemma => kernel_rfl) (fun _ _ _ h => h) (Or.inl ⟨by rfl, ?_⟩) ?_ ?_
  rotate_left
  · intro w'
    go_simp
    with_reducible rfl
  rotate_left
  · simp only [Act.put, List.setIfInBounds_toArray, List.set_cons_zero, List.set_cons_succ]
    rfl
  refine pure_ (i := 28) (N := some 69) (v := ?_) (a' := ?_) #[true, true, true, true, true, true, true, true, true, true, true, true, true, true, true, true, true, true, true, true, true, true, true, true, true, true, true, true, true, false, false, false, false, false, false, false, false, false, false, false, false, false] rfl rfl (by as_aux_lemma => kernel_rfl) (fun _ _ _ h => h) (Or.inl ⟨by rfl, ?_⟩) ?_ ?_
  rotate_left
  · intro w'
    go_simp
    with_reducible rfl
  rotate_left
  · simp only [Act.put, List.setIfInBounds_toArray, List.set_cons_zero, List.set_cons_succ]
    rfl
  refine pure_ (i := 29) (N := some 70) (v := ?_) (a' := ?_) #[true, true, true, true, true, true, true, true, true, true, true, true, true, true, true, true, true, true, true, true, true, true, true, true, true, true, true, true, true, true, false, false, false, false, false, false, false, false, false, false, false, false] rfl rfl (by as_aux_lemma => kernel_rfl) (fun _ _ _ h => h) (Or.inl ⟨by rfl, ?_⟩) ?_ ?_
  rotate_left
  · intro w'
    go_simp
    with_reducible rfl
  rotate_left
  · simp only [Act.put, List.setIfInBounds_toArray, List.set_cons_zero, List.set_cons_succ]
    rfl
  refine pure_ (i := 30) (N := some 71) (v := ?_) (a' := ?_) #[true, true, true, true, true, true, true, true, true, true, true, true, true, true, true, true, true, true, true, true, true, true, true, true, true, true, true, true, true, true, true, false, false, false, false, false, false, false, false, false, false, false] rfl rfl (by as_aux_lemma => kernel_rfl) (fun _ _ _ h => h) (Or.inl ⟨by rfl, ?_⟩) ?_ ?_
  rotate_left
  · intro w'
    go_simp
    with_reducible rfl
  rotate_left
  · simp only [Act.put, List.setIfInBounds_toArray, List.set_cons_zero, List.set_cons_succ]
    rfl
  refine take_ (i := 31) (N := some 72) (v := ?_) (a' := ?_) #[true, true, true, true, true, true, true, true, true, true, true, true, true, true, true, true, true, true, true, true, true, true, true, true, true, true, true, true, true, true, true, true, false, false, false, false, false, false, false, false, false, false] rfl rfl (by as_aux_lemma => kernel_rfl) (fun _ _ _ h => h) (Or.inl ⟨by rfl, ?_⟩) hHeld ?_ ?_
  rotate_left
  · intro w' s0
    obtain ⟨v0, v1, v2, v3, v4, v5, v6, v7⟩ := HC.out _ (HB2.out.trans (s0.mono HB2.out.size))
    obtain ⟨cv1, cv2⟩ := CV.out _ (HB2.out.trans (s0.mono HB2.out.size))
    go_simp
    with_reducible rfl
  rotate_left
  · simp only [Act.put, List.setIfInBounds_toArray, List.set_cons_zero, List.set_cons_succ]
    rfl
  refine pure_ (i := 32) (N := some 73) (v := ?_) (a' := ?_) #[true, true, true, true, true, true, true, true, true, true, true, true, true, true, true, true, true, true, true, true, true, true, true, true, true, true, true, true, true, true, true, true, true, false, false, false, false, false, false, false, false, false] rfl rfl (by as_aux_lemma => kernel_rfl) (fun _ _ _ h => h) (Or.inl ⟨by rfl, ?_⟩) ?_ ?_
  rotate_left
  · intro w'
    go_simp
    with_reducible rfl
  rotate_left
  · simp only [Act.put, List.setIfInBounds_toArray, List.set_cons_zero, List.set_cons_succ]
    rfl
  refine pure_ (i := 33) (N := some 74) (v := ?_) (a' := ?_) #[true, true, true, true, true, true, true, true, true, true, true, true, true, true, true, true, true, true, true, true, true, true, true, true, true, true, true, true, true, true, true, true, true, true, false, false, false, false, false, false, false, false] rfl rfl (by as_aux_lemma => kernel_rfl) (fun _ _ _ h => h) (Or.inl ⟨by rfl, ?_⟩) ?_ ?_
  rotate_left
  · intro w'
    go_simp
    with_reducible rfl
  rotate_left
  · simp only [Act.put, List.setIfInBounds_toArray, List.set_cons_zero, List.set_cons_succ]
    rfl
  refine pure_ (i := 34) (N := some 75) (v := ?_) (a' := ?_) #[true, true, true, true, true, true, true, true, true, true, true, true, true, true, true, true, true, true, true, true, true, true, true, true, true, true, true, true, true, true, true, true, true, true, true, false, false, false, false, false, false, false] rfl rfl (by as_aux_lemma => kernel_rfl) (fun _ _ _ h => h) (Or.inl ⟨by rfl, ?_⟩) ?_ ?_
  rotate_left
  · intro w'
    go_simp
    with_reducible rfl
  rotate_left
  · simp only [Act.put, List.setIfInBounds_toArray, List.set_cons_zero, List.set_cons_succ]
    rfl
  refine take_ (i := 35) (N := some 76) (v := ?_) (a' := ?_) #[true, true, true, true, true, true, true, true, true, true, true, true, true, true, true, true, true, true, true, true, true, true, true, true, true, true, true, true, true, true, true, true, true, true, true, true, false, false, false, false, false, false] rfl rfl (by as_aux_lemma => kernel_rfl) (fun _ _ _ h => h) (Or.inl ⟨by rfl, ?_⟩) hHeld ?_ ?_
  rotate_left
  · intro w' s0
    obtain ⟨v0, v1, v2, v3, v4, v5, v6, v7⟩ := HC.out _ (HB2.out.trans (s0.mono HB2.out.size))
    obtain ⟨cv1, cv2⟩ := CV.out _ (HB2.out.trans (s0.mono HB2.out.size))
    go_simp
    with_reducible rfl
  rotate_left
  · simp only [Act.put, List.setIfInBounds_toArray, List.set_cons_zero, List.set_cons_succ]
    rfl
  refine pure_ (i := 36) (N := some 77) (v := ?_) (a' := ?_) #[true, true, true, true, true, true, true, true, true, true, true, true, true, true, true, true, true, true, true, true, true, true, true, true, true, true, true, true, true, true, true, true, true, true, true, true, true, false, false, false, false, false] rfl rfl (by as_aux_lemma => kernel_rfl) (fun _ _ _ h => h) (Or.inl ⟨by rfl, ?_⟩) ?_ ?_
  rotate_left
  · intro w'
    go_simp
    with_reducible rfl
  rotate_left
  · simp only [Act.put, List.setIfInBounds_toArray, List.set_cons_zero, List.set_cons_succ]
    rfl
  refine pure_ (i := 37) (N := some 78) (v := ?_) (a' := ?_) #[true, true, true, true, true, true, true, true, true, true, true, true, true, true, true, true, true, true, true, true, true, true, true, true, true, true, true, true, true, true, true, true, true, true, true, true, true, true, false, false, false, false] rfl rfl (by as_aux_lemma => kernel_rfl) (fun _ _ _ h => h) (Or.inl ⟨by rfl, ?_⟩) ?_ ?_
  rotate_left
  · intro w'
    go_simp
    with_reducible rfl
  rotate_left
  · simp only [Act.put, List.setIfInBounds_toArray, List.set_cons_zero, List.set_cons_succ]
    rfl
  refine take_ (i := 38) (N := some 79) (v := ?_) (a' := ?_) #[true, true, true, true, true, true, true, true, true, true, true, true, true, true, true, true, true, true, true, true, true, true, true, true, true, true, true, true, true, true, true, true, true, true, true, true, true, true, true, false, false, false] rfl rfl (by as_aux_lemma => kernel_rfl) (fun _ _ _ h => h) (Or.inl ⟨by rfl, ?_⟩) hHeld ?_ ?_
  rotate_left
  · intro w' s0
    obtain ⟨v0, v1, v2, v3, v4, v5, v6, v7⟩ := HC.out _ (HB2.out.trans (s0.mono HB2.out.size))
    obtain ⟨cv1, cv2⟩ := CV.out _ (HB2.out.trans (s0.mono HB2.out.size))
    go_simp
    with_reducible rfl
  rotate_left
  · simp only [Act.put, List.setIfInBounds_toArray, List.set_cons_zero, List.set_cons_succ]
    rfl
  refine pure_ (i := 39) (N := some 80) (v := ?_) (a' := ?_) #[true, true, true, true, true, true, true, true, true, true, true, true, true, true, true, true, true, true, true, true, true, true, true, true, true, true, true, true, true, true, true, true, true, true, true, true, true, true, true, true, false, false] rfl rfl (by as_aux_lemma => kernel_rfl) (fun _ _ _ h => h) (Or.inl ⟨by rfl, ?_⟩) ?_ ?_
  rotate_left
  · intro w'
    go_simp
    with_reducible rfl
  rotate_left
  · simp only [Act.put, List.setIfInBounds_toArray, List.set_cons_zero, List.set_cons_succ]
    rfl
  refine one_ (i := 40) (N := some 5) #[true, true, true, true, true, true, true, true, true, true, true, true, true, true, true, true, true, true, true, true, true, true, true, true, true, true, true, true, true, true, true, true, true, true, true, true, true, true, true, true, true, false] rfl rfl (by as_aux_lemma => kernel_rfl) (by decide) (fun K hK => ?_)
  refine box_step (by rfl) (N := 5) rfl (cs := #[.int .i64 0, .int .i64 0, .int .i64 0, .string ByteArray.empty, .string ByteArray.empty, .slice none 0 0, .int .i64 0, .slice none 0 0]) (t := 26) ?hr40 ?_
  case hr40 => first | (go_simp; done) | (go_simp; rfl)
  intro q5 hq w3 hbox hb
  have BKq5 := Aside0.mk hbox
  have HQ5 := Aside0.mk (show w2.heap.size ≤ q5 from by rw [hq]; exact hHeld.size)
  have HNE := Aside0.mk (show q2 ≠ q5 from by have h1_ := blk_lt BKq2.out; have h2_ := HQ5.out; omega)
  have HX3 := Aside0.mk (hHeld.trans (hb.mono hHeld.size))
  refine hK.out _ _ HX3.out (fun hHeld => ?_)
  clear hK K hb hbox hq
  refine norm_ (a' := ?_) ?_ ?_
  rotate_left
  · show Act.put _ (some 5) _ = _
    simp only [Act.put, List.setIfInBounds_toArray, List.set_cons_zero, List.set_cons_succ]
    rfl
  refine one_ (i := 41) (N := none) #[true, true, true, true, true, true, true, true, true, true, true, true, true, true, true, true, true, true, true, true, true, true, true, true, true, true, true, true, true, true, true, true, true, true, true, true, true, true, true, true, true, true] rfl rfl (by as_aux_lemma => kernel_rfl) (by decide) (fun K hK => ?_)
  have ca0 : w3.cell? ⟨q5, 0, none⟩ = some (.int .i64 0) := (blk_cell BKq5.out 0).trans rfl
  have ca1 : w3.cell? ⟨q5, 1, none⟩ = some (.int .i64 0) := (blk_cell BKq5.out 1).trans rfl
  have ca2 : w3.cell? ⟨q5, 2, none⟩ = some (.int .i64 0) := (blk_cell BKq5.out 2).trans rfl
  have ca3 : w3.cell? ⟨q5, 3, none⟩ = some (.string ByteArray.empty) := (blk_cell BKq5.out 3).trans rfl
  have ca4 : w3.cell? ⟨q5, 4, none⟩ = some (.string ByteArray.empty) := (blk_cell BKq5.out 4).trans rfl
  have ca5 : w3.cell? ⟨q5, 5, none⟩ = some (.slice none 0 0) := (blk_cell BKq5.out 5).trans rfl
  have ca6 : w3.cell? ⟨q5, 6, none⟩ = some (.int .i64 0) := (blk_cell BKq5.out 6).trans rfl
  have ca7 : w3.cell? ⟨q5, 7, none⟩ = some (.slice none 0 0) := (blk_cell BKq5.out 7).trans rfl
  have fa0 : w3.frozen? ⟨q5, 0, none⟩ = false := blk_frozen BKq5.out 0
  have fa1 : w3.frozen? ⟨q5, 1, none⟩ = false := blk_frozen BKq5.out 1
  have fa2 : w3.frozen? ⟨q5, 2, none⟩ = false := blk_frozen BKq5.out 2
  have fa3 : w3.frozen? ⟨q5, 3, none⟩ = false := blk_frozen BKq5.out 3
  have fa4 : w3.frozen? ⟨q5, 4, none⟩ = false := blk_frozen BKq5.out 4
  have fa5 : w3.frozen? ⟨q5, 5, none⟩ = false := blk_frozen BKq5.out 5
  have fa6 : w3.frozen? ⟨q5, 6, none⟩ = false := blk_frozen BKq5.out 6
  have fa7 : w3.frozen? ⟨q5, 7, none⟩ = false := blk_frozen BKq5.out 7
  refine skip_ (by rfl) rfl (w1 := Cells.setAll w3 q5 0 [.int .i64 CLS, .int .i64 LAB, .int .i64 y7, .string SRC, .string DST, .slice none 0 0, .int .i64 0, .slice none 0 0]) ?hs41 ?_
  case hs41 => first | (go_simp; done) | (go_simp; rfl)
  clear ca0 ca1 ca2 ca3 ca4 ca5 ca6 ca7
  clear fa0 fa1 fa2 fa3 fa4 fa5 fa6 fa7
  obtain ⟨w4, hw⟩ : ∃ x, x = Cells.setAll w3 q5 0 [.int .i64 CLS, .int .i64 LAB, .int .i64 y7, .string SRC, .string DST, .slice none 0 0, .int .i64 0, .slice none 0 0] := ⟨_, rfl⟩
  rw [← hw]
  have HX4 := Aside0.mk (show Below w2.heap.size w2 w4 from by rw [hw]; exact Cells.setAll_below HQ5.out _ _ _ HX3.out)
  have BKq5 := Aside0.mk (show w4.heap[q5]? = some (.cells #[.int .i64 CLS, .int .i64 LAB, .int .i64 y7, .string SRC, .string DST, .slice none 0 0, .int .i64 0, .slice none 0 0] 26 (0, 0)) from by rw [hw]; exact Cells.stored8 BKq5.out)
  refine hK.out _ _ HX4.out (fun hHeld => ?_)
  clear hK K hw
  refine done_ (by kernel_rfl) ?_
  have BKq2 := Aside0.mk (blk_below BKq2.out HX4.out)
  have hn40' : 40 ≤ n := by have := HN.out; omega
  have HNq2q5 := Aside0.mk (show q2 ≠ q5 from HNE.out)
  have HQq5 := Aside0.mk (show w.heap.size ≤ q5 from Nat.le_trans HB2.out.size HQ5.out)
  have HB4 := Aside0.mk (HB2.out.trans (HX4.out.mono HB2.out.size))
  obtain ⟨v0, v1, v2, v3, v4, v5, v6, v7⟩ := HC.out _ HB4.out
  clear r0 r1 r2 r3 r7 q1 q2' q3 q3' q4 q5' q6 q7 q8 q9 hm8 hm24 HX3 hHeld HX4 HQ5 HB2 HNE QA CV HU HS5 hzr halr p1 p2 p3 p4 p5 p7
  go_wp2_with (fail)
  clear v0 v1 v2 v3 v4 v5 v6 v7
  go_loopw [6, 7] (fun nv av wr => ∃ (xs : List S43) (nx : Int) (at_ f : Nat) (A6 : Option Addr) (n6 c6 : Nat), nv = .int .i64 nx ∧ av = .int .i64 at_ ∧ 40 ≤ at_ ∧ at_ ≤ n ∧ 0 ≤ nx ∧ nx ≤ 255 ∧ Aside0 (wr.heap[q5]? = some (.cells #[.int .i64 CLS, .int .i64 LAB, .int .i64 y7, .string SRC, .string DST, .slice A6 n6 c6, .int .i64 0, .slice none 0 0] 26 (0, 0))) ∧ Aside0 (wr.heap[q2]? = some (.cells #[.int .i64 0, .int .i64 0, .int .i64 0, .string ByteArray.empty, .string ByteArray.empty, .slice none 0 0, .int .i64 0, .slice none 0 0] 26 (0, 0))) ∧ Aside0 (k43.R 43 wr w.heap.size (fun _ => True) (.slice A6 n6 c6) xs) ∧ Aside0 (Below w.heap.size w wr) ∧ Aside0 (res = (btwE f xs.length nx (b.drop at_)).map fun r => (xs ++ r.1, r.2)) ∧ Aside0 (n - at_ < f ∧ xs.length + (n - at_) ≤ n ∧ (40 < at_ ↔ 0 < xs.length))) (fun _ av _ => n - (intOf av).toNat)
  case atStart => exact ⟨[], y6, 40, n + 1, none, 0, 0, rfl, rfl, by omega, by omega, by omega, by omega, BKq5, BKq2, Aside0.mk (Kd.R_nil _ _ _ _ _), HB4, Aside0.mk (by rw [HRES.out.symm]; cases btwE (n + 1) 0 y6 (b.drop 40) <;> rfl), Aside0.mk ⟨by omega, by simp, by simp⟩⟩
  case round =>
    clear HRES BKq5 BKq2 HB4
    obtain ⟨xs, nx, at_, f, A6, n6, c6, rfl, rfl, hat0, hatn, hnx0, hnx1, BKq5, BKq2, HO, HB20, HE, HF⟩ := hrel
    obtain ⟨f, rfl⟩ : ∃ f', f = f' + 1 := ⟨f - 1, by have := HF.out.1; omega⟩
    have BT := Aside0.mk fun (W : World) => rbtw_walk nx W
    obtain ⟨bl, hbl⟩ : ∃ l, b.drop at_ = l := ⟨_, rfl⟩
    have HBL := Aside0.mk hbl
    have hbn : bl.length = n - at_ := by rw [← hbl, List.length_drop, HN.out]
    have HBN := Aside0.mk hbn
    rw [hbl] at HE
    cases hb : btw nx with
    | false =>
      rw [hb] at BT
      have PE := Aside0.mk (show parseE b = (0, ⟨CLS, LAB, y7, SRC, DST, xs, nx, bl⟩) from by
        have h2 := HE.out
        rw [btwE, if_pos hb] at h2
        rw [HPE.out, h2]
        simp [asmP])
      obtain ⟨i5, hi5, _, hsz5, _⟩ := info_parts info5'
      obtain ⟨A2, hdrop, hdropr, hdropc⟩ := print_drop_of (P := Try.prog) (Value.int .u8) (0 : Int) 22 5 .i64 Try.underlying22 hi5 hsz5 (some ad) c0 b (at_ : Int) (by omega) (by have := HN.out; omega) (by have := HN.out; omega)
      simp only [Int.toNat_natCast, hbl, HN.out] at hdrop hdropr hdropc
      obtain ⟨cc, hcc⟩ : ∃ x, c0 - at_ = x := ⟨_, rfl⟩
      rw [hcc] at hdrop hdropc
      have HDR := Aside0.mk fun (W : World) (hW : Below w.heap.size w W) => hdropr W (HR.out W hW)
      have HDC := Aside0.mk hdropc
      have hbl7 : bl.length ≤ 100000 := by omega
      clear hb hbl hbn hdropr hdropc hcc hi5 hsz5 HE HF
      go_wp2_with (first | (go_at_call 18; refine (BT.out _).mono ?_; rintro e w19 ⟨rfl, m1, rfl⟩; have hbm := pw_below_drewN (Below.refl wr.heap.size wr) m1; have BKq5 := Aside0.mk (blk_below BKq5.out hbm); have BKq2 := Aside0.mk (blk_below BKq2.out hbm); have HO := Aside0.mk (Kd.R_below HO.out hbm); have HB20 := Aside0.mk (HB20.out.trans (hbm.mono HB20.out.size)); generalize wr.drewN m1 = w20 at hbm BKq5 BKq2 HO HB20 ⊢; clear hbm; have ca6 : w20.cell? ⟨q5, 6, none⟩ = some (.int .i64 0) := (blk_cell BKq5.out 6).trans rfl; have fa6 : w20.frozen? ⟨q5, 6, none⟩ = false := blk_frozen BKq5.out 6) | ((with_reducible refine gate_store (t := 3) (p := 145) rfl ?_); have BK5o := BKq5; refine store_event (t := 3) (p := 145) (v := ?vo145_21_1) (w1 := Cells.setAll w20 q5 6 [.int .i64 nx]) ?hg ?ho ?hn ?hr ?_; (case ho => rfl); (case hg => rfl); (case hn => rfl); (case hr => first | (go_simp; done) | (go_simp; rfl)); intro w21 hw; have BKq2 := Aside0.mk (show w21.heap[q2]? = _ from (congrArg (fun W : World => W.heap[q2]?) hw).trans ((Cells.setAll_far HNq2q5.out _ _ _).trans BKq2.out)); have HB21 := Aside0.mk (show Below w.heap.size w w21 from by rw [hw]; exact Cells.setAll_below HQq5.out _ _ _ HB20.out); have BKq5 := Aside0.mk (show w21.heap[q5]? = some (.cells #[.int .i64 CLS, .int .i64 LAB, .int .i64 y7, .string SRC, .string DST, .slice A6 n6 c6, .int .i64 nx, .slice none 0 0] 26 (0, 0)) from by rw [hw]; exact (Cells.setAll_blk _ _ _ _ BKq5.out).trans rfl); have HO := Aside0.mk (show k43.R 43 w21 w.heap.size (fun _ => True) (.slice A6 n6 c6) xs from by rw [hw]; exact Cells.setAll_R (by decide) _ _ _ _ BK5o.out HO.out); clear ca6 fa6 BK5o; clear hw) | ((with_reducible refine gate_dst (N := 149) rfl ?_); refine make_event ?hg (N := 149) ?hd (cs := #[.slice A2 bl.length cc]) (t := 22) (n := 1) (c := 1) ?hr ?_; (case hd => rfl); (case hg => rfl); (case hr => first | (go_simp; done) | (go_simp; rfl)); intro q7 hq w22 hbox hb; have HNq2q7 := Aside0.mk (show q2 ≠ q7 from by have := blk_lt BKq2.out; omega); have HNq5q7 := Aside0.mk (show q5 ≠ q7 from by have := blk_lt BKq5.out; omega); have BKq2 := Aside0.mk (blk_below BKq2.out hb); have BKq5 := Aside0.mk (blk_below BKq5.out hb); have BKq7 := Aside0.mk hbox; have HQq7 := Aside0.mk (show w.heap.size ≤ q7 from by rw [hq]; exact HB21.out.size); have HB22 := Aside0.mk (HB21.out.trans (hb.mono HB21.out.size)); have HO := Aside0.mk (Kd.R_below HO.out hb); have BW := Aside0.mk (both_walk _ 1 [bl] w22 (by simp) (by simp; omega) (C_one BKq7.out (Kd.C_of_reads (enc := Value.int .u8) (d := (0 : Int)) (h1 := fun _ => rfl) (HDR.out _ HB22.out)) HDC.out) (by simp)); clear hbox hb hq) | (go_at_call 7; refine BW.out.mono ?_; rintro e w23 ⟨v8, rfl, ho, hb⟩; obtain ⟨B7, d7, hv8, hl7, _⟩ := Kd.R_reads ho; have hfl : [bl].flatten = bl := (by simp); rw [hfl] at hv8 hl7 ho; subst hv8; clear hl7 hfl; have HD := Aside0.mk (show Kd.R (Kd.int .u8) 5 w23 w.heap.size (fun _ => True) (.slice B7 bl.length d7) bl from base_less ho HB22.out.size); have HO := Aside0.mk (Kd.R_below HO.out hb); have BKq2 := Aside0.mk (blk_below BKq2.out hb); have BKq5 := Aside0.mk (blk_below BKq5.out hb); have HB23 := Aside0.mk (HB22.out.trans (hb.mono HB22.out.size)); clear ho hb BW; have ca7 : w23.cell? ⟨q5, 7, none⟩ = some (.slice none 0 0) := (blk_cell BKq5.out 7).trans rfl; have fa7 : w23.frozen? ⟨q5, 7, none⟩ = false := blk_frozen BKq5.out 7) | ((with_reducible refine gate_store (t := 22) (p := 151) rfl ?_); have BK5o := BKq5; refine store_event (t := 22) (p := 151) (v := ?vo151_24_2) (w1 := Cells.setAll w23 q5 7 [.slice B7 bl.length d7]) ?hg ?ho ?hn ?hr ?_; (case ho => rfl); (case hg => rfl); (case hn => rfl); (case hr => first | (go_simp; done) | (go_simp; rfl)); intro w24 hw; have BKq2 := Aside0.mk (show w24.heap[q2]? = _ from (congrArg (fun W : World => W.heap[q2]?) hw).trans ((Cells.setAll_far HNq2q5.out _ _ _).trans BKq2.out)); have HB24 := Aside0.mk (show Below w.heap.size w w24 from by rw [hw]; exact Cells.setAll_below HQq5.out _ _ _ HB23.out); have BKq5 := Aside0.mk (show w24.heap[q5]? = some (.cells #[.int .i64 CLS, .int .i64 LAB, .int .i64 y7, .string SRC, .string DST, .slice A6 n6 c6, .int .i64 nx, .slice B7 bl.length d7] 26 (0, 0)) from by rw [hw]; exact (Cells.setAll_blk _ _ _ _ BKq5.out).trans rfl); have HO := Aside0.mk (show k43.R 43 w24 w.heap.size (fun _ => True) (.slice A6 n6 c6) xs from by rw [hw]; exact Cells.setAll_R (by decide) _ _ _ _ BK5o.out HO.out); have HD := Aside0.mk (show Kd.R (Kd.int .u8) 5 w24 w.heap.size (fun _ => True) (.slice B7 bl.length d7) bl from by rw [hw]; exact Cells.setAll_R (by decide) _ _ _ _ BK5o.out HD.out); clear BK5o; clear ca7 fa7; have ca0 : w24.cell? ⟨q5, 0, none⟩ = some (.int .i64 CLS) := (blk_cell BKq5.out 0).trans rfl; have ca1 : w24.cell? ⟨q5, 1, none⟩ = some (.int .i64 LAB) := (blk_cell BKq5.out 1).trans rfl; have ca2 : w24.cell? ⟨q5, 2, none⟩ = some (.int .i64 y7) := (blk_cell BKq5.out 2).trans rfl; have ca3 : w24.cell? ⟨q5, 3, none⟩ = some (.string SRC) := (blk_cell BKq5.out 3).trans rfl; have ca4 : w24.cell? ⟨q5, 4, none⟩ = some (.string DST) := (blk_cell BKq5.out 4).trans rfl; have ca5 : w24.cell? ⟨q5, 5, none⟩ = some (.slice A6 n6 c6) := (blk_cell BKq5.out 5).trans rfl; have ca6 : w24.cell? ⟨q5, 6, none⟩ = some (.int .i64 nx) := (blk_cell BKq5.out 6).trans rfl; have ca7 : w24.cell? ⟨q5, 7, none⟩ = some (.slice B7 bl.length d7) := (blk_cell BKq5.out 7).trans rfl; have cb0 : w24.cell? ⟨q2, 0, none⟩ = some (.int .i64 0) := (blk_cell BKq2.out 0).trans rfl; have cb1 : w24.cell? ⟨q2, 1, none⟩ = some (.int .i64 0) := (blk_cell BKq2.out 1).trans rfl; have cb2 : w24.cell? ⟨q2, 2, none⟩ = some (.int .i64 0) := (blk_cell BKq2.out 2).trans rfl; have cb3 : w24.cell? ⟨q2, 3, none⟩ = some (.string ByteArray.empty) := (blk_cell BKq2.out 3).trans rfl; have cb4 : w24.cell? ⟨q2, 4, none⟩ = some (.string ByteArray.empty) := (blk_cell BKq2.out 4).trans rfl; have cb5 : w24.cell? ⟨q2, 5, none⟩ = some (.slice none 0 0) := (blk_cell BKq2.out 5).trans rfl; have cb6 : w24.cell? ⟨q2, 6, none⟩ = some (.int .i64 0) := (blk_cell BKq2.out 6).trans rfl; have cb7 : w24.cell? ⟨q2, 7, none⟩ = some (.slice none 0 0) := (blk_cell BKq2.out 7).trans rfl; have fb0 : w24.frozen? ⟨q2, 0, none⟩ = false := blk_frozen BKq2.out 0; have fb1 : w24.frozen? ⟨q2, 1, none⟩ = false := blk_frozen BKq2.out 1; have fb2 : w24.frozen? ⟨q2, 2, none⟩ = false := blk_frozen BKq2.out 2; have fb3 : w24.frozen? ⟨q2, 3, none⟩ = false := blk_frozen BKq2.out 3; have fb4 : w24.frozen? ⟨q2, 4, none⟩ = false := blk_frozen BKq2.out 4; have fb5 : w24.frozen? ⟨q2, 5, none⟩ = false := blk_frozen BKq2.out 5; have fb6 : w24.frozen? ⟨q2, 6, none⟩ = false := blk_frozen BKq2.out 6; have fb7 : w24.frozen? ⟨q2, 7, none⟩ = false := blk_frozen BKq2.out 7; clear hw) | ((with_reducible refine gate_store (t := 26) (p := 2) rfl ?_); have BK2o := BKq2; refine store_event (t := 26) (p := 2) (v := ?vo2_26_3) (w1 := Cells.setAll w24 q2 0 [.int .i64 CLS, .int .i64 LAB, .int .i64 y7, .string SRC, .string DST, .slice A6 n6 c6, .int .i64 nx, .slice B7 bl.length d7]) ?hg ?ho ?hn ?hr ?_; (case ho => rfl); (case hg => rfl); (case hn => rfl); (case hr => first | (go_simp; done) | (go_simp; rfl)); intro w26 hw; have HB26 := Aside0.mk (show Below w.heap.size w w26 from by rw [hw]; exact Cells.setAll_below HQq2.out _ _ _ HB24.out); have BKq2 := Aside0.mk (show w26.heap[q2]? = some (.cells #[.int .i64 CLS, .int .i64 LAB, .int .i64 y7, .string SRC, .string DST, .slice A6 n6 c6, .int .i64 nx, .slice B7 bl.length d7] 26 (0, 0)) from by rw [hw]; exact Cells.stored8 BKq2.out); have HO := Aside0.mk (show k43.R 43 w26 w.heap.size (fun _ => True) (.slice A6 n6 c6) xs from by rw [hw]; exact Cells.setAll_R (by decide) _ _ _ _ BK2o.out HO.out); have HD := Aside0.mk (show Kd.R (Kd.int .u8) 5 w26 w.heap.size (fun _ => True) (.slice B7 bl.length d7) bl from by rw [hw]; exact Cells.setAll_R (by decide) _ _ _ _ BK2o.out HD.out); clear BK2o; clear ca0 ca1 ca2 ca3 ca4 ca5 ca6 ca7; clear cb0 cb1 cb2 cb3 cb4 cb5 cb6 cb7; clear fb0 fb1 fb2 fb3 fb4 fb5 fb6 fb7; clear hw))
      (try simp only [Exit.inBlock, Exit.then])
      refine bodyPost_ret (results_ct rfl _ _ q2 26 _ (0, 0) _ rfl BKq2.out Try.underlying26 rfl info26) rfl ?_
      rw [PE.out]
      obtain ⟨_, _, e5, l5, R5⟩ := Kd.R_reads HO.out
      obtain ⟨_, _, e7, l7, R7⟩ := Kd.R_reads HD.out
      have hn6 : n6 = xs.length := by injection e5
      subst hn6
      injection e5 with e5 _ e6
      injection e7 with e7 _ e8
      subst e5
      subst e6
      subst e7
      subst e8
      exact ⟨⟨_, _, _, _, rfl, ⟨R5, l5, R7, l7⟩⟩, HB26.out⟩
    | true =>
      rw [hb] at BT
      have HBT := Aside0.mk hb
      clear hb
      have hff := HF.out
      have hbl0 : bl.length = n - at_ := hbn
      by_cases h8 : n < at_ + 8
      · have dA : decide ((n : Int) < (at_ : Int) + 8) = true := decide_eq_true (by omega)
        have PE := Aside0.mk (show parseE b = (4, zPk) from by
          have h2 := HE.out
          rw [btwE, if_neg (by rw [HBT.out]; decide), if_pos (Or.inl (by omega))] at h2
          rw [HPE.out, h2]
          rfl)
        clear h8 hbl hbn hbl0 hff
        go_wp2_with (first | (go_at_call 18; refine (BT.out _).mono ?_; rintro e w19 ⟨rfl, m1, rfl⟩; have hbm := pw_below_drewN (Below.refl wr.heap.size wr) m1; have BKq5 := Aside0.mk (blk_below BKq5.out hbm); have BKq2 := Aside0.mk (blk_below BKq2.out hbm); have HO := Aside0.mk (Kd.R_below HO.out hbm); have HB20 := Aside0.mk (HB20.out.trans (hbm.mono HB20.out.size)); generalize wr.drewN m1 = w20 at hbm BKq5 BKq2 HO HB20 ⊢; clear hbm) | ((with_reducible refine gate_store (t := 26) (p := 2) rfl ?_); have ca0 : w20.cell? ⟨q2, 0, none⟩ = some (.int .i64 0) := (blk_cell BKq2.out 0).trans rfl; have ca1 : w20.cell? ⟨q2, 1, none⟩ = some (.int .i64 0) := (blk_cell BKq2.out 1).trans rfl; have ca2 : w20.cell? ⟨q2, 2, none⟩ = some (.int .i64 0) := (blk_cell BKq2.out 2).trans rfl; have ca3 : w20.cell? ⟨q2, 3, none⟩ = some (.string ByteArray.empty) := (blk_cell BKq2.out 3).trans rfl; have ca4 : w20.cell? ⟨q2, 4, none⟩ = some (.string ByteArray.empty) := (blk_cell BKq2.out 4).trans rfl; have ca5 : w20.cell? ⟨q2, 5, none⟩ = some (.slice none 0 0) := (blk_cell BKq2.out 5).trans rfl; have ca6 : w20.cell? ⟨q2, 6, none⟩ = some (.int .i64 0) := (blk_cell BKq2.out 6).trans rfl; have ca7 : w20.cell? ⟨q2, 7, none⟩ = some (.slice none 0 0) := (blk_cell BKq2.out 7).trans rfl; have fa0 : w20.frozen? ⟨q2, 0, none⟩ = false := blk_frozen BKq2.out 0; have fa1 : w20.frozen? ⟨q2, 1, none⟩ = false := blk_frozen BKq2.out 1; have fa2 : w20.frozen? ⟨q2, 2, none⟩ = false := blk_frozen BKq2.out 2; have fa3 : w20.frozen? ⟨q2, 3, none⟩ = false := blk_frozen BKq2.out 3; have fa4 : w20.frozen? ⟨q2, 4, none⟩ = false := blk_frozen BKq2.out 4; have fa5 : w20.frozen? ⟨q2, 5, none⟩ = false := blk_frozen BKq2.out 5; have fa6 : w20.frozen? ⟨q2, 6, none⟩ = false := blk_frozen BKq2.out 6; have fa7 : w20.frozen? ⟨q2, 7, none⟩ = false := blk_frozen BKq2.out 7; refine store_event (t := 26) (p := 2) (v := ?vo2_21_4) (w1 := Cells.setAll w20 q2 0 [.int .i64 0, .int .i64 0, .int .i64 0, .string ByteArray.empty, .string ByteArray.empty, .slice none 0 0, .int .i64 0, .slice none 0 0]) ?hg ?ho ?hn ?hr ?_; (case ho => rfl); (case hg => rfl); (case hn => rfl); (case hr => first | (go_simp; done) | (go_simp; rfl)); intro w21 hw; have HB21 := Aside0.mk (show Below w.heap.size w w21 from by rw [hw]; exact Cells.setAll_below HQq2.out _ _ _ HB20.out); have BKq2 := Aside0.mk (show w21.heap[q2]? = some (.cells #[.int .i64 0, .int .i64 0, .int .i64 0, .string ByteArray.empty, .string ByteArray.empty, .slice none 0 0, .int .i64 0, .slice none 0 0] 26 (0, 0)) from by rw [hw]; exact Cells.stored8 BKq2.out); clear ca0 ca1 ca2 ca3 ca4 ca5 ca6 ca7; clear fa0 fa1 fa2 fa3 fa4 fa5 fa6 fa7; clear hw))
        (try simp only [Exit.inBlock, Exit.then])
        refine bodyPost_ret (results_ct rfl _ _ q2 26 _ (0, 0) _ rfl BKq2.out Try.underlying26 rfl info26) rfl ?_
        rw [PE.out]
        exact ⟨⟨none, 0, none, 0, rfl, zPk_read' _⟩, HB21.out⟩
      have dA : decide ((n : Int) < (at_ : Int) + 8) = false := decide_eq_false (by omega)
      by_cases hz0 : nx = 0 ∧ 40 < at_
      · obtain ⟨rfl, h40⟩ := hz0
        have d41 : decide ((40 : Int) < (at_ : Int)) = true := decide_eq_true (by omega)
        have d41' : decide (40 < at_) = true := decide_eq_true h40
        have PE := Aside0.mk (show parseE b = (4, zPk) from by
          have h2 := HE.out
          rw [btwE, if_neg (by rw [HBT.out]; decide), if_pos (Or.inr ⟨rfl, by omega⟩)] at h2
          rw [HPE.out, h2]
          rfl)
        clear hbl hbn hbl0 hff
        go_wp2_with (first | (go_at_call 18; refine (BT.out _).mono ?_; rintro e w19 ⟨rfl, m1, rfl⟩; have hbm := pw_below_drewN (Below.refl wr.heap.size wr) m1; have BKq5 := Aside0.mk (blk_below BKq5.out hbm); have BKq2 := Aside0.mk (blk_below BKq2.out hbm); have HO := Aside0.mk (Kd.R_below HO.out hbm); have HB20 := Aside0.mk (HB20.out.trans (hbm.mono HB20.out.size)); generalize wr.drewN m1 = w20 at hbm BKq5 BKq2 HO HB20 ⊢; clear hbm) | ((with_reducible refine gate_store (t := 26) (p := 2) rfl ?_); have ca0 : w20.cell? ⟨q2, 0, none⟩ = some (.int .i64 0) := (blk_cell BKq2.out 0).trans rfl; have ca1 : w20.cell? ⟨q2, 1, none⟩ = some (.int .i64 0) := (blk_cell BKq2.out 1).trans rfl; have ca2 : w20.cell? ⟨q2, 2, none⟩ = some (.int .i64 0) := (blk_cell BKq2.out 2).trans rfl; have ca3 : w20.cell? ⟨q2, 3, none⟩ = some (.string ByteArray.empty) := (blk_cell BKq2.out 3).trans rfl; have ca4 : w20.cell? ⟨q2, 4, none⟩ = some (.string ByteArray.empty) := (blk_cell BKq2.out 4).trans rfl; have ca5 : w20.cell? ⟨q2, 5, none⟩ = some (.slice none 0 0) := (blk_cell BKq2.out 5).trans rfl; have ca6 : w20.cell? ⟨q2, 6, none⟩ = some (.int .i64 0) := (blk_cell BKq2.out 6).trans rfl; have ca7 : w20.cell? ⟨q2, 7, none⟩ = some (.slice none 0 0) := (blk_cell BKq2.out 7).trans rfl; have fa0 : w20.frozen? ⟨q2, 0, none⟩ = false := blk_frozen BKq2.out 0; have fa1 : w20.frozen? ⟨q2, 1, none⟩ = false := blk_frozen BKq2.out 1; have fa2 : w20.frozen? ⟨q2, 2, none⟩ = false := blk_frozen BKq2.out 2; have fa3 : w20.frozen? ⟨q2, 3, none⟩ = false := blk_frozen BKq2.out 3; have fa4 : w20.frozen? ⟨q2, 4, none⟩ = false := blk_frozen BKq2.out 4; have fa5 : w20.frozen? ⟨q2, 5, none⟩ = false := blk_frozen BKq2.out 5; have fa6 : w20.frozen? ⟨q2, 6, none⟩ = false := blk_frozen BKq2.out 6; have fa7 : w20.frozen? ⟨q2, 7, none⟩ = false := blk_frozen BKq2.out 7; refine store_event (t := 26) (p := 2) (v := ?vo2_21_5) (w1 := Cells.setAll w20 q2 0 [.int .i64 0, .int .i64 0, .int .i64 0, .string ByteArray.empty, .string ByteArray.empty, .slice none 0 0, .int .i64 0, .slice none 0 0]) ?hg ?ho ?hn ?hr ?_; (case ho => rfl); (case hg => rfl); (case hn => rfl); (case hr => first | (go_simp; done) | (go_simp; rfl)); intro w21 hw; have HB21 := Aside0.mk (show Below w.heap.size w w21 from by rw [hw]; exact Cells.setAll_below HQq2.out _ _ _ HB20.out); have BKq2 := Aside0.mk (show w21.heap[q2]? = some (.cells #[.int .i64 0, .int .i64 0, .int .i64 0, .string ByteArray.empty, .string ByteArray.empty, .slice none 0 0, .int .i64 0, .slice none 0 0] 26 (0, 0)) from by rw [hw]; exact Cells.stored8 BKq2.out); clear ca0 ca1 ca2 ca3 ca4 ca5 ca6 ca7; clear fa0 fa1 fa2 fa3 fa4 fa5 fa6 fa7; clear hw))
        (try simp only [Exit.inBlock, Exit.then])
        refine bodyPost_ret (results_ct rfl _ _ q2 26 _ (0, 0) _ rfl BKq2.out Try.underlying26 rfl info26) rfl ?_
        rw [PE.out]
        exact ⟨⟨none, 0, none, 0, rfl, zPk_read' _⟩, HB21.out⟩
      have h8' : ¬ (bl.length < 8 ∨ (nx = 0 ∧ 0 < xs.length)) := by
        rintro (h | ⟨h, h'⟩)
        · omega
        · exact hz0 ⟨h, hff.2.2.mpr h'⟩
      by_cases h44 : nx = 44
      · subst h44
        obtain ⟨z, hz⟩ : ∃ x : Nat, x = 8 := ⟨_, rfl⟩
        have hzz : hsz 44 bl = z := by rw [hz]; rfl
        have hah : ahd 44 = 1 := by unfold ahd; rw [if_pos rfl]
        have hg' : ∀ k, k < n → 0 ≤ b.getD k 0 ∧ b.getD k 0 ≤ 255 := fun k hk => HBY.out _ (by
          have hkb : k < b.length := by have := HN.out; omega
          rw [List.getD_eq_getElem?_getD, List.getElem?_eq_getElem hkb]; exact List.getElem_mem hkb)
        obtain ⟨tq, htq⟩ : ∃ x, at_ + z = x := ⟨_, rfl⟩
        obtain ⟨fr, hfr⟩ : ∃ x, at_ + 1 = x := ⟨_, rfl⟩
        obtain ⟨y', hy'⟩ : ∃ x, b.getD at_ 0 = x := ⟨_, rfl⟩
        have hyr := hg' at_ (by omega)
        rw [hy'] at hyr
        have hy0 : bl.getD 0 0 = y' := by rw [← hy', ← hbl, List.getD_eq_getElem?_getD, List.getElem?_drop, List.getD_eq_getElem?_getD, Nat.add_zero]
        obtain ⟨st, hst⟩ : ∃ x, strOfNums ((b.take tq).drop fr) = x := ⟨_, rfl⟩
        have hst2 : strOfNums ((bl.take z).drop 1) = st := by
          rw [← hst, List.drop_take, List.drop_take, ← hbl, List.drop_drop, hfr, show tq - fr = z - 1 from by omega]
        have hdrop : bl.drop z = b.drop tq := by rw [← hbl, List.drop_drop, htq]
        obtain ⟨i5, hi5, _, hsz5, _⟩ := info_parts info5'
        obtain ⟨A', hmid, hmidr, _⟩ := print_mid_int (P := Try.prog) (k := .u8) 22 5 Try.underlying22 hi5 hsz5 (some ad) c0 b (fr : Int) (tq : Int) (by omega) (by omega) (by have := HN.out; omega) (by have := HN.out; omega)
        simp only [Int.toNat_natCast, HN.out] at hmid hmidr
        obtain ⟨lm, hlm⟩ : ∃ x, ((b.take tq).drop fr).length = x := ⟨_, rfl⟩
        rw [hlm] at hmid hmidr
        obtain ⟨cc, hcc⟩ : ∃ x, c0 - fr = x := ⟨_, rfl⟩
        rw [hcc] at hmid
        have CV := Aside0.mk (show ∀ W, Below w.heap.size w W → (convert 22 9 (.slice A' lm cc)).run Try.prog W = .ok (.string st) W from fun W hW => by
          have := string_of_reads (P := Try.prog) (c := cc) Try.underlying22 Try.underlying5 Try.underlying9 (hmidr W (HR.out W hW))
          rw [hst] at this
          exact this)
        obtain ⟨l8, hl8⟩ : ∃ x, (xs ++ [(⟨44, st⟩ : S43)]).length = x := ⟨_, rfl⟩
        have HL8 := Aside0.mk hl8
        have hxl : xs.length + 1 = l8 := by rw [← hl8]; simp
        have HE3 := Aside0.mk (show res = (btwE f (xs ++ [(⟨44, st⟩ : S43)]).length y' (b.drop tq)).map (fun r => ((xs ++ [(⟨44, st⟩ : S43)]) ++ r.1, r.2)) from by
          rw [HE.out, btwE, if_neg (by rw [HBT.out]; decide), if_neg h8', if_neg (by rw [hzz]; omega), hzz, hah, hst2, hy0, hdrop, Option.map_map, List.length_append]
          congr 1
          funext r
          simp)
        have HF3 := Aside0.mk (show n - tq < f ∧ (xs ++ [(⟨44, st⟩ : S43)]).length + (n - tq) ≤ n ∧ (40 < tq ↔ 0 < (xs ++ [(⟨44, st⟩ : S43)]).length) from by
          have hh := HF.out
          refine ⟨by omega, by rw [hl8]; omega, ⟨fun _ => by rw [hl8]; omega, fun _ => by omega⟩⟩)
        have ALEN := Aside0.mk (show (xs.length + 1) * 24 ≤ 140737488355328 from by have := HF.out.2.1; omega)
        have WTO := Aside0.mk (show IntKind.i64.wrap (tq : Int) = (tq : Int) from IntWalk.i64_in _ (by omega))
        obtain ⟨gg, hgg⟩ : ∃ x, at_ + 1 = x := ⟨_, rfl⟩
        obtain ⟨yb, hyb⟩ : ∃ x, b.getD gg 0 = x := ⟨_, rfl⟩
        have HCG := Aside0.mk (show ∀ W, Below w.heap.size w W → W.cell? (ad.add gg) = some (.int .u8 yb) ∧ W.cell? (ad.add at_) = some (.int .u8 y') from fun W hW => by
          obtain ⟨ad', ha, hc⟩ := (HR.out W hW).2.2 (by omega)
          injection ha with ha
          subst ha
          have h1 := hc gg (by omega)
          have h2 := hc at_ (by omega)
          rw [hy'] at h2
          rw [hyb] at h1
          exact ⟨h1, h2⟩)
        have e1 : (at_ : Int) + 1 = (fr : Int) := by omega
        have e2 : (at_ : Int) + 8 = (tq : Int) := by omega
        have dB : decide ((n : Int) < (tq : Int)) = false := decide_eq_false (by omega)
        have dB' : decide (n < tq) = false := decide_eq_false (by omega)
        clear dA h8' hzz hst2 hdrop hst hmidr hlm hcc hl8 hi5 hsz5 hg' hah hy0 hy' hbl hbn hbl0 hgg hyb
        have hatI : (at_ : Int) < (n : Int) := by omega
        have hatN : at_ < n := by omega
        have hto8 : tq ≤ at_ + 8 ∧ at_ + 8 ≤ tq := by omega
        have hfr1 : fr ≤ at_ + 1 ∧ at_ + 1 ≤ fr := by omega
        clear htq hfr hz hxl
        go_wp2_with (first | (go_at_call 18; refine (BT.out _).mono ?_; rintro e w19 ⟨rfl, m1, rfl⟩; have hbm := pw_below_drewN (Below.refl wr.heap.size wr) m1; have BKq5 := Aside0.mk (blk_below BKq5.out hbm); have BKq2 := Aside0.mk (blk_below BKq2.out hbm); have HO := Aside0.mk (Kd.R_below HO.out hbm); have HB20 := Aside0.mk (HB20.out.trans (hbm.mono HB20.out.size)); generalize wr.drewN m1 = w20 at hbm BKq5 BKq2 HO HB20 ⊢; clear hbm; obtain ⟨cg, cat⟩ := HCG.out _ HB20.out))
        clear cg cat
        have wto := WTO.out
        refine start_ (n := 15) (S := fun W => W.heap[q5]? = some (.cells #[.int .i64 CLS, .int .i64 LAB, .int .i64 y7, .string SRC, .string DST, .slice A6 n6 c6, .int .i64 0, .slice none 0 0] 26 (0, 0)) ∧ Below w.heap.size w W) (ds := [14]) #[false, false, false, false, false, false, false, false, false, false, false, false, false, false, false] (by kernel_rfl) rfl rfl ⟨blk_below BKq5.out (below_drew (Below.refl w20.heap.size w20)), below_drew HB20.out⟩ (fun hHeld => ?_)
        have BKq2 := Aside0.mk (blk_below BKq2.out (below_drew (Below.refl w20.heap.size w20)))
        have HO := Aside0.mk (Kd.R_drew HO.out)
        have HB21 := Aside0.mk (below_drew HB20.out)
        generalize w20.drew = w21 at BKq2 HO HB21 hHeld ⊢
        clear BKq5
        refine pure_ (i := 0) (N := some 122) (v := ?_) (a' := ?_) #[true, false, false, false, false, false, false, false, false, false, false, false, false, false, false] rfl rfl (by as_aux_lemma => kernel_rfl) (fun _ _ _ h => h) (Or.inl ⟨by rfl, ?_⟩) ?_ ?_
        rotate_left
        · intro w'
          go_simp
          with_reducible rfl
        rotate_left
        · simp only [Act.put, List.setIfInBounds_toArray, List.set_cons_zero, List.set_cons_succ]
          rfl
        refine take_ (i := 1) (N := some 123) (v := ?_) (a' := ?_) #[true, true, false, false, false, false, false, false, false, false, false, false, false, false, false] rfl rfl (by as_aux_lemma => kernel_rfl) (fun _ _ _ h => h) (Or.inl ⟨by rfl, ?_⟩) hHeld ?_ ?_
        rotate_left
        · intro w' s0
          obtain ⟨sq, sb⟩ := s0
          have c5 : w'.cell? ⟨q5, 5, none⟩ = some (.slice A6 n6 c6) := (blk_cell sq 5).trans rfl
          have cv := CV.out _ sb
          go_simp
          with_reducible rfl
        rotate_left
        · simp only [Act.put, List.setIfInBounds_toArray, List.set_cons_zero, List.set_cons_succ]
          rfl
        refine pure_ (i := 2) (N := some 124) (v := ?_) (a' := ?_) #[true, true, true, false, false, false, false, false, false, false, false, false, false, false, false] rfl rfl (by as_aux_lemma => kernel_rfl) (fun _ _ _ h => h) (Or.inl ⟨by rfl, ?_⟩) ?_ ?_
        rotate_left
        · intro w'
          go_simp
          with_reducible rfl
        rotate_left
        · simp only [Act.put, List.setIfInBounds_toArray, List.set_cons_zero, List.set_cons_succ]
          rfl
        refine pure_ (i := 3) (N := some 125) (v := ?_) (a' := ?_) #[true, true, true, true, false, false, false, false, false, false, false, false, false, false, false] rfl rfl (by as_aux_lemma => kernel_rfl) (fun _ _ _ h => h) (Or.inl ⟨by rfl, ?_⟩) ?_ ?_
        rotate_left
        · intro w'
          go_simp
          with_reducible rfl
        rotate_left
        · simp only [Act.put, List.setIfInBounds_toArray, List.set_cons_zero, List.set_cons_succ]
          rfl
        refine pure_ (i := 4) (N := some 126) (v := ?_) (a' := ?_) #[true, true, true, true, true, false, false, false, false, false, false, false, false, false, false] rfl rfl (by as_aux_lemma => kernel_rfl) (fun _ _ _ h => h) (Or.inl ⟨by rfl, ?_⟩) ?_ ?_
        rotate_left
        · intro w'
          go_simp
          with_reducible rfl
        rotate_left
        · simp only [Act.put, List.setIfInBounds_toArray, List.set_cons_zero, List.set_cons_succ]
          rfl
        refine pure_ (i := 5) (N := some 127) (v := ?_) (a' := ?_) #[true, true, true, true, true, true, false, false, false, false, false, false, false, false, false] rfl rfl (by as_aux_lemma => kernel_rfl) (fun _ _ _ h => h) (Or.inl ⟨by rfl, ?_⟩) ?_ ?_
        rotate_left
        · intro w'
          go_simp
          with_reducible rfl
        rotate_left
        · simp only [Act.put, List.setIfInBounds_toArray, List.set_cons_zero, List.set_cons_succ]
          rfl
        refine pure_ (i := 6) (N := some 128) (v := ?_) (a' := ?_) #[true, true, true, true, true, true, true, false, false, false, false, false, false, false, false] rfl rfl (by as_aux_lemma => kernel_rfl) (fun _ _ _ h => h) (Or.inl ⟨by rfl, ?_⟩) ?_ ?_
        rotate_left
        · intro w'
          go_simp
          with_reducible rfl
        rotate_left
        · simp only [Act.put, List.setIfInBounds_toArray, List.set_cons_zero, List.set_cons_succ]
          rfl
        refine pure_ (i := 7) (N := some 129) (v := ?_) (a' := ?_) #[true, true, true, true, true, true, true, true, false, false, false, false, false, false, false] rfl rfl (by as_aux_lemma => kernel_rfl) (fun _ _ _ h => h) (Or.inl ⟨by rfl, ?_⟩) ?_ ?_
        rotate_left
        · intro w'
          go_simp
          with_reducible rfl
        rotate_left
        · simp only [Act.put, List.setIfInBounds_toArray, List.set_cons_zero, List.set_cons_succ]
          rfl
        refine pure_ (i := 8) (N := some 130) (v := ?_) (a' := ?_) #[true, true, true, true, true, true, true, true, true, false, false, false, false, false, false] rfl rfl (by as_aux_lemma => kernel_rfl) (fun _ _ _ h => h) (Or.inl ⟨by rfl, ?_⟩) ?_ ?_
        rotate_left
        · intro w'
          go_simp
          with_reducible rfl
        rotate_left
        · simp only [Act.put, List.setIfInBounds_toArray, List.set_cons_zero, List.set_cons_succ]
          rfl
        refine take_ (i := 9) (N := some 131) (v := ?_) (a' := ?_) #[true, true, true, true, true, true, true, true, true, true, false, false, false, false, false] rfl rfl (by as_aux_lemma => kernel_rfl) (fun _ _ _ h => h) (Or.inl ⟨by rfl, ?_⟩) hHeld ?_ ?_
        rotate_left
        · intro w' s0
          obtain ⟨sq, sb⟩ := s0
          have c5 : w'.cell? ⟨q5, 5, none⟩ = some (.slice A6 n6 c6) := (blk_cell sq 5).trans rfl
          have cv := CV.out _ sb
          go_simp
          with_reducible rfl
        rotate_left
        · simp only [Act.put, List.setIfInBounds_toArray, List.set_cons_zero, List.set_cons_succ]
          rfl
        refine pure_ (i := 10) (N := some 132) (v := ?_) (a' := ?_) #[true, true, true, true, true, true, true, true, true, true, true, false, false, false, false] rfl rfl (by as_aux_lemma => kernel_rfl) (fun _ _ _ h => h) (Or.inl ⟨by rfl, ?_⟩) ?_ ?_
        rotate_left
        · intro w'
          go_simp
          with_reducible rfl
        rotate_left
        · simp only [Act.put, List.setIfInBounds_toArray, List.set_cons_zero, List.set_cons_succ]
          rfl
        refine one_ (i := 11) (N := some 133) #[true, true, true, true, true, true, true, true, true, true, true, true, false, false, false] rfl rfl (by as_aux_lemma => kernel_rfl) (by decide) (fun K hK => ?_)
        refine event_step (w1 := w21.alloc (.cells #[.int .i64 (44), .string st] 43)) (v := .slice (some ⟨w21.heap.size, 0, none⟩) 1 1) (by rfl) ?_ ?_
        · first | (go_simp; done) | (go_simp; rfl)
        have hA := below_alloc (Below.refl w21.heap.size w21) (.cells #[.int .i64 (44), .string st] 43)
        refine hK.out _ _ ⟨blk_below hHeld.1 hA, hHeld.2.trans (hA.mono hHeld.2.size)⟩ (fun hHeld2 => ?_)
        clear hK K hA hHeld2
        refine norm_ (a' := ?_) ?_ ?_
        rotate_left
        · show Act.put _ (some 133) _ = _
          simp only [Act.put, List.setIfInBounds_toArray, List.set_cons_zero, List.set_cons_succ]
          rfl
        refine one_ (i := 12) (N := some 134) #[true, true, true, true, true, true, true, true, true, true, true, true, true, false, false] rfl rfl (by as_aux_lemma => kernel_rfl) (by decide) (fun K hK => ?_)
        refine Kd.R_append_step k43 (W := w21) (w0 := w) w.heap.size (by rfl) (.tmp 123) (.tmp 133) 24 43 (.agg #[.int .i64 0, .string ByteArray.empty]) 24 rfl Try.underlying24 info43 rfl (by decide) (by decide) (.slice A6 n6 c6) xs (⟨44, st⟩ : S43) [.int .i64 (44), .string st] (fun _ => True) (fun _ => False) rfl rfl (k43_mkM _ _ _ (⟨44, st⟩ : S43)) (fun _ h => h.elim) (fun _ _ => trivial) HO.out HB21.out HB21.out.size ALEN.out ?_
        intro v1 w22 ho hbb hg _
        have BKq5 := Aside0.mk (blk_grown hHeld.1 hg (Kd.R_ne HO.out hHeld.1 (by decide)))
        have BKq2 := Aside0.mk (blk_grown BKq2.out hg (Kd.R_ne HO.out BKq2.out (by decide)))
        obtain ⟨A8, c8, hv8, hl8, _⟩ := Kd.R_reads ho
        rw [HL8.out] at hv8 hl8
        subst hv8
        have HO := Aside0.mk ho
        have HB22 := Aside0.mk hbb
        refine hK.out _ _ ⟨BKq5.out, hbb⟩ (fun hHeld => ?_)
        clear hK K ho hbb hg hl8 hHeld
        refine norm_ (a' := ?_) ?_ ?_
        rotate_left
        · show Act.put _ (some 134) _ = _
          simp only [Act.put, List.setIfInBounds_toArray, List.set_cons_zero, List.set_cons_succ]
          rfl
        refine pure_ (i := 13) (N := some 135) (v := ?_) (a' := ?_) #[true, true, true, true, true, true, true, true, true, true, true, true, true, true, false] rfl rfl (by as_aux_lemma => kernel_rfl) (fun _ _ _ h => h) (Or.inl ⟨by rfl, ?_⟩) ?_ ?_
        rotate_left
        · intro w'
          go_simp
          with_reducible rfl
        rotate_left
        · simp only [Act.put, List.setIfInBounds_toArray, List.set_cons_zero, List.set_cons_succ]
          rfl
        refine last_ (i := 14) (N := none) #[true, true, true, true, true, true, true, true, true, true, true, true, true, true, true] rfl rfl (by as_aux_lemma => kernel_rfl) (by decide) (fun K hK => ?_)
        have ca5 : w22.cell? ⟨q5, 5, none⟩ = some (.slice A6 n6 c6) := (blk_cell BKq5.out 5).trans rfl
        have fa5 : w22.frozen? ⟨q5, 5, none⟩ = false := blk_frozen BKq5.out 5
        refine skip_ (by rfl) rfl (w1 := Cells.setAll w22 q5 5 [.slice A8 l8 c8]) ?_ ?_
        · first | (go_simp; done) | (go_simp; rfl)
        clear ca5 fa5
        obtain ⟨w23, hw⟩ : ∃ x, x = Cells.setAll w22 q5 5 [.slice A8 l8 c8] := ⟨_, rfl⟩
        rw [← hw]
        have HO := Aside0.mk (show k43.R 43 w23 w.heap.size (fun _ => True) (.slice A8 l8 c8) (xs ++ [⟨44, st⟩]) from by rw [hw]; exact Cells.setAll_R (by decide) _ _ _ _ BKq5.out HO.out)
        have BKq2 := Aside0.mk (show w23.heap[q2]? = _ from (congrArg (fun W : World => W.heap[q2]?) hw).trans ((Cells.setAll_far HNq2q5.out _ _ _).trans BKq2.out))
        have HB23 := Aside0.mk (show Below w.heap.size w w23 from by rw [hw]; exact Cells.setAll_below HQq5.out _ _ _ HB22.out)
        have BKq5 := Aside0.mk (show w23.heap[q5]? = some (.cells #[.int .i64 CLS, .int .i64 LAB, .int .i64 y7, .string SRC, .string DST, .slice A8 l8 c8, .int .i64 0, .slice none 0 0] 26 (0, 0)) from by rw [hw]; exact (Cells.setAll_blk _ _ _ _ BKq5.out).trans rfl)
        refine hK.out _ _ ?_
        clear hK K hw HB22
        refine done_ (by kernel_rfl) ?_
        obtain ⟨cg, cat⟩ := HCG.out _ HB23.out
        clear wto hmid
        go_wp2_with (fail)
        go_round
        case rel => exact ⟨xs ++ [⟨44, st⟩], y', tq, f, A8, l8, c8, rfl, rfl, by omega, by omega, by omega, by omega, BKq5, BKq2, HO, HB23, HE3, HF3⟩
        case measure => simp [intOf]; omega
      have d44 : (nx != 44) = true := bne_iff_ne.mpr h44
      obtain ⟨gg, hgg⟩ : ∃ x, at_ + 1 = x := ⟨_, rfl⟩
      obtain ⟨yb, hyb⟩ : ∃ x, b.getD gg 0 = x := ⟨_, rfl⟩
      have hybr : 0 ≤ yb ∧ yb ≤ 255 := by
        have hkb : gg < b.length := by have := HN.out; omega
        rw [← hyb]
        exact HBY.out _ (by rw [List.getD_eq_getElem?_getD, List.getElem?_eq_getElem hkb]; exact List.getElem_mem hkb)
      have hb1 : bl.getD 1 0 = yb := by rw [← hyb, ← hbl, List.getD_eq_getElem?_getD, List.getElem?_drop, List.getD_eq_getElem?_getD, hgg]
      obtain ⟨z, hzz⟩ : ∃ x, hsz nx bl = x := ⟨_, rfl⟩
      have hz8 : (z : Int) = 8 * (yb + 1) := by rw [← hzz]; unfold hsz; rw [if_neg h44, hb1]; omega
      have HCG := Aside0.mk (show ∀ W, Below w.heap.size w W → W.cell? (ad.add gg) = some (.int .u8 yb) from fun W hW => by
        obtain ⟨ad', ha, hc⟩ := (HR.out W hW).2.2 (by omega)
        injection ha with ha
        subst ha
        have h1 := hc gg (by omega)
        rw [hyb] at h1
        exact h1)
      by_cases hsize : n < at_ + z
      · have PE := Aside0.mk (show parseE b = (4, zPk) from by
          have h2 := HE.out
          rw [btwE, if_neg (by rw [HBT.out]; decide), if_neg h8', if_pos (by rw [hzz]; omega)] at h2
          rw [HPE.out, h2]
          rfl)
        obtain ⟨tq, htq⟩ : ∃ x, at_ + z = x := ⟨_, rfl⟩
        have e1 : (at_ : Int) + 1 = (gg : Int) := by omega
        have e3 : 8 * (yb + 1) = (z : Int) := by omega
        have e4 : (at_ : Int) + (z : Int) = (tq : Int) := by omega
        have dB : decide ((n : Int) < (tq : Int)) = true := decide_eq_true (by omega)
        have dB' : decide (n < tq) = true := decide_eq_true (by omega)
        have hggI : (gg : Int) < (n : Int) := by omega
        have hggN : gg < n := by omega
        have hgb : gg ≤ at_ + 1 ∧ z ≤ 2048 ∧ tq ≤ 200000 := by omega
        by_cases h0 : nx = 0
        · subst h0
          have d41 : decide ((40 : Int) < (at_ : Int)) = false := decide_eq_false (fun h => hz0 ⟨rfl, by omega⟩)
          have d41' : decide (40 < at_) = false := decide_eq_false (fun h => hz0 ⟨rfl, h⟩)
          clear hsize htq hz8 hzz hb1 hyb hgg h8' hz0 h44 hbl hbn hbl0 hff
          go_wp2_with (first | (go_at_call 18; refine (BT.out _).mono ?_; rintro e w19 ⟨rfl, m1, rfl⟩; have hbm := pw_below_drewN (Below.refl wr.heap.size wr) m1; have BKq5 := Aside0.mk (blk_below BKq5.out hbm); have BKq2 := Aside0.mk (blk_below BKq2.out hbm); have HO := Aside0.mk (Kd.R_below HO.out hbm); have HB20 := Aside0.mk (HB20.out.trans (hbm.mono HB20.out.size)); generalize wr.drewN m1 = w20 at hbm BKq5 BKq2 HO HB20 ⊢; clear hbm; have cg := HCG.out _ HB20.out) | ((with_reducible refine gate_store (t := 26) (p := 2) rfl ?_); have ca0 : w20.cell? ⟨q2, 0, none⟩ = some (.int .i64 0) := (blk_cell BKq2.out 0).trans rfl; have ca1 : w20.cell? ⟨q2, 1, none⟩ = some (.int .i64 0) := (blk_cell BKq2.out 1).trans rfl; have ca2 : w20.cell? ⟨q2, 2, none⟩ = some (.int .i64 0) := (blk_cell BKq2.out 2).trans rfl; have ca3 : w20.cell? ⟨q2, 3, none⟩ = some (.string ByteArray.empty) := (blk_cell BKq2.out 3).trans rfl; have ca4 : w20.cell? ⟨q2, 4, none⟩ = some (.string ByteArray.empty) := (blk_cell BKq2.out 4).trans rfl; have ca5 : w20.cell? ⟨q2, 5, none⟩ = some (.slice none 0 0) := (blk_cell BKq2.out 5).trans rfl; have ca6 : w20.cell? ⟨q2, 6, none⟩ = some (.int .i64 0) := (blk_cell BKq2.out 6).trans rfl; have ca7 : w20.cell? ⟨q2, 7, none⟩ = some (.slice none 0 0) := (blk_cell BKq2.out 7).trans rfl; have fa0 : w20.frozen? ⟨q2, 0, none⟩ = false := blk_frozen BKq2.out 0; have fa1 : w20.frozen? ⟨q2, 1, none⟩ = false := blk_frozen BKq2.out 1; have fa2 : w20.frozen? ⟨q2, 2, none⟩ = false := blk_frozen BKq2.out 2; have fa3 : w20.frozen? ⟨q2, 3, none⟩ = false := blk_frozen BKq2.out 3; have fa4 : w20.frozen? ⟨q2, 4, none⟩ = false := blk_frozen BKq2.out 4; have fa5 : w20.frozen? ⟨q2, 5, none⟩ = false := blk_frozen BKq2.out 5; have fa6 : w20.frozen? ⟨q2, 6, none⟩ = false := blk_frozen BKq2.out 6; have fa7 : w20.frozen? ⟨q2, 7, none⟩ = false := blk_frozen BKq2.out 7; refine store_event (t := 26) (p := 2) (v := ?vo2_21_6) (w1 := Cells.setAll w20 q2 0 [.int .i64 0, .int .i64 0, .int .i64 0, .string ByteArray.empty, .string ByteArray.empty, .slice none 0 0, .int .i64 0, .slice none 0 0]) ?hg ?ho ?hn ?hr ?_; (case ho => rfl); (case hg => rfl); (case hn => rfl); (case hr => first | (go_simp; done) | (go_simp; rfl)); intro w21 hw; have HB21 := Aside0.mk (show Below w.heap.size w w21 from by rw [hw]; exact Cells.setAll_below HQq2.out _ _ _ HB20.out); have BKq2 := Aside0.mk (show w21.heap[q2]? = some (.cells #[.int .i64 0, .int .i64 0, .int .i64 0, .string ByteArray.empty, .string ByteArray.empty, .slice none 0 0, .int .i64 0, .slice none 0 0] 26 (0, 0)) from by rw [hw]; exact Cells.stored8 BKq2.out); clear ca0 ca1 ca2 ca3 ca4 ca5 ca6 ca7; clear fa0 fa1 fa2 fa3 fa4 fa5 fa6 fa7; clear hw))
          (try simp only [Exit.inBlock, Exit.then])
          refine bodyPost_ret (results_ct rfl _ _ q2 26 _ (0, 0) _ rfl BKq2.out Try.underlying26 rfl info26) rfl ?_
          rw [PE.out]
          exact ⟨⟨none, 0, none, 0, rfl, zPk_read' _⟩, HB21.out⟩
        · have z0 : (nx == 0) = false := beq_eq_false_iff_ne.mpr h0
          clear hsize htq hz8 hzz hb1 hyb hgg h8' hz0 h44 hbl hbn hbl0 hff h0
          go_wp2_with (first | (go_at_call 18; refine (BT.out _).mono ?_; rintro e w19 ⟨rfl, m1, rfl⟩; have hbm := pw_below_drewN (Below.refl wr.heap.size wr) m1; have BKq5 := Aside0.mk (blk_below BKq5.out hbm); have BKq2 := Aside0.mk (blk_below BKq2.out hbm); have HO := Aside0.mk (Kd.R_below HO.out hbm); have HB20 := Aside0.mk (HB20.out.trans (hbm.mono HB20.out.size)); generalize wr.drewN m1 = w20 at hbm BKq5 BKq2 HO HB20 ⊢; clear hbm; have cg := HCG.out _ HB20.out) | ((with_reducible refine gate_store (t := 26) (p := 2) rfl ?_); have ca0 : w20.cell? ⟨q2, 0, none⟩ = some (.int .i64 0) := (blk_cell BKq2.out 0).trans rfl; have ca1 : w20.cell? ⟨q2, 1, none⟩ = some (.int .i64 0) := (blk_cell BKq2.out 1).trans rfl; have ca2 : w20.cell? ⟨q2, 2, none⟩ = some (.int .i64 0) := (blk_cell BKq2.out 2).trans rfl; have ca3 : w20.cell? ⟨q2, 3, none⟩ = some (.string ByteArray.empty) := (blk_cell BKq2.out 3).trans rfl; have ca4 : w20.cell? ⟨q2, 4, none⟩ = some (.string ByteArray.empty) := (blk_cell BKq2.out 4).trans rfl; have ca5 : w20.cell? ⟨q2, 5, none⟩ = some (.slice none 0 0) := (blk_cell BKq2.out 5).trans rfl; have ca6 : w20.cell? ⟨q2, 6, none⟩ = some (.int .i64 0) := (blk_cell BKq2.out 6).trans rfl; have ca7 : w20.cell? ⟨q2, 7, none⟩ = some (.slice none 0 0) := (blk_cell BKq2.out 7).trans rfl; have fa0 : w20.frozen? ⟨q2, 0, none⟩ = false := blk_frozen BKq2.out 0; have fa1 : w20.frozen? ⟨q2, 1, none⟩ = false := blk_frozen BKq2.out 1; have fa2 : w20.frozen? ⟨q2, 2, none⟩ = false := blk_frozen BKq2.out 2; have fa3 : w20.frozen? ⟨q2, 3, none⟩ = false := blk_frozen BKq2.out 3; have fa4 : w20.frozen? ⟨q2, 4, none⟩ = false := blk_frozen BKq2.out 4; have fa5 : w20.frozen? ⟨q2, 5, none⟩ = false := blk_frozen BKq2.out 5; have fa6 : w20.frozen? ⟨q2, 6, none⟩ = false := blk_frozen BKq2.out 6; have fa7 : w20.frozen? ⟨q2, 7, none⟩ = false := blk_frozen BKq2.out 7; refine store_event (t := 26) (p := 2) (v := ?vo2_21_7) (w1 := Cells.setAll w20 q2 0 [.int .i64 0, .int .i64 0, .int .i64 0, .string ByteArray.empty, .string ByteArray.empty, .slice none 0 0, .int .i64 0, .slice none 0 0]) ?hg ?ho ?hn ?hr ?_; (case ho => rfl); (case hg => rfl); (case hn => rfl); (case hr => first | (go_simp; done) | (go_simp; rfl)); intro w21 hw; have HB21 := Aside0.mk (show Below w.heap.size w w21 from by rw [hw]; exact Cells.setAll_below HQq2.out _ _ _ HB20.out); have BKq2 := Aside0.mk (show w21.heap[q2]? = some (.cells #[.int .i64 0, .int .i64 0, .int .i64 0, .string ByteArray.empty, .string ByteArray.empty, .slice none 0 0, .int .i64 0, .slice none 0 0] 26 (0, 0)) from by rw [hw]; exact Cells.stored8 BKq2.out); clear ca0 ca1 ca2 ca3 ca4 ca5 ca6 ca7; clear fa0 fa1 fa2 fa3 fa4 fa5 fa6 fa7; clear hw))
          (try simp only [Exit.inBlock, Exit.then])
          refine bodyPost_ret (results_ct rfl _ _ q2 26 _ (0, 0) _ rfl BKq2.out Try.underlying26 rfl info26) rfl ?_
          rw [PE.out]
          exact ⟨⟨none, 0, none, 0, rfl, zPk_read' _⟩, HB21.out⟩
      have hah : ahd nx = 2 := by unfold ahd; rw [if_neg h44]
      have hg' : ∀ k, k < n → 0 ≤ b.getD k 0 ∧ b.getD k 0 ≤ 255 := fun k hk => HBY.out _ (by
        have hkb : k < b.length := by have := HN.out; omega
        rw [List.getD_eq_getElem?_getD, List.getElem?_eq_getElem hkb]; exact List.getElem_mem hkb)
      obtain ⟨tq, htq⟩ : ∃ x, at_ + z = x := ⟨_, rfl⟩
      obtain ⟨fr, hfr⟩ : ∃ x, at_ + 2 = x := ⟨_, rfl⟩
      obtain ⟨y', hy'⟩ : ∃ x, b.getD at_ 0 = x := ⟨_, rfl⟩
      have hyr := hg' at_ (by omega)
      rw [hy'] at hyr
      have hy0 : bl.getD 0 0 = y' := by rw [← hy', ← hbl, List.getD_eq_getElem?_getD, List.getElem?_drop, List.getD_eq_getElem?_getD, Nat.add_zero]
      obtain ⟨st, hst⟩ : ∃ x, strOfNums ((b.take tq).drop fr) = x := ⟨_, rfl⟩
      have hst2 : strOfNums ((bl.take z).drop 2) = st := by
        rw [← hst, List.drop_take, List.drop_take, ← hbl, List.drop_drop, hfr, show tq - fr = z - 2 from by omega]
      have hdrop : bl.drop z = b.drop tq := by rw [← hbl, List.drop_drop, htq]
      obtain ⟨i5, hi5, _, hsz5, _⟩ := info_parts info5'
      obtain ⟨A', hmid, hmidr, _⟩ := print_mid_int (P := Try.prog) (k := .u8) 22 5 Try.underlying22 hi5 hsz5 (some ad) c0 b (fr : Int) (tq : Int) (by omega) (by omega) (by have := HN.out; omega) (by have := HN.out; omega)
      simp only [Int.toNat_natCast, HN.out] at hmid hmidr
      obtain ⟨lm, hlm⟩ : ∃ x, ((b.take tq).drop fr).length = x := ⟨_, rfl⟩
      rw [hlm] at hmid hmidr
      obtain ⟨cc, hcc⟩ : ∃ x, c0 - fr = x := ⟨_, rfl⟩
      rw [hcc] at hmid
      have CV := Aside0.mk (show ∀ W, Below w.heap.size w W → (convert 22 9 (.slice A' lm cc)).run Try.prog W = .ok (.string st) W from fun W hW => by
        have := string_of_reads (P := Try.prog) (c := cc) Try.underlying22 Try.underlying5 Try.underlying9 (hmidr W (HR.out W hW))
        rw [hst] at this
        exact this)
      obtain ⟨l8, hl8⟩ : ∃ x, (xs ++ [(⟨nx, st⟩ : S43)]).length = x := ⟨_, rfl⟩
      have HL8 := Aside0.mk hl8
      have hxl : xs.length + 1 = l8 := by rw [← hl8]; simp
      have HE3 := Aside0.mk (show res = (btwE f (xs ++ [(⟨nx, st⟩ : S43)]).length y' (b.drop tq)).map (fun r => ((xs ++ [(⟨nx, st⟩ : S43)]) ++ r.1, r.2)) from by
        rw [HE.out, btwE, if_neg (by rw [HBT.out]; decide), if_neg h8', if_neg (by rw [hzz]; omega), hzz, hah, hst2, hy0, hdrop, Option.map_map, List.length_append]
        congr 1
        funext r
        simp)
      have HF3 := Aside0.mk (show n - tq < f ∧ (xs ++ [(⟨nx, st⟩ : S43)]).length + (n - tq) ≤ n ∧ (40 < tq ↔ 0 < (xs ++ [(⟨nx, st⟩ : S43)]).length) from by
        have hh := HF.out
        refine ⟨by omega, by rw [hl8]; omega, ⟨fun _ => by rw [hl8]; omega, fun _ => by omega⟩⟩)
      have ALEN := Aside0.mk (show (xs.length + 1) * 24 ≤ 140737488355328 from by have := HF.out.2.1; omega)
      have WTO := Aside0.mk (show IntKind.i64.wrap (tq : Int) = (tq : Int) from IntWalk.i64_in _ (by omega))
      have HCG := Aside0.mk (show ∀ W, Below w.heap.size w W → W.cell? (ad.add gg) = some (.int .u8 yb) ∧ W.cell? (ad.add at_) = some (.int .u8 y') from fun W hW => by
        obtain ⟨ad', ha, hc⟩ := (HR.out W hW).2.2 (by omega)
        injection ha with ha
        subst ha
        have h1 := hc gg (by omega)
        have h2 := hc at_ (by omega)
        rw [hy'] at h2
        rw [hyb] at h1
        exact ⟨h1, h2⟩)
      have e1 : (at_ : Int) + 1 = (gg : Int) := by omega
      have e2 : (gg : Int) + 1 = (fr : Int) := by omega
      have e3 : 8 * (yb + 1) = (z : Int) := by omega
      have e4 : (at_ : Int) + (z : Int) = (tq : Int) := by omega
      have dB : decide ((n : Int) < (tq : Int)) = false := decide_eq_false (by omega)
      have dB' : decide (n < tq) = false := decide_eq_false (by omega)
      have hggI : (gg : Int) < (n : Int) := by omega
      have hggN : gg < n := by omega
      have hatI : (at_ : Int) < (n : Int) := by omega
      have hatN : at_ < n := by omega
      have hto8 : tq ≤ at_ + z ∧ at_ + z ≤ tq ∧ tq ≤ n ∧ at_ + 8 ≤ tq ∧ z ≤ 2048 := by omega
      have hfr1 : fr ≤ at_ + 2 ∧ at_ + 2 ≤ fr ∧ gg ≤ at_ + 1 := by omega
      clear hzz hst2 hdrop hst hmidr hlm hcc hl8 hi5 hsz5 hg' hah hy0 hy' hbl hbn hbl0 hgg hyb htq hfr hz8 hb1 hsize hxl h8' hff
      by_cases h0 : nx = 0
      · subst h0
        have d41 : decide ((40 : Int) < (at_ : Int)) = false := decide_eq_false (fun h => hz0 ⟨rfl, by omega⟩)
        have d41' : decide (40 < at_) = false := decide_eq_false (fun h => hz0 ⟨rfl, h⟩)
        clear hz0 h44
        go_wp2_with (first | (go_at_call 18; refine (BT.out _).mono ?_; rintro e w19 ⟨rfl, m1, rfl⟩; have hbm := pw_below_drewN (Below.refl wr.heap.size wr) m1; have BKq5 := Aside0.mk (blk_below BKq5.out hbm); have BKq2 := Aside0.mk (blk_below BKq2.out hbm); have HO := Aside0.mk (Kd.R_below HO.out hbm); have HB20 := Aside0.mk (HB20.out.trans (hbm.mono HB20.out.size)); generalize wr.drewN m1 = w20 at hbm BKq5 BKq2 HO HB20 ⊢; clear hbm; obtain ⟨cg, cat⟩ := HCG.out _ HB20.out))
        clear cg cat
        have wto := WTO.out
        refine start_ (n := 15) (S := fun W => W.heap[q5]? = some (.cells #[.int .i64 CLS, .int .i64 LAB, .int .i64 y7, .string SRC, .string DST, .slice A6 n6 c6, .int .i64 0, .slice none 0 0] 26 (0, 0)) ∧ Below w.heap.size w W) (ds := [14]) #[false, false, false, false, false, false, false, false, false, false, false, false, false, false, false] (by kernel_rfl) rfl rfl ⟨blk_below BKq5.out (below_drew (Below.refl w20.heap.size w20)), below_drew HB20.out⟩ (fun hHeld => ?_)
        have BKq2 := Aside0.mk (blk_below BKq2.out (below_drew (Below.refl w20.heap.size w20)))
        have HO := Aside0.mk (Kd.R_drew HO.out)
        have HB21 := Aside0.mk (below_drew HB20.out)
        generalize w20.drew = w21 at BKq2 HO HB21 hHeld ⊢
        clear BKq5
        refine pure_ (i := 0) (N := some 122) (v := ?_) (a' := ?_) #[true, false, false, false, false, false, false, false, false, false, false, false, false, false, false] rfl rfl (by as_aux_lemma => kernel_rfl) (fun _ _ _ h => h) (Or.inl ⟨by rfl, ?_⟩) ?_ ?_
        rotate_left
        · intro w'
          go_simp
          with_reducible rfl
        rotate_left
        · simp only [Act.put, List.setIfInBounds_toArray, List.set_cons_zero, List.set_cons_succ]
          rfl
        refine take_ (i := 1) (N := some 123) (v := ?_) (a' := ?_) #[true, true, false, false, false, false, false, false, false, false, false, false, false, false, false] rfl rfl (by as_aux_lemma => kernel_rfl) (fun _ _ _ h => h) (Or.inl ⟨by rfl, ?_⟩) hHeld ?_ ?_
        rotate_left
        · intro w' s0
          obtain ⟨sq, sb⟩ := s0
          have c5 : w'.cell? ⟨q5, 5, none⟩ = some (.slice A6 n6 c6) := (blk_cell sq 5).trans rfl
          have cv := CV.out _ sb
          go_simp
          with_reducible rfl
        rotate_left
        · simp only [Act.put, List.setIfInBounds_toArray, List.set_cons_zero, List.set_cons_succ]
          rfl
        refine pure_ (i := 2) (N := some 124) (v := ?_) (a' := ?_) #[true, true, true, false, false, false, false, false, false, false, false, false, false, false, false] rfl rfl (by as_aux_lemma => kernel_rfl) (fun _ _ _ h => h) (Or.inl ⟨by rfl, ?_⟩) ?_ ?_
        rotate_left
        · intro w'
          go_simp
          with_reducible rfl
        rotate_left
        · simp only [Act.put, List.setIfInBounds_toArray, List.set_cons_zero, List.set_cons_succ]
          rfl
        refine pure_ (i := 3) (N := some 125) (v := ?_) (a' := ?_) #[true, true, true, true, false, false, false, false, false, false, false, false, false, false, false] rfl rfl (by as_aux_lemma => kernel_rfl) (fun _ _ _ h => h) (Or.inl ⟨by rfl, ?_⟩) ?_ ?_
        rotate_left
        · intro w'
          go_simp
          with_reducible rfl
        rotate_left
        · simp only [Act.put, List.setIfInBounds_toArray, List.set_cons_zero, List.set_cons_succ]
          rfl
        refine pure_ (i := 4) (N := some 126) (v := ?_) (a' := ?_) #[true, true, true, true, true, false, false, false, false, false, false, false, false, false, false] rfl rfl (by as_aux_lemma => kernel_rfl) (fun _ _ _ h => h) (Or.inl ⟨by rfl, ?_⟩) ?_ ?_
        rotate_left
        · intro w'
          go_simp
          with_reducible rfl
        rotate_left
        · simp only [Act.put, List.setIfInBounds_toArray, List.set_cons_zero, List.set_cons_succ]
          rfl
        refine pure_ (i := 5) (N := some 127) (v := ?_) (a' := ?_) #[true, true, true, true, true, true, false, false, false, false, false, false, false, false, false] rfl rfl (by as_aux_lemma => kernel_rfl) (fun _ _ _ h => h) (Or.inl ⟨by rfl, ?_⟩) ?_ ?_
        rotate_left
        · intro w'
          go_simp
          with_reducible rfl
        rotate_left
        · simp only [Act.put, List.setIfInBounds_toArray, List.set_cons_zero, List.set_cons_succ]
          rfl
        refine pure_ (i := 6) (N := some 128) (v := ?_) (a' := ?_) #[true, true, true, true, true, true, true, false, false, false, false, false, false, false, false] rfl rfl (by as_aux_lemma => kernel_rfl) (fun _ _ _ h => h) (Or.inl ⟨by rfl, ?_⟩) ?_ ?_
        rotate_left
        · intro w'
          go_simp
          with_reducible rfl
        rotate_left
        · simp only [Act.put, List.setIfInBounds_toArray, List.set_cons_zero, List.set_cons_succ]
          rfl
        refine pure_ (i := 7) (N := some 129) (v := ?_) (a' := ?_) #[true, true, true, true, true, true, true, true, false, false, false, false, false, false, false] rfl rfl (by as_aux_lemma => kernel_rfl) (fun _ _ _ h => h) (Or.inl ⟨by rfl, ?_⟩) ?_ ?_
        rotate_left
        · intro w'
          go_simp
          with_reducible rfl
        rotate_left
        · simp only [Act.put, List.setIfInBounds_toArray, List.set_cons_zero, List.set_cons_succ]
          rfl
        refine pure_ (i := 8) (N := some 130) (v := ?_) (a' := ?_) #[true, true, true, true, true, true, true, true, true, false, false, false, false, false, false] rfl rfl (by as_aux_lemma => kernel_rfl) (fun _ _ _ h => h) (Or.inl ⟨by rfl, ?_⟩) ?_ ?_
        rotate_left
        · intro w'
          go_simp
          with_reducible rfl
        rotate_left
        · simp only [Act.put, List.setIfInBounds_toArray, List.set_cons_zero, List.set_cons_succ]
          rfl
        refine take_ (i := 9) (N := some 131) (v := ?_) (a' := ?_) #[true, true, true, true, true, true, true, true, true, true, false, false, false, false, false] rfl rfl (by as_aux_lemma => kernel_rfl) (fun _ _ _ h => h) (Or.inl ⟨by rfl, ?_⟩) hHeld ?_ ?_
        rotate_left
        · intro w' s0
          obtain ⟨sq, sb⟩ := s0
          have c5 : w'.cell? ⟨q5, 5, none⟩ = some (.slice A6 n6 c6) := (blk_cell sq 5).trans rfl
          have cv := CV.out _ sb
          go_simp
          with_reducible rfl
        rotate_left
        · simp only [Act.put, List.setIfInBounds_toArray, List.set_cons_zero, List.set_cons_succ]
          rfl
        refine pure_ (i := 10) (N := some 132) (v := ?_) (a' := ?_) #[true, true, true, true, true, true, true, true, true, true, true, false, false, false, false] rfl rfl (by as_aux_lemma => kernel_rfl) (fun _ _ _ h => h) (Or.inl ⟨by rfl, ?_⟩) ?_ ?_
        rotate_left
        · intro w'
          go_simp
          with_reducible rfl
        rotate_left
        · simp only [Act.put, List.setIfInBounds_toArray, List.set_cons_zero, List.set_cons_succ]
          rfl
        refine one_ (i := 11) (N := some 133) #[true, true, true, true, true, true, true, true, true, true, true, true, false, false, false] rfl rfl (by as_aux_lemma => kernel_rfl) (by decide) (fun K hK => ?_)
        refine event_step (w1 := w21.alloc (.cells #[.int .i64 (0), .string st] 43)) (v := .slice (some ⟨w21.heap.size, 0, none⟩) 1 1) (by rfl) ?_ ?_
        · first | (go_simp; done) | (go_simp; rfl)
        have hA := below_alloc (Below.refl w21.heap.size w21) (.cells #[.int .i64 (0), .string st] 43)
        refine hK.out _ _ ⟨blk_below hHeld.1 hA, hHeld.2.trans (hA.mono hHeld.2.size)⟩ (fun hHeld2 => ?_)
        clear hK K hA hHeld2
        refine norm_ (a' := ?_) ?_ ?_
        rotate_left
        · show Act.put _ (some 133) _ = _
          simp only [Act.put, List.setIfInBounds_toArray, List.set_cons_zero, List.set_cons_succ]
          rfl
        refine one_ (i := 12) (N := some 134) #[true, true, true, true, true, true, true, true, true, true, true, true, true, false, false] rfl rfl (by as_aux_lemma => kernel_rfl) (by decide) (fun K hK => ?_)
        refine Kd.R_append_step k43 (W := w21) (w0 := w) w.heap.size (by rfl) (.tmp 123) (.tmp 133) 24 43 (.agg #[.int .i64 0, .string ByteArray.empty]) 24 rfl Try.underlying24 info43 rfl (by decide) (by decide) (.slice A6 n6 c6) xs (⟨0, st⟩ : S43) [.int .i64 (0), .string st] (fun _ => True) (fun _ => False) rfl rfl (k43_mkM _ _ _ (⟨0, st⟩ : S43)) (fun _ h => h.elim) (fun _ _ => trivial) HO.out HB21.out HB21.out.size ALEN.out ?_
        intro v1 w22 ho hbb hg _
        have BKq5 := Aside0.mk (blk_grown hHeld.1 hg (Kd.R_ne HO.out hHeld.1 (by decide)))
        have BKq2 := Aside0.mk (blk_grown BKq2.out hg (Kd.R_ne HO.out BKq2.out (by decide)))
        obtain ⟨A8, c8, hv8, hl8, _⟩ := Kd.R_reads ho
        rw [HL8.out] at hv8 hl8
        subst hv8
        have HO := Aside0.mk ho
        have HB22 := Aside0.mk hbb
        refine hK.out _ _ ⟨BKq5.out, hbb⟩ (fun hHeld => ?_)
        clear hK K ho hbb hg hl8 hHeld
        refine norm_ (a' := ?_) ?_ ?_
        rotate_left
        · show Act.put _ (some 134) _ = _
          simp only [Act.put, List.setIfInBounds_toArray, List.set_cons_zero, List.set_cons_succ]
          rfl
        refine pure_ (i := 13) (N := some 135) (v := ?_) (a' := ?_) #[true, true, true, true, true, true, true, true, true, true, true, true, true, true, false] rfl rfl (by as_aux_lemma => kernel_rfl) (fun _ _ _ h => h) (Or.inl ⟨by rfl, ?_⟩) ?_ ?_
        rotate_left
        · intro w'
          go_simp
          with_reducible rfl
        rotate_left
        · simp only [Act.put, List.setIfInBounds_toArray, List.set_cons_zero, List.set_cons_succ]
          rfl
        refine last_ (i := 14) (N := none) #[true, true, true, true, true, true, true, true, true, true, true, true, true, true, true] rfl rfl (by as_aux_lemma => kernel_rfl) (by decide) (fun K hK => ?_)
        have ca5 : w22.cell? ⟨q5, 5, none⟩ = some (.slice A6 n6 c6) := (blk_cell BKq5.out 5).trans rfl
        have fa5 : w22.frozen? ⟨q5, 5, none⟩ = false := blk_frozen BKq5.out 5
        refine skip_ (by rfl) rfl (w1 := Cells.setAll w22 q5 5 [.slice A8 l8 c8]) ?_ ?_
        · first | (go_simp; done) | (go_simp; rfl)
        clear ca5 fa5
        obtain ⟨w23, hw⟩ : ∃ x, x = Cells.setAll w22 q5 5 [.slice A8 l8 c8] := ⟨_, rfl⟩
        rw [← hw]
        have HO := Aside0.mk (show k43.R 43 w23 w.heap.size (fun _ => True) (.slice A8 l8 c8) (xs ++ [⟨0, st⟩]) from by rw [hw]; exact Cells.setAll_R (by decide) _ _ _ _ BKq5.out HO.out)
        have BKq2 := Aside0.mk (show w23.heap[q2]? = _ from (congrArg (fun W : World => W.heap[q2]?) hw).trans ((Cells.setAll_far HNq2q5.out _ _ _).trans BKq2.out))
        have HB23 := Aside0.mk (show Below w.heap.size w w23 from by rw [hw]; exact Cells.setAll_below HQq5.out _ _ _ HB22.out)
        have BKq5 := Aside0.mk (show w23.heap[q5]? = some (.cells #[.int .i64 CLS, .int .i64 LAB, .int .i64 y7, .string SRC, .string DST, .slice A8 l8 c8, .int .i64 0, .slice none 0 0] 26 (0, 0)) from by rw [hw]; exact (Cells.setAll_blk _ _ _ _ BKq5.out).trans rfl)
        refine hK.out _ _ ?_
        clear hK K hw HB22
        refine done_ (by kernel_rfl) ?_
        obtain ⟨cg, cat⟩ := HCG.out _ HB23.out
        clear wto hmid
        go_wp2_with (fail)
        go_round
        case rel => exact ⟨xs ++ [⟨0, st⟩], y', tq, f, A8, l8, c8, rfl, rfl, by omega, by omega, by omega, by omega, BKq5, BKq2, HO, HB23, HE3, HF3⟩
        case measure => simp [intOf]; omega
      · have z0 : (nx == 0) = false := beq_eq_false_iff_ne.mpr h0
        clear hz0 h44 h0
        go_wp2_with (first | (go_at_call 18; refine (BT.out _).mono ?_; rintro e w19 ⟨rfl, m1, rfl⟩; have hbm := pw_below_drewN (Below.refl wr.heap.size wr) m1; have BKq5 := Aside0.mk (blk_below BKq5.out hbm); have BKq2 := Aside0.mk (blk_below BKq2.out hbm); have HO := Aside0.mk (Kd.R_below HO.out hbm); have HB20 := Aside0.mk (HB20.out.trans (hbm.mono HB20.out.size)); generalize wr.drewN m1 = w20 at hbm BKq5 BKq2 HO HB20 ⊢; clear hbm; obtain ⟨cg, cat⟩ := HCG.out _ HB20.out))
        clear cg cat
        have wto := WTO.out
        refine start_ (n := 15) (S := fun W => W.heap[q5]? = some (.cells #[.int .i64 CLS, .int .i64 LAB, .int .i64 y7, .string SRC, .string DST, .slice A6 n6 c6, .int .i64 0, .slice none 0 0] 26 (0, 0)) ∧ Below w.heap.size w W) (ds := [14]) #[false, false, false, false, false, false, false, false, false, false, false, false, false, false, false] (by kernel_rfl) rfl rfl ⟨blk_below BKq5.out (below_drew (Below.refl w20.heap.size w20)), below_drew HB20.out⟩ (fun hHeld => ?_)
        have BKq2 := Aside0.mk (blk_below BKq2.out (below_drew (Below.refl w20.heap.size w20)))
        have HO := Aside0.mk (Kd.R_drew HO.out)
        have HB21 := Aside0.mk (below_drew HB20.out)
        generalize w20.drew = w21 at BKq2 HO HB21 hHeld ⊢
        clear BKq5
        refine pure_ (i := 0) (N := some 122) (v := ?_) (a' := ?_) #[true, false, false, false, false, false, false, false, false, false, false, false, false, false, false] rfl rfl (by as_aux_lemma => kernel_rfl) (fun _ _ _ h => h) (Or.inl ⟨by rfl, ?_⟩) ?_ ?_
        rotate_left
        · intro w'
          go_simp
          with_reducible rfl
        rotate_left
        · simp only [Act.put, List.setIfInBounds_toArray, List.set_cons_zero, List.set_cons_succ]
          rfl
        refine take_ (i := 1) (N := some 123) (v := ?_) (a' := ?_) #[true, true, false, false, false, false, false, false, false, false, false, false, false, false, false] rfl rfl (by as_aux_lemma => kernel_rfl) (fun _ _ _ h => h) (Or.inl ⟨by rfl, ?_⟩) hHeld ?_ ?_
        rotate_left
        · intro w' s0
          obtain ⟨sq, sb⟩ := s0
          have c5 : w'.cell? ⟨q5, 5, none⟩ = some (.slice A6 n6 c6) := (blk_cell sq 5).trans rfl
          have cv := CV.out _ sb
          go_simp
          with_reducible rfl
        rotate_left
        · simp only [Act.put, List.setIfInBounds_toArray, List.set_cons_zero, List.set_cons_succ]
          rfl
        refine pure_ (i := 2) (N := some 124) (v := ?_) (a' := ?_) #[true, true, true, false, false, false, false, false, false, false, false, false, false, false, false] rfl rfl (by as_aux_lemma => kernel_rfl) (fun _ _ _ h => h) (Or.inl ⟨by rfl, ?_⟩) ?_ ?_
        rotate_left
        · intro w'
          go_simp
          with_reducible rfl
        rotate_left
        · simp only [Act.put, List.setIfInBounds_toArray, List.set_cons_zero, List.set_cons_succ]
          rfl
        refine pure_ (i := 3) (N := some 125) (v := ?_) (a' := ?_) #[true, true, true, true, false, false, false, false, false, false, false, false, false, false, false] rfl rfl (by as_aux_lemma => kernel_rfl) (fun _ _ _ h => h) (Or.inl ⟨by rfl, ?_⟩) ?_ ?_
        rotate_left
        · intro w'
          go_simp
          with_reducible rfl
        rotate_left
        · simp only [Act.put, List.setIfInBounds_toArray, List.set_cons_zero, List.set_cons_succ]
          rfl
        refine pure_ (i := 4) (N := some 126) (v := ?_) (a' := ?_) #[true, true, true, true, true, false, false, false, false, false, false, false, false, false, false] rfl rfl (by as_aux_lemma => kernel_rfl) (fun _ _ _ h => h) (Or.inl ⟨by rfl, ?_⟩) ?_ ?_
        rotate_left
        · intro w'
          go_simp
          with_reducible rfl
        rotate_left
        · simp only [Act.put, List.setIfInBounds_toArray, List.set_cons_zero, List.set_cons_succ]
          rfl
        refine pure_ (i := 5) (N := some 127) (v := ?_) (a' := ?_) #[true, true, true, true, true, true, false, false, false, false, false, false, false, false, false] rfl rfl (by as_aux_lemma => kernel_rfl) (fun _ _ _ h => h) (Or.inl ⟨by rfl, ?_⟩) ?_ ?_
        rotate_left
        · intro w'
          go_simp
          with_reducible rfl
        rotate_left
        · simp only [Act.put, List.setIfInBounds_toArray, List.set_cons_zero, List.set_cons_succ]
          rfl
        refine pure_ (i := 6) (N := some 128) (v := ?_) (a' := ?_) #[true, true, true, true, true, true, true, false, false, false, false, false, false, false, false] rfl rfl (by as_aux_lemma => kernel_rfl) (fun _ _ _ h => h) (Or.inl ⟨by rfl, ?_⟩) ?_ ?_
        rotate_left
        · intro w'
          go_simp
          with_reducible rfl
        rotate_left
        · simp only [Act.put, List.setIfInBounds_toArray, List.set_cons_zero, List.set_cons_succ]
          rfl
        refine pure_ (i := 7) (N := some 129) (v := ?_) (a' := ?_) #[true, true, true, true, true, true, true, true, false, false, false, false, false, false, false] rfl rfl (by as_aux_lemma => kernel_rfl) (fun _ _ _ h => h) (Or.inl ⟨by rfl, ?_⟩) ?_ ?_
        rotate_left
        · intro w'
          go_simp
          with_reducible rfl
        rotate_left
        · simp only [Act.put, List.setIfInBounds_toArray, List.set_cons_zero, List.set_cons_succ]
          rfl
        refine pure_ (i := 8) (N := some 130) (v := ?_) (a' := ?_) #[true, true, true, true, true, true, true, true, true, false, false, false, false, false, false] rfl rfl (by as_aux_lemma => kernel_rfl) (fun _ _ _ h => h) (Or.inl ⟨by rfl, ?_⟩) ?_ ?_
        rotate_left
        · intro w'
          go_simp
          with_reducible rfl
        rotate_left
        · simp only [Act.put, List.setIfInBounds_toArray, List.set_cons_zero, List.set_cons_succ]
          rfl
        refine take_ (i := 9) (N := some 131) (v := ?_) (a' := ?_) #[true, true, true, true, true, true, true, true, true, true, false, false, false, false, false] rfl rfl (by as_aux_lemma => kernel_rfl) (fun _ _ _ h => h) (Or.inl ⟨by rfl, ?_⟩) hHeld ?_ ?_
        rotate_left
        · intro w' s0
          obtain ⟨sq, sb⟩ := s0
          have c5 : w'.cell? ⟨q5, 5, none⟩ = some (.slice A6 n6 c6) := (blk_cell sq 5).trans rfl
          have cv := CV.out _ sb
          go_simp
          with_reducible rfl
        rotate_left
        · simp only [Act.put, List.setIfInBounds_toArray, List.set_cons_zero, List.set_cons_succ]
          rfl
        refine pure_ (i := 10) (N := some 132) (v := ?_) (a' := ?_) #[true, true, true, true, true, true, true, true, true, true, true, false, false, false, false] rfl rfl (by as_aux_lemma => kernel_rfl) (fun _ _ _ h => h) (Or.inl ⟨by rfl, ?_⟩) ?_ ?_
        rotate_left
        · intro w'
          go_simp
          with_reducible rfl
        rotate_left
        · simp only [Act.put, List.setIfInBounds_toArray, List.set_cons_zero, List.set_cons_succ]
          rfl
        refine one_ (i := 11) (N := some 133) #[true, true, true, true, true, true, true, true, true, true, true, true, false, false, false] rfl rfl (by as_aux_lemma => kernel_rfl) (by decide) (fun K hK => ?_)
        refine event_step (w1 := w21.alloc (.cells #[.int .i64 (nx), .string st] 43)) (v := .slice (some ⟨w21.heap.size, 0, none⟩) 1 1) (by rfl) ?_ ?_
        · first | (go_simp; done) | (go_simp; rfl)
        have hA := below_alloc (Below.refl w21.heap.size w21) (.cells #[.int .i64 (nx), .string st] 43)
        refine hK.out _ _ ⟨blk_below hHeld.1 hA, hHeld.2.trans (hA.mono hHeld.2.size)⟩ (fun hHeld2 => ?_)
        clear hK K hA hHeld2
        refine norm_ (a' := ?_) ?_ ?_
        rotate_left
        · show Act.put _ (some 133) _ = _
          simp only [Act.put, List.setIfInBounds_toArray, List.set_cons_zero, List.set_cons_succ]
          rfl
        refine one_ (i := 12) (N := some 134) #[true, true, true, true, true, true, true, true, true, true, true, true, true, false, false] rfl rfl (by as_aux_lemma => kernel_rfl) (by decide) (fun K hK => ?_)
        refine Kd.R_append_step k43 (W := w21) (w0 := w) w.heap.size (by rfl) (.tmp 123) (.tmp 133) 24 43 (.agg #[.int .i64 0, .string ByteArray.empty]) 24 rfl Try.underlying24 info43 rfl (by decide) (by decide) (.slice A6 n6 c6) xs (⟨nx, st⟩ : S43) [.int .i64 (nx), .string st] (fun _ => True) (fun _ => False) rfl rfl (k43_mkM _ _ _ (⟨nx, st⟩ : S43)) (fun _ h => h.elim) (fun _ _ => trivial) HO.out HB21.out HB21.out.size ALEN.out ?_
        intro v1 w22 ho hbb hg _
        have BKq5 := Aside0.mk (blk_grown hHeld.1 hg (Kd.R_ne HO.out hHeld.1 (by decide)))
        have BKq2 := Aside0.mk (blk_grown BKq2.out hg (Kd.R_ne HO.out BKq2.out (by decide)))
        obtain ⟨A8, c8, hv8, hl8, _⟩ := Kd.R_reads ho
        rw [HL8.out] at hv8 hl8
        subst hv8
        have HO := Aside0.mk ho
        have HB22 := Aside0.mk hbb
        refine hK.out _ _ ⟨BKq5.out, hbb⟩ (fun hHeld => ?_)
        clear hK K ho hbb hg hl8 hHeld
        refine norm_ (a' := ?_) ?_ ?_
        rotate_left
        · show Act.put _ (some 134) _ = _
          simp only [Act.put, List.setIfInBounds_toArray, List.set_cons_zero, List.set_cons_succ]
          rfl
        refine pure_ (i := 13) (N := some 135) (v := ?_) (a' := ?_) #[true, true, true, true, true, true, true, true, true, true, true, true, true, true, false] rfl rfl (by as_aux_lemma => kernel_rfl) (fun _ _ _ h => h) (Or.inl ⟨by rfl, ?_⟩) ?_ ?_
        rotate_left
        · intro w'
          go_simp
          with_reducible rfl
        rotate_left
        · simp only [Act.put, List.setIfInBounds_toArray, List.set_cons_zero, List.set_cons_succ]
          rfl
        refine last_ (i := 14) (N := none) #[true, true, true, true, true, true, true, true, true, true, true, true, true, true, true] rfl rfl (by as_aux_lemma => kernel_rfl) (by decide) (fun K hK => ?_)
        have ca5 : w22.cell? ⟨q5, 5, none⟩ = some (.slice A6 n6 c6) := (blk_cell BKq5.out 5).trans rfl
        have fa5 : w22.frozen? ⟨q5, 5, none⟩ = false := blk_frozen BKq5.out 5
        refine skip_ (by rfl) rfl (w1 := Cells.setAll w22 q5 5 [.slice A8 l8 c8]) ?_ ?_
        · first | (go_simp; done) | (go_simp; rfl)
        clear ca5 fa5
        obtain ⟨w23, hw⟩ : ∃ x, x = Cells.setAll w22 q5 5 [.slice A8 l8 c8] := ⟨_, rfl⟩
        rw [← hw]
        have HO := Aside0.mk (show k43.R 43 w23 w.heap.size (fun _ => True) (.slice A8 l8 c8) (xs ++ [⟨nx, st⟩]) from by rw [hw]; exact Cells.setAll_R (by decide) _ _ _ _ BKq5.out HO.out)
        have BKq2 := Aside0.mk (show w23.heap[q2]? = _ from (congrArg (fun W : World => W.heap[q2]?) hw).trans ((Cells.setAll_far HNq2q5.out _ _ _).trans BKq2.out))
        have HB23 := Aside0.mk (show Below w.heap.size w w23 from by rw [hw]; exact Cells.setAll_below HQq5.out _ _ _ HB22.out)
        have BKq5 := Aside0.mk (show w23.heap[q5]? = some (.cells #[.int .i64 CLS, .int .i64 LAB, .int .i64 y7, .string SRC, .string DST, .slice A8 l8 c8, .int .i64 0, .slice none 0 0] 26 (0, 0)) from by rw [hw]; exact (Cells.setAll_blk _ _ _ _ BKq5.out).trans rfl)
        refine hK.out _ _ ?_
        clear hK K hw HB22
        refine done_ (by kernel_rfl) ?_
        obtain ⟨cg, cat⟩ := HCG.out _ HB23.out
        clear wto hmid
        go_wp2_with (fail)
        go_round
        case rel => exact ⟨xs ++ [⟨nx, st⟩], y', tq, f, A8, l8, c8, rfl, rfl, by omega, by omega, by omega, by omega, BKq5, BKq2, HO, HB23, HE3, HF3⟩
        case measure => simp [intOf]; omega
end Go.Proofs.Ytpodidgdlcfaeaa.Ip6

/- The law RouteDoes. -/
import Derived.Test.YtmedkjiabieloaaRtZ
namespace Go.Proofs.Ytmedkjiabieloaa.Rt
open Go.RowKit Go.Proofs.YtmedkjiabieloaaW.PrintWords Go.Proofs.YtmedkjiabieloaaW.PrintLast Go.Proofs.YtmedkjiabieloaaW.PrintMore Go.Proofs.Ytmedkjiabieloaa.QRd
open Go.Proofs.Ytmedkjiabieloaa
set_option linter.unusedVariables false
set_option linter.unusedSimpArgs false
attribute [local go_sem high] eqA28
set_option maxHeartbeats 3200000 in
set_option maxRecDepth 100000 in
theorem does_main (A : Option Addr) (l : List S48) (c : Nat) (w : World) (hr : k48.C w A l.length l) (hc : l.length ≤ c) (hm : l.length ≤ maxLen) (hfit : ∀ x ∈ l, Fit48 x) :
    Calls Try.prog 5 #[.slice A l.length c] w fun e w' => e = .returned (.bool true) ∧ Below w.heap.size w w' := by
  obtain ⟨kf, rf, hf⟩ := few_ex l hm
  have FW := Aside0.mk (redoubtlaw18_few.calls kf A c l rf w hr hc hf)
  have HFIT := Aside0.mk hfit
  have HR := Aside0.mk fun (W : World) (hb : Below w.heap.size w W) => Kd.C_below hr hb
  obtain ⟨n, hn⟩ : ∃ n, l.length = n := ⟨_, rfl⟩
  have HN := Aside0.mk hn
  rw [hn] at HR FW hm ⊢
  unfold maxLen at hm
  clear hr hc hf hfit hn
  cases rf
  · go_enter Try.func5, Try.ntmps5
    go_wp2_with (fail)
    refine FW.out.mono ?_
    rintro e w1 ⟨rfl, hb⟩
    have HB1 := Aside0.mk hb
    clear hb
    go_wp2_with (fail)
    go_ret
    exact ⟨rfl, HB1.out⟩
  · go_enter Try.func5, Try.ntmps5
    go_wp2_with (fail)
    refine FW.out.mono ?_
    rintro e w1 ⟨rfl, hb⟩
    have HB1 := Aside0.mk hb
    clear hb
    go_wp2_with (fail)
    refine (new_call _).mono ?_
    rintro e w2 ⟨⟨q1, rfl, hq, ht⟩, hb⟩
    have HB2 := Aside0.mk (HB1.out.trans (hb.mono HB1.out.size))
    have HT2 := Aside0.mk (show TabO w2 w.heap.size q1 (.slice none 0 0) [] from ⟨ht.blk, ⟨rfl, .inl ⟨rfl, rfl⟩⟩, Nat.le_trans HB1.out.size hq⟩)
    clear hb hq ht
    go_wp2_with (first | ((with_reducible refine gate_dst (N := 18) rfl ?_); refine box_event ?hg (N := 18) ?hd (cs := #[.slice none 0 0]) (t := 46) ?hr ?_; (case hd => rfl); (case hg => rfl); (case hr => first | (go_simp; done) | (go_simp; rfl)); intro q2 hq w3 hbox hb; have BKq2 := Aside0.mk hbox; have HQq2 := Aside0.mk (show w.heap.size ≤ q2 from by rw [hq]; exact HB2.out.size); have HB3 := Aside0.mk (HB2.out.trans (hb.mono HB2.out.size)); have HT3 := Aside0.mk (HT2.out.below hb); clear hbox hb hq))
    go_loopw [5] (fun iv wr => ∃ (j : Nat) (L : List S28) (v1 v2 : Value), j ≤ n ∧ iv = .int .i64 j ∧ Aside0 (Two w wr q1 v1 q2 v2 L)) (fun iv _ => n - (intOf iv).toNat)
    case atStart => exact ⟨0, [], .slice none 0 0, .slice none 0 0, by omega, rfl, Aside0.mk ⟨HT3.out, ⟨BKq2.out, ⟨rfl, .inl ⟨rfl, rfl⟩⟩, HQq2.out⟩, good_nil, (fun k hk => by cases hk), HB3.out⟩⟩
    case round =>
      clear HT2 HT3 BKq2 HB1 HB2 HB3
      obtain ⟨j, L, v1, v2, hj, rfl, HT⟩ := hrel
      by_cases hlt : j < n
      · obtain ⟨ad, hA, hcs⟩ := at_T48 (HR.out _ HT.out.below) (j : Int) (by omega) (by omega)
        rw [Int.toNat_natCast] at hcs
        have er : rd_T48 l (j : Int) = l.getD j z48 := by unfold rd_T48; rw [Int.toNat_natCast]
        rw [er] at hcs
        have hfx : Fit48 (l.getD j z48) := HFIT.out _ (by
          have hjn : j < l.length := by rw [HN.out]; exact hlt
          rw [List.getD_eq_getElem?_getD, List.getElem?_eq_getElem hjn]
          exact List.getElem_mem hjn)
        obtain ⟨⟨cc, ⟨⟨xa, xb⟩, xv, xp⟩, xd⟩, hx⟩ : ∃ x, l.getD j z48 = x := ⟨_, rfl⟩
        simp only [hx] at hcs hfx
        subst hA
        have HSZ := Aside0.mk (show xa.size ≤ 140737488351232 from hfx.1.1)
        obtain ⟨x0, x1, x2, x3, x4, x5⟩ := hcs
        have hltI : (j : Int) < (n : Int) := by omega
        clear er hx hfx
        have c5 : cc = 0 ∨ cc = 1 ∨ (¬ cc = 0 ∧ ¬ cc = 1) := by omega
        rcases c5 with rfl | rfl | ⟨hc0, hc1⟩
        · go_wp2_with (first | ((with_reducible refine gate_dst (N := 6) rfl ?_); refine box_event ?hg (N := 6) ?hd (cs := #[.int .i64 0, .string ByteArray.empty, .int .i64 0, .string ByteArray.empty, .int .i64 0, .string ByteArray.empty]) (t := 48) ?hr ?_; (case hd => rfl); (case hg => rfl); (case hr => first | (go_simp; done) | (go_simp; rfl)); intro q6 hq w4 hbox hb; have BKq6 := Aside0.mk hbox; have HQq6 := Aside0.mk (show w.heap.size ≤ q6 from by rw [hq]; exact HT.out.below.size); have HB4 := Aside0.mk (HT.out.below.trans (hb.mono HT.out.below.size)); have HT4 := Aside0.mk (HT.out.step hb); have HL := Aside0.mk (show Below wr.heap.size wr w4 from hb); have HQL := Aside0.mk (show wr.heap.size ≤ q6 from Nat.le_of_eq hq.symm); have n0 := pw_cell_below hb x0; have n1 := pw_cell_below hb x1; have n2 := pw_cell_below hb x2; have n3 := pw_cell_below hb x3; have n4 := pw_cell_below hb x4; have n5 := pw_cell_below hb x5; clear hbox hb hq) | ((with_reducible refine gate_store (t := 48) (p := 6) rfl ?_); have ca0 : w4.cell? ⟨q6, 0, none⟩ = some (.int .i64 0) := (blk_cell BKq6.out 0).trans rfl; have ca1 : w4.cell? ⟨q6, 1, none⟩ = some (.string ByteArray.empty) := (blk_cell BKq6.out 1).trans rfl; have ca2 : w4.cell? ⟨q6, 2, none⟩ = some (.int .i64 0) := (blk_cell BKq6.out 2).trans rfl; have ca3 : w4.cell? ⟨q6, 3, none⟩ = some (.string ByteArray.empty) := (blk_cell BKq6.out 3).trans rfl; have ca4 : w4.cell? ⟨q6, 4, none⟩ = some (.int .i64 0) := (blk_cell BKq6.out 4).trans rfl; have ca5 : w4.cell? ⟨q6, 5, none⟩ = some (.string ByteArray.empty) := (blk_cell BKq6.out 5).trans rfl; have fa0 : w4.frozen? ⟨q6, 0, none⟩ = false := blk_frozen BKq6.out 0; have fa1 : w4.frozen? ⟨q6, 1, none⟩ = false := blk_frozen BKq6.out 1; have fa2 : w4.frozen? ⟨q6, 2, none⟩ = false := blk_frozen BKq6.out 2; have fa3 : w4.frozen? ⟨q6, 3, none⟩ = false := blk_frozen BKq6.out 3; have fa4 : w4.frozen? ⟨q6, 4, none⟩ = false := blk_frozen BKq6.out 4; have fa5 : w4.frozen? ⟨q6, 5, none⟩ = false := blk_frozen BKq6.out 5; refine store_event (t := 48) (p := 6) (v := ?vo6_5_3_n1) (w1 := Cells.setAll w4 q6 0 [.int .i64 0, .string xa, .int .i64 xb, .string xv, .int .i64 xp, .string xd]) ?hg ?ho ?hn ?hr ?_; (case ho => rfl); (case hg => rfl); (case hn => rfl); (case hr => first | (go_simp; done) | (go_simp; rfl)); intro w5 hw; have HB5 := Aside0.mk (show Below w.heap.size w w5 from by rw [hw]; exact Cells.setAll_below HQq6.out _ _ _ HB4.out); have BKq6 := Aside0.mk (show w5.heap[q6]? = some (.cells #[.int .i64 0, .string xa, .int .i64 xb, .string xv, .int .i64 xp, .string xd] 48 (0, 0)) from by rw [hw]; exact Cells.stored6 BKq6.out); clear ca0 ca1 ca2 ca3 ca4 ca5; clear fa0 fa1 fa2 fa3 fa4 fa5; have HT5 := Aside0.mk (HT.out.step (show Below wr.heap.size wr w5 from by rw [hw]; exact Cells.setAll_below HQL.out _ _ _ HL.out)); have HQ6 := Aside0.mk (show wr.heap.size ≤ q6 from HQL.out); clear HL HQL; have y0 : w5.cell? ⟨q6, 0, none⟩ = some (.int .i64 0) := (blk_cell BKq6.out 0).trans rfl; have y5 : w5.cell? ⟨q6, 5, none⟩ = some (.string xd) := (blk_cell BKq6.out 5).trans rfl; clear hw))
          have HNE := Aside0.mk (show q6 ≠ q1 ∧ some q6 ≠ v1.ownBlock ∧ q6 ≠ q2 ∧ some q6 ≠ v2.ownBlock from by
            have h6 := HQ6.out
            have h1 := blk_lt HT.out.tab.blk
            have h2 := blk_lt HT.out.ref.blk
            exact ⟨by omega, (fun e => by have := own_lt HT.out.tab.own _ e.symm; omega), by omega, (fun e => by have := own_lt HT.out.ref.own _ e.symm; omega)⟩)
          have HGL := Aside0.mk (good_addF HT.out.good ⟨⟨xa, xb⟩, xv, xp⟩)
          obtain ⟨⟨L1, er⟩, hfe⟩ : ∃ y, addF L ⟨⟨xa, xb⟩, xv, xp⟩ = y := ⟨_, rfl⟩
          rw [hfe] at HGL
          have HGL := Aside0.mk (show Good L1 from HGL.out)
          have HFE := Aside0.mk hfe
          have BK5 := BKq6
          clear hfe y0 y5
          refine start_ (n := 9) (S := fun W => W.heap[q6]? = some (.cells #[.int .i64 0, .string xa, .int .i64 xb, .string xv, .int .i64 xp, .string xd] 48 (0, 0))) (ds := []) #[false, false, false, false, false, false, false, false, false] (by kernel_rfl) rfl rfl BK5.out (fun hHeld => ?_)
          refine pure_ (i := 0) (N := some 55) (v := ?_) (a' := ?_) #[true, false, false, false, false, false, false, false, false] rfl rfl (by kernel_rfl) (fun _ _ _ h => h) (Or.inl ⟨by rfl, ?_⟩) ?_ ?_
          rotate_left
          · intro w'
            go_simp
            with_reducible rfl
          rotate_left
          · simp only [Act.put, List.setIfInBounds_toArray, List.set_cons_zero, List.set_cons_succ]
            rfl
          refine pure_ (i := 1) (N := some 56) (v := ?_) (a' := ?_) #[true, true, false, false, false, false, false, false, false] rfl rfl (by kernel_rfl) (fun _ _ _ h => h) (Or.inl ⟨by rfl, ?_⟩) ?_ ?_
          rotate_left
          · intro w'
            go_simp
            with_reducible rfl
          rotate_left
          · simp only [Act.put, List.setIfInBounds_toArray, List.set_cons_zero, List.set_cons_succ]
            rfl
          refine take_ (i := 2) (N := some 57) (v := ?_) (a' := ?_) #[true, true, true, false, false, false, false, false, false] rfl rfl (by kernel_rfl) (fun _ _ _ h => h) (Or.inl ⟨by rfl, ?_⟩) hHeld ?_ ?_
          rotate_left
          · intro w' s0
            have s1 := Aside0.mk s0
            clear s0
            have y0 : w'.cell? ⟨q6, 0, none⟩ = some (.int .i64 0) := (blk_cell s1.out 0).trans rfl
            have y1 : w'.cell? ⟨q6, 1, none⟩ = some (.string xa) := (blk_cell s1.out 1).trans rfl
            have y2 : w'.cell? ⟨q6, 2, none⟩ = some (.int .i64 xb) := (blk_cell s1.out 2).trans rfl
            have y3 : w'.cell? ⟨q6, 3, none⟩ = some (.string xv) := (blk_cell s1.out 3).trans rfl
            have y4 : w'.cell? ⟨q6, 4, none⟩ = some (.int .i64 xp) := (blk_cell s1.out 4).trans rfl
            have y5 : w'.cell? ⟨q6, 5, none⟩ = some (.string xd) := (blk_cell s1.out 5).trans rfl
            go_simp
            with_reducible rfl
          rotate_left
          · simp only [Act.put, List.setIfInBounds_toArray, List.set_cons_zero, List.set_cons_succ]
            rfl
          refine pure_ (i := 4) (N := some 59) (v := ?_) (a' := ?_) #[true, true, true, false, true, false, false, false, false] rfl rfl (by kernel_rfl) (fun _ _ _ h => h) (Or.inl ⟨by rfl, ?_⟩) ?_ ?_
          rotate_left
          · intro w'
            go_simp
            with_reducible rfl
          rotate_left
          · simp only [Act.put, List.setIfInBounds_toArray, List.set_cons_zero, List.set_cons_succ]
            rfl
          refine pure_ (i := 5) (N := some 60) (v := ?_) (a' := ?_) #[true, true, true, false, true, true, false, false, false] rfl rfl (by kernel_rfl) (fun _ _ _ h => h) (Or.inl ⟨by rfl, ?_⟩) ?_ ?_
          rotate_left
          · intro w'
            go_simp
            with_reducible rfl
          rotate_left
          · simp only [Act.put, List.setIfInBounds_toArray, List.set_cons_zero, List.set_cons_succ]
            rfl
          refine take_ (i := 6) (N := some 61) (v := ?_) (a' := ?_) #[true, true, true, false, true, true, true, false, false] rfl rfl (by kernel_rfl) (fun _ _ _ h => h) (Or.inl ⟨by rfl, ?_⟩) hHeld ?_ ?_
          rotate_left
          · intro w' s0
            have s1 := Aside0.mk s0
            clear s0
            have y0 : w'.cell? ⟨q6, 0, none⟩ = some (.int .i64 0) := (blk_cell s1.out 0).trans rfl
            have y1 : w'.cell? ⟨q6, 1, none⟩ = some (.string xa) := (blk_cell s1.out 1).trans rfl
            have y2 : w'.cell? ⟨q6, 2, none⟩ = some (.int .i64 xb) := (blk_cell s1.out 2).trans rfl
            have y3 : w'.cell? ⟨q6, 3, none⟩ = some (.string xv) := (blk_cell s1.out 3).trans rfl
            have y4 : w'.cell? ⟨q6, 4, none⟩ = some (.int .i64 xp) := (blk_cell s1.out 4).trans rfl
            have y5 : w'.cell? ⟨q6, 5, none⟩ = some (.string xd) := (blk_cell s1.out 5).trans rfl
            go_simp
            with_reducible rfl
          rotate_left
          · simp only [Act.put, List.setIfInBounds_toArray, List.set_cons_zero, List.set_cons_succ]
            rfl
          refine one_ (i := 3) (N := some 58) #[true, true, true, true, true, true, true, false, false] rfl rfl (by kernel_rfl) (by decide) (fun K hK => ?_)
          refine goesV_ Try.func10 (by kernel_rfl) rfl #[.pointer (some ⟨q1, 0, none⟩), .agg #[.string xa, .int .i64 xb, .string xv, .int .i64 xp]] (by rfl) rfl rfl (by first | rfl | go_simp) (by first | rfl | simp [Act.eval] | go_simp) ?_
          have HTd := Aside0.mk (HT5.out.step (below_drew (Below.refl _ _)))
          refine (add_call HTd.out.tab HTd.out.good ⟨⟨xa, xb⟩, xv, xp⟩ HSZ.out).mono ?_
          rintro e w6 ⟨v1', he, ht, hu⟩
          rw [HFE.out] at he ht
          subst he
          have HM6 := Aside0.mk (HTd.out.first ht hu)
          refine ⟨_, rfl, hK.out _ _ (blk_turn hHeld hu HNE.out.1 HNE.out.2.1) (fun hHeld => ?_)⟩
          clear hK K ht hu
          refine norm_ (a' := ?_) ?_ ?_
          rotate_left
          · show Act.put _ (some 58) _ = _
            simp only [Act.put, List.setIfInBounds_toArray, List.set_cons_zero, List.set_cons_succ]
            rfl
          refine one_ (i := 7) (N := some 62) #[true, true, true, true, true, true, true, true, false] rfl rfl (by kernel_rfl) (by decide) (fun K hK => ?_)
          refine goesV_ Try.func18 (by kernel_rfl) rfl #[.pointer (some ⟨q2, 0, none⟩), .agg #[.string xa, .int .i64 xb, .string xv, .int .i64 xp]] (by rfl) rfl rfl (by first | rfl | go_simp) (by first | rfl | simp [Act.eval] | go_simp) ?_
          refine (radd_call HM6.out.ref HT.out.good ⟨⟨xa, xb⟩, xv, xp⟩ HSZ.out).mono ?_
          rintro e w7 ⟨v2', he, ht, hu⟩
          rw [HFE.out] at he ht
          subst he
          have HT7 := Aside0.mk (HM6.out.second HGL.out ht hu)
          refine ⟨_, rfl, hK.out _ _ (blk_turn hHeld hu HNE.out.2.2.1 HNE.out.2.2.2) (fun hHeld => ?_)⟩
          clear hK K ht hu
          refine norm_ (a' := ?_) ?_ ?_
          rotate_left
          · show Act.put _ (some 62) _ = _
            simp only [Act.put, List.setIfInBounds_toArray, List.set_cons_zero, List.set_cons_succ]
            rfl
          refine pure_ (i := 8) (N := some 63) (v := ?_) (a' := ?_) #[true, true, true, true, true, true, true, true, true] rfl rfl (by kernel_rfl) (fun _ _ _ h => h) (Or.inl ⟨by rfl, ?_⟩) ?_ ?_
          rotate_left
          · intro w'
            go_simp
            with_reducible rfl
          rotate_left
          · simp only [Act.put, List.setIfInBounds_toArray, List.set_cons_zero, List.set_cons_succ]
            rfl
          refine done_ (by kernel_rfl) ?_
          obtain ⟨A7, c7, hv7, _, _⟩ := own_slice' HT7.out.ref.own
          subst hv7
          have TB7 := Aside0.mk (show ∀ W, Below w7.heap.size w7 W → W.cell? ⟨q2, 0, none⟩ = some (.slice A7 L1.length c7) from fun W hb => (blk_cell (HT7.out.step hb).ref.blk 0).trans rfl)
          have HTe := Aside0.mk (HT7.out.step (below_drew (Below.refl _ _)))
          (try simp only [Exit.inBlock, Exit.then])
          go_wp2_with (fail)
          refine start_ (n := 8) (S := fun W => Below w7.heap.size w7 W) (ds := []) #[false, false, false, false, false, false, false, false] (by kernel_rfl) rfl rfl (below_drew (Below.refl w7.heap.size w7)) (fun hHeld => ?_)
          refine pure_ (i := 0) (N := some 77) (v := ?_) (a' := ?_) #[true, false, false, false, false, false, false, false] rfl rfl (by kernel_rfl) (fun _ _ _ h => h) (Or.inl ⟨by rfl, ?_⟩) ?_ ?_
          rotate_left
          · intro w'
            go_simp
            with_reducible rfl
          rotate_left
          · simp only [Act.put, List.setIfInBounds_toArray, List.set_cons_zero, List.set_cons_succ]
            rfl
          refine pure_ (i := 2) (N := some 79) (v := ?_) (a' := ?_) #[true, false, true, false, false, false, false, false] rfl rfl (by kernel_rfl) (fun _ _ _ h => h) (Or.inl ⟨by rfl, ?_⟩) ?_ ?_
          rotate_left
          · intro w'
            go_simp
            with_reducible rfl
          rotate_left
          · simp only [Act.put, List.setIfInBounds_toArray, List.set_cons_zero, List.set_cons_succ]
            rfl
          refine pure_ (i := 3) (N := some 80) (v := ?_) (a' := ?_) #[true, false, true, true, false, false, false, false] rfl rfl (by kernel_rfl) (fun _ _ _ h => h) (Or.inl ⟨by rfl, ?_⟩) ?_ ?_
          rotate_left
          · intro w'
            go_simp
            with_reducible rfl
          rotate_left
          · simp only [Act.put, List.setIfInBounds_toArray, List.set_cons_zero, List.set_cons_succ]
            rfl
          refine pure_ (i := 4) (N := some 81) (v := ?_) (a' := ?_) #[true, false, true, true, true, false, false, false] rfl rfl (by kernel_rfl) (fun _ _ _ h => h) (Or.inl ⟨by rfl, ?_⟩) ?_ ?_
          rotate_left
          · intro w'
            go_simp
            with_reducible rfl
          rotate_left
          · simp only [Act.put, List.setIfInBounds_toArray, List.set_cons_zero, List.set_cons_succ]
            rfl
          refine take_ (i := 5) (N := some 82) (v := ?_) (a' := ?_) #[true, false, true, true, true, true, false, false] rfl rfl (by kernel_rfl) (fun _ _ _ h => h) (Or.inl ⟨by rfl, ?_⟩) hHeld ?_ ?_
          rotate_left
          · intro w' s0
            have t0 := TB7.out _ s0
            go_simp
            with_reducible rfl
          rotate_left
          · simp only [Act.put, List.setIfInBounds_toArray, List.set_cons_zero, List.set_cons_succ]
            rfl
          refine one_ (i := 1) (N := some 78) #[true, true, true, true, true, true, false, false] rfl rfl (by kernel_rfl) (by decide) (fun K hK => ?_)
          refine goesV_ Try.func11 (by kernel_rfl) rfl #[.pointer (some ⟨q1, 0, none⟩)] (by rfl) rfl rfl (by first | rfl | go_simp) (by first | rfl | simp [Act.eval] | go_simp) ?_
          refine (list_call HTe.out.tab HTe.out.good).mono ?_
          rintro e w8 ⟨⟨v8, rfl, ho⟩, hb⟩
          obtain ⟨A8, c8, rfl, hc8, hC8⟩ := Kd.R_reads ho
          have HC8 := Aside0.mk hC8
          have HT8 := Aside0.mk (HTe.out.step hb)
          refine ⟨_, rfl, hK.out _ _ (hHeld.trans (hb.mono hHeld.size)) (fun hHeld => ?_)⟩
          clear hK K hb ho hC8
          refine norm_ (a' := ?_) ?_ ?_
          rotate_left
          · show Act.put _ (some 78) _ = _
            simp only [Act.put, List.setIfInBounds_toArray, List.set_cons_zero, List.set_cons_succ]
            rfl
          refine one_ (i := 6) (N := some 83) #[true, true, true, true, true, true, true, false] rfl rfl (by kernel_rfl) (by decide) (fun K hK => ?_)
          refine goesV_ Try.func14 (by kernel_rfl) rfl #[.slice A8 L1.length c8, .slice A7 L1.length c7] (by rfl) rfl rfl (by first | rfl | go_simp) (by first | rfl | simp [Act.eval] | go_simp) ?_
          refine (redoubtref18_Same.calls (L1.length + 1) A8 c8 L1 A7 c7 L1 true _ HC8.out hc8 (HT8.out.ref.read).row (HT8.out.ref.read).cap (same_self L1 (by have := HT8.out.good.len; omega))).mono ?_
          rintro e w9 ⟨rfl, hd⟩
          have HT9 := Aside0.mk (HT8.out.step hd.below)
          refine ⟨_, rfl, hK.out _ _ (hHeld.trans (hd.below.mono hHeld.size)) (fun hHeld => ?_)⟩
          clear hK K hd
          refine norm_ (a' := ?_) ?_ ?_
          rotate_left
          · show Act.put _ (some 83) _ = _
            simp only [Act.put, List.setIfInBounds_toArray, List.set_cons_zero, List.set_cons_succ]
            rfl
          refine pure_ (i := 7) (N := some 84) (v := ?_) (a' := ?_) #[true, true, true, true, true, true, true, true] rfl rfl (by kernel_rfl) (fun _ _ _ h => h) (Or.inl ⟨by rfl, ?_⟩) ?_ ?_
          rotate_left
          · intro w'
            go_simp
            with_reducible rfl
          rotate_left
          · simp only [Act.put, List.setIfInBounds_toArray, List.set_cons_zero, List.set_cons_succ]
            rfl
          refine done_ (by kernel_rfl) ?_
          go_wp2_with (fail)
          go_roundw
          case rel => exact ⟨j + 1, L1, v1', _, by omega, by go_num, HT9⟩
          case measure => simp [intOf]; omega
        · go_wp2_with (first | ((with_reducible refine gate_dst (N := 6) rfl ?_); refine box_event ?hg (N := 6) ?hd (cs := #[.int .i64 0, .string ByteArray.empty, .int .i64 0, .string ByteArray.empty, .int .i64 0, .string ByteArray.empty]) (t := 48) ?hr ?_; (case hd => rfl); (case hg => rfl); (case hr => first | (go_simp; done) | (go_simp; rfl)); intro q6 hq w4 hbox hb; have BKq6 := Aside0.mk hbox; have HQq6 := Aside0.mk (show w.heap.size ≤ q6 from by rw [hq]; exact HT.out.below.size); have HB4 := Aside0.mk (HT.out.below.trans (hb.mono HT.out.below.size)); have HT4 := Aside0.mk (HT.out.step hb); have HL := Aside0.mk (show Below wr.heap.size wr w4 from hb); have HQL := Aside0.mk (show wr.heap.size ≤ q6 from Nat.le_of_eq hq.symm); have n0 := pw_cell_below hb x0; have n1 := pw_cell_below hb x1; have n2 := pw_cell_below hb x2; have n3 := pw_cell_below hb x3; have n4 := pw_cell_below hb x4; have n5 := pw_cell_below hb x5; clear hbox hb hq) | ((with_reducible refine gate_store (t := 48) (p := 6) rfl ?_); have ca0 : w4.cell? ⟨q6, 0, none⟩ = some (.int .i64 0) := (blk_cell BKq6.out 0).trans rfl; have ca1 : w4.cell? ⟨q6, 1, none⟩ = some (.string ByteArray.empty) := (blk_cell BKq6.out 1).trans rfl; have ca2 : w4.cell? ⟨q6, 2, none⟩ = some (.int .i64 0) := (blk_cell BKq6.out 2).trans rfl; have ca3 : w4.cell? ⟨q6, 3, none⟩ = some (.string ByteArray.empty) := (blk_cell BKq6.out 3).trans rfl; have ca4 : w4.cell? ⟨q6, 4, none⟩ = some (.int .i64 0) := (blk_cell BKq6.out 4).trans rfl; have ca5 : w4.cell? ⟨q6, 5, none⟩ = some (.string ByteArray.empty) := (blk_cell BKq6.out 5).trans rfl; have fa0 : w4.frozen? ⟨q6, 0, none⟩ = false := blk_frozen BKq6.out 0; have fa1 : w4.frozen? ⟨q6, 1, none⟩ = false := blk_frozen BKq6.out 1; have fa2 : w4.frozen? ⟨q6, 2, none⟩ = false := blk_frozen BKq6.out 2; have fa3 : w4.frozen? ⟨q6, 3, none⟩ = false := blk_frozen BKq6.out 3; have fa4 : w4.frozen? ⟨q6, 4, none⟩ = false := blk_frozen BKq6.out 4; have fa5 : w4.frozen? ⟨q6, 5, none⟩ = false := blk_frozen BKq6.out 5; refine store_event (t := 48) (p := 6) (v := ?vo6_5_4_n2) (w1 := Cells.setAll w4 q6 0 [.int .i64 1, .string xa, .int .i64 xb, .string xv, .int .i64 xp, .string xd]) ?hg ?ho ?hn ?hr ?_; (case ho => rfl); (case hg => rfl); (case hn => rfl); (case hr => first | (go_simp; done) | (go_simp; rfl)); intro w5 hw; have HB5 := Aside0.mk (show Below w.heap.size w w5 from by rw [hw]; exact Cells.setAll_below HQq6.out _ _ _ HB4.out); have BKq6 := Aside0.mk (show w5.heap[q6]? = some (.cells #[.int .i64 1, .string xa, .int .i64 xb, .string xv, .int .i64 xp, .string xd] 48 (0, 0)) from by rw [hw]; exact Cells.stored6 BKq6.out); clear ca0 ca1 ca2 ca3 ca4 ca5; clear fa0 fa1 fa2 fa3 fa4 fa5; have HT5 := Aside0.mk (HT.out.step (show Below wr.heap.size wr w5 from by rw [hw]; exact Cells.setAll_below HQL.out _ _ _ HL.out)); have HQ6 := Aside0.mk (show wr.heap.size ≤ q6 from HQL.out); clear HL HQL; have y0 : w5.cell? ⟨q6, 0, none⟩ = some (.int .i64 1) := (blk_cell BKq6.out 0).trans rfl; have y5 : w5.cell? ⟨q6, 5, none⟩ = some (.string xd) := (blk_cell BKq6.out 5).trans rfl; clear hw))
          have HNE := Aside0.mk (show q6 ≠ q1 ∧ some q6 ≠ v1.ownBlock ∧ q6 ≠ q2 ∧ some q6 ≠ v2.ownBlock from by
            have h6 := HQ6.out
            have h1 := blk_lt HT.out.tab.blk
            have h2 := blk_lt HT.out.ref.blk
            exact ⟨by omega, (fun e => by have := own_lt HT.out.tab.own _ e.symm; omega), by omega, (fun e => by have := own_lt HT.out.ref.own _ e.symm; omega)⟩)
          have HGL := Aside0.mk (good_remF HT.out.good ⟨xa, xb⟩)
          obtain ⟨⟨L1, er⟩, hfe⟩ : ∃ y, remF L ⟨xa, xb⟩ = y := ⟨_, rfl⟩
          rw [hfe] at HGL
          have HGL := Aside0.mk (show Good L1 from HGL.out)
          have HFE := Aside0.mk hfe
          have BK5 := BKq6
          clear hfe y0 y5
          refine start_ (n := 11) (S := fun W => W.heap[q6]? = some (.cells #[.int .i64 1, .string xa, .int .i64 xb, .string xv, .int .i64 xp, .string xd] 48 (0, 0))) (ds := []) #[false, false, false, false, false, false, false, false, false, false, false] (by kernel_rfl) rfl rfl BK5.out (fun hHeld => ?_)
          refine pure_ (i := 0) (N := some 66) (v := ?_) (a' := ?_) #[true, false, false, false, false, false, false, false, false, false, false] rfl rfl (by kernel_rfl) (fun _ _ _ h => h) (Or.inl ⟨by rfl, ?_⟩) ?_ ?_
          rotate_left
          · intro w'
            go_simp
            with_reducible rfl
          rotate_left
          · simp only [Act.put, List.setIfInBounds_toArray, List.set_cons_zero, List.set_cons_succ]
            rfl
          refine pure_ (i := 1) (N := some 67) (v := ?_) (a' := ?_) #[true, true, false, false, false, false, false, false, false, false, false] rfl rfl (by kernel_rfl) (fun _ _ _ h => h) (Or.inl ⟨by rfl, ?_⟩) ?_ ?_
          rotate_left
          · intro w'
            go_simp
            with_reducible rfl
          rotate_left
          · simp only [Act.put, List.setIfInBounds_toArray, List.set_cons_zero, List.set_cons_succ]
            rfl
          refine pure_ (i := 2) (N := some 68) (v := ?_) (a' := ?_) #[true, true, true, false, false, false, false, false, false, false, false] rfl rfl (by kernel_rfl) (fun _ _ _ h => h) (Or.inl ⟨by rfl, ?_⟩) ?_ ?_
          rotate_left
          · intro w'
            go_simp
            with_reducible rfl
          rotate_left
          · simp only [Act.put, List.setIfInBounds_toArray, List.set_cons_zero, List.set_cons_succ]
            rfl
          refine take_ (i := 3) (N := some 69) (v := ?_) (a' := ?_) #[true, true, true, true, false, false, false, false, false, false, false] rfl rfl (by kernel_rfl) (fun _ _ _ h => h) (Or.inl ⟨by rfl, ?_⟩) hHeld ?_ ?_
          rotate_left
          · intro w' s0
            have s1 := Aside0.mk s0
            clear s0
            have y0 : w'.cell? ⟨q6, 0, none⟩ = some (.int .i64 1) := (blk_cell s1.out 0).trans rfl
            have y1 : w'.cell? ⟨q6, 1, none⟩ = some (.string xa) := (blk_cell s1.out 1).trans rfl
            have y2 : w'.cell? ⟨q6, 2, none⟩ = some (.int .i64 xb) := (blk_cell s1.out 2).trans rfl
            have y3 : w'.cell? ⟨q6, 3, none⟩ = some (.string xv) := (blk_cell s1.out 3).trans rfl
            have y4 : w'.cell? ⟨q6, 4, none⟩ = some (.int .i64 xp) := (blk_cell s1.out 4).trans rfl
            have y5 : w'.cell? ⟨q6, 5, none⟩ = some (.string xd) := (blk_cell s1.out 5).trans rfl
            go_simp
            with_reducible rfl
          rotate_left
          · simp only [Act.put, List.setIfInBounds_toArray, List.set_cons_zero, List.set_cons_succ]
            rfl
          refine pure_ (i := 5) (N := some 71) (v := ?_) (a' := ?_) #[true, true, true, true, false, true, false, false, false, false, false] rfl rfl (by kernel_rfl) (fun _ _ _ h => h) (Or.inl ⟨by rfl, ?_⟩) ?_ ?_
          rotate_left
          · intro w'
            go_simp
            with_reducible rfl
          rotate_left
          · simp only [Act.put, List.setIfInBounds_toArray, List.set_cons_zero, List.set_cons_succ]
            rfl
          refine pure_ (i := 6) (N := some 72) (v := ?_) (a' := ?_) #[true, true, true, true, false, true, true, false, false, false, false] rfl rfl (by kernel_rfl) (fun _ _ _ h => h) (Or.inl ⟨by rfl, ?_⟩) ?_ ?_
          rotate_left
          · intro w'
            go_simp
            with_reducible rfl
          rotate_left
          · simp only [Act.put, List.setIfInBounds_toArray, List.set_cons_zero, List.set_cons_succ]
            rfl
          refine pure_ (i := 7) (N := some 73) (v := ?_) (a' := ?_) #[true, true, true, true, false, true, true, true, false, false, false] rfl rfl (by kernel_rfl) (fun _ _ _ h => h) (Or.inl ⟨by rfl, ?_⟩) ?_ ?_
          rotate_left
          · intro w'
            go_simp
            with_reducible rfl
          rotate_left
          · simp only [Act.put, List.setIfInBounds_toArray, List.set_cons_zero, List.set_cons_succ]
            rfl
          refine take_ (i := 8) (N := some 74) (v := ?_) (a' := ?_) #[true, true, true, true, false, true, true, true, true, false, false] rfl rfl (by kernel_rfl) (fun _ _ _ h => h) (Or.inl ⟨by rfl, ?_⟩) hHeld ?_ ?_
          rotate_left
          · intro w' s0
            have s1 := Aside0.mk s0
            clear s0
            have y0 : w'.cell? ⟨q6, 0, none⟩ = some (.int .i64 1) := (blk_cell s1.out 0).trans rfl
            have y1 : w'.cell? ⟨q6, 1, none⟩ = some (.string xa) := (blk_cell s1.out 1).trans rfl
            have y2 : w'.cell? ⟨q6, 2, none⟩ = some (.int .i64 xb) := (blk_cell s1.out 2).trans rfl
            have y3 : w'.cell? ⟨q6, 3, none⟩ = some (.string xv) := (blk_cell s1.out 3).trans rfl
            have y4 : w'.cell? ⟨q6, 4, none⟩ = some (.int .i64 xp) := (blk_cell s1.out 4).trans rfl
            have y5 : w'.cell? ⟨q6, 5, none⟩ = some (.string xd) := (blk_cell s1.out 5).trans rfl
            go_simp
            with_reducible rfl
          rotate_left
          · simp only [Act.put, List.setIfInBounds_toArray, List.set_cons_zero, List.set_cons_succ]
            rfl
          refine one_ (i := 4) (N := some 70) #[true, true, true, true, true, true, true, true, true, false, false] rfl rfl (by kernel_rfl) (by decide) (fun K hK => ?_)
          refine goesV_ Try.func19 (by kernel_rfl) rfl #[.pointer (some ⟨q1, 0, none⟩), .agg #[.string xa, .int .i64 xb]] (by rfl) rfl rfl (by first | rfl | go_simp) (by first | rfl | simp [Act.eval] | go_simp) ?_
          have HTd := Aside0.mk (HT5.out.step (below_drew (Below.refl _ _)))
          refine (rem_call HTd.out.tab HTd.out.good ⟨xa, xb⟩ HSZ.out).mono ?_
          rintro e w6 ⟨v1', he, ht, hu⟩
          rw [HFE.out] at he ht
          subst he
          have HM6 := Aside0.mk (HTd.out.first ht hu)
          refine ⟨_, rfl, hK.out _ _ (blk_turn hHeld hu HNE.out.1 HNE.out.2.1) (fun hHeld => ?_)⟩
          clear hK K ht hu
          refine norm_ (a' := ?_) ?_ ?_
          rotate_left
          · show Act.put _ (some 70) _ = _
            simp only [Act.put, List.setIfInBounds_toArray, List.set_cons_zero, List.set_cons_succ]
            rfl
          refine one_ (i := 9) (N := some 75) #[true, true, true, true, true, true, true, true, true, true, false] rfl rfl (by kernel_rfl) (by decide) (fun K hK => ?_)
          refine goesV_ Try.func20 (by kernel_rfl) rfl #[.pointer (some ⟨q2, 0, none⟩), .agg #[.string xa, .int .i64 xb]] (by rfl) rfl rfl (by first | rfl | go_simp) (by first | rfl | simp [Act.eval] | go_simp) ?_
          refine (rrem_call HM6.out.ref HT.out.good ⟨xa, xb⟩ HSZ.out).mono ?_
          rintro e w7 ⟨v2', he, ht, hu⟩
          rw [HFE.out] at he ht
          subst he
          have HT7 := Aside0.mk (HM6.out.second HGL.out ht hu)
          refine ⟨_, rfl, hK.out _ _ (blk_turn hHeld hu HNE.out.2.2.1 HNE.out.2.2.2) (fun hHeld => ?_)⟩
          clear hK K ht hu
          refine norm_ (a' := ?_) ?_ ?_
          rotate_left
          · show Act.put _ (some 75) _ = _
            simp only [Act.put, List.setIfInBounds_toArray, List.set_cons_zero, List.set_cons_succ]
            rfl
          refine pure_ (i := 10) (N := some 76) (v := ?_) (a' := ?_) #[true, true, true, true, true, true, true, true, true, true, true] rfl rfl (by kernel_rfl) (fun _ _ _ h => h) (Or.inl ⟨by rfl, ?_⟩) ?_ ?_
          rotate_left
          · intro w'
            go_simp
            with_reducible rfl
          rotate_left
          · simp only [Act.put, List.setIfInBounds_toArray, List.set_cons_zero, List.set_cons_succ]
            rfl
          refine done_ (by kernel_rfl) ?_
          obtain ⟨A7, c7, hv7, _, _⟩ := own_slice' HT7.out.ref.own
          subst hv7
          have TB7 := Aside0.mk (show ∀ W, Below w7.heap.size w7 W → W.cell? ⟨q2, 0, none⟩ = some (.slice A7 L1.length c7) from fun W hb => (blk_cell (HT7.out.step hb).ref.blk 0).trans rfl)
          have HTe := Aside0.mk (HT7.out.step (below_drew (Below.refl _ _)))
          (try simp only [Exit.inBlock, Exit.then])
          go_wp2_with (fail)
          refine start_ (n := 8) (S := fun W => Below w7.heap.size w7 W) (ds := []) #[false, false, false, false, false, false, false, false] (by kernel_rfl) rfl rfl (below_drew (Below.refl w7.heap.size w7)) (fun hHeld => ?_)
          refine pure_ (i := 0) (N := some 77) (v := ?_) (a' := ?_) #[true, false, false, false, false, false, false, false] rfl rfl (by kernel_rfl) (fun _ _ _ h => h) (Or.inl ⟨by rfl, ?_⟩) ?_ ?_
          rotate_left
          · intro w'
            go_simp
            with_reducible rfl
          rotate_left
          · simp only [Act.put, List.setIfInBounds_toArray, List.set_cons_zero, List.set_cons_succ]
            rfl
          refine pure_ (i := 2) (N := some 79) (v := ?_) (a' := ?_) #[true, false, true, false, false, false, false, false] rfl rfl (by kernel_rfl) (fun _ _ _ h => h) (Or.inl ⟨by rfl, ?_⟩) ?_ ?_
          rotate_left
          · intro w'
            go_simp
            with_reducible rfl
          rotate_left
          · simp only [Act.put, List.setIfInBounds_toArray, List.set_cons_zero, List.set_cons_succ]
            rfl
          refine pure_ (i := 3) (N := some 80) (v := ?_) (a' := ?_) #[true, false, true, true, false, false, false, false] rfl rfl (by kernel_rfl) (fun _ _ _ h => h) (Or.inl ⟨by rfl, ?_⟩) ?_ ?_
          rotate_left
          · intro w'
            go_simp
            with_reducible rfl
          rotate_left
          · simp only [Act.put, List.setIfInBounds_toArray, List.set_cons_zero, List.set_cons_succ]
            rfl
          refine pure_ (i := 4) (N := some 81) (v := ?_) (a' := ?_) #[true, false, true, true, true, false, false, false] rfl rfl (by kernel_rfl) (fun _ _ _ h => h) (Or.inl ⟨by rfl, ?_⟩) ?_ ?_
          rotate_left
          · intro w'
            go_simp
            with_reducible rfl
          rotate_left
          · simp only [Act.put, List.setIfInBounds_toArray, List.set_cons_zero, List.set_cons_succ]
            rfl
          refine take_ (i := 5) (N := some 82) (v := ?_) (a' := ?_) #[true, false, true, true, true, true, false, false] rfl rfl (by kernel_rfl) (fun _ _ _ h => h) (Or.inl ⟨by rfl, ?_⟩) hHeld ?_ ?_
          rotate_left
          · intro w' s0
            have t0 := TB7.out _ s0
            go_simp
            with_reducible rfl
          rotate_left
          · simp only [Act.put, List.setIfInBounds_toArray, List.set_cons_zero, List.set_cons_succ]
            rfl
          refine one_ (i := 1) (N := some 78) #[true, true, true, true, true, true, false, false] rfl rfl (by kernel_rfl) (by decide) (fun K hK => ?_)
          refine goesV_ Try.func11 (by kernel_rfl) rfl #[.pointer (some ⟨q1, 0, none⟩)] (by rfl) rfl rfl (by first | rfl | go_simp) (by first | rfl | simp [Act.eval] | go_simp) ?_
          refine (list_call HTe.out.tab HTe.out.good).mono ?_
          rintro e w8 ⟨⟨v8, rfl, ho⟩, hb⟩
          obtain ⟨A8, c8, rfl, hc8, hC8⟩ := Kd.R_reads ho
          have HC8 := Aside0.mk hC8
          have HT8 := Aside0.mk (HTe.out.step hb)
          refine ⟨_, rfl, hK.out _ _ (hHeld.trans (hb.mono hHeld.size)) (fun hHeld => ?_)⟩
          clear hK K hb ho hC8
          refine norm_ (a' := ?_) ?_ ?_
          rotate_left
          · show Act.put _ (some 78) _ = _
            simp only [Act.put, List.setIfInBounds_toArray, List.set_cons_zero, List.set_cons_succ]
            rfl
          refine one_ (i := 6) (N := some 83) #[true, true, true, true, true, true, true, false] rfl rfl (by kernel_rfl) (by decide) (fun K hK => ?_)
          refine goesV_ Try.func14 (by kernel_rfl) rfl #[.slice A8 L1.length c8, .slice A7 L1.length c7] (by rfl) rfl rfl (by first | rfl | go_simp) (by first | rfl | simp [Act.eval] | go_simp) ?_
          refine (redoubtref18_Same.calls (L1.length + 1) A8 c8 L1 A7 c7 L1 true _ HC8.out hc8 (HT8.out.ref.read).row (HT8.out.ref.read).cap (same_self L1 (by have := HT8.out.good.len; omega))).mono ?_
          rintro e w9 ⟨rfl, hd⟩
          have HT9 := Aside0.mk (HT8.out.step hd.below)
          refine ⟨_, rfl, hK.out _ _ (hHeld.trans (hd.below.mono hHeld.size)) (fun hHeld => ?_)⟩
          clear hK K hd
          refine norm_ (a' := ?_) ?_ ?_
          rotate_left
          · show Act.put _ (some 83) _ = _
            simp only [Act.put, List.setIfInBounds_toArray, List.set_cons_zero, List.set_cons_succ]
            rfl
          refine pure_ (i := 7) (N := some 84) (v := ?_) (a' := ?_) #[true, true, true, true, true, true, true, true] rfl rfl (by kernel_rfl) (fun _ _ _ h => h) (Or.inl ⟨by rfl, ?_⟩) ?_ ?_
          rotate_left
          · intro w'
            go_simp
            with_reducible rfl
          rotate_left
          · simp only [Act.put, List.setIfInBounds_toArray, List.set_cons_zero, List.set_cons_succ]
            rfl
          refine done_ (by kernel_rfl) ?_
          go_wp2_with (fail)
          go_roundw
          case rel => exact ⟨j + 1, L1, v1', _, by omega, by go_num, HT9⟩
          case measure => simp [intOf]; omega
        · have hcB0 : (cc == 0) = false := by rw [beq_eq_false_iff_ne]; exact hc0
          have hcB1 : (cc == 1) = false := by rw [beq_eq_false_iff_ne]; exact hc1
          go_wp2_with (first | ((with_reducible refine gate_dst (N := 6) rfl ?_); refine box_event ?hg (N := 6) ?hd (cs := #[.int .i64 0, .string ByteArray.empty, .int .i64 0, .string ByteArray.empty, .int .i64 0, .string ByteArray.empty]) (t := 48) ?hr ?_; (case hd => rfl); (case hg => rfl); (case hr => first | (go_simp; done) | (go_simp; rfl)); intro q6 hq w4 hbox hb; have BKq6 := Aside0.mk hbox; have HQq6 := Aside0.mk (show w.heap.size ≤ q6 from by rw [hq]; exact HT.out.below.size); have HB4 := Aside0.mk (HT.out.below.trans (hb.mono HT.out.below.size)); have HT4 := Aside0.mk (HT.out.step hb); have HL := Aside0.mk (show Below wr.heap.size wr w4 from hb); have HQL := Aside0.mk (show wr.heap.size ≤ q6 from Nat.le_of_eq hq.symm); have n0 := pw_cell_below hb x0; have n1 := pw_cell_below hb x1; have n2 := pw_cell_below hb x2; have n3 := pw_cell_below hb x3; have n4 := pw_cell_below hb x4; have n5 := pw_cell_below hb x5; clear hbox hb hq) | ((with_reducible refine gate_store (t := 48) (p := 6) rfl ?_); have ca0 : w4.cell? ⟨q6, 0, none⟩ = some (.int .i64 0) := (blk_cell BKq6.out 0).trans rfl; have ca1 : w4.cell? ⟨q6, 1, none⟩ = some (.string ByteArray.empty) := (blk_cell BKq6.out 1).trans rfl; have ca2 : w4.cell? ⟨q6, 2, none⟩ = some (.int .i64 0) := (blk_cell BKq6.out 2).trans rfl; have ca3 : w4.cell? ⟨q6, 3, none⟩ = some (.string ByteArray.empty) := (blk_cell BKq6.out 3).trans rfl; have ca4 : w4.cell? ⟨q6, 4, none⟩ = some (.int .i64 0) := (blk_cell BKq6.out 4).trans rfl; have ca5 : w4.cell? ⟨q6, 5, none⟩ = some (.string ByteArray.empty) := (blk_cell BKq6.out 5).trans rfl; have fa0 : w4.frozen? ⟨q6, 0, none⟩ = false := blk_frozen BKq6.out 0; have fa1 : w4.frozen? ⟨q6, 1, none⟩ = false := blk_frozen BKq6.out 1; have fa2 : w4.frozen? ⟨q6, 2, none⟩ = false := blk_frozen BKq6.out 2; have fa3 : w4.frozen? ⟨q6, 3, none⟩ = false := blk_frozen BKq6.out 3; have fa4 : w4.frozen? ⟨q6, 4, none⟩ = false := blk_frozen BKq6.out 4; have fa5 : w4.frozen? ⟨q6, 5, none⟩ = false := blk_frozen BKq6.out 5; refine store_event (t := 48) (p := 6) (v := ?vo6_5_5_n3) (w1 := Cells.setAll w4 q6 0 [.int .i64 cc, .string xa, .int .i64 xb, .string xv, .int .i64 xp, .string xd]) ?hg ?ho ?hn ?hr ?_; (case ho => rfl); (case hg => rfl); (case hn => rfl); (case hr => first | (go_simp; done) | (go_simp; rfl)); intro w5 hw; have HB5 := Aside0.mk (show Below w.heap.size w w5 from by rw [hw]; exact Cells.setAll_below HQq6.out _ _ _ HB4.out); have BKq6 := Aside0.mk (show w5.heap[q6]? = some (.cells #[.int .i64 cc, .string xa, .int .i64 xb, .string xv, .int .i64 xp, .string xd] 48 (0, 0)) from by rw [hw]; exact Cells.stored6 BKq6.out); clear ca0 ca1 ca2 ca3 ca4 ca5; clear fa0 fa1 fa2 fa3 fa4 fa5; have HT5 := Aside0.mk (HT.out.step (show Below wr.heap.size wr w5 from by rw [hw]; exact Cells.setAll_below HQL.out _ _ _ HL.out)); have HQ6 := Aside0.mk (show wr.heap.size ≤ q6 from HQL.out); clear HL HQL; have y0 : w5.cell? ⟨q6, 0, none⟩ = some (.int .i64 cc) := (blk_cell BKq6.out 0).trans rfl; have y5 : w5.cell? ⟨q6, 5, none⟩ = some (.string xd) := (blk_cell BKq6.out 5).trans rfl; clear hw))
          obtain ⟨⟨⟨⟨fa, fb⟩, fv, fp⟩, fe⟩, hfe⟩ : ∃ y, findF L xd = y := ⟨_, rfl⟩
          have HFE := Aside0.mk hfe
          clear hfe y0 y5
          refine (find_call HT5.out.tab HT5.out.good xd).mono ?_
          rintro e w60 ⟨he, hb⟩
          rw [HFE.out] at he
          have he : e = .returned (.tuple #[.agg #[.string fa, .int .i64 fb, .string fv, .int .i64 fp], .int .i64 fe]) := he
          subst he
          have HB60 := Aside0.mk (HB5.out.trans (hb.mono HB5.out.size))
          have HT60 := Aside0.mk (HT5.out.step hb)
          have BKq6 := Aside0.mk (blk_below BKq6.out hb)
          clear hb
          go_wp2_with (first | ((with_reducible refine gate_dst (N := 7) rfl ?_); refine box_event ?hg (N := 7) ?hd (cs := #[.string ByteArray.empty, .int .i64 0, .string ByteArray.empty, .int .i64 0]) (t := 28) ?hr ?_; (case hd => rfl); (case hg => rfl); (case hr => first | (go_simp; done) | (go_simp; rfl)); intro q7 hq w61 hbox hb; have HNq6q7 := Aside0.mk (show q6 ≠ q7 from by have := blk_lt BKq6.out; omega); have BKq6 := Aside0.mk (blk_below BKq6.out hb); have BKq7 := Aside0.mk hbox; have HQq7 := Aside0.mk (show w.heap.size ≤ q7 from by rw [hq]; exact HB60.out.size); have HB61 := Aside0.mk (HB60.out.trans (hb.mono HB60.out.size)); have HL := Aside0.mk (show Below w60.heap.size w60 w61 from hb); have HQL := Aside0.mk (show w60.heap.size ≤ q7 from Nat.le_of_eq hq.symm); clear hbox hb hq) | ((with_reducible refine gate_store (t := 28) (p := 7) rfl ?_); have ca0 : w61.cell? ⟨q7, 0, none⟩ = some (.string ByteArray.empty) := (blk_cell BKq7.out 0).trans rfl; have ca1 : w61.cell? ⟨q7, 1, none⟩ = some (.int .i64 0) := (blk_cell BKq7.out 1).trans rfl; have ca2 : w61.cell? ⟨q7, 2, none⟩ = some (.string ByteArray.empty) := (blk_cell BKq7.out 2).trans rfl; have ca3 : w61.cell? ⟨q7, 3, none⟩ = some (.int .i64 0) := (blk_cell BKq7.out 3).trans rfl; have fa0 : w61.frozen? ⟨q7, 0, none⟩ = false := blk_frozen BKq7.out 0; have fa1 : w61.frozen? ⟨q7, 1, none⟩ = false := blk_frozen BKq7.out 1; have fa2 : w61.frozen? ⟨q7, 2, none⟩ = false := blk_frozen BKq7.out 2; have fa3 : w61.frozen? ⟨q7, 3, none⟩ = false := blk_frozen BKq7.out 3; refine store_event (t := 28) (p := 7) (v := ?vo7_62_1_n4) (w1 := Cells.setAll w61 q7 0 [.string fa, .int .i64 fb, .string fv, .int .i64 fp]) ?hg ?ho ?hn ?hr ?_; (case ho => rfl); (case hg => rfl); (case hn => rfl); (case hr => first | (go_simp; done) | (go_simp; rfl)); intro w62 hw; have BKq6 := Aside0.mk (show w62.heap[q6]? = _ from (congrArg (fun W : World => W.heap[q6]?) hw).trans ((Cells.setAll_far HNq6q7.out _ _ _).trans BKq6.out)); have HB62 := Aside0.mk (show Below w.heap.size w w62 from by rw [hw]; exact Cells.setAll_below HQq7.out _ _ _ HB61.out); have BKq7 := Aside0.mk (show w62.heap[q7]? = some (.cells #[.string fa, .int .i64 fb, .string fv, .int .i64 fp] 28 (0, 0)) from by rw [hw]; exact Cells.stored4 BKq7.out); clear ca0 ca1 ca2 ca3; clear fa0 fa1 fa2 fa3; have HT62 := Aside0.mk (HT60.out.step (show Below w60.heap.size w60 w62 from by rw [hw]; exact Cells.setAll_below HQL.out _ _ _ HL.out)); clear HL HQL; clear hw; have y5 : w62.cell? ⟨q6, 5, none⟩ = some (.string xd) := (blk_cell BKq6.out 5).trans rfl))
          clear y5
          refine (rfind_call HT62.out.ref HT62.out.good xd).mono ?_
          rintro e w70 ⟨he, hb⟩
          rw [HFE.out] at he
          have he : e = .returned (.tuple #[.agg #[.string fa, .int .i64 fb, .string fv, .int .i64 fp], .int .i64 fe]) := he
          subst he
          have HB70 := Aside0.mk (HB62.out.trans (hb.mono HB62.out.size))
          have HT70 := Aside0.mk (HT62.out.step hb)
          have BKq6 := Aside0.mk (blk_below BKq6.out hb)
          have BKq7 := Aside0.mk (blk_below BKq7.out hb)
          clear hb
          go_wp2_with (first | ((with_reducible refine gate_dst (N := 9) rfl ?_); refine box_event ?hg (N := 9) ?hd (cs := #[.string ByteArray.empty, .int .i64 0, .string ByteArray.empty, .int .i64 0]) (t := 28) ?hr ?_; (case hd => rfl); (case hg => rfl); (case hr => first | (go_simp; done) | (go_simp; rfl)); intro q9 hq w71 hbox hb; have HNq6q9 := Aside0.mk (show q6 ≠ q9 from by have := blk_lt BKq6.out; omega); have HNq7q9 := Aside0.mk (show q7 ≠ q9 from by have := blk_lt BKq7.out; omega); have BKq6 := Aside0.mk (blk_below BKq6.out hb); have BKq7 := Aside0.mk (blk_below BKq7.out hb); have BKq9 := Aside0.mk hbox; have HQq9 := Aside0.mk (show w.heap.size ≤ q9 from by rw [hq]; exact HB70.out.size); have HB71 := Aside0.mk (HB70.out.trans (hb.mono HB70.out.size)); have HL := Aside0.mk (show Below w70.heap.size w70 w71 from hb); have HQL := Aside0.mk (show w70.heap.size ≤ q9 from Nat.le_of_eq hq.symm); clear hbox hb hq) | ((with_reducible refine gate_store (t := 28) (p := 9) rfl ?_); have ca0 : w71.cell? ⟨q9, 0, none⟩ = some (.string ByteArray.empty) := (blk_cell BKq9.out 0).trans rfl; have ca1 : w71.cell? ⟨q9, 1, none⟩ = some (.int .i64 0) := (blk_cell BKq9.out 1).trans rfl; have ca2 : w71.cell? ⟨q9, 2, none⟩ = some (.string ByteArray.empty) := (blk_cell BKq9.out 2).trans rfl; have ca3 : w71.cell? ⟨q9, 3, none⟩ = some (.int .i64 0) := (blk_cell BKq9.out 3).trans rfl; have fa0 : w71.frozen? ⟨q9, 0, none⟩ = false := blk_frozen BKq9.out 0; have fa1 : w71.frozen? ⟨q9, 1, none⟩ = false := blk_frozen BKq9.out 1; have fa2 : w71.frozen? ⟨q9, 2, none⟩ = false := blk_frozen BKq9.out 2; have fa3 : w71.frozen? ⟨q9, 3, none⟩ = false := blk_frozen BKq9.out 3; refine store_event (t := 28) (p := 9) (v := ?vo9_72_2_n5) (w1 := Cells.setAll w71 q9 0 [.string fa, .int .i64 fb, .string fv, .int .i64 fp]) ?hg ?ho ?hn ?hr ?_; (case ho => rfl); (case hg => rfl); (case hn => rfl); (case hr => first | (go_simp; done) | (go_simp; rfl)); intro w72 hw; have BKq6 := Aside0.mk (show w72.heap[q6]? = _ from (congrArg (fun W : World => W.heap[q6]?) hw).trans ((Cells.setAll_far HNq6q9.out _ _ _).trans BKq6.out)); have BKq7 := Aside0.mk (show w72.heap[q7]? = _ from (congrArg (fun W : World => W.heap[q7]?) hw).trans ((Cells.setAll_far HNq7q9.out _ _ _).trans BKq7.out)); have HB72 := Aside0.mk (show Below w.heap.size w w72 from by rw [hw]; exact Cells.setAll_below HQq9.out _ _ _ HB71.out); have BKq9 := Aside0.mk (show w72.heap[q9]? = some (.cells #[.string fa, .int .i64 fb, .string fv, .int .i64 fp] 28 (0, 0)) from by rw [hw]; exact Cells.stored4 BKq9.out); clear ca0 ca1 ca2 ca3; clear fa0 fa1 fa2 fa3; have HT72 := Aside0.mk (HT70.out.step (show Below w70.heap.size w70 w72 from by rw [hw]; exact Cells.setAll_below HQL.out _ _ _ HL.out)); clear HL HQL; clear hw; have y0 : w72.cell? ⟨q7, 0, none⟩ = some (.string fa) := (blk_cell BKq7.out 0).trans rfl; have y1 : w72.cell? ⟨q7, 1, none⟩ = some (.int .i64 fb) := (blk_cell BKq7.out 1).trans rfl; have y2 : w72.cell? ⟨q7, 2, none⟩ = some (.string fv) := (blk_cell BKq7.out 2).trans rfl; have y3 : w72.cell? ⟨q7, 3, none⟩ = some (.int .i64 fp) := (blk_cell BKq7.out 3).trans rfl; have z0 : w72.cell? ⟨q9, 0, none⟩ = some (.string fa) := (blk_cell BKq9.out 0).trans rfl; have z1 : w72.cell? ⟨q9, 1, none⟩ = some (.int .i64 fb) := (blk_cell BKq9.out 1).trans rfl; have z2 : w72.cell? ⟨q9, 2, none⟩ = some (.string fv) := (blk_cell BKq9.out 2).trans rfl; have z3 : w72.cell? ⟨q9, 3, none⟩ = some (.int .i64 fp) := (blk_cell BKq9.out 3).trans rfl))
          clear y0 y1 y2 y3 z0 z1 z2 z3
          obtain ⟨A7, c7, hv7, _, _⟩ := own_slice' HT72.out.ref.own
          subst hv7
          have TB7 := Aside0.mk (show ∀ W, Below w72.heap.size w72 W → W.cell? ⟨q2, 0, none⟩ = some (.slice A7 L.length c7) from fun W hb => (blk_cell (HT72.out.step hb).ref.blk 0).trans rfl)
          have HTe := Aside0.mk (HT72.out.step (below_drew (Below.refl _ _)))
          (try simp only [Exit.inBlock, Exit.then])
          go_wp2_with (fail)
          refine start_ (n := 8) (S := fun W => Below w72.heap.size w72 W) (ds := []) #[false, false, false, false, false, false, false, false] (by kernel_rfl) rfl rfl (below_drew (Below.refl w72.heap.size w72)) (fun hHeld => ?_)
          refine pure_ (i := 0) (N := some 77) (v := ?_) (a' := ?_) #[true, false, false, false, false, false, false, false] rfl rfl (by kernel_rfl) (fun _ _ _ h => h) (Or.inl ⟨by rfl, ?_⟩) ?_ ?_
          rotate_left
          · intro w'
            go_simp
            with_reducible rfl
          rotate_left
          · simp only [Act.put, List.setIfInBounds_toArray, List.set_cons_zero, List.set_cons_succ]
            rfl
          refine pure_ (i := 2) (N := some 79) (v := ?_) (a' := ?_) #[true, false, true, false, false, false, false, false] rfl rfl (by kernel_rfl) (fun _ _ _ h => h) (Or.inl ⟨by rfl, ?_⟩) ?_ ?_
          rotate_left
          · intro w'
            go_simp
            with_reducible rfl
          rotate_left
          · simp only [Act.put, List.setIfInBounds_toArray, List.set_cons_zero, List.set_cons_succ]
            rfl
          refine pure_ (i := 3) (N := some 80) (v := ?_) (a' := ?_) #[true, false, true, true, false, false, false, false] rfl rfl (by kernel_rfl) (fun _ _ _ h => h) (Or.inl ⟨by rfl, ?_⟩) ?_ ?_
          rotate_left
          · intro w'
            go_simp
            with_reducible rfl
          rotate_left
          · simp only [Act.put, List.setIfInBounds_toArray, List.set_cons_zero, List.set_cons_succ]
            rfl
          refine pure_ (i := 4) (N := some 81) (v := ?_) (a' := ?_) #[true, false, true, true, true, false, false, false] rfl rfl (by kernel_rfl) (fun _ _ _ h => h) (Or.inl ⟨by rfl, ?_⟩) ?_ ?_
          rotate_left
          · intro w'
            go_simp
            with_reducible rfl
          rotate_left
          · simp only [Act.put, List.setIfInBounds_toArray, List.set_cons_zero, List.set_cons_succ]
            rfl
          refine take_ (i := 5) (N := some 82) (v := ?_) (a' := ?_) #[true, false, true, true, true, true, false, false] rfl rfl (by kernel_rfl) (fun _ _ _ h => h) (Or.inl ⟨by rfl, ?_⟩) hHeld ?_ ?_
          rotate_left
          · intro w' s0
            have t0 := TB7.out _ s0
            go_simp
            with_reducible rfl
          rotate_left
          · simp only [Act.put, List.setIfInBounds_toArray, List.set_cons_zero, List.set_cons_succ]
            rfl
          refine one_ (i := 1) (N := some 78) #[true, true, true, true, true, true, false, false] rfl rfl (by kernel_rfl) (by decide) (fun K hK => ?_)
          refine goesV_ Try.func11 (by kernel_rfl) rfl #[.pointer (some ⟨q1, 0, none⟩)] (by rfl) rfl rfl (by first | rfl | go_simp) (by first | rfl | simp [Act.eval] | go_simp) ?_
          refine (list_call HTe.out.tab HTe.out.good).mono ?_
          rintro e w8 ⟨⟨v8, rfl, ho⟩, hb⟩
          obtain ⟨A8, c8, rfl, hc8, hC8⟩ := Kd.R_reads ho
          have HC8 := Aside0.mk hC8
          have HT8 := Aside0.mk (HTe.out.step hb)
          refine ⟨_, rfl, hK.out _ _ (hHeld.trans (hb.mono hHeld.size)) (fun hHeld => ?_)⟩
          clear hK K hb ho hC8
          refine norm_ (a' := ?_) ?_ ?_
          rotate_left
          · show Act.put _ (some 78) _ = _
            simp only [Act.put, List.setIfInBounds_toArray, List.set_cons_zero, List.set_cons_succ]
            rfl
          refine one_ (i := 6) (N := some 83) #[true, true, true, true, true, true, true, false] rfl rfl (by kernel_rfl) (by decide) (fun K hK => ?_)
          refine goesV_ Try.func14 (by kernel_rfl) rfl #[.slice A8 L.length c8, .slice A7 L.length c7] (by rfl) rfl rfl (by first | rfl | go_simp) (by first | rfl | simp [Act.eval] | go_simp) ?_
          refine (redoubtref18_Same.calls (L.length + 1) A8 c8 L A7 c7 L true _ HC8.out hc8 (HT8.out.ref.read).row (HT8.out.ref.read).cap (same_self L (by have := HT8.out.good.len; omega))).mono ?_
          rintro e w9 ⟨rfl, hd⟩
          have HT9 := Aside0.mk (HT8.out.step hd.below)
          refine ⟨_, rfl, hK.out _ _ (hHeld.trans (hd.below.mono hHeld.size)) (fun hHeld => ?_)⟩
          clear hK K hd
          refine norm_ (a' := ?_) ?_ ?_
          rotate_left
          · show Act.put _ (some 83) _ = _
            simp only [Act.put, List.setIfInBounds_toArray, List.set_cons_zero, List.set_cons_succ]
            rfl
          refine pure_ (i := 7) (N := some 84) (v := ?_) (a' := ?_) #[true, true, true, true, true, true, true, true] rfl rfl (by kernel_rfl) (fun _ _ _ h => h) (Or.inl ⟨by rfl, ?_⟩) ?_ ?_
          rotate_left
          · intro w'
            go_simp
            with_reducible rfl
          rotate_left
          · simp only [Act.put, List.setIfInBounds_toArray, List.set_cons_zero, List.set_cons_succ]
            rfl
          refine done_ (by kernel_rfl) ?_
          go_wp2_with (fail)
          go_roundw
          case rel => exact ⟨j + 1, L, v1, _, by omega, by go_num, HT9⟩
          case measure => simp [intOf]; omega
      · have hltI : ¬ (j : Int) < (n : Int) := by omega
        go_wp2_with (fail)
        refine (awake_walk _).mono ?_
        rintro e w4 ⟨rfl, hb⟩
        have HB4 := Aside0.mk (HT.out.step hb).below
        clear hb
        go_wp2_with (fail)
        go_ret
        exact ⟨rfl, HB4.out⟩
theorem does_law {H : Type} {enc : TypeId × Value → H} {d : DataW H} {ps : List MemPlace} (A : Option Addr) (len c : Nat) (w : World) (k : DataW.Trod enc Try.prog w 0 (fun _ => true) true 42 (.slice A len c) d ps) (wt : ∀ n ∈ d.weights Try.prog 42, n ≤ 140737488351232) :
    Calls Try.prog 5 #[.slice A len c] w fun e w' => e = .returned (.bool true) ∧ Below w.heap.size w w' := by
  obtain ⟨l, rfl, hc, hr, hm, hf⟩ := came48 k wt
  exact does_main A l c w hr hc hm hf
end Go.Proofs.Ytmedkjiabieloaa.Rt

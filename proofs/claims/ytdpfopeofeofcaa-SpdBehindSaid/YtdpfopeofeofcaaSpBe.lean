/- The law SpdBehind. -/
import Derived.Test.YtdpfopeofeofcaaSpL
namespace Go.Proofs.Ytdpfopeofeofcaa.Sp
open Go.RowKit Go.Proofs.YtdpfopeofeofcaaW.PrintWords Go.Proofs.YtdpfopeofeofcaaW.PrintLast Go.Proofs.YtdpfopeofeofcaaW.PrintMore Go.Proofs.Ytdpfopeofeofcaa.QSp
open Go.Proofs.Ytdpfopeofeofcaa
set_option linter.unusedVariables false
set_option linter.unusedSimpArgs false
theorem getD_mem24 {l : List S24} {i : Nat} (h : i < l.length) : l.getD i z24 ∈ l := by
  rw [List.getD_eq_getElem?_getD, List.getElem?_eq_getElem h]
  exact List.getElem_mem h
set_option maxHeartbeats 6400000 in
set_option maxRecDepth 100000 in
theorem behind_main (A : Option Addr) (l : List S37) (c : Nat) (r : S35) (A3 : Option Addr) (fl : List S24) (c3 : Nat) (w : World) (hr : Kd.C k37 w A l.length l) (hm : l.length ≤ maxLen) (hr3 : Kd.C k24 w A3 fl.length fl) (hm3 : fl.length ≤ maxLen) (hz : ∀ x ∈ fl, x.f0.size ≤ 140737488351232 ∧ x.f1.size ≤ 140737488351232) :
    Calls Try.prog 4 #[.slice A l.length c, .agg (enc35 r).toArray, .slice A3 fl.length c3] w fun e w' => e = .returned (.bool true) ∧ Below w.heap.size w w' := by
  have FW := Aside0.mk fun (W : World) (hb : Below w.heap.size w W) => few_walk A c l W (Kd.C_below hr hb) hm
  have HR := Aside0.mk fun (W : World) (hb : Below w.heap.size w W) => Kd.C_below hr hb
  have HR3 := Aside0.mk fun (W : World) (hb : Below w.heap.size w W) => Kd.C_below hr3 hb
  have HZ := Aside0.mk hz
  have AD := Aside0.mk fun {W : World} {base q m : Nat} {v : Value} {L : List S35} (h : SpdO W base q m v L) (hl : L.length ≤ 64) (i : Int) => add_callE h hl i r
  have AX := Aside0.mk fun {W : World} {base q m : Nat} {v : Value} {L : List S35} (h : SpdO W base q m v L) (hl : L.length ≤ 64) (i : Int) (x : S35) => add_callE h hl i x
  have FO := Aside0.mk fun (W : World) (vb : Nat) => few_one r W vb
  obtain ⟨n, hn⟩ : ∃ n, l.length = n := ⟨_, rfl⟩
  obtain ⟨nf, hnf⟩ : ∃ n, fl.length = n := ⟨_, rfl⟩
  obtain ⟨ES, hES⟩ : ∃ ES, (enc37 (opOf r)).toArray = ES := ⟨_, rfl⟩
  obtain ⟨CS, hCS⟩ : ∃ CS, (enc35 r).toArray = CS := ⟨_, rfl⟩
  have HSZ := Aside0.mk (show CS.size = 16 from by rw [← hCS]; rfl)
  have LDV := Aside0.mk fun (W : World) (g : Nat) (hb : W.heap[g]? = some (.cells CS 35 (0, 0))) => run_loadVar_row (P := Try.prog) W g 35 35 CS (0, 0) _ hb Try.underlying35 rfl (by rw [HSZ.out]; exact isz35)
  have HES := Aside0.mk hES
  have HCS := Aside0.mk hCS
  have HNF := Aside0.mk hnf
  rw [hn] at FW HR hm ⊢
  rw [hnf] at HR3 hm3 ⊢
  rw [hES] at FO
  rw [hCS] at AD ⊢
  clear hr hn hES hCS hr3 hnf hz
  unfold maxLen at hm hm3
  go_enter Try.func4, Try.ntmps4
  go_wp2_with (first | ((with_reducible refine gate_dst (N := 4) rfl ?_); refine box_event ?hg (N := 4) ?hd (cs := CS) (t := 35) ?hr ?_; (case hd => rfl); (case hg => rfl); (case hr => first | (go_simp; done) | (go_simp; rfl)); intro q4 hq w1 hbox hb; have BKq4 := Aside0.mk hbox; have HQq4 := Aside0.mk (show w.heap.size ≤ q4 from by rw [hq]; exact Nat.le_refl _); have HB1 := Aside0.mk hb; clear hbox hb hq))
  refine (FW.out w1 HB1.out).mono ?_
  rintro e w2 ⟨⟨b1, rfl, _⟩, hb⟩
  have HB2 := Aside0.mk (HB1.out.trans (hb.mono HB1.out.size))
  have BKq4 := Aside0.mk (blk_below BKq4.out hb)
  clear hb
  cases b1
  · go_wp2_with (fail)
    go_ret
    exact ⟨rfl, HB2.out⟩
  have LD := LDV.out w2 q4 BKq4.out
  go_wp2_with (first | ((with_reducible refine gate_dst (N := 25) rfl ?_); (try (refine gate_guard (by rfl) ?_; dsimp only)); refine Kd.event_run (v := .agg CS) (w1 := w2) ?hg (load_run 35 (.tmp 4) q4 CS ?ho ?hx LD) ?_; (case hg => rfl); (case ho => rfl); (case hx => rfl); clear LD) | ((with_reducible refine gate_dst (N := 26) rfl ?_); (try (refine gate_guard (by rfl) ?_; dsimp only)); refine Kd.event_run (v := .agg ES) (w1 := w2) ?hg ?hr ?_; (case hg => rfl); (case hr => obtain rfl := HES.out; obtain rfl := HCS.out; unfold enc35 enc37 opOf z24; first | (go_simp; done) | (go_simp; rfl))) | ((with_reducible refine gate_dst (N := 27) rfl ?_); (try (refine gate_guard (by rfl) ?_; dsimp only)); refine make_event ?hg (N := 27) ?hd (cs := ES) (t := 37) (n := 1) (c := 1) ?hr ?_; (case hd => rfl); (case hg => rfl); (case hr => obtain rfl := HES.out; unfold enc37 opOf z24; first | (go_simp; done) | (go_simp; rfl)); intro qb hq w3 hbox hb; have HNq4qb := Aside0.mk (show q4 ≠ qb from by have := blk_lt BKq4.out; omega); have BKq4 := Aside0.mk (blk_below BKq4.out hb); have BKqb := Aside0.mk hbox; have HQqb := Aside0.mk (show w.heap.size ≤ qb from by rw [hq]; exact HB2.out.size); have HB3 := Aside0.mk (HB2.out.trans (hb.mono HB2.out.size)); clear hbox hb hq))
  refine (FO.out w3 qb BKqb.out).mono ?_
  rintro e w5 ⟨⟨b2, rfl⟩, hb⟩
  have HB5 := Aside0.mk (HB3.out.trans (hb.mono HB3.out.size))
  have BKq4 := Aside0.mk (blk_below BKq4.out hb)
  clear hb
  cases b2
  · go_wp2_with (fail)
    go_ret
    exact ⟨rfl, HB5.out⟩
  by_cases h30 : 30 < nf
  · have d30 : decide ((30 : Int) < (nf : Int)) = true := decide_eq_true (by omega)
    have d30n : decide (30 < nf) = true := decide_eq_true h30
    clear h30
    go_wp2_with (fail)
    go_ret
    exact ⟨rfl, HB5.out⟩
  have d30 : decide ((30 : Int) < (nf : Int)) = false := decide_eq_false (by omega)
  have d30n : decide (30 < nf) = false := decide_eq_false h30
  go_wp2_with (fail)
  clear d30 d30n
  refine (new_call _).mono ?_
  rintro e w6 ⟨⟨q, m, rfl, hq, ht⟩, hb⟩
  have O6 := Aside0.mk (show One w w6 q m (.slice none 0 0) [] from ⟨⟨ht.blk, ht.map, ⟨rfl, .inl ⟨rfl, rfl⟩⟩, Nat.le_trans HB5.out.size ht.low, Nat.le_trans HB5.out.size ht.lom⟩, HB5.out.trans (hb.mono HB5.out.size)⟩)
  have X6 := Aside0.mk (show Bx w6 (.slice none 0 0) q4 CS from ⟨blk_below BKq4.out hb, (fun e => by cases e)⟩)
  clear hb hq ht
  go_wp2_with (fail)
  go_loopw [8] (fun iv wr => ∃ (j : Nat) (L : List S35) (v : Value), j ≤ n ∧ iv = .int .i64 j ∧ Aside0 (One w wr q m v L) ∧ Aside0 (Bx wr v q4 CS) ∧ Aside0 (L.length ≤ 64)) (fun iv _ => n - (intOf iv).toNat)
  case atStart => exact ⟨0, [], .slice none 0 0, by omega, rfl, O6, X6, ⟨by simp⟩⟩
  case round =>
    clear O6 X6 BKq4 BKqb HB1 HB2 HB3 HB5
    obtain ⟨j, L, v, hj, rfl, O, X, HL⟩ := hrel
    by_cases hlt : j < n
    · have hltI : (j : Int) < (n : Int) := by omega
      obtain ⟨ad, hA⟩ := some37 (HR.out _ O.out.below) (by omega)
      subst hA
      obtain ⟨x, hx⟩ : ∃ x, l.getD j z37 = x := ⟨_, rfl⟩
      have RX := Aside0.mk fun (W : World) (hb : Below wr.heap.size wr W) => row37s (HR.out W (O.out.below.trans (hb.mono O.out.below.size))) j hlt
      rw [hx] at RX
      clear hx
      obtain ⟨CX, hCX⟩ : ∃ CX, (enc35 x.f2).toArray = CX := ⟨_, rfl⟩
      have AY := Aside0.mk fun {W : World} {base q m : Nat} {v : Value} {L : List S35} (h : SpdO W base q m v L) (hl : L.length ≤ 64) (i : Int) => AX.out h hl i x.f2
      rw [hCX] at RX AY
      clear hCX
      have hj1 : IntKind.i64.wrap ((j : Int) + 1) = ((j + 1 : Nat) : Int) := by rw [IntWalk.i64_in _ (by omega)]; omega
      go_wp2_with (fail)
      refine start_ (n := 12) (S := fun W => Below wr.heap.size wr W) (ds := [11]) #[false, false, false, false, false, false, false, false, false, false, false, false] (by kernel_rfl) rfl rfl (below_drew (Below.refl wr.heap.size wr)) (fun hHeld => ?_)
      refine pure_ (i := 0) (N := some 45) (v := ?_) (a' := ?_) #[true, false, false, false, false, false, false, false, false, false, false, false] rfl rfl (by kernel_rfl) (fun _ _ _ h => h) (Or.inl ⟨by rfl, ?_⟩) ?_ ?_
      rotate_left
      · intro w'
        go_simp
        with_reducible rfl
      rotate_left
      · simp only [Act.put, List.setIfInBounds_toArray, List.set_cons_zero, List.set_cons_succ]
        rfl
      refine pure_ (i := 1) (N := some 46) (v := ?_) (a' := ?_) #[true, true, false, false, false, false, false, false, false, false, false, false] rfl rfl (by kernel_rfl) (fun _ _ _ h => h) (Or.inl ⟨by rfl, ?_⟩) ?_ ?_
      rotate_left
      · intro w'
        go_simp
        with_reducible rfl
      rotate_left
      · simp only [Act.put, List.setIfInBounds_toArray, List.set_cons_zero, List.set_cons_succ]
        rfl
      refine pure_ (i := 2) (N := some 47) (v := ?_) (a' := ?_) #[true, true, true, false, false, false, false, false, false, false, false, false] rfl rfl (by kernel_rfl) (fun _ _ _ h => h) (Or.inl ⟨by rfl, ?_⟩) ?_ ?_
      rotate_left
      · intro w'
        go_simp
        with_reducible rfl
      rotate_left
      · simp only [Act.put, List.setIfInBounds_toArray, List.set_cons_zero, List.set_cons_succ]
        rfl
      refine pure_ (i := 3) (N := some 48) (v := ?_) (a' := ?_) #[true, true, true, true, false, false, false, false, false, false, false, false] rfl rfl (by kernel_rfl) (fun _ _ _ h => h) (Or.inl ⟨by rfl, ?_⟩) ?_ ?_
      rotate_left
      · intro w'
        go_simp
        with_reducible rfl
      rotate_left
      · simp only [Act.put, List.setIfInBounds_toArray, List.set_cons_zero, List.set_cons_succ]
        rfl
      refine pure_ (i := 4) (N := some 49) (v := ?_) (a' := ?_) #[true, true, true, true, true, false, false, false, false, false, false, false] rfl rfl (by kernel_rfl) (fun _ _ _ h => h) (Or.inl ⟨by rfl, ?_⟩) ?_ ?_
      rotate_left
      · intro w'
        go_simp
        with_reducible rfl
      rotate_left
      · simp only [Act.put, List.setIfInBounds_toArray, List.set_cons_zero, List.set_cons_succ]
        rfl
      refine take_ (i := 5) (N := some 50) (v := ?_) (a' := ?_) #[true, true, true, true, true, true, false, false, false, false, false, false] rfl rfl (by kernel_rfl) (fun _ _ _ h => h) (Or.inl ⟨by rfl, ?_⟩) hHeld ?_ ?_
      rotate_left
      · intro w' s0
        have s1 := Aside0.mk s0
        obtain ⟨_, k1, LD⟩ := RX.out w' s0
        go_simp
        with_reducible rfl
      rotate_left
      · simp only [Act.put, List.setIfInBounds_toArray, List.set_cons_zero, List.set_cons_succ]
        rfl
      refine pure_ (i := 6) (N := some 51) (v := ?_) (a' := ?_) #[true, true, true, true, true, true, true, false, false, false, false, false] rfl rfl (by kernel_rfl) (fun _ _ _ h => h) (Or.inl ⟨by rfl, ?_⟩) ?_ ?_
      rotate_left
      · intro w'
        go_simp
        with_reducible rfl
      rotate_left
      · simp only [Act.put, List.setIfInBounds_toArray, List.set_cons_zero, List.set_cons_succ]
        rfl
      refine pure_ (i := 7) (N := some 52) (v := ?_) (a' := ?_) #[true, true, true, true, true, true, true, true, false, false, false, false] rfl rfl (by kernel_rfl) (fun _ _ _ h => h) (Or.inl ⟨by rfl, ?_⟩) ?_ ?_
      rotate_left
      · intro w'
        go_simp
        with_reducible rfl
      rotate_left
      · simp only [Act.put, List.setIfInBounds_toArray, List.set_cons_zero, List.set_cons_succ]
        rfl
      refine pure_ (i := 8) (N := some 53) (v := ?_) (a' := ?_) #[true, true, true, true, true, true, true, true, true, false, false, false] rfl rfl (by kernel_rfl) (fun _ _ _ h => h) (Or.inl ⟨by rfl, ?_⟩) ?_ ?_
      rotate_left
      · intro w'
        go_simp
        with_reducible rfl
      rotate_left
      · simp only [Act.put, List.setIfInBounds_toArray, List.set_cons_zero, List.set_cons_succ]
        rfl
      refine pure_ (i := 9) (N := some 54) (v := ?_) (a' := ?_) #[true, true, true, true, true, true, true, true, true, true, false, false] rfl rfl (by kernel_rfl) (fun _ _ _ h => h) (Or.inl ⟨by rfl, ?_⟩) ?_ ?_
      rotate_left
      · intro w'
        go_simp
        with_reducible rfl
      rotate_left
      · simp only [Act.put, List.setIfInBounds_toArray, List.set_cons_zero, List.set_cons_succ]
        rfl
      refine take_ (i := 10) (N := some 55) (v := ?_) (a' := ?_) #[true, true, true, true, true, true, true, true, true, true, true, false] rfl rfl (by kernel_rfl) (fun _ _ _ h => h) (Or.inl ⟨by rfl, ?_⟩) hHeld ?_ ?_
      rotate_left
      · intro w' s0
        have s1 := Aside0.mk s0
        obtain ⟨_, k1, LD⟩ := RX.out w' s0
        refine load_runA 35 (.tmp 54) ⟨(ad.add (j * 24)).block, (ad.add (j * 24)).off + 2, none⟩ CX ?_ ?_ LD
        · rfl
        · rfl
      rotate_left
      · simp only [Act.put, List.setIfInBounds_toArray, List.set_cons_zero, List.set_cons_succ]
        rfl
      refine last_ (i := 11) (N := some 56) #[true, true, true, true, true, true, true, true, true, true, true, true] rfl rfl (by kernel_rfl) (by decide) (fun K hK => ?_)
      refine goes_ Try.func10 (by kernel_rfl) rfl #[.pointer (some ⟨q, 0, none⟩), .int .i64 x.f1, .agg CX] (by rfl) rfl rfl (by first | rfl | simp [Act.eval] | go_simp) ?_
      have O1 := Aside0.mk (O.out.step hHeld)
      have X1 := Aside0.mk (X.out.step hHeld)
      refine (AY.out O1.out.tab HL.out x.f1).mono ?_
      rintro e w3 ⟨v3, rfl, ht, hu⟩
      have O3 := Aside0.mk (O1.out.turn ht hu)
      have X3 := Aside0.mk (X1.out.turn O1.out.tab hu)
      refine ⟨_, rfl, hK.out _ _ ?_⟩
      clear hK K hHeld ht hu
      refine norm_ (a' := ?_) ?_ ?_
      rotate_left
      · show Act.put _ (some 56) _ = _
        simp only [Act.put, List.setIfInBounds_toArray, List.set_cons_zero, List.set_cons_succ]
        rfl
      refine done_ (by kernel_rfl) ?_
      (try simp only [Exit.inBlock, Exit.then])
      go_wp2_with (fail)
      go_roundw
      case rel => exact ⟨j + 1, _, v3, by omega, by go_num, O3, X3, ⟨addF_len HL.out _ _⟩⟩
      case measure => simp [intOf]; omega
    · have hltI : ¬ (j : Int) < (n : Int) := by omega
      clear hj hlt
      go_wp2_with (fail)
      refine (list_call O.out.tab (by have := HL.out; omega)).mono ?_
      rintro e w2 ⟨⟨va, rfl, ho⟩, hb⟩
      obtain ⟨A2, c2, rfl⟩ := Kd.R_slice ho
      have W2 := Aside0.mk (Rw.new O.out.tab ho)
      have O2 := Aside0.mk (O.out.step hb)
      have X2 := Aside0.mk (X.out.step hb)
      clear hb ho O X
      obtain ⟨k, hk⟩ : ∃ k, L.length = k := ⟨_, rfl⟩
      have HLK := Aside0.mk hk
      rw [hk]
      have hk64 : k ≤ 64 := by have := HL.out; omega
      clear hk
      go_wp2_with (fail)
      have U0 := Aside0.mk (show RowI w2 w.heap.size (.slice none 0 0) ((fl.take 0).map fun f => idxF L f true) from Kd.R_nil _ _ _ _ _)
      go_loopw [11, 10] (fun iv uv wr => ∃ (y : Nat) (u : Value), y ≤ nf ∧ iv = .int .i64 y ∧ u = uv ∧ Aside0 (RowI wr w.heap.size u ((fl.take y).map fun f => idxF L f true)) ∧ Aside0 (One w wr q m v L) ∧ Aside0 (Bx wr v q4 CS) ∧ Aside0 (Rw wr v (.slice A2 L.length c2) L)) (fun iv _ _ => nf - (intOf iv).toNat)
      case atStart => exact ⟨0, _, by omega, rfl, rfl, U0, O2, X2, W2⟩
      case round =>
        clear U0 O2 X2 W2
        obtain ⟨y, uv, hyn, rfl, rfl, U, O, X, W2⟩ := hrel
        by_cases hlt : y < nf
        · have hltI : (y : Int) < (nf : Int) := by omega
          obtain ⟨ad3, hA3⟩ := some24 (HR3.out _ O.out.below) (by omega)
          subst hA3
          obtain ⟨f, hf⟩ : ∃ f, fl.getD y z24 = f := ⟨_, rfl⟩
          have RF := Aside0.mk fun (W : World) (hb : Below wr.heap.size wr W) => row24s (HR3.out W (O.out.below.trans (hb.mono O.out.below.size))) y hlt
          rw [hf] at RF
          have hz := HZ.out f (by rw [← hf]; exact getD_mem24 (by rw [HNF.out]; exact hlt))
          have HFY := Aside0.mk hf
          obtain ⟨s1, hs1⟩ : ∃ n, f.f0.size = n := ⟨_, rfl⟩
          obtain ⟨s2, hs2⟩ : ∃ n, f.f1.size = n := ⟨_, rfl⟩
          have hs1I : (f.f0.size : Int) = (s1 : Int) := by rw [hs1]
          have hs2I : (f.f1.size : Int) = (s2 : Int) := by rw [hs2]
          obtain ⟨s, hs⟩ : ∃ s, s1 + s2 = s := ⟨_, rfl⟩
          have hsw : IntKind.i64.wrap ((s1 : Int) + (s2 : Int)) = (s : Int) := by rw [IntWalk.i64_in _ (by omega)]; omega
          clear hf hs1 hs2 hs hz
          go_wp2_with (fail)
          refine start_ (n := 14) (S := fun W => Below wr.heap.size wr W) (ds := []) #[false, false, false, false, false, false, false, false, false, false, false, false, false, false] (by kernel_rfl) rfl rfl (below_drew (Below.refl wr.heap.size wr)) (fun hHeld => ?_)
          refine pure_ (i := 0) (N := some 65) (v := ?_) (a' := ?_) #[true, false, false, false, false, false, false, false, false, false, false, false, false, false] rfl rfl (by kernel_rfl) (fun _ _ _ h => h) (Or.inl ⟨by rfl, ?_⟩) ?_ ?_
          rotate_left
          · intro w'
            go_simp
            with_reducible rfl
          rotate_left
          · simp only [Act.put, List.setIfInBounds_toArray, List.set_cons_zero, List.set_cons_succ]
            rfl
          refine pure_ (i := 1) (N := some 66) (v := ?_) (a' := ?_) #[true, true, false, false, false, false, false, false, false, false, false, false, false, false] rfl rfl (by kernel_rfl) (fun _ _ _ h => h) (Or.inl ⟨by rfl, ?_⟩) ?_ ?_
          rotate_left
          · intro w'
            go_simp
            with_reducible rfl
          rotate_left
          · simp only [Act.put, List.setIfInBounds_toArray, List.set_cons_zero, List.set_cons_succ]
            rfl
          refine pure_ (i := 2) (N := some 67) (v := ?_) (a' := ?_) #[true, true, true, false, false, false, false, false, false, false, false, false, false, false] rfl rfl (by kernel_rfl) (fun _ _ _ h => h) (Or.inl ⟨by rfl, ?_⟩) ?_ ?_
          rotate_left
          · intro w'
            go_simp
            with_reducible rfl
          rotate_left
          · simp only [Act.put, List.setIfInBounds_toArray, List.set_cons_zero, List.set_cons_succ]
            rfl
          refine pure_ (i := 3) (N := some 68) (v := ?_) (a' := ?_) #[true, true, true, true, false, false, false, false, false, false, false, false, false, false] rfl rfl (by kernel_rfl) (fun _ _ _ h => h) (Or.inl ⟨by rfl, ?_⟩) ?_ ?_
          rotate_left
          · intro w'
            go_simp
            with_reducible rfl
          rotate_left
          · simp only [Act.put, List.setIfInBounds_toArray, List.set_cons_zero, List.set_cons_succ]
            rfl
          refine take_ (i := 4) (N := some 69) (v := ?_) (a' := ?_) #[true, true, true, true, true, false, false, false, false, false, false, false, false, false] rfl rfl (by kernel_rfl) (fun _ _ _ h => h) (Or.inl ⟨by rfl, ?_⟩) hHeld ?_ ?_
          rotate_left
          · intro w' s0
            obtain ⟨k0, k1, k2, k3, k4⟩ := RF.out w' s0
            go_simp
            with_reducible rfl
          rotate_left
          · simp only [Act.put, List.setIfInBounds_toArray, List.set_cons_zero, List.set_cons_succ]
            rfl
          refine pure_ (i := 5) (N := some 70) (v := ?_) (a' := ?_) #[true, true, true, true, true, true, false, false, false, false, false, false, false, false] rfl rfl (by kernel_rfl) (fun _ _ _ h => h) (Or.inl ⟨by rfl, ?_⟩) ?_ ?_
          rotate_left
          · intro w'
            go_simp
            with_reducible rfl
          rotate_left
          · simp only [Act.put, List.setIfInBounds_toArray, List.set_cons_zero, List.set_cons_succ]
            rfl
          refine pure_ (i := 6) (N := some 71) (v := ?_) (a' := ?_) #[true, true, true, true, true, true, true, false, false, false, false, false, false, false] rfl rfl (by kernel_rfl) (fun _ _ _ h => h) (Or.inl ⟨by rfl, ?_⟩) ?_ ?_
          rotate_left
          · intro w'
            go_simp
            with_reducible rfl
          rotate_left
          · simp only [Act.put, List.setIfInBounds_toArray, List.set_cons_zero, List.set_cons_succ]
            rfl
          refine pure_ (i := 7) (N := some 72) (v := ?_) (a' := ?_) #[true, true, true, true, true, true, true, true, false, false, false, false, false, false] rfl rfl (by kernel_rfl) (fun _ _ _ h => h) (Or.inl ⟨by rfl, ?_⟩) ?_ ?_
          rotate_left
          · intro w'
            go_simp
            with_reducible rfl
          rotate_left
          · simp only [Act.put, List.setIfInBounds_toArray, List.set_cons_zero, List.set_cons_succ]
            rfl
          refine pure_ (i := 8) (N := some 73) (v := ?_) (a' := ?_) #[true, true, true, true, true, true, true, true, true, false, false, false, false, false] rfl rfl (by kernel_rfl) (fun _ _ _ h => h) (Or.inl ⟨by rfl, ?_⟩) ?_ ?_
          rotate_left
          · intro w'
            go_simp
            with_reducible rfl
          rotate_left
          · simp only [Act.put, List.setIfInBounds_toArray, List.set_cons_zero, List.set_cons_succ]
            rfl
          refine pure_ (i := 9) (N := some 74) (v := ?_) (a' := ?_) #[true, true, true, true, true, true, true, true, true, true, false, false, false, false] rfl rfl (by kernel_rfl) (fun _ _ _ h => h) (Or.inl ⟨by rfl, ?_⟩) ?_ ?_
          rotate_left
          · intro w'
            go_simp
            with_reducible rfl
          rotate_left
          · simp only [Act.put, List.setIfInBounds_toArray, List.set_cons_zero, List.set_cons_succ]
            rfl
          refine take_ (i := 10) (N := some 75) (v := ?_) (a' := ?_) #[true, true, true, true, true, true, true, true, true, true, true, false, false, false] rfl rfl (by kernel_rfl) (fun _ _ _ h => h) (Or.inl ⟨by rfl, ?_⟩) hHeld ?_ ?_
          rotate_left
          · intro w' s0
            obtain ⟨k0, k1, k2, k3, k4⟩ := RF.out w' s0
            go_simp
            with_reducible rfl
          rotate_left
          · simp only [Act.put, List.setIfInBounds_toArray, List.set_cons_zero, List.set_cons_succ]
            rfl
          refine pure_ (i := 11) (N := some 76) (v := ?_) (a' := ?_) #[true, true, true, true, true, true, true, true, true, true, true, true, false, false] rfl rfl (by kernel_rfl) (fun _ _ _ h => h) (Or.inl ⟨by rfl, ?_⟩) ?_ ?_
          rotate_left
          · intro w'
            go_simp
            with_reducible rfl
          rotate_left
          · simp only [Act.put, List.setIfInBounds_toArray, List.set_cons_zero, List.set_cons_succ]
            rfl
          refine pure_ (i := 12) (N := some 77) (v := ?_) (a' := ?_) #[true, true, true, true, true, true, true, true, true, true, true, true, true, false] rfl rfl (by kernel_rfl) (fun _ _ _ h => h) (Or.inl ⟨by rfl, ?_⟩) ?_ ?_
          rotate_left
          · intro w'
            go_simp
            with_reducible rfl
          rotate_left
          · simp only [Act.put, List.setIfInBounds_toArray, List.set_cons_zero, List.set_cons_succ]
            rfl
          refine pure_ (i := 13) (N := some 78) (v := ?_) (a' := ?_) #[true, true, true, true, true, true, true, true, true, true, true, true, true, true] rfl rfl (by kernel_rfl) (fun _ _ _ h => h) (Or.inl ⟨by rfl, ?_⟩) ?_ ?_
          rotate_left
          · intro w'
            go_simp
            with_reducible rfl
          rotate_left
          · simp only [Act.put, List.setIfInBounds_toArray, List.set_cons_zero, List.set_cons_succ]
            rfl
          refine done_ (by kernel_rfl) ?_
          have O4 := Aside0.mk (O.out.step hHeld)
          have X4 := Aside0.mk (X.out.step hHeld)
          have W4 := Aside0.mk (W2.out.step hHeld)
          have U4 := Aside0.mk (U.out.step hHeld)
          obtain ⟨k0, k1, k2, k3, k4⟩ := RF.out _ hHeld
          clear hHeld
          (try simp only [Exit.inBlock, Exit.then])
          by_cases hbig : 300 < s
          · have d1 : decide ((300 : Int) < (s : Int)) = true := decide_eq_true (by omega)
            have d1n : decide (300 < s) = true := decide_eq_true hbig
            have hbI : (300 : Int) < (s : Int) := by omega
            go_wp2_with (fail)
            go_ret
            exact ⟨rfl, O4.out.below⟩
          have d1 : decide ((300 : Int) < (s : Int)) = false := decide_eq_false (by omega)
          have d1n : decide (300 < s) = false := decide_eq_false hbig
          have hbI : ¬ (300 : Int) < (s : Int) := by omega
          clear hbig
          go_wp2_with (fail)
          clear d1 d1n hbI hsw hs1I hs2I
          obtain ⟨iv, hiv⟩ : ∃ iv, idxF L f true = iv := ⟨_, rfl⟩
          have HIV := Aside0.mk hiv
          refine (find_call O4.out.tab (by have := HL.out; omega) f true).mono ?_
          rintro e w5 ⟨he, ht, hu⟩
          unfold findF findI at he
          rw [hiv] at he
          clear hiv
          have O5 := Aside0.mk (O4.out.turn ht hu)
          have X5 := Aside0.mk (X4.out.turn O4.out.tab hu)
          have W5 := Aside0.mk (W4.out.turn O4.out.tab hu)
          have U5 := Aside0.mk (U4.out.turn O4.out.tab hu)
          clear ht hu k0 k1 k2 k3 k4
          have hy1 : IntKind.i64.wrap ((y : Int) + 1) = ((y + 1 : Nat) : Int) := by rw [IntWalk.i64_in _ (by omega)]; omega
          have HTK := Aside0.mk (show ((fl.take y).map fun f => idxF L f true) ++ [iv] = (fl.take (y + 1)).map fun f => idxF L f true from by
            rw [List.take_succ_eq_append_getElem (by rw [HNF.out]; exact hlt), List.map_append, ← HIV.out, ← HFY.out, List.getD_eq_getElem?_getD, List.getElem?_eq_getElem (by rw [HNF.out]; exact hlt)]
            rfl)
          by_cases hneg : iv < 0
          · rw [if_pos hneg] at he
            subst he
            have hiv1 : iv = -1 := by rw [← HIV.out] at hneg ⊢; exact idx_neg hneg
            subst hiv1
            clear hneg
            go_wp2_with (first | ((with_reducible refine gate_builtin (b := .append) (xs := #[.tmp 90, .tmp 92]) rfl ?_); at_builtin; refine Kd.R_append (Kd.int .i64) (w0 := w) w.heap.size rfl (.tmp 90) (.tmp 92) 49 3 (.int .i64 0) 8 rfl Try.underlying49 info3 rfl (by decide) (by omega) uv ((fl.take y).map fun f => idxF L f true) (-1) [.int .i64 (-1)] (fun _ => True) (fun _ => False) rfl rfl ?aP (fun _ hk => hk.elim) ?aF ?aO ?aB ?aS ?aL ?_; (case aP => exact rfl); (case aB => exact O5.out.below); (case aF => exact (fun k hk => trivial)); (case aO => exact U5.out); (case aS => exact O5.out.below.size); (case aL => rw [List.length_map, List.length_take]; omega); intro u6 w6 ho hb1 hg hat; have HO2 := Aside0.mk (show RowI w6 w.heap.size u6 _ from ho); have O6 := Aside0.mk (One.mk (grown_spd U5.out hg O5.out.tab) hb1); have X6 := Aside0.mk (Bx.mk (grown_blk U5.out hg X5.out.blk) X5.out.off); have W6 := Aside0.mk (Rw.mk (grown_own U5.out hg W5.out.own) W5.out.apart); clear ho hb1 hg hat))
            go_roundw
            case rel => exact ⟨y + 1, _, by omega, by go_num, rfl, ⟨by rw [← HTK.out]; exact HO2.out⟩, O6, X6, W6⟩
            case measure => simp [intOf]; omega
          · rw [if_neg hneg] at he
            subst he
            clear hneg
            go_wp2_with (first | ((with_reducible refine gate_builtin (b := .append) (xs := #[.tmp 90, .tmp 92]) rfl ?_); at_builtin; refine Kd.R_append (Kd.int .i64) (w0 := w) w.heap.size rfl (.tmp 90) (.tmp 92) 49 3 (.int .i64 0) 8 rfl Try.underlying49 info3 rfl (by decide) (by omega) uv ((fl.take y).map fun f => idxF L f true) (iv) [.int .i64 (iv)] (fun _ => True) (fun _ => False) rfl rfl ?aP (fun _ hk => hk.elim) ?aF ?aO ?aB ?aS ?aL ?_; (case aP => exact rfl); (case aB => exact O5.out.below); (case aF => exact (fun k hk => trivial)); (case aO => exact U5.out); (case aS => exact O5.out.below.size); (case aL => rw [List.length_map, List.length_take]; omega); intro u6 w6 ho hb1 hg hat; have HO2 := Aside0.mk (show RowI w6 w.heap.size u6 _ from ho); have O6 := Aside0.mk (One.mk (grown_spd U5.out hg O5.out.tab) hb1); have X6 := Aside0.mk (Bx.mk (grown_blk U5.out hg X5.out.blk) X5.out.off); have W6 := Aside0.mk (Rw.mk (grown_own U5.out hg W5.out.own) W5.out.apart); clear ho hb1 hg hat))
            go_roundw
            case rel => exact ⟨y + 1, _, by omega, by go_num, rfl, ⟨by rw [← HTK.out]; exact HO2.out⟩, O6, X6, W6⟩
            case measure => simp [intOf]; omega
        · have hltI : ¬ (y : Int) < (nf : Int) := by omega
          obtain rfl : nf = y := by omega
          clear hlt hyn
          obtain ⟨XS, hXS⟩ : ∃ XS, fl.map (fun f => idxF L f true) = XS := ⟨_, rfl⟩
          have U4 := Aside0.mk (show RowI wr w.heap.size uv XS from by rw [← hXS]; have := U.out; rwa [List.take_of_length_le (by rw [HNF.out]; exact Nat.le_refl _)] at this)
          have HXA := Aside0.mk (show ∀ i, i < nf → XS.getD i 0 = idxF L (fl.getD i z24) true from fun i hi => by
            rw [← hXS]
            simp only [List.getD_eq_getElem?_getD, List.getElem?_map, List.getElem?_eq_getElem (show i < fl.length by rw [HNF.out]; exact hi), Option.map_some, Option.getD_some])
          have HXL := Aside0.mk (show XS.length = nf from by rw [← hXS, List.length_map]; exact HNF.out)
          obtain ⟨A9, c9, hu9⟩ := Kd.R_slice U4.out
          rw [HXL.out] at hu9
          subst hu9
          clear hXS U
          have LD := LDV.out wr q4 X.out.blk
          obtain ⟨L3, ec, hA⟩ : ∃ L3 ec, addF L (k : Int) r = (L3, ec) := ⟨_, _, rfl⟩
          have hcase : (ec ≠ 0 ∧ L3 = L) ∨ (ec = 0 ∧ L3 = L ++ [r]) := by
            rcases addF_cases L (k : Int) r with ⟨h1, h2⟩ | ⟨j, h1, h2, h3, h4⟩
            · rw [hA] at h1 h2
              exact .inl ⟨h1, h2⟩
            · obtain rfl : k = j := by omega
              rw [hA] at h4
              injection h4 with h5 h6
              have hk := HLK.out
              subst hk
              rw [ins_end] at h5
              exact .inr ⟨h6, h5⟩
          have HCASE := Aside0.mk hcase
          have HIX := Aside0.mk (show ∀ f, (0 ≤ idxF L f true → idxF L3 f true = idxF L f true) ∧ (idxF L f true < 0 → idxF L3 f true < 0 ∨ idxF L3 f true = (k : Int)) from fun f => by
            rcases hcase with ⟨_, rfl⟩ | ⟨_, rfl⟩
            · exact ⟨fun _ => rfl, fun h => .inl h⟩
            · have := idx_append L r f true
              rwa [HLK.out] at this)
          have HL3 := Aside0.mk (show L3.length ≤ 65 from by
            have := HL.out
            rcases hcase with ⟨_, rfl⟩ | ⟨_, rfl⟩
            · omega
            · rw [List.length_append, List.length_singleton]; omega)
          have AE := Aside0.mk (AD.out O.out.tab HL.out (k : Int))
          rw [hA] at AE
          clear hA hcase
          go_wp2_with (first | ((with_reducible refine gate_dst (N := 97) rfl ?_); refine Kd.event_run (v := .agg CS) (w1 := wr) ?hg (load_run 35 (.tmp 4) q4 CS ?ho ?hx LD) ?_; (case hg => rfl); (case ho => rfl); (case hx => rfl); clear LD))
          refine AE.out.mono ?_
          rintro e w3 ⟨v3, he, ht, hu⟩
          change e = .returned (.int .i64 ec) at he
          subst he
          have O3 := Aside0.mk (O.out.turn ht hu)
          have W3 := Aside0.mk (W2.out.turn O.out.tab hu)
          have U3 := Aside0.mk (U4.out.turn O.out.tab hu)
          clear ht hu O X W2 U4 AE
          go_wp2_with (fail)
          go_loopw [15] (fun iv wr => ∃ z : Nat, z ≤ nf ∧ iv = .int .i64 z ∧ Aside0 (One w wr q m v3 L3) ∧ Aside0 (Rw wr v3 (.slice A2 L.length c2) L) ∧ Aside0 (RowI wr w.heap.size (.slice A9 nf c9) XS)) (fun iv _ => nf - (intOf iv).toNat)
          case atStart => exact ⟨0, by omega, rfl, O3, W3, U3⟩
          case round =>
            clear O3 W3 U3
            obtain ⟨z, hzn, rfl, O, W2, U⟩ := hrel
            by_cases hlt : z < nf
            · have hltI : (z : Int) < (nf : Int) := by omega
              obtain ⟨ad3, hA3⟩ := some24 (HR3.out _ O.out.below) (by omega)
              subst hA3
              obtain ⟨f, hf⟩ : ∃ f, fl.getD z z24 = f := ⟨_, rfl⟩
              obtain ⟨k0, k1, k2, k3, k4⟩ := row24s (HR3.out _ O.out.below) z hlt
              rw [hf] at k0 k1 k2 k3 k4
              obtain ⟨av, hav⟩ : ∃ av, idxF L f true = av := ⟨_, rfl⟩
              have HAV := Aside0.mk hav
              have HXZ := Aside0.mk (show XS.getD z 0 = av from by rw [HXA.out z hlt, hf, hav])
              clear hf hav
              have hz1 : IntKind.i64.wrap ((z : Int) + 1) = ((z + 1 : Nat) : Int) := by rw [IntWalk.i64_in _ (by omega)]; omega
              by_cases hneg : av < 0
              · obtain rfl : av = -1 := by rw [← HAV.out] at hneg ⊢; exact idx_neg hneg
                have h3 := (HIX.out f).2 (by rw [HAV.out]; omega)
                clear hneg
                by_cases h3n : idxF L3 f true < 0
                · have hF := Aside0.mk (show findF L3 f true = (0, 6) from by unfold findF findI; rw [if_pos h3n])
                  clear h3 h3n
                  go_wp2_with (fail)
                  refine (find_call O.out.tab (by have := HL3.out; omega) f true).mono ?_
                  rintro e w5 ⟨he, ht, hu⟩
                  rw [hF.out] at he
                  subst he
                  have O5 := Aside0.mk (O.out.turn ht hu)
                  have W5 := Aside0.mk (W2.out.turn O.out.tab hu)
                  have U5 := Aside0.mk (U.out.turn O.out.tab hu)
                  clear ht hu k0 k1 k2 k3 k4
                  obtain ⟨ad9, hA9, hc9⟩ := (U5.out.cell z (by rw [HXL.out]; exact hlt)).2
                  rw [HXZ.out] at hc9
                  subst hA9
                  go_wp2_with (fail)
                  go_roundw
                  case rel => exact ⟨z + 1, by omega, by go_num, O5, W5, U5⟩
                  case measure => simp [intOf]; omega
                · have h3k : idxF L3 f true = (k : Int) := h3.resolve_left h3n
                  have hF := Aside0.mk (show findF L3 f true = ((k : Int), 0) from by unfold findF findI; rw [if_neg h3n, h3k])
                  clear h3 h3n h3k
                  go_wp2_with (fail)
                  refine (find_call O.out.tab (by have := HL3.out; omega) f true).mono ?_
                  rintro e w5 ⟨he, ht, hu⟩
                  rw [hF.out] at he
                  subst he
                  have O5 := Aside0.mk (O.out.turn ht hu)
                  have W5 := Aside0.mk (W2.out.turn O.out.tab hu)
                  have U5 := Aside0.mk (U.out.turn O.out.tab hu)
                  clear ht hu k0 k1 k2 k3 k4
                  obtain ⟨ad9, hA9, hc9⟩ := (U5.out.cell z (by rw [HXL.out]; exact hlt)).2
                  rw [HXZ.out] at hc9
                  subst hA9
                  go_wp2_with (fail)
                  go_roundw
                  case rel => exact ⟨z + 1, by omega, by go_num, O5, W5, U5⟩
                  case measure => simp [intOf]; omega
              · have hav0 : 0 ≤ av := by omega
                have hF := Aside0.mk (show findF L3 f true = (av, 0) from by unfold findF findI; rw [(HIX.out f).1 (by rw [HAV.out]; exact hav0), HAV.out, if_neg hneg])
                have dav : decide (0 ≤ av) = true := decide_eq_true hav0
                have dav2 : decide (av < 0) = false := decide_eq_false hneg
                clear hneg
                go_wp2_with (fail)
                refine (find_call O.out.tab (by have := HL3.out; omega) f true).mono ?_
                rintro e w5 ⟨he, ht, hu⟩
                rw [hF.out] at he
                subst he
                have O5 := Aside0.mk (O.out.turn ht hu)
                have W5 := Aside0.mk (W2.out.turn O.out.tab hu)
                have U5 := Aside0.mk (U.out.turn O.out.tab hu)
                clear ht hu k0 k1 k2 k3 k4
                obtain ⟨ad9, hA9, hc9⟩ := (U5.out.cell z (by rw [HXL.out]; exact hlt)).2
                rw [HXZ.out] at hc9
                subst hA9
                go_wp2_with (fail)
                go_roundw
                case rel => exact ⟨z + 1, by omega, by go_num, O5, W5, U5⟩
                case measure => simp [intOf]; omega
            · have hltI : ¬ (z : Int) < (nf : Int) := by omega
              clear hlt hzn
              rcases HCASE.out with ⟨hec, hL3⟩ | ⟨rfl, hL3⟩
              · have hecb : (ec == 0) = false := by rw [beq_eq_false_iff_ne]; exact hec
                clear hec
                have hL4 := hL3.symm
                clear hL3
                subst hL4
                go_wp2_with (fail)
                go_loopw [18] (fun iv wr => ∃ z : Nat, z ≤ nf ∧ iv = .int .i64 z ∧ Aside0 (One w wr q m v3 L) ∧ Aside0 (Rw wr v3 (.slice A2 L.length c2) L) ∧ Aside0 (RowI wr w.heap.size (.slice A9 nf c9) XS)) (fun iv _ => nf - (intOf iv).toNat)
                case atStart => exact ⟨0, by omega, rfl, O, W2, U⟩
                case round =>
                  clear O W2 U
                  obtain ⟨z, hzn, rfl, O, W2, U⟩ := hrel
                  by_cases hlt : z < nf
                  · have hltI : (z : Int) < (nf : Int) := by omega
                    obtain ⟨ad3, hA3⟩ := some24 (HR3.out _ O.out.below) (by omega)
                    subst hA3
                    obtain ⟨f, hf⟩ : ∃ f, fl.getD z z24 = f := ⟨_, rfl⟩
                    obtain ⟨k0, k1, k2, k3, k4⟩ := row24s (HR3.out _ O.out.below) z hlt
                    rw [hf] at k0 k1 k2 k3 k4
                    obtain ⟨av, hav⟩ : ∃ av, idxF L f true = av := ⟨_, rfl⟩
                    have HAV := Aside0.mk hav
                    have HXZ := Aside0.mk (show XS.getD z 0 = av from by rw [HXA.out z hlt, hf, hav])
                    clear hf hav
                    have hz1 : IntKind.i64.wrap ((z : Int) + 1) = ((z + 1 : Nat) : Int) := by rw [IntWalk.i64_in _ (by omega)]; omega
                    by_cases hneg : av < 0
                    · obtain rfl : av = -1 := by rw [← HAV.out] at hneg ⊢; exact idx_neg hneg
                      have hF := Aside0.mk (show findF L f true = (0, 6) from by unfold findF findI; rw [HAV.out, if_pos hneg])
                      clear hneg
                      go_wp2_with (fail)
                      refine (find_call O.out.tab (by have := HL.out; omega) f true).mono ?_
                      rintro e w5 ⟨he, ht, hu⟩
                      rw [hF.out] at he
                      subst he
                      have O5 := Aside0.mk (O.out.turn ht hu)
                      have W5 := Aside0.mk (W2.out.turn O.out.tab hu)
                      have U5 := Aside0.mk (U.out.turn O.out.tab hu)
                      clear ht hu k0 k1 k2 k3 k4
                      obtain ⟨ad9, hA9, hc9⟩ := (U5.out.cell z (by rw [HXL.out]; exact hlt)).2
                      rw [HXZ.out] at hc9
                      subst hA9
                      go_wp2_with (fail)
                      go_roundw
                      case rel => exact ⟨z + 1, by omega, by go_num, O5, W5, U5⟩
                      case measure => simp [intOf]; omega
                    · have hF := Aside0.mk (show findF L f true = (av, 0) from by unfold findF findI; rw [HAV.out, if_neg hneg])
                      clear hneg
                      go_wp2_with (fail)
                      refine (find_call O.out.tab (by have := HL.out; omega) f true).mono ?_
                      rintro e w5 ⟨he, ht, hu⟩
                      rw [hF.out] at he
                      subst he
                      have O5 := Aside0.mk (O.out.turn ht hu)
                      have W5 := Aside0.mk (W2.out.turn O.out.tab hu)
                      have U5 := Aside0.mk (U.out.turn O.out.tab hu)
                      clear ht hu k0 k1 k2 k3 k4
                      obtain ⟨ad9, hA9, hc9⟩ := (U5.out.cell z (by rw [HXL.out]; exact hlt)).2
                      rw [HXZ.out] at hc9
                      subst hA9
                      go_wp2_with (fail)
                      go_roundw
                      case rel => exact ⟨z + 1, by omega, by go_num, O5, W5, U5⟩
                      case measure => simp [intOf]; omega
                  · have hltI : ¬ (z : Int) < (nf : Int) := by omega
                    clear hlt hzn
                    go_wp2_with (fail)
                    refine (awake_walk _).mono ?_
                    rintro e w6 ⟨rfl, hb⟩
                    have O6 := Aside0.mk (O.out.step hb)
                    have W6 := Aside0.mk (W2.out.step hb)
                    clear hb
                    go_wp2_with (fail)
                    refine (list_call O6.out.tab (by have := HL.out; omega)).mono ?_
                    rintro e w7 ⟨⟨va, rfl, ho⟩, hb⟩
                    have O7 := Aside0.mk (O6.out.step hb)
                    have W7 := Aside0.mk (W6.out.step hb)
                    obtain ⟨A5, c5, hva, hl5, _⟩ := own_slice' (own_of_R ho)
                    subst hva
                    have HC5 := Aside0.mk (Kd.R_reads' ho).2.2
                    obtain ⟨_, _, e2, hl2, _⟩ := own_slice' W7.out.own
                    injection e2 with e3 e4 e5
                    subst e3 e5
                    have SM := Aside0.mk (redoubtref16_Same.calls (L.length + 1) A5 c5 L A2 c2 L true w7 HC5.out hl5 W7.out.read hl2 (same_self L (by have := HL.out; omega)))
                    rw [HLK.out] at SM
                    rw [HLK.out]
                    clear hb ho hl5 hl2 e4 HC5
                    go_wp2_with (fail)
                    refine SM.out.mono ?_
                    rintro e w8 ⟨rfl, hb⟩
                    have HB8 := Aside0.mk (O7.out.step hb.below).below
                    clear hb
                    go_wp2_with (fail)
                    go_ret
                    exact ⟨rfl, HB8.out⟩
              · have RC := Aside0.mk (show Calls Try.prog 9 #[.pointer (some ⟨q, 0, none⟩), .int .i64 (k : Int)] wr (SpCall (L, 0) wr w.heap.size q m v3) from by
                  have h := rem_call O.out.tab (by have := HL3.out; omega) (k : Int)
                  have e : remF L3 (k : Int) = (L, 0) := by
                    have h1 := rem_add L r L.length (Nat.le_refl _)
                    rw [ins_end, HLK.out] at h1
                    rw [hL3]
                    exact h1
                  rwa [e] at h)
                clear hL3
                go_wp2_with (fail)
                refine RC.out.mono ?_
                rintro e w4 ⟨v4, he, ht, hu⟩
                change e = .returned (.int .i64 0) at he
                subst he
                have W2 := Aside0.mk (W2.out.turn O.out.tab hu)
                have U := Aside0.mk (U.out.turn O.out.tab hu)
                have O : Aside0 (One w w4 q m v4 L) := Aside0.mk (O.out.turn ht hu)
                clear ht hu RC
                go_wp2_with (fail)
                go_loopw [18] (fun iv wr => ∃ z : Nat, z ≤ nf ∧ iv = .int .i64 z ∧ Aside0 (One w wr q m v4 L) ∧ Aside0 (Rw wr v4 (.slice A2 L.length c2) L) ∧ Aside0 (RowI wr w.heap.size (.slice A9 nf c9) XS)) (fun iv _ => nf - (intOf iv).toNat)
                case atStart => exact ⟨0, by omega, rfl, O, W2, U⟩
                case round =>
                  clear O W2 U
                  obtain ⟨z, hzn, rfl, O, W2, U⟩ := hrel
                  by_cases hlt : z < nf
                  · have hltI : (z : Int) < (nf : Int) := by omega
                    obtain ⟨ad3, hA3⟩ := some24 (HR3.out _ O.out.below) (by omega)
                    subst hA3
                    obtain ⟨f, hf⟩ : ∃ f, fl.getD z z24 = f := ⟨_, rfl⟩
                    obtain ⟨k0, k1, k2, k3, k4⟩ := row24s (HR3.out _ O.out.below) z hlt
                    rw [hf] at k0 k1 k2 k3 k4
                    obtain ⟨av, hav⟩ : ∃ av, idxF L f true = av := ⟨_, rfl⟩
                    have HAV := Aside0.mk hav
                    have HXZ := Aside0.mk (show XS.getD z 0 = av from by rw [HXA.out z hlt, hf, hav])
                    clear hf hav
                    have hz1 : IntKind.i64.wrap ((z : Int) + 1) = ((z + 1 : Nat) : Int) := by rw [IntWalk.i64_in _ (by omega)]; omega
                    by_cases hneg : av < 0
                    · obtain rfl : av = -1 := by rw [← HAV.out] at hneg ⊢; exact idx_neg hneg
                      have hF := Aside0.mk (show findF L f true = (0, 6) from by unfold findF findI; rw [HAV.out, if_pos hneg])
                      clear hneg
                      go_wp2_with (fail)
                      refine (find_call O.out.tab (by have := HL.out; omega) f true).mono ?_
                      rintro e w5 ⟨he, ht, hu⟩
                      rw [hF.out] at he
                      subst he
                      have O5 := Aside0.mk (O.out.turn ht hu)
                      have W5 := Aside0.mk (W2.out.turn O.out.tab hu)
                      have U5 := Aside0.mk (U.out.turn O.out.tab hu)
                      clear ht hu k0 k1 k2 k3 k4
                      obtain ⟨ad9, hA9, hc9⟩ := (U5.out.cell z (by rw [HXL.out]; exact hlt)).2
                      rw [HXZ.out] at hc9
                      subst hA9
                      go_wp2_with (fail)
                      go_roundw
                      case rel => exact ⟨z + 1, by omega, by go_num, O5, W5, U5⟩
                      case measure => simp [intOf]; omega
                    · have hF := Aside0.mk (show findF L f true = (av, 0) from by unfold findF findI; rw [HAV.out, if_neg hneg])
                      clear hneg
                      go_wp2_with (fail)
                      refine (find_call O.out.tab (by have := HL.out; omega) f true).mono ?_
                      rintro e w5 ⟨he, ht, hu⟩
                      rw [hF.out] at he
                      subst he
                      have O5 := Aside0.mk (O.out.turn ht hu)
                      have W5 := Aside0.mk (W2.out.turn O.out.tab hu)
                      have U5 := Aside0.mk (U.out.turn O.out.tab hu)
                      clear ht hu k0 k1 k2 k3 k4
                      obtain ⟨ad9, hA9, hc9⟩ := (U5.out.cell z (by rw [HXL.out]; exact hlt)).2
                      rw [HXZ.out] at hc9
                      subst hA9
                      go_wp2_with (fail)
                      go_roundw
                      case rel => exact ⟨z + 1, by omega, by go_num, O5, W5, U5⟩
                      case measure => simp [intOf]; omega
                  · have hltI : ¬ (z : Int) < (nf : Int) := by omega
                    clear hlt hzn
                    go_wp2_with (fail)
                    refine (awake_walk _).mono ?_
                    rintro e w6 ⟨rfl, hb⟩
                    have O6 := Aside0.mk (O.out.step hb)
                    have W6 := Aside0.mk (W2.out.step hb)
                    clear hb
                    go_wp2_with (fail)
                    refine (list_call O6.out.tab (by have := HL.out; omega)).mono ?_
                    rintro e w7 ⟨⟨va, rfl, ho⟩, hb⟩
                    have O7 := Aside0.mk (O6.out.step hb)
                    have W7 := Aside0.mk (W6.out.step hb)
                    obtain ⟨A5, c5, hva, hl5, _⟩ := own_slice' (own_of_R ho)
                    subst hva
                    have HC5 := Aside0.mk (Kd.R_reads' ho).2.2
                    obtain ⟨_, _, e2, hl2, _⟩ := own_slice' W7.out.own
                    injection e2 with e3 e4 e5
                    subst e3 e5
                    have SM := Aside0.mk (redoubtref16_Same.calls (L.length + 1) A5 c5 L A2 c2 L true w7 HC5.out hl5 W7.out.read hl2 (same_self L (by have := HL.out; omega)))
                    rw [HLK.out] at SM
                    rw [HLK.out]
                    clear hb ho hl5 hl2 e4 HC5
                    go_wp2_with (fail)
                    refine SM.out.mono ?_
                    rintro e w8 ⟨rfl, hb⟩
                    have HB8 := Aside0.mk (O7.out.step hb.below).below
                    clear hb
                    go_wp2_with (fail)
                    go_ret
                    exact ⟨rfl, HB8.out⟩
theorem came24z {H : Type} {enc : TypeId × Value → H} {W : World} {A : Option Addr} {len cap : Nat} {d : DataW H} {ps : List MemPlace}
    (h : DataW.Trod enc Try.prog W 0 (fun _ => true) true 48 (.slice A len cap) d ps) (wt : ∀ n ∈ d.weights Try.prog 48, n ≤ 140737488351232) :
    ∃ l : List S24, len = l.length ∧ l.length ≤ cap ∧ k24.C W A l.length l ∧ l.length ≤ maxLen ∧ ∀ x ∈ l, x.f0.size ≤ 140737488351232 ∧ x.f1.size ≤ 140737488351232 := by
  refine CameRows.rows k24 z24 Try.underlying48 (by kernel_rfl) (fun x => x.f0.size ≤ 140737488351232 ∧ x.f1.size ≤ 140737488351232) (fun cs d' ps' m h wt => ?_) h wt
  obtain ⟨x0, x1, x2, x3, x4, rfl, _, _, _, g⟩ := Reads.rd24 h
  exact ⟨⟨x0, x1, x2, x3, x4⟩, k24_mk _ _, g _ wt⟩
theorem behind_law {H : Type} {enc : TypeId × Value → H} {d d3 : DataW H} {ps ps3 : List MemPlace} (A : Option Addr) (len c : Nat) (r0 : Int) (r1 : ByteArray) (r2 : ByteArray) (r3 : ByteArray) (r4 : ByteArray) (r5 : Int) (r6 : Int) (r7 : Int) (r8 : Int) (r9 : Int) (r10 : Bool) (r11 : Bool) (r12 : Int) (r13 : Bool) (r14 : ByteArray) (r15 : ByteArray) (A3 : Option Addr) (len3 c3 : Nat) (w : World) (k : DataW.Trod enc Try.prog w 0 (fun _ => true) true 22 (.slice A len c) d ps) (wt : ∀ n ∈ d.weights Try.prog 22, n ≤ 140737488351232) (h0 : (Lit.int .i64 r0).wf = true) (h5 : (Lit.int .i64 r5).wf = true) (h6 : (Lit.int .i64 r6).wf = true) (h7 : (Lit.int .i64 r7).wf = true) (h8 : (Lit.int .i64 r8).wf = true) (h9 : (Lit.int .i64 r9).wf = true) (h12 : (Lit.int .i64 r12).wf = true) (hr : r1.size ≤ 140737488351232 ∧ r2.size ≤ 140737488351232 ∧ r3.size ≤ 140737488351232 ∧ r4.size ≤ 140737488351232 ∧ r14.size ≤ 140737488351232 ∧ r15.size ≤ 140737488351232) (k3 : DataW.Trod enc Try.prog w 0 (fun _ => true) true 48 (.slice A3 len3 c3) d3 ps3) (wt3 : ∀ n ∈ d3.weights Try.prog 48, n ≤ 140737488351232) :
    Calls Try.prog 4 #[.slice A len c, .agg #[.int .i64 r0, .string r1, .string r2, .string r3, .string r4, .int .i64 r5, .int .i64 r6, .int .i64 r7, .int .i64 r8, .int .i64 r9, .bool r10, .bool r11, .int .i64 r12, .bool r13, .string r14, .string r15], .slice A3 len3 c3] w fun e w' => e = .returned (.bool true) ∧ Below w.heap.size w w' := by
  obtain ⟨l, rfl, hc, hr, hm, _⟩ := came37 k wt
  obtain ⟨fl, rfl, hc3, hr3, hm3, hz⟩ := came24z k3 wt3
  exact behind_main A l c ⟨r0, ⟨⟨r1, r2⟩, ⟨r3, r4⟩, r5, ⟨r6, r7⟩, ⟨r8, r9⟩⟩, r10, r11, r12, r13, r14, r15⟩ A3 fl c3 w hr hm hr3 hm3 hz
end Go.Proofs.Ytdpfopeofeofcaa.Sp

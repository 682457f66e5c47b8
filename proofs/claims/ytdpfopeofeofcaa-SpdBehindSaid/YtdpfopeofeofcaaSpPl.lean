/- The law SpdPlaces. -/
import Derived.Test.YtdpfopeofeofcaaSpM5
namespace Go.Proofs.Ytdpfopeofeofcaa.Sp
open Go.RowKit Go.Proofs.YtdpfopeofeofcaaW.PrintWords Go.Proofs.YtdpfopeofeofcaaW.PrintLast Go.Proofs.YtdpfopeofeofcaaW.PrintMore Go.Proofs.Ytdpfopeofeofcaa.QSp
open Go.Proofs.Ytdpfopeofeofcaa
set_option linter.unusedVariables false
set_option linter.unusedSimpArgs false
theorem row35s {W : World} {ad : Addr} {n : Nat} {xs : List S35} (h : Kd.C k35 W (some ad) n xs) (i : Nat) (hi : i < n) : (loadVar 35 (ad.add (i * 16))).run Try.prog W = .ok (.agg (enc35 (xs.getD i z35)).toArray) W := by
  obtain ⟨ad', e, _, hl⟩ := row35 h i hi
  injection e with e
  subst e
  exact hl
theorem row37s {W : World} {ad : Addr} {n : Nat} {xs : List S37} (h : Kd.C k37 W (some ad) n xs) (i : Nat) (hi : i < n) :
    W.cell? (ad.add (i * 24)) = some (.int .i64 (xs.getD i z37).f0) ∧ W.cell? ⟨(ad.add (i * 24)).block, (ad.add (i * 24)).off + 1, none⟩ = some (.int .i64 (xs.getD i z37).f1) ∧ (loadVar 35 ⟨(ad.add (i * 24)).block, (ad.add (i * 24)).off + 2, none⟩).run Try.prog W = .ok (.agg (enc35 (xs.getD i z37).f2).toArray) W := by
  obtain ⟨ad', e, hc, hl⟩ := row37 h i hi
  injection e with e
  subst e
  exact ⟨hc 0 _ rfl, by rw [← add_field _ _ 1 (by omega)]; exact hc 1 _ rfl, hl⟩
theorem some37 {W : World} {A : Option Addr} {n : Nat} {xs : List S37} (h : Kd.C k37 W A n xs) (hn : 0 < n) : ∃ ad, A = some ad := by
  obtain ⟨ad, e, _⟩ := row37 h 0 hn
  exact ⟨ad, e⟩
theorem some35 {W : World} {A : Option Addr} {n : Nat} {xs : List S35} (h : Kd.C k35 W A n xs) (hn : 0 < n) : ∃ ad, A = some ad := by
  obtain ⟨ad, e, _⟩ := row35 h 0 hn
  exact ⟨ad, e⟩
attribute [local go_sem high] eqA35 in
set_option maxHeartbeats 1600000 in
theorem neq_self (r : S35) {o : Oper} {a : Act} (x y : Operand) (W : World) (ho : o.op = .binOp .neq 35 x y 35) (hx : a.eval x = .agg (enc35 r).toArray) (hy : a.eval y = .agg (enc35 r).toArray) : (execOp a.eval o).run Try.prog W = .ok (.value (.bool false)) W := by
  unfold execOp
  simp only [ho, hx, hy]
  unfold enc35
  go_simp
theorem make_event {P : Program} {ops : Array Oper} {Q : Exit → Act → World → Prop} {rest : List Oper} {o : Oper} {a : Act} {W : World} (hgd : o.guard = none) {N : Tmp} (_hd : o.dst = some N) {cs : Array Value} {t : TypeId} {n c : Nat}
    (hrun : (execOp a.eval o).run P W = .ok (.value (.slice (some ⟨W.heap.size, 0, none⟩) n c)) (W.alloc (.cells cs t (0, 0))))
    (h : ∀ g, g = W.heap.size → ∀ w1, w1.heap[g]? = some (.cells cs t (0, 0)) → Below W.heap.size W w1 → wpList P ops Q rest (a.put o.dst (.slice (some ⟨g, 0, none⟩) n c)) w1) : wpList P ops Q (o :: rest) a W :=
  Kd.event_run hgd hrun (h _ rfl _ (blk_new W _) (below_alloc (Below.refl _ _) _))
theorem add_callE {W : World} {base q m : Nat} {v : Value} {L : List S35} (h : SpdO W base q m v L) (hl : L.length ≤ 64) (i : Int) (r : S35) : Calls Try.prog 10 #[.pointer (some ⟨q, 0, none⟩), .int .i64 i, .agg (enc35 r).toArray] W (SpCall (addF L i r) W base q m v) := add_call h (by omega) i r
theorem few_one (r : S35) (W : World) (vb : Nat) (hv : W.heap[vb]? = some (.cells (enc37 (opOf r)).toArray 37 (0, 0))) : Calls Try.prog 7 #[.slice (some ⟨vb, 0, none⟩) 1 1] W fun e w' => (∃ b, e = .returned (.bool b)) ∧ Below W.heap.size W w' :=
  (few_walk (some ⟨vb, 0, none⟩) 1 [opOf r] W (one37 hv) (by show 1 ≤ maxLen; unfold maxLen; omega)).mono fun e w' ⟨⟨b, h, _⟩, hb⟩ => ⟨⟨b, h⟩, hb⟩
set_option maxHeartbeats 6400000 in
set_option maxRecDepth 100000 in
theorem places_main (A : Option Addr) (l : List S37) (c : Nat) (r : S35) (a : Int) (w : World) (hr : Kd.C k37 w A l.length l) (hm : l.length ≤ maxLen) :
    Calls Try.prog 6 #[.slice A l.length c, .agg (enc35 r).toArray, .int .i64 a] w fun e w' => e = .returned (.bool true) ∧ Below w.heap.size w w' := by
  have FW := Aside0.mk fun (W : World) (hb : Below w.heap.size w W) => few_walk A c l W (Kd.C_below hr hb) hm
  have HR := Aside0.mk fun (W : World) (hb : Below w.heap.size w W) => Kd.C_below hr hb
  have AD := Aside0.mk fun {W : World} {base q m : Nat} {v : Value} {L : List S35} (h : SpdO W base q m v L) (hl : L.length ≤ 64) (i : Int) => add_callE h hl i r
  have AX := Aside0.mk fun {W : World} {base q m : Nat} {v : Value} {L : List S35} (h : SpdO W base q m v L) (hl : L.length ≤ 64) (i : Int) (x : S35) => add_callE h hl i x
  have FO := Aside0.mk fun (W : World) (vb : Nat) => few_one r W vb
  obtain ⟨n, hn⟩ : ∃ n, l.length = n := ⟨_, rfl⟩
  obtain ⟨ES, hES⟩ : ∃ ES, (enc37 (opOf r)).toArray = ES := ⟨_, rfl⟩
  obtain ⟨CS, hCS⟩ : ∃ CS, (enc35 r).toArray = CS := ⟨_, rfl⟩
  have HSZ := Aside0.mk (show CS.size = 16 from by rw [← hCS]; rfl)
  have HEQ := Aside0.mk fun {o : Oper} {a : Act} (x y : Operand) (W : World) => neq_self r (o := o) (a := a) x y W
  have LDV := Aside0.mk fun (W : World) (g : Nat) (hb : W.heap[g]? = some (.cells CS 35 (0, 0))) => run_loadVar_row (P := Try.prog) W g 35 35 CS (0, 0) _ hb Try.underlying35 rfl (by rw [HSZ.out]; exact isz35)
  have HES := Aside0.mk hES
  have HCS := Aside0.mk hCS
  rw [hn] at FW HR hm ⊢
  rw [hES] at FO
  rw [hCS] at AD HEQ ⊢
  clear hr hn hES hCS
  unfold maxLen at hm
  go_enter Try.func6, Try.ntmps6
  go_wp2_with (first | ((with_reducible refine gate_dst (N := 4) rfl ?_); refine box_event ?hg (N := 4) ?hd (cs := CS) (t := 35) ?hr ?_; (case hd => rfl); (case hg => rfl); (case hr => first | (go_simp; done) | (go_simp; rfl)); intro q4 hq w1 hbox hb; have BKq4 := Aside0.mk hbox; have HQq4 := Aside0.mk (show w.heap.size ≤ q4 from by rw [hq]; exact Nat.le_refl _); have HB1 := Aside0.mk hb; clear hbox hb hq))
  refine (FW.out w1 HB1.out).mono ?_
  rintro e w2 ⟨⟨b1, rfl, _⟩, hb⟩
  have HB2 := Aside0.mk (HB1.out.trans (hb.mono HB1.out.size))
  have BKq4 := Aside0.mk (blk_below BKq4.out hb)
  clear hb
  cases b1
  · go_wp2_with (fail)
    go_ret
    exact ⟨rfl, HB2.out⟩
  have LD := LDV.out w2 q4 BKq4.out
  go_wp2_with (first | ((with_reducible refine gate_dst (N := 19) rfl ?_); (try (refine gate_guard (by rfl) ?_; dsimp only)); refine Kd.event_run (v := .agg CS) (w1 := w2) ?hg (load_run 35 (.tmp 4) q4 CS ?ho ?hx LD) ?_; (case hg => rfl); (case ho => rfl); (case hx => rfl); clear LD) | ((with_reducible refine gate_dst (N := 20) rfl ?_); (try (refine gate_guard (by rfl) ?_; dsimp only)); refine Kd.event_run (v := .agg ES) (w1 := w2) ?hg ?hr ?_; (case hg => rfl); (case hr => obtain rfl := HES.out; obtain rfl := HCS.out; unfold enc35 enc37 opOf z24; first | (go_simp; done) | (go_simp; rfl))) | ((with_reducible refine gate_dst (N := 21) rfl ?_); (try (refine gate_guard (by rfl) ?_; dsimp only)); refine make_event ?hg (N := 21) ?hd (cs := ES) (t := 37) (n := 1) (c := 1) ?hr ?_; (case hd => rfl); (case hg => rfl); (case hr => obtain rfl := HES.out; unfold enc37 opOf z24; first | (go_simp; done) | (go_simp; rfl)); intro qb hq w3 hbox hb; have HNq4qb := Aside0.mk (show q4 ≠ qb from by have := blk_lt BKq4.out; omega); have BKq4 := Aside0.mk (blk_below BKq4.out hb); have BKqb := Aside0.mk hbox; have HQqb := Aside0.mk (show w.heap.size ≤ qb from by rw [hq]; exact HB2.out.size); have HB3 := Aside0.mk (HB2.out.trans (hb.mono HB2.out.size)); clear hbox hb hq))
  refine (FO.out w3 qb BKqb.out).mono ?_
  rintro e w5 ⟨⟨b2, rfl⟩, hb⟩
  have HB5 := Aside0.mk (HB3.out.trans (hb.mono HB3.out.size))
  have BKq4 := Aside0.mk (blk_below BKq4.out hb)
  clear hb
  cases b2
  · go_wp2_with (fail)
    go_ret
    exact ⟨rfl, HB5.out⟩
  go_wp2_with (fail)
  refine (new_call _).mono ?_
  rintro e w6 ⟨⟨q, m, rfl, hq, ht⟩, hb⟩
  have O6 := Aside0.mk (show One w w6 q m (.slice none 0 0) [] from ⟨⟨ht.blk, ht.map, ⟨rfl, .inl ⟨rfl, rfl⟩⟩, Nat.le_trans HB5.out.size ht.low, Nat.le_trans HB5.out.size ht.lom⟩, HB5.out.trans (hb.mono HB5.out.size)⟩)
  have X6 := Aside0.mk (show Bx w6 (.slice none 0 0) q4 CS from ⟨blk_below BKq4.out hb, (fun e => by cases e)⟩)
  clear hb hq ht
  go_wp2_with (fail)
  go_loopw [8] (fun iv wr => ∃ (j : Nat) (L : List S35) (v : Value), j ≤ n ∧ iv = .int .i64 j ∧ Aside0 (One w wr q m v L) ∧ Aside0 (Bx wr v q4 CS) ∧ Aside0 (L.length ≤ 64)) (fun iv _ => n - (intOf iv).toNat)
  case atStart => exact ⟨0, [], .slice none 0 0, by omega, rfl, O6, X6, ⟨by simp⟩⟩
  case round =>
    clear O6 X6 BKq4 BKqb HB1 HB2 HB3 HB5
    obtain ⟨j, L, v, hj, rfl, O, X, HL⟩ := hrel
    by_cases hlt : j < n
    · have hltI : (j : Int) < (n : Int) := by omega
      obtain ⟨ad, hA⟩ := some37 (HR.out _ O.out.below) (by omega)
      subst hA
      obtain ⟨x, hx⟩ : ∃ x, l.getD j z37 = x := ⟨_, rfl⟩
      have RX := Aside0.mk fun (W : World) (hb : Below wr.heap.size wr W) => row37s (HR.out W (O.out.below.trans (hb.mono O.out.below.size))) j hlt
      rw [hx] at RX
      clear hx
      obtain ⟨CX, hCX⟩ : ∃ CX, (enc35 x.f2).toArray = CX := ⟨_, rfl⟩
      have AY := Aside0.mk fun {W : World} {base q m : Nat} {v : Value} {L : List S35} (h : SpdO W base q m v L) (hl : L.length ≤ 64) (i : Int) => AX.out h hl i x.f2
      rw [hCX] at RX AY
      clear hCX
      have hj1 : IntKind.i64.wrap ((j : Int) + 1) = ((j + 1 : Nat) : Int) := by rw [IntWalk.i64_in _ (by omega)]; omega
      go_wp2_with (fail)
      refine start_ (n := 12) (S := fun W => Below wr.heap.size wr W) (ds := [11]) #[false, false, false, false, false, false, false, false, false, false, false, false] (by kernel_rfl) rfl rfl (below_drew (Below.refl wr.heap.size wr)) (fun hHeld => ?_)
      refine pure_ (i := 0) (N := some 34) (v := ?_) (a' := ?_) #[true, false, false, false, false, false, false, false, false, false, false, false] rfl rfl (by kernel_rfl) (fun _ _ _ h => h) (Or.inl ⟨by rfl, ?_⟩) ?_ ?_
      rotate_left
      · intro w'
        go_simp
        with_reducible rfl
      rotate_left
      · simp only [Act.put, List.setIfInBounds_toArray, List.set_cons_zero, List.set_cons_succ]
        rfl
      refine pure_ (i := 1) (N := some 35) (v := ?_) (a' := ?_) #[true, true, false, false, false, false, false, false, false, false, false, false] rfl rfl (by kernel_rfl) (fun _ _ _ h => h) (Or.inl ⟨by rfl, ?_⟩) ?_ ?_
      rotate_left
      · intro w'
        go_simp
        with_reducible rfl
      rotate_left
      · simp only [Act.put, List.setIfInBounds_toArray, List.set_cons_zero, List.set_cons_succ]
        rfl
      refine pure_ (i := 2) (N := some 36) (v := ?_) (a' := ?_) #[true, true, true, false, false, false, false, false, false, false, false, false] rfl rfl (by kernel_rfl) (fun _ _ _ h => h) (Or.inl ⟨by rfl, ?_⟩) ?_ ?_
      rotate_left
      · intro w'
        go_simp
        with_reducible rfl
      rotate_left
      · simp only [Act.put, List.setIfInBounds_toArray, List.set_cons_zero, List.set_cons_succ]
        rfl
      refine pure_ (i := 3) (N := some 37) (v := ?_) (a' := ?_) #[true, true, true, true, false, false, false, false, false, false, false, false] rfl rfl (by kernel_rfl) (fun _ _ _ h => h) (Or.inl ⟨by rfl, ?_⟩) ?_ ?_
      rotate_left
      · intro w'
        go_simp
        with_reducible rfl
      rotate_left
      · simp only [Act.put, List.setIfInBounds_toArray, List.set_cons_zero, List.set_cons_succ]
        rfl
      refine pure_ (i := 4) (N := some 38) (v := ?_) (a' := ?_) #[true, true, true, true, true, false, false, false, false, false, false, false] rfl rfl (by kernel_rfl) (fun _ _ _ h => h) (Or.inl ⟨by rfl, ?_⟩) ?_ ?_
      rotate_left
      · intro w'
        go_simp
        with_reducible rfl
      rotate_left
      · simp only [Act.put, List.setIfInBounds_toArray, List.set_cons_zero, List.set_cons_succ]
        rfl
      refine take_ (i := 5) (N := some 39) (v := ?_) (a' := ?_) #[true, true, true, true, true, true, false, false, false, false, false, false] rfl rfl (by kernel_rfl) (fun _ _ _ h => h) (Or.inl ⟨by rfl, ?_⟩) hHeld ?_ ?_
      rotate_left
      · intro w' s0
        have s1 := Aside0.mk s0
        obtain ⟨_, k1, LD⟩ := RX.out w' s0
        go_simp
        with_reducible rfl
      rotate_left
      · simp only [Act.put, List.setIfInBounds_toArray, List.set_cons_zero, List.set_cons_succ]
        rfl
      refine pure_ (i := 6) (N := some 40) (v := ?_) (a' := ?_) #[true, true, true, true, true, true, true, false, false, false, false, false] rfl rfl (by kernel_rfl) (fun _ _ _ h => h) (Or.inl ⟨by rfl, ?_⟩) ?_ ?_
      rotate_left
      · intro w'
        go_simp
        with_reducible rfl
      rotate_left
      · simp only [Act.put, List.setIfInBounds_toArray, List.set_cons_zero, List.set_cons_succ]
        rfl
      refine pure_ (i := 7) (N := some 41) (v := ?_) (a' := ?_) #[true, true, true, true, true, true, true, true, false, false, false, false] rfl rfl (by kernel_rfl) (fun _ _ _ h => h) (Or.inl ⟨by rfl, ?_⟩) ?_ ?_
      rotate_left
      · intro w'
        go_simp
        with_reducible rfl
      rotate_left
      · simp only [Act.put, List.setIfInBounds_toArray, List.set_cons_zero, List.set_cons_succ]
        rfl
      refine pure_ (i := 8) (N := some 42) (v := ?_) (a' := ?_) #[true, true, true, true, true, true, true, true, true, false, false, false] rfl rfl (by kernel_rfl) (fun _ _ _ h => h) (Or.inl ⟨by rfl, ?_⟩) ?_ ?_
      rotate_left
      · intro w'
        go_simp
        with_reducible rfl
      rotate_left
      · simp only [Act.put, List.setIfInBounds_toArray, List.set_cons_zero, List.set_cons_succ]
        rfl
      refine pure_ (i := 9) (N := some 43) (v := ?_) (a' := ?_) #[true, true, true, true, true, true, true, true, true, true, false, false] rfl rfl (by kernel_rfl) (fun _ _ _ h => h) (Or.inl ⟨by rfl, ?_⟩) ?_ ?_
      rotate_left
      · intro w'
        go_simp
        with_reducible rfl
      rotate_left
      · simp only [Act.put, List.setIfInBounds_toArray, List.set_cons_zero, List.set_cons_succ]
        rfl
      refine take_ (i := 10) (N := some 44) (v := ?_) (a' := ?_) #[true, true, true, true, true, true, true, true, true, true, true, false] rfl rfl (by kernel_rfl) (fun _ _ _ h => h) (Or.inl ⟨by rfl, ?_⟩) hHeld ?_ ?_
      rotate_left
      · intro w' s0
        have s1 := Aside0.mk s0
        obtain ⟨_, k1, LD⟩ := RX.out w' s0
        refine load_runA 35 (.tmp 43) ⟨(ad.add (j * 24)).block, (ad.add (j * 24)).off + 2, none⟩ CX ?_ ?_ LD
        · rfl
        · rfl
      rotate_left
      · simp only [Act.put, List.setIfInBounds_toArray, List.set_cons_zero, List.set_cons_succ]
        rfl
      refine last_ (i := 11) (N := some 45) #[true, true, true, true, true, true, true, true, true, true, true, true] rfl rfl (by kernel_rfl) (by decide) (fun K hK => ?_)
      refine goes_ Try.func10 (by kernel_rfl) rfl #[.pointer (some ⟨q, 0, none⟩), .int .i64 x.f1, .agg CX] (by rfl) rfl rfl (by first | rfl | simp [Act.eval] | go_simp) ?_
      have O1 := Aside0.mk (O.out.step hHeld)
      have X1 := Aside0.mk (X.out.step hHeld)
      refine (AY.out O1.out.tab HL.out x.f1).mono ?_
      rintro e w3 ⟨v3, rfl, ht, hu⟩
      have O3 := Aside0.mk (O1.out.turn ht hu)
      have X3 := Aside0.mk (X1.out.turn O1.out.tab hu)
      refine ⟨_, rfl, hK.out _ _ ?_⟩
      clear hK K hHeld ht hu
      refine norm_ (a' := ?_) ?_ ?_
      rotate_left
      · show Act.put _ (some 45) _ = _
        simp only [Act.put, List.setIfInBounds_toArray, List.set_cons_zero, List.set_cons_succ]
        rfl
      refine done_ (by kernel_rfl) ?_
      (try simp only [Exit.inBlock, Exit.then])
      go_wp2_with (fail)
      go_roundw
      case rel => exact ⟨j + 1, _, v3, by omega, by go_num, O3, X3, ⟨addF_len HL.out _ _⟩⟩
      case measure => simp [intOf]; omega
    · have hltI : ¬ (j : Int) < (n : Int) := by omega
      clear hj hlt
      go_wp2_with (fail)
      refine (list_call O.out.tab (by have := HL.out; omega)).mono ?_
      rintro e w2 ⟨⟨va, rfl, ho⟩, hb⟩
      obtain ⟨A2, c2, rfl⟩ := Kd.R_slice ho
      have W2 := Aside0.mk (Rw.new O.out.tab ho)
      have O2 := Aside0.mk (O.out.step hb)
      have X2 := Aside0.mk (X.out.step hb)
      clear hb ho O X
      have LD := LDV.out w2 q4 X2.out.blk
      rcases addF_cases L a r with ⟨hne, hL⟩ | ⟨i, rfl, hi, h64, hF⟩
      · obtain ⟨er, her⟩ : ∃ er, (addF L a r).2 = er := ⟨_, rfl⟩
        rw [her] at hne
        have herb : (er != 0) = true := by rw [bne_iff_ne]; exact hne
        have HER := Aside0.mk her
        have HLE := Aside0.mk hL
        clear her hne hL
        go_wp2_with (first | ((with_reducible refine gate_dst (N := 50) rfl ?_); refine Kd.event_run (v := .agg CS) (w1 := w2) ?hg (load_run 35 (.tmp 4) q4 CS ?ho ?hx LD) ?_; (case hg => rfl); (case ho => rfl); (case hx => rfl); clear LD))
        refine (AD.out O2.out.tab HL.out a).mono ?_
        rintro e w3 ⟨v3, rfl, ht, hu⟩
        rw [HER.out]
        rw [HLE.out] at ht
        have O3 := Aside0.mk (O2.out.turn ht hu)
        clear ht hu
        go_wp2_with (fail)
        refine (awake_walk _).mono ?_
        rintro e w4 ⟨rfl, hb⟩
        have O4 := Aside0.mk (O3.out.step hb)
        clear hb
        go_wp2_with (fail)
        refine (list_call O4.out.tab (by have := HL.out; omega)).mono ?_
        rintro e w5 ⟨⟨vb, rfl, ho⟩, hb⟩
        obtain ⟨A3, c3, rfl⟩ := Kd.R_slice ho
        have O5 := Aside0.mk (O4.out.step hb)
        clear hb ho
        go_wp2_with (fail)
        go_ret
        exact ⟨rfl, O5.out.below⟩
      · obtain ⟨k, hk⟩ : ∃ k, L.length = k := ⟨_, rfl⟩
        have HLK := Aside0.mk hk
        obtain ⟨L', hL'⟩ : ∃ L', L.take i ++ r :: L.drop i = L' := ⟨_, rfl⟩
        rw [hL'] at hF
        have HLE := Aside0.mk (show L'.length = k + 1 from by rw [← hL', ins_len _ _ _ hi, hk])
        have HGD := Aside0.mk (show L'.getD i z35 = r from by rw [← hL', ins_getD _ _ _ _ hi, if_neg (by omega), if_pos rfl])
        have HRA := Aside0.mk (show remF L' (i : Int) = (L, 0) from by rw [← hL']; exact rem_add L r i hi)
        have HF := Aside0.mk hF
        rw [hk] at hi h64
        rw [hk]
        clear hk hF hL'
        go_wp2_with (first | ((with_reducible refine gate_dst (N := 50) rfl ?_); refine Kd.event_run (v := .agg CS) (w1 := w2) ?hg (load_run 35 (.tmp 4) q4 CS ?ho ?hx LD) ?_; (case hg => rfl); (case ho => rfl); (case hx => rfl); clear LD))
        refine (AD.out O2.out.tab HL.out (i : Int)).mono ?_
        rintro e w3 ⟨v3, rfl, ht, hu⟩
        rw [HF.out] at ht ⊢
        have O3 := Aside0.mk (O2.out.turn ht hu)
        have X3 := Aside0.mk (X2.out.turn O2.out.tab hu)
        have W3 := Aside0.mk (W2.out.turn O2.out.tab hu)
        clear ht hu
        go_wp2_with (fail)
        refine (list_call O3.out.tab (by have := HLE.out; omega)).mono ?_
        rintro e w4 ⟨⟨vb, rfl, ho⟩, hb⟩
        obtain ⟨A3, c3, rfl⟩ := Kd.R_slice ho
        have N4 := Aside0.mk (Rw.new O3.out.tab ho)
        have O4 := Aside0.mk (O3.out.step hb)
        have X4 := Aside0.mk (X3.out.step hb)
        have W4 := Aside0.mk (W3.out.step hb)
        clear hb ho
        rw [HLE.out]
        obtain ⟨ad3, hA3⟩ := some35 N4.out.read (by have := HLE.out; omega)
        subst hA3
        have NR := Aside0.mk fun (W : World) (hb : Below w4.heap.size w4 W) => row35s (Kd.C_below N4.out.read hb) i (by have := HLE.out; omega)
        rw [HGD.out, HCS.out] at NR
        obtain ⟨k', hk'⟩ : ∃ k', k + 1 = k' := ⟨_, rfl⟩
        rw [hk']
        have hk1 : IntKind.i64.wrap ((k : Int) + 1) = (k' : Int) := by rw [IntWalk.i64_in _ (by omega)]; omega
        have di0 : decide ((i : Int) < 0) = false := decide_eq_false (by omega)
        have di1 : decide ((k' : Int) ≤ (i : Int)) = false := decide_eq_false (by omega)
        have di1n : decide (k' ≤ i) = false := decide_eq_false (by omega)
        have hiI : (i : Int) < (k' : Int) := by omega
        have hiN : i < k' := by omega
        have HK' := Aside0.mk hk'
        clear hk'
        go_wp2_with (fail)
        refine start_ (n := 24) (S := fun W => Below w4.heap.size w4 W) (ds := []) #[false, false, false, false, false, false, false, false, false, false, false, false, false, false, false, false, false, false, false, false, false, false, false, false] (by kernel_rfl) rfl rfl (below_drew (Below.refl w4.heap.size w4)) (fun hHeld => ?_)
        refine pure_ (i := 0) (N := some 65) (v := ?_) (a' := ?_) #[true, false, false, false, false, false, false, false, false, false, false, false, false, false, false, false, false, false, false, false, false, false, false, false] rfl rfl (by kernel_rfl) (fun _ _ _ h => h) (Or.inl ⟨by rfl, ?_⟩) ?_ ?_
        rotate_left
        · intro w'
          go_simp
          with_reducible rfl
        rotate_left
        · simp only [Act.put, List.setIfInBounds_toArray, List.set_cons_zero, List.set_cons_succ]
          rfl
        refine pure_ (i := 1) (N := some 66) (v := ?_) (a' := ?_) #[true, true, false, false, false, false, false, false, false, false, false, false, false, false, false, false, false, false, false, false, false, false, false, false] rfl rfl (by kernel_rfl) (fun _ _ _ h => h) (Or.inl ⟨by rfl, ?_⟩) ?_ ?_
        rotate_left
        · intro w'
          go_simp
          with_reducible rfl
        rotate_left
        · simp only [Act.put, List.setIfInBounds_toArray, List.set_cons_zero, List.set_cons_succ]
          rfl
        refine pure_ (i := 2) (N := some 67) (v := ?_) (a' := ?_) #[true, true, true, false, false, false, false, false, false, false, false, false, false, false, false, false, false, false, false, false, false, false, false, false] rfl rfl (by kernel_rfl) (fun _ _ _ h => h) (Or.inl ⟨by rfl, ?_⟩) ?_ ?_
        rotate_left
        · intro w'
          go_simp
          with_reducible rfl
        rotate_left
        · simp only [Act.put, List.setIfInBounds_toArray, List.set_cons_zero, List.set_cons_succ]
          rfl
        refine pure_ (i := 3) (N := some 68) (v := ?_) (a' := ?_) #[true, true, true, true, false, false, false, false, false, false, false, false, false, false, false, false, false, false, false, false, false, false, false, false] rfl rfl (by kernel_rfl) (fun _ _ _ h => h) (Or.inl ⟨by rfl, ?_⟩) ?_ ?_
        rotate_left
        · intro w'
          go_simp
          with_reducible rfl
        rotate_left
        · simp only [Act.put, List.setIfInBounds_toArray, List.set_cons_zero, List.set_cons_succ]
          rfl
        refine pure_ (i := 4) (N := some 69) (v := ?_) (a' := ?_) #[true, true, true, true, true, false, false, false, false, false, false, false, false, false, false, false, false, false, false, false, false, false, false, false] rfl rfl (by kernel_rfl) (fun _ _ _ h => h) (Or.inl ⟨by rfl, ?_⟩) ?_ ?_
        rotate_left
        · intro w'
          go_simp
          with_reducible rfl
        rotate_left
        · simp only [Act.put, List.setIfInBounds_toArray, List.set_cons_zero, List.set_cons_succ]
          rfl
        refine pure_ (i := 5) (N := some 70) (v := ?_) (a' := ?_) #[true, true, true, true, true, true, false, false, false, false, false, false, false, false, false, false, false, false, false, false, false, false, false, false] rfl rfl (by kernel_rfl) (fun _ _ _ h => h) (Or.inl ⟨by rfl, ?_⟩) ?_ ?_
        rotate_left
        · intro w'
          go_simp
          with_reducible rfl
        rotate_left
        · simp only [Act.put, List.setIfInBounds_toArray, List.set_cons_zero, List.set_cons_succ]
          rfl
        refine pure_ (i := 6) (N := some 71) (v := ?_) (a' := ?_) #[true, true, true, true, true, true, true, false, false, false, false, false, false, false, false, false, false, false, false, false, false, false, false, false] rfl rfl (by kernel_rfl) (fun _ _ _ h => h) (Or.inl ⟨by rfl, ?_⟩) ?_ ?_
        rotate_left
        · intro w'
          go_simp
          with_reducible rfl
        rotate_left
        · simp only [Act.put, List.setIfInBounds_toArray, List.set_cons_zero, List.set_cons_succ]
          rfl
        refine pure_ (i := 7) (N := some 72) (v := ?_) (a' := ?_) #[true, true, true, true, true, true, true, true, false, false, false, false, false, false, false, false, false, false, false, false, false, false, false, false] rfl rfl (by kernel_rfl) (fun _ _ _ h => h) (Or.inl ⟨by rfl, ?_⟩) ?_ ?_
        rotate_left
        · intro w'
          go_simp
          with_reducible rfl
        rotate_left
        · simp only [Act.put, List.setIfInBounds_toArray, List.set_cons_zero, List.set_cons_succ]
          rfl
        refine pure_ (i := 8) (N := some 73) (v := ?_) (a' := ?_) #[true, true, true, true, true, true, true, true, true, false, false, false, false, false, false, false, false, false, false, false, false, false, false, false] rfl rfl (by kernel_rfl) (fun _ _ _ h => h) (Or.inl ⟨by rfl, ?_⟩) ?_ ?_
        rotate_left
        · intro w'
          go_simp
          with_reducible rfl
        rotate_left
        · simp only [Act.put, List.setIfInBounds_toArray, List.set_cons_zero, List.set_cons_succ]
          rfl
        refine pure_ (i := 9) (N := some 74) (v := ?_) (a' := ?_) #[true, true, true, true, true, true, true, true, true, true, false, false, false, false, false, false, false, false, false, false, false, false, false, false] rfl rfl (by kernel_rfl) (fun _ _ _ h => h) (Or.inl ⟨by rfl, ?_⟩) ?_ ?_
        rotate_left
        · intro w'
          go_simp
          with_reducible rfl
        rotate_left
        · simp only [Act.put, List.setIfInBounds_toArray, List.set_cons_zero, List.set_cons_succ]
          rfl
        refine pure_ (i := 10) (N := some 75) (v := ?_) (a' := ?_) #[true, true, true, true, true, true, true, true, true, true, true, false, false, false, false, false, false, false, false, false, false, false, false, false] rfl rfl (by kernel_rfl) (fun _ _ _ h => h) (Or.inl ⟨by rfl, ?_⟩) ?_ ?_
        rotate_left
        · intro w'
          go_simp
          with_reducible rfl
        rotate_left
        · simp only [Act.put, List.setIfInBounds_toArray, List.set_cons_zero, List.set_cons_succ]
          rfl
        refine pure_ (i := 11) (N := some 76) (v := ?_) (a' := ?_) #[true, true, true, true, true, true, true, true, true, true, true, true, false, false, false, false, false, false, false, false, false, false, false, false] rfl rfl (by kernel_rfl) (fun _ _ _ h => h) (Or.inl ⟨by rfl, ?_⟩) ?_ ?_
        rotate_left
        · intro w'
          go_simp
          with_reducible rfl
        rotate_left
        · simp only [Act.put, List.setIfInBounds_toArray, List.set_cons_zero, List.set_cons_succ]
          rfl
        refine pure_ (i := 12) (N := some 77) (v := ?_) (a' := ?_) #[true, true, true, true, true, true, true, true, true, true, true, true, true, false, false, false, false, false, false, false, false, false, false, false] rfl rfl (by kernel_rfl) (fun _ _ _ h => h) (Or.inl ⟨by rfl, ?_⟩) ?_ ?_
        rotate_left
        · intro w'
          go_simp
          with_reducible rfl
        rotate_left
        · simp only [Act.put, List.setIfInBounds_toArray, List.set_cons_zero, List.set_cons_succ]
          rfl
        refine pure_ (i := 13) (N := some 78) (v := ?_) (a' := ?_) #[true, true, true, true, true, true, true, true, true, true, true, true, true, true, false, false, false, false, false, false, false, false, false, false] rfl rfl (by kernel_rfl) (fun _ _ _ h => h) (Or.inl ⟨by rfl, ?_⟩) ?_ ?_
        rotate_left
        · intro w'
          go_simp
          with_reducible rfl
        rotate_left
        · simp only [Act.put, List.setIfInBounds_toArray, List.set_cons_zero, List.set_cons_succ]
          rfl
        refine pure_ (i := 14) (N := some 79) (v := ?_) (a' := ?_) #[true, true, true, true, true, true, true, true, true, true, true, true, true, true, true, false, false, false, false, false, false, false, false, false] rfl rfl (by kernel_rfl) (fun _ _ _ h => h) (Or.inl ⟨by rfl, ?_⟩) ?_ ?_
        rotate_left
        · intro w'
          go_simp
          with_reducible rfl
        rotate_left
        · simp only [Act.put, List.setIfInBounds_toArray, List.set_cons_zero, List.set_cons_succ]
          rfl
        refine pure_ (i := 15) (N := some 80) (v := ?_) (a' := ?_) #[true, true, true, true, true, true, true, true, true, true, true, true, true, true, true, true, false, false, false, false, false, false, false, false] rfl rfl (by kernel_rfl) (fun _ _ _ h => h) (Or.inl ⟨by rfl, ?_⟩) ?_ ?_
        rotate_left
        · intro w'
          go_simp
          with_reducible rfl
        rotate_left
        · simp only [Act.put, List.setIfInBounds_toArray, List.set_cons_zero, List.set_cons_succ]
          rfl
        refine pure_ (i := 16) (N := some 81) (v := ?_) (a' := ?_) #[true, true, true, true, true, true, true, true, true, true, true, true, true, true, true, true, true, false, false, false, false, false, false, false] rfl rfl (by kernel_rfl) (fun _ _ _ h => h) (Or.inl ⟨by rfl, ?_⟩) ?_ ?_
        rotate_left
        · intro w'
          go_simp
          with_reducible rfl
        rotate_left
        · simp only [Act.put, List.setIfInBounds_toArray, List.set_cons_zero, List.set_cons_succ]
          rfl
        refine pure_ (i := 17) (N := some 82) (v := ?_) (a' := ?_) #[true, true, true, true, true, true, true, true, true, true, true, true, true, true, true, true, true, true, false, false, false, false, false, false] rfl rfl (by kernel_rfl) (fun _ _ _ h => h) (Or.inl ⟨by rfl, ?_⟩) ?_ ?_
        rotate_left
        · intro w'
          go_simp
          with_reducible rfl
        rotate_left
        · simp only [Act.put, List.setIfInBounds_toArray, List.set_cons_zero, List.set_cons_succ]
          rfl
        refine pure_ (i := 18) (N := some 83) (v := ?_) (a' := ?_) #[true, true, true, true, true, true, true, true, true, true, true, true, true, true, true, true, true, true, true, false, false, false, false, false] rfl rfl (by kernel_rfl) (fun _ _ _ h => h) (Or.inl ⟨by rfl, ?_⟩) ?_ ?_
        rotate_left
        · intro w'
          go_simp
          with_reducible rfl
        rotate_left
        · simp only [Act.put, List.setIfInBounds_toArray, List.set_cons_zero, List.set_cons_succ]
          rfl
        refine pure_ (i := 19) (N := some 84) (v := ?_) (a' := ?_) #[true, true, true, true, true, true, true, true, true, true, true, true, true, true, true, true, true, true, true, true, false, false, false, false] rfl rfl (by kernel_rfl) (fun _ _ _ h => h) (Or.inl ⟨by rfl, ?_⟩) ?_ ?_
        rotate_left
        · intro w'
          go_simp
          with_reducible rfl
        rotate_left
        · simp only [Act.put, List.setIfInBounds_toArray, List.set_cons_zero, List.set_cons_succ]
          rfl
        refine take_ (i := 20) (N := some 85) (v := ?_) (a' := ?_) #[true, true, true, true, true, true, true, true, true, true, true, true, true, true, true, true, true, true, true, true, true, false, false, false] rfl rfl (by kernel_rfl) (fun _ _ _ h => h) (Or.inl ⟨by rfl, ?_⟩) hHeld ?_ ?_
        rotate_left
        · intro w' s0
          have LDn := NR.out w' s0
          have LDq := LDV.out w' q4 (blk_below X4.out.blk s0)
          refine load_runA 35 (.tmp 84) (ad3.add (i * 16)) CS ?_ ?_ LDn
          · rfl
          · rfl
        rotate_left
        · simp only [Act.put, List.setIfInBounds_toArray, List.set_cons_zero, List.set_cons_succ]
          rfl
        refine take_ (i := 21) (N := some 86) (v := ?_) (a' := ?_) #[true, true, true, true, true, true, true, true, true, true, true, true, true, true, true, true, true, true, true, true, true, true, false, false] rfl rfl (by kernel_rfl) (fun _ _ _ h => h) (Or.inl ⟨by rfl, ?_⟩) hHeld ?_ ?_
        rotate_left
        · intro w' s0
          have LDn := NR.out w' s0
          have LDq := LDV.out w' q4 (blk_below X4.out.blk s0)
          refine load_runA 35 (.tmp 4) ⟨q4, 0, none⟩ CS ?_ ?_ LDq
          · rfl
          · rfl
        rotate_left
        · simp only [Act.put, List.setIfInBounds_toArray, List.set_cons_zero, List.set_cons_succ]
          rfl
        refine pure_ (i := 22) (N := some 87) (v := ?_) (a' := ?_) #[true, true, true, true, true, true, true, true, true, true, true, true, true, true, true, true, true, true, true, true, true, true, true, false] rfl rfl (by kernel_rfl) (fun _ _ _ h => h) (Or.inl ⟨by rfl, ?_⟩) ?_ ?_
        rotate_left
        · intro w'
          refine HEQ.out (.tmp 85) (.tmp 86) w' ?_ ?_ ?_
          · rfl
          · rfl
          · rfl
        rotate_left
        · simp only [Act.put, List.setIfInBounds_toArray, List.set_cons_zero, List.set_cons_succ]
          rfl
        refine pure_ (i := 23) (N := some 88) (v := ?_) (a' := ?_) #[true, true, true, true, true, true, true, true, true, true, true, true, true, true, true, true, true, true, true, true, true, true, true, true] rfl rfl (by kernel_rfl) (fun _ _ _ h => h) (Or.inl ⟨by rfl, ?_⟩) ?_ ?_
        rotate_left
        · intro w'
          go_simp
          with_reducible rfl
        rotate_left
        · simp only [Act.put, List.setIfInBounds_toArray, List.set_cons_zero, List.set_cons_succ]
          rfl
        refine done_ (by kernel_rfl) ?_
        have O5 := Aside0.mk (O4.out.step hHeld)
        have W5 := Aside0.mk (W4.out.step hHeld)
        clear hHeld di0 di1 di1n hk1
        (try simp only [Exit.inBlock, Exit.then])
        go_wp2_with (fail)
        refine (rem_call O5.out.tab (by have := HLE.out; omega) (i : Int)).mono ?_
        rintro e w6 ⟨v6, rfl, ht, hu⟩
        rw [HRA.out] at ht ⊢
        have O6 := Aside0.mk (O5.out.turn ht hu)
        have W6 := Aside0.mk (W5.out.turn O5.out.tab hu)
        clear ht hu
        go_wp2_with (fail)
        refine (list_call O6.out.tab (by have := HL.out; omega)).mono ?_
        rintro e w7 ⟨⟨vc, rfl, ho⟩, hb⟩
        obtain ⟨A5, c5, rfl⟩ := Kd.R_slice ho
        have B7 := Aside0.mk (Rw.new O6.out.tab ho)
        have O7 := Aside0.mk (O6.out.step hb)
        have W7 := Aside0.mk (W6.out.step hb)
        clear hb ho
        rw [HLK.out]
        go_wp2_with (fail)
        have HS := Aside0.mk (Below.refl w7.heap.size w7)
        go_loopw [14] (fun iv wr => ∃ i : Nat, i ≤ k ∧ iv = .int .i64 i ∧ Aside0 (Below w7.heap.size w7 wr)) (fun iv _ => k - (intOf iv).toNat)
        case atStart => exact ⟨0, by omega, rfl, HS⟩
        case round =>
          clear HS hiI hiN hi
          obtain ⟨y, hyk, rfl, HS⟩ := hrel
          by_cases hlt : y < k
          · have hltI : (y : Int) < (k : Int) := by omega
            obtain ⟨ad5, hA5⟩ := some35 B7.out.read (by have := HLK.out; omega)
            obtain ⟨ad2, hA2⟩ := some35 W7.out.read (by have := HLK.out; omega)
            subst hA5 hA2
            have RB := Aside0.mk fun (W : World) (hb : Below wr.heap.size wr W) => row35s (Kd.C_below (Kd.C_below B7.out.read HS.out) hb) y (by have := HLK.out; omega)
            have RW := Aside0.mk fun (W : World) (hb : Below wr.heap.size wr W) => row35s (Kd.C_below (Kd.C_below W7.out.read HS.out) hb) y (by have := HLK.out; omega)
            have HEI := Aside0.mk fun {o : Oper} {a : Act} (x z : Operand) (W : World) => neq_self (L.getD y z35) (o := o) (a := a) x z W
            obtain ⟨CI, hCI⟩ : ∃ CI, (enc35 (L.getD y z35)).toArray = CI := ⟨_, rfl⟩
            rw [hCI] at RB RW HEI
            clear hCI
            have hy1 : IntKind.i64.wrap ((y : Int) + 1) = ((y + 1 : Nat) : Int) := by rw [IntWalk.i64_in _ (by omega)]; omega
            go_wp2_with (fail)
            refine start_ (n := 16) (S := fun W => Below wr.heap.size wr W) (ds := []) #[false, false, false, false, false, false, false, false, false, false, false, false, false, false, false, false] (by kernel_rfl) rfl rfl (below_drew (Below.refl wr.heap.size wr)) (fun hHeld => ?_)
            refine pure_ (i := 0) (N := some 100) (v := ?_) (a' := ?_) #[true, false, false, false, false, false, false, false, false, false, false, false, false, false, false, false] rfl rfl (by kernel_rfl) (fun _ _ _ h => h) (Or.inl ⟨by rfl, ?_⟩) ?_ ?_
            rotate_left
            · intro w'
              go_simp
              with_reducible rfl
            rotate_left
            · simp only [Act.put, List.setIfInBounds_toArray, List.set_cons_zero, List.set_cons_succ]
              rfl
            refine pure_ (i := 1) (N := some 101) (v := ?_) (a' := ?_) #[true, true, false, false, false, false, false, false, false, false, false, false, false, false, false, false] rfl rfl (by kernel_rfl) (fun _ _ _ h => h) (Or.inl ⟨by rfl, ?_⟩) ?_ ?_
            rotate_left
            · intro w'
              go_simp
              with_reducible rfl
            rotate_left
            · simp only [Act.put, List.setIfInBounds_toArray, List.set_cons_zero, List.set_cons_succ]
              rfl
            refine pure_ (i := 2) (N := some 102) (v := ?_) (a' := ?_) #[true, true, true, false, false, false, false, false, false, false, false, false, false, false, false, false] rfl rfl (by kernel_rfl) (fun _ _ _ h => h) (Or.inl ⟨by rfl, ?_⟩) ?_ ?_
            rotate_left
            · intro w'
              go_simp
              with_reducible rfl
            rotate_left
            · simp only [Act.put, List.setIfInBounds_toArray, List.set_cons_zero, List.set_cons_succ]
              rfl
            refine pure_ (i := 3) (N := some 103) (v := ?_) (a' := ?_) #[true, true, true, true, false, false, false, false, false, false, false, false, false, false, false, false] rfl rfl (by kernel_rfl) (fun _ _ _ h => h) (Or.inl ⟨by rfl, ?_⟩) ?_ ?_
            rotate_left
            · intro w'
              go_simp
              with_reducible rfl
            rotate_left
            · simp only [Act.put, List.setIfInBounds_toArray, List.set_cons_zero, List.set_cons_succ]
              rfl
            refine pure_ (i := 4) (N := some 104) (v := ?_) (a' := ?_) #[true, true, true, true, true, false, false, false, false, false, false, false, false, false, false, false] rfl rfl (by kernel_rfl) (fun _ _ _ h => h) (Or.inl ⟨by rfl, ?_⟩) ?_ ?_
            rotate_left
            · intro w'
              go_simp
              with_reducible rfl
            rotate_left
            · simp only [Act.put, List.setIfInBounds_toArray, List.set_cons_zero, List.set_cons_succ]
              rfl
            refine pure_ (i := 5) (N := some 105) (v := ?_) (a' := ?_) #[true, true, true, true, true, true, false, false, false, false, false, false, false, false, false, false] rfl rfl (by kernel_rfl) (fun _ _ _ h => h) (Or.inl ⟨by rfl, ?_⟩) ?_ ?_
            rotate_left
            · intro w'
              go_simp
              with_reducible rfl
            rotate_left
            · simp only [Act.put, List.setIfInBounds_toArray, List.set_cons_zero, List.set_cons_succ]
              rfl
            refine pure_ (i := 6) (N := some 106) (v := ?_) (a' := ?_) #[true, true, true, true, true, true, true, false, false, false, false, false, false, false, false, false] rfl rfl (by kernel_rfl) (fun _ _ _ h => h) (Or.inl ⟨by rfl, ?_⟩) ?_ ?_
            rotate_left
            · intro w'
              go_simp
              with_reducible rfl
            rotate_left
            · simp only [Act.put, List.setIfInBounds_toArray, List.set_cons_zero, List.set_cons_succ]
              rfl
            refine pure_ (i := 7) (N := some 107) (v := ?_) (a' := ?_) #[true, true, true, true, true, true, true, true, false, false, false, false, false, false, false, false] rfl rfl (by kernel_rfl) (fun _ _ _ h => h) (Or.inl ⟨by rfl, ?_⟩) ?_ ?_
            rotate_left
            · intro w'
              go_simp
              with_reducible rfl
            rotate_left
            · simp only [Act.put, List.setIfInBounds_toArray, List.set_cons_zero, List.set_cons_succ]
              rfl
            refine pure_ (i := 8) (N := some 108) (v := ?_) (a' := ?_) #[true, true, true, true, true, true, true, true, true, false, false, false, false, false, false, false] rfl rfl (by kernel_rfl) (fun _ _ _ h => h) (Or.inl ⟨by rfl, ?_⟩) ?_ ?_
            rotate_left
            · intro w'
              go_simp
              with_reducible rfl
            rotate_left
            · simp only [Act.put, List.setIfInBounds_toArray, List.set_cons_zero, List.set_cons_succ]
              rfl
            refine take_ (i := 9) (N := some 109) (v := ?_) (a' := ?_) #[true, true, true, true, true, true, true, true, true, true, false, false, false, false, false, false] rfl rfl (by kernel_rfl) (fun _ _ _ h => h) (Or.inl ⟨by rfl, ?_⟩) hHeld ?_ ?_
            rotate_left
            · intro w' s0
              have LDb := RB.out w' s0
              have LDw := RW.out w' s0
              refine load_runA 35 (.tmp 108) (ad5.add (y * 16)) CI ?_ ?_ LDb
              · rfl
              · rfl
            rotate_left
            · simp only [Act.put, List.setIfInBounds_toArray, List.set_cons_zero, List.set_cons_succ]
              rfl
            refine pure_ (i := 10) (N := some 110) (v := ?_) (a' := ?_) #[true, true, true, true, true, true, true, true, true, true, true, false, false, false, false, false] rfl rfl (by kernel_rfl) (fun _ _ _ h => h) (Or.inl ⟨by rfl, ?_⟩) ?_ ?_
            rotate_left
            · intro w'
              go_simp
              with_reducible rfl
            rotate_left
            · simp only [Act.put, List.setIfInBounds_toArray, List.set_cons_zero, List.set_cons_succ]
              rfl
            refine pure_ (i := 11) (N := some 111) (v := ?_) (a' := ?_) #[true, true, true, true, true, true, true, true, true, true, true, true, false, false, false, false] rfl rfl (by kernel_rfl) (fun _ _ _ h => h) (Or.inl ⟨by rfl, ?_⟩) ?_ ?_
            rotate_left
            · intro w'
              go_simp
              with_reducible rfl
            rotate_left
            · simp only [Act.put, List.setIfInBounds_toArray, List.set_cons_zero, List.set_cons_succ]
              rfl
            refine pure_ (i := 12) (N := some 112) (v := ?_) (a' := ?_) #[true, true, true, true, true, true, true, true, true, true, true, true, true, false, false, false] rfl rfl (by kernel_rfl) (fun _ _ _ h => h) (Or.inl ⟨by rfl, ?_⟩) ?_ ?_
            rotate_left
            · intro w'
              go_simp
              with_reducible rfl
            rotate_left
            · simp only [Act.put, List.setIfInBounds_toArray, List.set_cons_zero, List.set_cons_succ]
              rfl
            refine take_ (i := 13) (N := some 113) (v := ?_) (a' := ?_) #[true, true, true, true, true, true, true, true, true, true, true, true, true, true, false, false] rfl rfl (by kernel_rfl) (fun _ _ _ h => h) (Or.inl ⟨by rfl, ?_⟩) hHeld ?_ ?_
            rotate_left
            · intro w' s0
              have LDb := RB.out w' s0
              have LDw := RW.out w' s0
              refine load_runA 35 (.tmp 112) (ad2.add (y * 16)) CI ?_ ?_ LDw
              · rfl
              · rfl
            rotate_left
            · simp only [Act.put, List.setIfInBounds_toArray, List.set_cons_zero, List.set_cons_succ]
              rfl
            refine pure_ (i := 14) (N := some 114) (v := ?_) (a' := ?_) #[true, true, true, true, true, true, true, true, true, true, true, true, true, true, true, false] rfl rfl (by kernel_rfl) (fun _ _ _ h => h) (Or.inl ⟨by rfl, ?_⟩) ?_ ?_
            rotate_left
            · intro w'
              refine HEI.out (.tmp 109) (.tmp 113) w' ?_ ?_ ?_
              · rfl
              · rfl
              · rfl
            rotate_left
            · simp only [Act.put, List.setIfInBounds_toArray, List.set_cons_zero, List.set_cons_succ]
              rfl
            refine pure_ (i := 15) (N := some 115) (v := ?_) (a' := ?_) #[true, true, true, true, true, true, true, true, true, true, true, true, true, true, true, true] rfl rfl (by kernel_rfl) (fun _ _ _ h => h) (Or.inl ⟨by rfl, ?_⟩) ?_ ?_
            rotate_left
            · intro w'
              go_simp
              with_reducible rfl
            rotate_left
            · simp only [Act.put, List.setIfInBounds_toArray, List.set_cons_zero, List.set_cons_succ]
              rfl
            refine done_ (by kernel_rfl) ?_
            have HS8 := Aside0.mk (HS.out.trans (hHeld.mono HS.out.size))
            clear hHeld
            (try simp only [Exit.inBlock, Exit.then])
            go_wp2_with (fail)
            go_roundw
            case rel => exact ⟨y + 1, by omega, by go_num, HS8⟩
            case measure => simp [intOf]; omega
          · have hltI : ¬ (y : Int) < (k : Int) := by omega
            have O8 := Aside0.mk (O7.out.step HS.out)
            go_wp2_with (fail)
            refine (awake_walk _).mono ?_
            rintro e w9 ⟨rfl, hb⟩
            have O9 := Aside0.mk (O8.out.step hb)
            clear hb
            go_wp2_with (fail)
            go_ret
            exact ⟨rfl, O9.out.below⟩
theorem places_law {H : Type} {enc : TypeId × Value → H} {d : DataW H} {ps : List MemPlace} (A : Option Addr) (len c : Nat) (r0 : Int) (r1 : ByteArray) (r2 : ByteArray) (r3 : ByteArray) (r4 : ByteArray) (r5 : Int) (r6 : Int) (r7 : Int) (r8 : Int) (r9 : Int) (r10 : Bool) (r11 : Bool) (r12 : Int) (r13 : Bool) (r14 : ByteArray) (r15 : ByteArray) (a : Int) (w : World) (k : DataW.Trod enc Try.prog w 0 (fun _ => true) true 22 (.slice A len c) d ps) (wt : ∀ n ∈ d.weights Try.prog 22, n ≤ 140737488351232) (h0 : (Lit.int .i64 r0).wf = true) (h5 : (Lit.int .i64 r5).wf = true) (h6 : (Lit.int .i64 r6).wf = true) (h7 : (Lit.int .i64 r7).wf = true) (h8 : (Lit.int .i64 r8).wf = true) (h9 : (Lit.int .i64 r9).wf = true) (h12 : (Lit.int .i64 r12).wf = true) (hr : r1.size ≤ 140737488351232 ∧ r2.size ≤ 140737488351232 ∧ r3.size ≤ 140737488351232 ∧ r4.size ≤ 140737488351232 ∧ r14.size ≤ 140737488351232 ∧ r15.size ≤ 140737488351232) (ha : (Lit.int .i64 a).wf = true) :
    Calls Try.prog 6 #[.slice A len c, .agg #[.int .i64 r0, .string r1, .string r2, .string r3, .string r4, .int .i64 r5, .int .i64 r6, .int .i64 r7, .int .i64 r8, .int .i64 r9, .bool r10, .bool r11, .int .i64 r12, .bool r13, .string r14, .string r15], .int .i64 a] w fun e w' => e = .returned (.bool true) ∧ Below w.heap.size w w' := by
  obtain ⟨l, rfl, hc, hr, hm, _⟩ := came37 k wt
  exact places_main A l c ⟨r0, ⟨⟨r1, r2⟩, ⟨r3, r4⟩, r5, ⟨r6, r7⟩, ⟨r8, r9⟩⟩, r10, r11, r12, r13, r14, r15⟩ a w hr hm
end Go.Proofs.Ytdpfopeofeofcaa.Sp

/- slices.BinarySearchFunc over routes. slices.Clone of routes; Table.List. addr.In; masks of a row. Table.Find. The reference's In. (Texts of this session, put together by wip/tools/merge.py.) -/
import Derived.Test.YtmedkjiabieloaaRtM1
import Derived.BigQuiet
import Derived.WalkLawsBesides
namespace Go.Proofs.Ytmedkjiabieloaa.Rt
open Go.RowKit Go.Proofs.YtmedkjiabieloaaW.PrintWords Go.Proofs.YtmedkjiabieloaaW.PrintLast Go.Proofs.YtmedkjiabieloaaW.PrintMore Go.Proofs.Ytmedkjiabieloaa.QRd
open Go.Proofs.Ytmedkjiabieloaa
set_option linter.unusedVariables false
set_option linter.unusedSimpArgs false
/-- A call of a function value that captured nothing. -/
theorem goesV_ {P : Program} {ops : Array Oper} {Q : Exit → Act → World → Prop} {oi : Oper} {N : Option Tmp} {a : Act} {w : World} {K : Act → World → Prop} {f : FuncId} {fn : Func} {x : Operand} {xs : Array Operand} {ts : Array TypeId} (hf : P.funcs[f]? = some fn) (hname : (fn.name == "runtime.NumGoroutine") = false) (hb : fn.body.isSome = true) (args : Array Value)
    (hw : Region.wanted oi (yielded ops a.tmps) = true) (hN : oi.dst = N) (hop : oi.op = .call { callee := .value x, args := xs, argTypes := ts }) (hx : a.eval x = .func (.func f) #[] #[]) (hargs : xs.map a.eval = args)
    (h : Calls P f args w fun e w' => ∃ v, e = .returned v ∧ K (a.put N v) w') : if Region.wanted oi (yielded ops a.tmps) = true then Oper.wp P oi a w K Q else K (a.put oi.dst undef) w := by
  subst hN
  refine call_ f args hw rfl ?_ h
  have he := enters_ hf hname hb args w
  unfold execOp
  simp [hop, resolve, Deferred.ofValue, invoke, hx, hargs, he]
/-- What the search answers. -/
def BsP (l : List S28) (p : S26) (i : Nat) (b : Bool) : Prop :=
  i ≤ l.length ∧ (i = 0 ∨ riseE (l.getD (i - 1) z28).f0 p < 0) ∧ (i = l.length ∨ 0 ≤ riseE (l.getD i z28).f0 p) ∧ b = decide (i < l.length ∧ riseE (l.getD i z28).f0 p = 0)
set_option maxHeartbeats 1600000 in
set_option maxRecDepth 100000 in
theorem bs_walk (A : Option Addr) (c : Nat) (l : List S28) (p : S26) (w : World) (hr : Kd.C k28 w A l.length l) (hc : l.length ≤ c) (hl : l.length ≤ 100000) :
    Calls Try.prog 24 #[.slice A l.length c, .agg #[.string p.f0, .int .i64 p.f1], fnV] w fun e w' => (∃ (i : Nat) (b : Bool), e = .returned (.tuple #[.int .i64 i, .bool b]) ∧ BsP l p i b) ∧ Below w.heap.size w w' := by
  have HR := Aside0.mk fun (W : World) (hb : Below w.heap.size w W) => Kd.C_below hr hb
  have RW := Aside0.mk fun (x : S28) (W : World) => rise_walk x p W
  obtain ⟨pa, pb⟩ := p
  obtain ⟨n, hn⟩ : ∃ n, l.length = n := ⟨_, rfl⟩
  have HN := Aside0.mk hn
  unfold fnV
  rw [hn] at hc hl HR ⊢
  clear hr hn
  simp only at RW
  go_enter Try.func24, Try.ntmps24
  go_wp2_with (first | ((with_reducible refine gate_dst (N := 4) rfl ?_); refine box_event ?hg (N := 4) ?hd (cs := #[.string pa, .int .i64 pb]) (t := 26) ?hr ?_; (case hd => rfl); (case hg => rfl); (case hr => first | (go_simp; done) | (go_simp; rfl)); intro q1 hq w1 hbox hb; have BKq1 := Aside0.mk hbox; have HQq1 := Aside0.mk (show w.heap.size ≤ q1 from by rw [hq]; exact Nat.le_refl _); have HB1 := Aside0.mk hb; clear hbox hb hq))
  go_loopw [9, 10] (fun iv jv wr => ∃ i j : Nat, i ≤ j ∧ j ≤ n ∧ iv = .int .i64 i ∧ jv = .int .i64 j ∧ Aside0 (i = 0 ∨ riseE (l.getD (i - 1) z28).f0 ⟨pa, pb⟩ < 0) ∧ Aside0 (j = n ∨ 0 ≤ riseE (l.getD j z28).f0 ⟨pa, pb⟩) ∧ Aside0 (wr.heap[q1]? = some (.cells #[.string pa, .int .i64 pb] 26 (0, 0))) ∧ Aside0 (Below w.heap.size w wr)) (fun iv jv _ => (intOf jv).toNat - (intOf iv).toNat)
  case atStart => exact ⟨0, n, by omega, by omega, rfl, rfl, Aside0.mk (Or.inl rfl), Aside0.mk (Or.inl rfl), BKq1, HB1⟩
  case round =>
    clear BKq1 HB1
    obtain ⟨i, j, hij, hjn, rfl, rfl, HI, HJ, BKq1, HB⟩ := hrel
    by_cases hlt : i < j
    · have hd : decide ((i : Int) < (j : Int)) = true := decide_eq_true (by omega)
      have hd' : decide (i < j) = true := decide_eq_true hlt
      obtain ⟨m, hm⟩ : ∃ m, (i + j) / 2 = m := ⟨_, rfl⟩
      have hm1 : i ≤ m ∧ m < j ∧ m < n := by omega
      obtain ⟨ad, hA, hcs⟩ := at_T28 (HR.out _ HB.out) (m : Int) (by omega) (by omega)
      rw [Int.toNat_natCast] at hcs
      subst hA
      have er : rd_T28 l (m : Int) = l.getD m z28 := by unfold rd_T28; rw [Int.toNat_natCast]
      rw [er] at hcs
      obtain ⟨⟨⟨xa, xb⟩, xv, xp⟩, hx⟩ : ∃ x, l.getD m z28 = x := ⟨_, rfl⟩
      simp only [hx] at hcs
      have RX := Aside0.mk (RW.out ⟨⟨xa, xb⟩, xv, xp⟩)
      simp only at RX
      obtain ⟨rs, hrs⟩ : ∃ v, riseE ⟨xa, xb⟩ ⟨pa, pb⟩ = v := ⟨_, rfl⟩
      rw [hrs] at RX
      have HX := Aside0.mk (show riseE (l.getD m z28).f0 ⟨pa, pb⟩ = rs from by rw [hx]; exact hrs)
      have CX := Aside0.mk (show ∀ W, Below wr.heap.size wr W → _ from fun W hW => And.intro (pw_cell_below hW hcs.1) (And.intro (pw_cell_below hW hcs.2.1) (And.intro (pw_cell_below hW hcs.2.2.1) (pw_cell_below hW hcs.2.2.2))))
      have es : ((i : Int) + (j : Int)) / 2 = (m : Int) := by omega
      have hmI : (m : Int) < (n : Int) := by omega
      clear er hx hrs hcs hm
      go_wp2_with (fail)
      refine start_ (n := 8) (S := fun W => Below wr.heap.size wr W) (ds := []) #[false, false, false, false, false, false, false, false] (by kernel_rfl) rfl rfl (below_drew (Below.refl wr.heap.size wr)) (fun hHeld => ?_)
      refine pure_ (i := 0) (N := some 24) (v := ?_) (a' := ?_) #[true, false, false, false, false, false, false, false] rfl rfl (by kernel_rfl) (fun _ _ _ h => h) (Or.inl ⟨by rfl, ?_⟩) ?_ ?_
      rotate_left
      · intro w'
        go_simp
        with_reducible rfl
      rotate_left
      · simp only [Act.put, List.setIfInBounds_toArray, List.set_cons_zero, List.set_cons_succ]
        rfl
      refine pure_ (i := 1) (N := some 25) (v := ?_) (a' := ?_) #[true, true, false, false, false, false, false, false] rfl rfl (by kernel_rfl) (fun _ _ _ h => h) (Or.inl ⟨by rfl, ?_⟩) ?_ ?_
      rotate_left
      · intro w'
        go_simp
        with_reducible rfl
      rotate_left
      · simp only [Act.put, List.setIfInBounds_toArray, List.set_cons_zero, List.set_cons_succ]
        rfl
      refine pure_ (i := 2) (N := some 26) (v := ?_) (a' := ?_) #[true, true, true, false, false, false, false, false] rfl rfl (by kernel_rfl) (fun _ _ _ h => h) (Or.inl ⟨by rfl, ?_⟩) ?_ ?_
      rotate_left
      · intro w'
        go_simp
        with_reducible rfl
      rotate_left
      · simp only [Act.put, List.setIfInBounds_toArray, List.set_cons_zero, List.set_cons_succ]
        rfl
      refine pure_ (i := 3) (N := some 27) (v := ?_) (a' := ?_) #[true, true, true, true, false, false, false, false] rfl rfl (by kernel_rfl) (fun _ _ _ h => h) (Or.inl ⟨by rfl, ?_⟩) ?_ ?_
      rotate_left
      · intro w'
        go_simp
        with_reducible rfl
      rotate_left
      · simp only [Act.put, List.setIfInBounds_toArray, List.set_cons_zero, List.set_cons_succ]
        rfl
      refine take_ (i := 4) (N := some 28) (v := ?_) (a' := ?_) #[true, true, true, true, true, false, false, false] rfl rfl (by kernel_rfl) (fun _ _ _ h => h) (Or.inl ⟨by rfl, ?_⟩) hHeld ?_ ?_
      rotate_left
      · intro w' s0
        obtain ⟨x0, x1, x2, x3⟩ := CX.out _ s0
        have BKt := Aside0.mk (blk_below BKq1.out s0)
        have y0 : w'.cell? ⟨q1, 0, none⟩ = some (.string pa) := (blk_cell BKt.out 0).trans rfl
        have y1 : w'.cell? ⟨q1, 1, none⟩ = some (.int .i64 pb) := (blk_cell BKt.out 1).trans rfl
        go_simp
        with_reducible rfl
      rotate_left
      · simp only [Act.put, List.setIfInBounds_toArray, List.set_cons_zero, List.set_cons_succ]
        rfl
      refine take_ (i := 5) (N := some 29) (v := ?_) (a' := ?_) #[true, true, true, true, true, true, false, false] rfl rfl (by kernel_rfl) (fun _ _ _ h => h) (Or.inl ⟨by rfl, ?_⟩) hHeld ?_ ?_
      rotate_left
      · intro w' s0
        obtain ⟨x0, x1, x2, x3⟩ := CX.out _ s0
        have BKt := Aside0.mk (blk_below BKq1.out s0)
        have y0 : w'.cell? ⟨q1, 0, none⟩ = some (.string pa) := (blk_cell BKt.out 0).trans rfl
        have y1 : w'.cell? ⟨q1, 1, none⟩ = some (.int .i64 pb) := (blk_cell BKt.out 1).trans rfl
        go_simp
        with_reducible rfl
      rotate_left
      · simp only [Act.put, List.setIfInBounds_toArray, List.set_cons_zero, List.set_cons_succ]
        rfl
      refine one_ (i := 6) (N := some 30) #[true, true, true, true, true, true, true, false] rfl rfl (by kernel_rfl) (by decide) (fun K hK => ?_)
      refine goesV_ Try.func22 (by kernel_rfl) rfl #[.agg #[.string xa, .int .i64 xb, .string xv, .int .i64 xp], .agg #[.string pa, .int .i64 pb]] (by rfl) rfl rfl (by first | rfl | go_simp) (by first | rfl | simp [Act.eval] | go_simp) ?_
      refine (RX.out _).mono ?_
      rintro e w5 ⟨rfl, hb⟩
      refine ⟨_, rfl, hK.out _ _ (hHeld.trans (hb.mono hHeld.size)) (fun hHeld => ?_)⟩
      clear hK K hb
      refine norm_ (a' := ?_) ?_ ?_
      rotate_left
      · show Act.put _ (some 30) _ = _
        simp only [Act.put, List.setIfInBounds_toArray, List.set_cons_zero, List.set_cons_succ]
        rfl
      refine pure_ (i := 7) (N := some 31) (v := ?_) (a' := ?_) #[true, true, true, true, true, true, true, true] rfl rfl (by kernel_rfl) (fun _ _ _ h => h) (Or.inl ⟨by rfl, ?_⟩) ?_ ?_
      rotate_left
      · intro w'
        go_simp
        with_reducible rfl
      rotate_left
      · simp only [Act.put, List.setIfInBounds_toArray, List.set_cons_zero, List.set_cons_succ]
        rfl
      refine done_ (by kernel_rfl) ?_
      have BKq1 := Aside0.mk (blk_below BKq1.out hHeld)
      have HB5 := Aside0.mk (HB.out.trans (hHeld.mono HB.out.size))
      clear hHeld es
      by_cases hneg : rs < 0
      · have d1 : decide (rs < 0) = true := decide_eq_true hneg
        have HN1 := Aside0.mk hneg
        go_wp2_with (fail)
        go_roundw
        case rel => exact ⟨m + 1, j, by omega, by omega, by go_num, rfl, Aside0.mk (Or.inr (by rw [Nat.add_sub_cancel, HX.out]; exact HN1.out)), HJ, BKq1, HB5⟩
        case measure => simp [intOf]; omega
      · have d1 : decide (rs < 0) = false := decide_eq_false hneg
        have HN1 := Aside0.mk hneg
        have hge : 0 ≤ rs := Int.not_lt.mp hneg
        clear hneg
        go_wp2_with (fail)
        go_roundw
        case rel => exact ⟨i, m, by omega, by omega, rfl, rfl, HI, Aside0.mk (Or.inr (by rw [HX.out]; exact Int.not_lt.mp HN1.out)), BKq1, HB5⟩
        case measure => simp [intOf]; omega
    · have hd : decide ((i : Int) < (j : Int)) = false := decide_eq_false (by omega)
      have hd' : decide (i < j) = false := decide_eq_false hlt
      obtain rfl : i = j := by omega
      by_cases hin : i < n
      · have d3 : decide ((i : Int) < (n : Int)) = true := decide_eq_true (by omega)
        have d3' : decide (i < n) = true := decide_eq_true hin
        obtain ⟨ad, hA, hcs⟩ := at_T28 (HR.out _ HB.out) (i : Int) (by omega) (by omega)
        rw [Int.toNat_natCast] at hcs
        subst hA
        have er : rd_T28 l (i : Int) = l.getD i z28 := by unfold rd_T28; rw [Int.toNat_natCast]
        rw [er] at hcs
        obtain ⟨⟨⟨xa, xb⟩, xv, xp⟩, hx⟩ : ∃ x, l.getD i z28 = x := ⟨_, rfl⟩
        simp only [hx] at hcs
        have RX := Aside0.mk (RW.out ⟨⟨xa, xb⟩, xv, xp⟩)
        simp only at RX
        obtain ⟨rs, hrs⟩ : ∃ v, riseE ⟨xa, xb⟩ ⟨pa, pb⟩ = v := ⟨_, rfl⟩
        rw [hrs] at RX
        have HX := Aside0.mk (show riseE (l.getD i z28).f0 ⟨pa, pb⟩ = rs from by rw [hx]; exact hrs)
        have CX := Aside0.mk (show ∀ W, Below wr.heap.size wr W → _ from fun W hW => And.intro (pw_cell_below hW hcs.1) (And.intro (pw_cell_below hW hcs.2.1) (And.intro (pw_cell_below hW hcs.2.2.1) (pw_cell_below hW hcs.2.2.2))))
        have hiI : (i : Int) < (n : Int) := by omega
        clear er hx hrs hcs
        go_wp2_with (fail)
        refine start_ (n := 16) (S := fun W => Below wr.heap.size wr W) (ds := []) #[false, false, false, false, false, false, false, false, false, false, false, false, false, false, false, false] (by kernel_rfl) rfl rfl (below_drew (Below.refl wr.heap.size wr)) (fun hHeld => ?_)
        refine pure_ (i := 0) (N := some 35) (v := ?_) (a' := ?_) #[true, false, false, false, false, false, false, false, false, false, false, false, false, false, false, false] rfl rfl (by kernel_rfl) (fun _ _ _ h => h) (Or.inl ⟨by rfl, ?_⟩) ?_ ?_
        rotate_left
        · intro w'
          go_simp
          with_reducible rfl
        rotate_left
        · simp only [Act.put, List.setIfInBounds_toArray, List.set_cons_zero, List.set_cons_succ]
          rfl
        refine pure_ (i := 1) (N := some 36) (v := ?_) (a' := ?_) #[true, true, false, false, false, false, false, false, false, false, false, false, false, false, false, false] rfl rfl (by kernel_rfl) (fun _ _ _ h => h) (Or.inl ⟨by rfl, ?_⟩) ?_ ?_
        rotate_left
        · intro w'
          go_simp
          with_reducible rfl
        rotate_left
        · simp only [Act.put, List.setIfInBounds_toArray, List.set_cons_zero, List.set_cons_succ]
          rfl
        refine pure_ (i := 2) (N := some 37) (v := ?_) (a' := ?_) #[true, true, true, false, false, false, false, false, false, false, false, false, false, false, false, false] rfl rfl (by kernel_rfl) (fun _ _ _ h => h) (Or.inl ⟨by rfl, ?_⟩) ?_ ?_
        rotate_left
        · intro w'
          go_simp
          with_reducible rfl
        rotate_left
        · simp only [Act.put, List.setIfInBounds_toArray, List.set_cons_zero, List.set_cons_succ]
          rfl
        refine pure_ (i := 3) (N := some 38) (v := ?_) (a' := ?_) #[true, true, true, true, false, false, false, false, false, false, false, false, false, false, false, false] rfl rfl (by kernel_rfl) (fun _ _ _ h => h) (Or.inl ⟨by rfl, ?_⟩) ?_ ?_
        rotate_left
        · intro w'
          go_simp
          with_reducible rfl
        rotate_left
        · simp only [Act.put, List.setIfInBounds_toArray, List.set_cons_zero, List.set_cons_succ]
          rfl
        refine pure_ (i := 4) (N := some 39) (v := ?_) (a' := ?_) #[true, true, true, true, true, false, false, false, false, false, false, false, false, false, false, false] rfl rfl (by kernel_rfl) (fun _ _ _ h => h) (Or.inl ⟨by rfl, ?_⟩) ?_ ?_
        rotate_left
        · intro w'
          go_simp
          with_reducible rfl
        rotate_left
        · simp only [Act.put, List.setIfInBounds_toArray, List.set_cons_zero, List.set_cons_succ]
          rfl
        refine pure_ (i := 5) (N := some 40) (v := ?_) (a' := ?_) #[true, true, true, true, true, true, false, false, false, false, false, false, false, false, false, false] rfl rfl (by kernel_rfl) (fun _ _ _ h => h) (Or.inl ⟨by rfl, ?_⟩) ?_ ?_
        rotate_left
        · intro w'
          go_simp
          with_reducible rfl
        rotate_left
        · simp only [Act.put, List.setIfInBounds_toArray, List.set_cons_zero, List.set_cons_succ]
          rfl
        refine pure_ (i := 6) (N := some 41) (v := ?_) (a' := ?_) #[true, true, true, true, true, true, true, false, false, false, false, false, false, false, false, false] rfl rfl (by kernel_rfl) (fun _ _ _ h => h) (Or.inl ⟨by rfl, ?_⟩) ?_ ?_
        rotate_left
        · intro w'
          go_simp
          with_reducible rfl
        rotate_left
        · simp only [Act.put, List.setIfInBounds_toArray, List.set_cons_zero, List.set_cons_succ]
          rfl
        refine pure_ (i := 7) (N := some 42) (v := ?_) (a' := ?_) #[true, true, true, true, true, true, true, true, false, false, false, false, false, false, false, false] rfl rfl (by kernel_rfl) (fun _ _ _ h => h) (Or.inl ⟨by rfl, ?_⟩) ?_ ?_
        rotate_left
        · intro w'
          go_simp
          with_reducible rfl
        rotate_left
        · simp only [Act.put, List.setIfInBounds_toArray, List.set_cons_zero, List.set_cons_succ]
          rfl
        refine pure_ (i := 8) (N := some 43) (v := ?_) (a' := ?_) #[true, true, true, true, true, true, true, true, true, false, false, false, false, false, false, false] rfl rfl (by kernel_rfl) (fun _ _ _ h => h) (Or.inl ⟨by rfl, ?_⟩) ?_ ?_
        rotate_left
        · intro w'
          go_simp
          with_reducible rfl
        rotate_left
        · simp only [Act.put, List.setIfInBounds_toArray, List.set_cons_zero, List.set_cons_succ]
          rfl
        refine take_ (i := 9) (N := some 44) (v := ?_) (a' := ?_) #[true, true, true, true, true, true, true, true, true, true, false, false, false, false, false, false] rfl rfl (by kernel_rfl) (fun _ _ _ h => h) (Or.inl ⟨by rfl, ?_⟩) hHeld ?_ ?_
        rotate_left
        · intro w' s0
          obtain ⟨x0, x1, x2, x3⟩ := CX.out _ s0
          have BKt := Aside0.mk (blk_below BKq1.out s0)
          have y0 : w'.cell? ⟨q1, 0, none⟩ = some (.string pa) := (blk_cell BKt.out 0).trans rfl
          have y1 : w'.cell? ⟨q1, 1, none⟩ = some (.int .i64 pb) := (blk_cell BKt.out 1).trans rfl
          go_simp
          with_reducible rfl
        rotate_left
        · simp only [Act.put, List.setIfInBounds_toArray, List.set_cons_zero, List.set_cons_succ]
          rfl
        refine take_ (i := 10) (N := some 45) (v := ?_) (a' := ?_) #[true, true, true, true, true, true, true, true, true, true, true, false, false, false, false, false] rfl rfl (by kernel_rfl) (fun _ _ _ h => h) (Or.inl ⟨by rfl, ?_⟩) hHeld ?_ ?_
        rotate_left
        · intro w' s0
          obtain ⟨x0, x1, x2, x3⟩ := CX.out _ s0
          have BKt := Aside0.mk (blk_below BKq1.out s0)
          have y0 : w'.cell? ⟨q1, 0, none⟩ = some (.string pa) := (blk_cell BKt.out 0).trans rfl
          have y1 : w'.cell? ⟨q1, 1, none⟩ = some (.int .i64 pb) := (blk_cell BKt.out 1).trans rfl
          go_simp
          with_reducible rfl
        rotate_left
        · simp only [Act.put, List.setIfInBounds_toArray, List.set_cons_zero, List.set_cons_succ]
          rfl
        refine one_ (i := 11) (N := some 46) #[true, true, true, true, true, true, true, true, true, true, true, true, false, false, false, false] rfl rfl (by kernel_rfl) (by decide) (fun K hK => ?_)
        refine goesV_ Try.func22 (by kernel_rfl) rfl #[.agg #[.string xa, .int .i64 xb, .string xv, .int .i64 xp], .agg #[.string pa, .int .i64 pb]] (by rfl) rfl rfl (by first | rfl | go_simp) (by first | rfl | simp [Act.eval] | go_simp) ?_
        refine (RX.out _).mono ?_
        rintro e w5 ⟨rfl, hb⟩
        refine ⟨_, rfl, hK.out _ _ (hHeld.trans (hb.mono hHeld.size)) (fun hHeld => ?_)⟩
        clear hK K hb
        refine norm_ (a' := ?_) ?_ ?_
        rotate_left
        · show Act.put _ (some 46) _ = _
          simp only [Act.put, List.setIfInBounds_toArray, List.set_cons_zero, List.set_cons_succ]
          rfl
        refine pure_ (i := 12) (N := some 47) (v := ?_) (a' := ?_) #[true, true, true, true, true, true, true, true, true, true, true, true, true, false, false, false] rfl rfl (by kernel_rfl) (fun _ _ _ h => h) (Or.inl ⟨by rfl, ?_⟩) ?_ ?_
        rotate_left
        · intro w'
          go_simp
          with_reducible rfl
        rotate_left
        · simp only [Act.put, List.setIfInBounds_toArray, List.set_cons_zero, List.set_cons_succ]
          rfl
        refine pure_ (i := 13) (N := some 48) (v := ?_) (a' := ?_) #[true, true, true, true, true, true, true, true, true, true, true, true, true, true, false, false] rfl rfl (by kernel_rfl) (fun _ _ _ h => h) (Or.inl ⟨by rfl, ?_⟩) ?_ ?_
        rotate_left
        · intro w'
          go_simp
          with_reducible rfl
        rotate_left
        · simp only [Act.put, List.setIfInBounds_toArray, List.set_cons_zero, List.set_cons_succ]
          rfl
        refine pure_ (i := 14) (N := some 6) (v := ?_) (a' := ?_) #[true, true, true, true, true, true, true, true, true, true, true, true, true, true, true, false] rfl rfl (by kernel_rfl) (fun _ _ _ h => h) (Or.inl ⟨by rfl, ?_⟩) ?_ ?_
        rotate_left
        · intro w'
          go_simp
          with_reducible rfl
        rotate_left
        · simp only [Act.put, List.setIfInBounds_toArray, List.set_cons_zero, List.set_cons_succ]
          rfl
        refine pure_ (i := 15) (N := some 7) (v := ?_) (a' := ?_) #[true, true, true, true, true, true, true, true, true, true, true, true, true, true, true, true] rfl rfl (by kernel_rfl) (fun _ _ _ h => h) (Or.inl ⟨by rfl, ?_⟩) ?_ ?_
        rotate_left
        · intro w'
          go_simp
          with_reducible rfl
        rotate_left
        · simp only [Act.put, List.setIfInBounds_toArray, List.set_cons_zero, List.set_cons_succ]
          rfl
        refine done_ (by kernel_rfl) ?_
        have HB5 := Aside0.mk (HB.out.trans (hHeld.mono HB.out.size))
        clear hHeld
        go_wp2_with (fail)
        go_ret2
        exact ⟨⟨i, _, rfl, by rw [HN.out]; omega, HI.out, by rw [HN.out]; exact HJ.out, by rw [HN.out, HX.out]; simp [hin]; rfl⟩, HB5.out⟩
      · have d3 : decide ((i : Int) < (n : Int)) = false := decide_eq_false (by omega)
        have d3' : decide (i < n) = false := decide_eq_false hin
        go_wp2_with (fail)
        go_quiet (fail)
        go_wp2_with (fail)
        go_ret2
        exact ⟨⟨i, _, rfl, by rw [HN.out]; omega, HI.out, by rw [HN.out]; exact HJ.out, by rw [HN.out]; simp [hin]⟩, pw_below_drewN HB.out _⟩
end Go.Proofs.Ytmedkjiabieloaa.Rt
namespace Go.Proofs.Ytmedkjiabieloaa.Rt
open Go.RowKit Go.Proofs.YtmedkjiabieloaaW.PrintWords Go.Proofs.YtmedkjiabieloaaW.PrintLast Go.Proofs.YtmedkjiabieloaaW.PrintMore Go.Proofs.Ytmedkjiabieloaa.QRd
open Go.Proofs.Ytmedkjiabieloaa
set_option linter.unusedVariables false
set_option linter.unusedSimpArgs false
theorem info28 : (Try.prog.info? 28).map (fun i => (i.zero, i.size, i.bytes)) = some (some (.agg #[.string ByteArray.empty, .int .i64 0, .string ByteArray.empty, .int .i64 0]), 4, 48) := by kernel_rfl
set_option maxHeartbeats 1600000 in
set_option maxRecDepth 100000 in
theorem clone_walk (A0 : Option Addr) (c0 : Nat) (l0 : List S28) (w : World) (hr0 : Kd.C k28 w A0 l0.length l0) (hlim : l0.length ≤ 100000) :
    Calls Try.prog 26 #[.slice A0 l0.length c0] w fun e w' => (∃ v, e = .returned v ∧ k28.R 28 w' w.heap.size (fun _ => True) v l0) ∧ Below w.heap.size w w' := by
  have HR := Aside0.mk fun (W : World) (hb : Below w.heap.size w W) => Kd.C_below hr0 hb
  have HL := Aside0.mk hlim
  have HB := Aside0.mk (Below.refl w.heap.size w)
  have hn0 := hr0.2.2
  clear hr0
  rcases A0 with _ | ad
  · have hl0 : l0 = [] := by
      rcases Nat.eq_zero_or_pos l0.length with h0 | h0
      · exact List.eq_nil_of_length_eq_zero h0
      · obtain ⟨ad, e, _⟩ := hn0 h0
        cases e
    subst hl0
    clear hn0
    have hnil := fun (W : World) => Lib.run_eql_slice_nil (P := Try.prog) W 22 28 none 0 c0 0 0 Try.underlying22
    go_enter Try.func26, Try.ntmps26
    go_wp2
    go_ret
    exact ⟨⟨_, rfl, Kd.R_nil _ _ _ _ _⟩, HB.out⟩
  · clear hn0 hlim
    have hnil := fun (W : World) => Lib.run_eql_slice_nil (P := Try.prog) W 22 28 (some ad) l0.length c0 0 0 Try.underlying22
    go_enter Try.func26, Try.ntmps26
    go_wp2_with (first | ((with_reducible refine gate_dst (N := 5) rfl ?_); refine Kd.R_lit k28 (w0 := w) w.heap.size 28 ?hg (N := 5) ?hd (xs := ([] : List S28)) (inner := []) (ok := fun _ => True) (okp := fun _ => True) ?hr ?hp (fun _ hk => hk) trivial HB.out HB.out.size (by simp) ?_; (case hd => rfl); (case hg => rfl); (case hr => first | (go_simp; done) | (go_simp; rfl)); (case hp => exact Reps.none _ _); intro v5 w5 ho hb hg_ hnew_; have HO5 := Aside0.mk ho; have HB5 := Aside0.mk hb; clear ho hb hg_ hnew_) | ((with_reducible refine gate_builtin (b := .append) (xs := #[.tmp 5, .tmp 6]) rfl ?_); at_builtin; refine Kd.R_append_rows k28 (Rr := k28.K w5) (w0 := w) w.heap.size rfl (.tmp 5) (.tmp 6) 22 28 (.agg #[.string ByteArray.empty, .int .i64 0, .string ByteArray.empty, .int .i64 0]) 48 rfl Try.underlying22 info28 rfl (by decide) (by decide) v5 [] l0 (some ad) l0.length c0 (fun _ => True) (fun _ => False) rfl rfl HO5.out ?aR (fun _ _ h => by rw [k28_open h]; exact k28_mkM _ _ _ _) (fun _ h => h.elim) (fun _ _ => trivial) HB5.out HB5.out.size ?aL ?_; (case aR => exact HR.out _ HB5.out); (case aL => have := HL.out; simp; omega); intro v6 w6 ho hb hg hat; have HO := Aside0.mk (show k28.R 28 w6 w.heap.size (fun _ => True) v6 l0 from ho); have HB6 := Aside0.mk hb; clear ho hb hg hat))
    go_ret
    exact ⟨⟨_, rfl, HO.out⟩, HB6.out⟩
/-- A table in memory: its routes, in a row that is read. -/
structure TabR (w : World) (q : Nat) (A : Option Addr) (c : Nat) (l : List S28) : Prop where
  blk : w.heap[q]? = some (.cells #[.slice A l.length c, fnV] 54 (0, 0))
  row : Kd.C k28 w A l.length l
  cap : l.length ≤ c
set_option maxHeartbeats 1600000 in
set_option maxRecDepth 100000 in
theorem list_walk (q : Nat) (A : Option Addr) (c : Nat) (l : List S28) (w : World) (h : TabR w q A c l) (hlim : l.length ≤ 100000) :
    Calls Try.prog 11 #[.pointer (some ⟨q, 0, none⟩)] w fun e w' => (∃ v, e = .returned v ∧ k28.R 28 w' w.heap.size (fun _ => True) v l) ∧ Below w.heap.size w w' := by
  have CW := Aside0.mk (clone_walk A c l w h.row hlim)
  have hc0 : w.cell? ⟨q, 0, none⟩ = some (.slice A l.length c) := (blk_cell h.blk 0).trans rfl
  clear h hlim
  go_enter Try.func11, Try.ntmps11
  go_wp2_with (fail)
  refine CW.out.mono ?_
  rintro e w2 ⟨⟨v, rfl, ho⟩, hb⟩
  have HO := Aside0.mk ho
  have HB := Aside0.mk hb
  clear ho hb hc0
  go_wp2_with (fail)
  go_ret
  exact ⟨⟨_, rfl, HO.out⟩, HB.out⟩
set_option maxHeartbeats 1600000 in
set_option maxRecDepth 100000 in
theorem list_nil (w : World) : Calls Try.prog 11 #[.pointer none] w fun e w' => e = .returned (.slice none 0 0) ∧ w' = w := by
  go_enter Try.func11, Try.ntmps11
  go_wp2_with (fail)
  go_ret
  exact ⟨rfl, rfl⟩
end Go.Proofs.Ytmedkjiabieloaa.Rt
namespace Go.Proofs.Ytmedkjiabieloaa.Rt
open Go.RowKit Go.Proofs.YtmedkjiabieloaaW.PrintWords Go.Proofs.YtmedkjiabieloaaW.PrintLast Go.Proofs.YtmedkjiabieloaaW.PrintMore Go.Proofs.Ytmedkjiabieloaa.QRd
open Go.Proofs.Ytmedkjiabieloaa
set_option linter.unusedVariables false
set_option linter.unusedSimpArgs false
theorem bytes_dec (x y : ByteArray) : (x.toList == y.toList) = decide (x = y) := by
  rw [Bool.eq_iff_iff, decide_eq_true_iff, beq_iff_eq]
  constructor
  · intro h
    rw [ByteArray.toList_eq, ByteArray.toList_eq] at h
    exact ByteArray.ext (Array.toList_inj.mp h)
  · intro h; rw [h]
/-- What In answers. -/
def inB (a p : ByteArray) (nb : Int) : Bool := decide ((maskE a nb).2 = 0) && decide ((maskE p nb).2 = 0) && decide ((maskE a nb).1 = (maskE p nb).1)
set_option maxHeartbeats 4000000 in
set_option maxRecDepth 100000 in
theorem in_walk (a p : ByteArray) (nb : Int) (w : World) (hs : a.size ≤ 140737488351232) (hp : p.size ≤ 140737488351232) :
    Calls Try.prog 16 #[.string a, .agg #[.string p, .int .i64 nb]] w fun e w' => e = .returned (.bool (inB a p nb)) ∧ Below w.heap.size w w' := by
  have MA := Aside0.mk fun (W : World) => mask_any a nb W hs
  have MP := Aside0.mk fun (W : World) => mask_any p nb W hp
  unfold inB
  obtain ⟨⟨m, er⟩, hm⟩ : ∃ x, maskE a nb = x := ⟨_, rfl⟩
  obtain ⟨⟨m', er'⟩, hm'⟩ : ∃ x, maskE p nb = x := ⟨_, rfl⟩
  rw [hm] at MA ⊢
  rw [hm'] at MP ⊢
  simp only at MA MP ⊢
  clear hs hp hm hm'
  go_enter Try.func16, Try.ntmps16
  go_wp2_with (first | ((with_reducible refine gate_dst (N := 3) rfl ?_); refine box_event ?hg (N := 3) ?hd (cs := #[.string p, .int .i64 nb]) (t := 26) ?hr ?_; (case hd => rfl); (case hg => rfl); (case hr => first | (go_simp; done) | (go_simp; rfl)); intro q1 hq w1 hbox hb; have BKq1 := Aside0.mk hbox; have HB1 := Aside0.mk hb; clear hbox hb hq; have z0 : w1.cell? ⟨q1, 0, none⟩ = some (.string p) := (blk_cell BKq1.out 0).trans rfl; have z1 : w1.cell? ⟨q1, 1, none⟩ = some (.int .i64 nb) := (blk_cell BKq1.out 1).trans rfl))
  refine (MA.out _).mono ?_
  rintro e w3 ⟨rfl, hb⟩
  have BKq1 := Aside0.mk (blk_below BKq1.out hb)
  have HB3 := Aside0.mk (HB1.out.trans (hb.mono HB1.out.size))
  clear hb z0 z1 HB1
  have z0 : w3.cell? ⟨q1, 0, none⟩ = some (.string p) := (blk_cell BKq1.out 0).trans rfl
  have z1 : w3.cell? ⟨q1, 1, none⟩ = some (.int .i64 nb) := (blk_cell BKq1.out 1).trans rfl
  go_wp2_with (fail)
  refine (MP.out _).mono ?_
  rintro e w4 ⟨rfl, hb⟩
  have HB4 := Aside0.mk (HB3.out.trans (hb.mono HB3.out.size))
  clear hb z0 z1
  go_wp2_with (fail)
  all_goals go_ret
  · rename_i h1 h2
    refine ⟨?_, HB4.out⟩
    show Ending.returned (Value.bool (m.toList == m'.toList)) = _
    rw [bytes_dec, decide_eq_true h1, decide_eq_true h2]
    rfl
  · rename_i h1 h2
    refine ⟨?_, HB4.out⟩
    rw [decide_eq_false h2]
    simp
  · rename_i h1
    refine ⟨?_, HB4.out⟩
    rw [decide_eq_false h1]
    rfl
end Go.Proofs.Ytmedkjiabieloaa.Rt
namespace Go.Proofs.Ytmedkjiabieloaa.Rt
open Go.RowKit Go.Proofs.YtmedkjiabieloaaW.PrintWords Go.Proofs.YtmedkjiabieloaaW.PrintLast Go.Proofs.YtmedkjiabieloaaW.PrintMore Go.Proofs.Ytmedkjiabieloaa.QRd
open Go.Proofs.Ytmedkjiabieloaa
set_option linter.unusedVariables false
set_option linter.unusedSimpArgs false
theorem size28 : (Try.prog.info? 28).map (·.size) = some 4 := by kernel_rfl
/-- The value of a route. -/
def v28 (x : S28) : Value := .agg #[.string x.f0.f0, .int .i64 x.f0.f1, .string x.f1, .int .i64 x.f2]
/-- No route begins so. -/
def Miss (l : List S28) (d : ByteArray) (b : Int) : Prop := ∃ i, BsP l ⟨(maskE d b).1, b⟩ i false
/-- What Find answers. -/
def FindP (l : List S28) (d : ByteArray) (r : S28) (er : Int) : Prop :=
  (d.size ≠ 4 ∧ d.size ≠ 16 ∧ r = z28 ∧ er = 1) ∨
  ((d.size = 4 ∨ d.size = 16) ∧ ((∃ (b : Int) (i : Nat), 0 ≤ b ∧ b ≤ 8 * d.size ∧ BsP l ⟨(maskE d b).1, b⟩ i true ∧ r = l.getD i z28 ∧ er = 0 ∧ ∀ b' : Int, b < b' → b' ≤ 8 * d.size → Miss l d b') ∨ (r = z28 ∧ er = 182 ∧ ∀ b' : Int, 0 ≤ b' → b' ≤ 8 * d.size → Miss l d b')))
set_option maxHeartbeats 1600000 in
set_option maxRecDepth 100000 in
theorem find_walk (q : Nat) (A : Option Addr) (c : Nat) (l : List S28) (d : ByteArray) (w : World) (h : TabR w q A c l) (hlim : l.length ≤ 100000) :
    Calls Try.prog 15 #[.pointer (some ⟨q, 0, none⟩), .string d] w fun e w' => (∃ r er, e = .returned (.tuple #[v28 r, .int .i64 er]) ∧ FindP l d r er) ∧ Below w.heap.size w w' := by
  have TB := Aside0.mk fun (W : World) (hb : Below w.heap.size w W) => And.intro ((blk_cell (blk_below h.blk hb) 0).trans rfl) ((blk_cell (blk_below h.blk hb) 1).trans rfl)
  have HR := Aside0.mk fun (W : World) (hb : Below w.heap.size w W) => Kd.C_below h.row hb
  have BW := Aside0.mk fun (p : S26) (W : World) (hb : Below w.heap.size w W) => bs_walk A c l p W (Kd.C_below h.row hb) h.cap hlim
  obtain ⟨n, hn⟩ : ∃ n, l.length = n := ⟨_, rfl⟩
  have HN := Aside0.mk hn
  rw [hn] at TB HR hlim
  simp only [hn] at BW
  clear h hn
  have TB := Aside0.mk (show ∀ W, Below w.heap.size w W → W.cell? ⟨q, 0, none⟩ = some (.slice A n c) ∧ W.cell? ⟨q, 1, none⟩ = some fnV from TB.out)
  obtain ⟨k, hk⟩ : ∃ k, d.size = k := ⟨_, rfl⟩
  have HK := Aside0.mk hk
  by_cases hs : k = 4 ∨ k = 16
  · have PW := Aside0.mk fun (nb : Int) (W : World) => prefix_walk d nb W (by omega)
    have HS := Aside0.mk hs
    have hkI : (d.size : Int) = (k : Int) := by rw [hk]
    have ht0 := (TB.out w (Below.refl _ _)).1
    clear hk
    rcases hs with hs | hs
    · have hsI : (k : Int) = 4 := by omega
      clear hs
      go_enter Try.func15, Try.ntmps15
      go_wp2_with (first | ((with_reducible refine gate_dst (N := 4) rfl ?_); refine box_event ?hg (N := 4) ?hd (cs := #[.string ByteArray.empty, .int .i64 0, .string ByteArray.empty, .int .i64 0]) (t := 28) ?hr ?_; (case hd => rfl); (case hg => rfl); (case hr => first | (go_simp; done) | (go_simp; rfl)); intro q1 hq w1 hbox hb; have BKq1 := Aside0.mk hbox; have HQq1 := Aside0.mk (show w.heap.size ≤ q1 from by rw [hq]; exact Nat.le_refl _); have HB1 := Aside0.mk hb; clear hbox hb hq))
      have hk16 : (k : Int) ≤ 16 := by omega
      clear ht0
      go_loopw [6] (fun bv wr => ∃ nb : Int, -1 ≤ nb ∧ nb ≤ 8 * (k : Int) ∧ bv = .int .i64 nb ∧ Aside0 (∀ b', nb < b' → b' ≤ 8 * (k : Int) → Miss l d b') ∧ Aside0 (wr.heap[q1]? = some (.cells #[.string ByteArray.empty, .int .i64 0, .string ByteArray.empty, .int .i64 0] 28 (0, 0))) ∧ Aside0 (Below w.heap.size w wr)) (fun bv _ => ((intOf bv) + 1).toNat)
      case atStart => exact ⟨8 * (k : Int), by omega, by omega, by go_num, Aside0.mk (fun b' h1 h2 => absurd h1 (by omega)), BKq1, HB1⟩
      case round =>
        clear BKq1 HB1
        obtain ⟨nb, hb1, hb2, rfl, HM, BKq1, HB2⟩ := hrel
        obtain ⟨m, hm⟩ : ∃ m, (maskE d nb).1 = m := ⟨_, rfl⟩
        obtain ⟨er, her⟩ : ∃ er, (maskE d nb).2 = er := ⟨_, rfl⟩
        have HMm := Aside0.mk hm
        have PN := Aside0.mk (PW.out nb)
        rw [hm, her] at PN
        clear hm her
        by_cases hge : 0 ≤ nb
        · go_wp2_with (fail)
          refine (PN.out _).mono ?_
          rintro e w3 ⟨rfl, hb⟩
          have BKq1 := Aside0.mk (blk_below BKq1.out hb)
          have HB3 := Aside0.mk (HB2.out.trans (hb.mono HB2.out.size))
          clear hb PN
          go_wp2_with (first | ((with_reducible refine gate_dst (N := 7) rfl ?_); refine box_event ?hg (N := 7) ?hd (cs := #[.string ByteArray.empty, .int .i64 0]) (t := 26) ?hr ?_; (case hd => rfl); (case hg => rfl); (case hr => first | (go_simp; done) | (go_simp; rfl)); intro q2 hq w4 hbox hb; have HNq1q2 := Aside0.mk (show q1 ≠ q2 from by have := blk_lt BKq1.out; omega); have BKq1 := Aside0.mk (blk_below BKq1.out hb); have BKq2 := Aside0.mk hbox; have HQq2 := Aside0.mk (show w.heap.size ≤ q2 from by rw [hq]; exact HB3.out.size); have HB4 := Aside0.mk (HB3.out.trans (hb.mono HB3.out.size)); clear hbox hb hq) | ((with_reducible refine gate_store (t := 26) (p := 7) rfl ?_); have ca0 : w4.cell? ⟨q2, 0, none⟩ = some (.string ByteArray.empty) := (blk_cell BKq2.out 0).trans rfl; have ca1 : w4.cell? ⟨q2, 1, none⟩ = some (.int .i64 0) := (blk_cell BKq2.out 1).trans rfl; have fa0 : w4.frozen? ⟨q2, 0, none⟩ = false := blk_frozen BKq2.out 0; have fa1 : w4.frozen? ⟨q2, 1, none⟩ = false := blk_frozen BKq2.out 1; refine store_event (t := 26) (p := 7) (v := ?vo7_5_1) (w1 := Cells.setAll w4 q2 0 [.string m, .int .i64 nb]) ?hg ?ho ?hn ?hr ?_; (case ho => rfl); (case hg => rfl); (case hn => rfl); (case hr => first | (go_simp; done) | (go_simp; rfl)); intro w5 hw; have BKq1 := Aside0.mk (show w5.heap[q1]? = _ from (congrArg (fun W : World => W.heap[q1]?) hw).trans ((Cells.setAll_far HNq1q2.out _ _ _).trans BKq1.out)); have HB5 := Aside0.mk (show Below w.heap.size w w5 from by rw [hw]; exact Cells.setAll_below HQq2.out _ _ _ HB4.out); have BKq2 := Aside0.mk (show w5.heap[q2]? = some (.cells #[.string m, .int .i64 nb] 26 (0, 0)) from by rw [hw]; exact Cells.stored2 BKq2.out); clear ca0 ca1 fa0 fa1; clear hw))
          refine start_ (n := 15) (S := fun W => Below w5.heap.size w5 W) (ds := []) #[false, false, false, false, false, false, false, false, false, false, false, false, false, false, false] (by kernel_rfl) rfl rfl (below_drew (Below.refl w5.heap.size w5)) (fun hHeld => ?_)
          refine pure_ (i := 0) (N := some 40) (v := ?_) (a' := ?_) #[true, false, false, false, false, false, false, false, false, false, false, false, false, false, false] rfl rfl (by kernel_rfl) (fun _ _ _ h => h) (Or.inl ⟨by rfl, ?_⟩) ?_ ?_
          rotate_left
          · intro w'
            go_simp
            with_reducible rfl
          rotate_left
          · simp only [Act.put, List.setIfInBounds_toArray, List.set_cons_zero, List.set_cons_succ]
            rfl
          refine pure_ (i := 1) (N := some 41) (v := ?_) (a' := ?_) #[true, true, false, false, false, false, false, false, false, false, false, false, false, false, false] rfl rfl (by kernel_rfl) (fun _ _ _ h => h) (Or.inl ⟨by rfl, ?_⟩) ?_ ?_
          rotate_left
          · intro w'
            go_simp
            with_reducible rfl
          rotate_left
          · simp only [Act.put, List.setIfInBounds_toArray, List.set_cons_zero, List.set_cons_succ]
            rfl
          refine pure_ (i := 2) (N := some 42) (v := ?_) (a' := ?_) #[true, true, true, false, false, false, false, false, false, false, false, false, false, false, false] rfl rfl (by kernel_rfl) (fun _ _ _ h => h) (Or.inl ⟨by rfl, ?_⟩) ?_ ?_
          rotate_left
          · intro w'
            go_simp
            with_reducible rfl
          rotate_left
          · simp only [Act.put, List.setIfInBounds_toArray, List.set_cons_zero, List.set_cons_succ]
            rfl
          refine take_ (i := 3) (N := some 43) (v := ?_) (a' := ?_) #[true, true, true, true, false, false, false, false, false, false, false, false, false, false, false] rfl rfl (by kernel_rfl) (fun _ _ _ h => h) (Or.inl ⟨by rfl, ?_⟩) hHeld ?_ ?_
          rotate_left
          · intro w' s0
            obtain ⟨x0, x1⟩ := TB.out _ (HB5.out.trans (s0.mono HB5.out.size))
            have BKt := Aside0.mk (blk_below BKq2.out s0)
            have y0 : w'.cell? ⟨q2, 0, none⟩ = some (.string m) := (blk_cell BKt.out 0).trans rfl
            have y1 : w'.cell? ⟨q2, 1, none⟩ = some (.int .i64 nb) := (blk_cell BKt.out 1).trans rfl
            go_simp
            with_reducible rfl
          rotate_left
          · simp only [Act.put, List.setIfInBounds_toArray, List.set_cons_zero, List.set_cons_succ]
            rfl
          refine take_ (i := 4) (N := some 44) (v := ?_) (a' := ?_) #[true, true, true, true, true, false, false, false, false, false, false, false, false, false, false] rfl rfl (by kernel_rfl) (fun _ _ _ h => h) (Or.inl ⟨by rfl, ?_⟩) hHeld ?_ ?_
          rotate_left
          · intro w' s0
            obtain ⟨x0, x1⟩ := TB.out _ (HB5.out.trans (s0.mono HB5.out.size))
            have BKt := Aside0.mk (blk_below BKq2.out s0)
            have y0 : w'.cell? ⟨q2, 0, none⟩ = some (.string m) := (blk_cell BKt.out 0).trans rfl
            have y1 : w'.cell? ⟨q2, 1, none⟩ = some (.int .i64 nb) := (blk_cell BKt.out 1).trans rfl
            go_simp
            with_reducible rfl
          rotate_left
          · simp only [Act.put, List.setIfInBounds_toArray, List.set_cons_zero, List.set_cons_succ]
            rfl
          refine pure_ (i := 5) (N := some 45) (v := ?_) (a' := ?_) #[true, true, true, true, true, true, false, false, false, false, false, false, false, false, false] rfl rfl (by kernel_rfl) (fun _ _ _ h => h) (Or.inl ⟨by rfl, ?_⟩) ?_ ?_
          rotate_left
          · intro w'
            go_simp
            with_reducible rfl
          rotate_left
          · simp only [Act.put, List.setIfInBounds_toArray, List.set_cons_zero, List.set_cons_succ]
            rfl
          refine pure_ (i := 6) (N := some 46) (v := ?_) (a' := ?_) #[true, true, true, true, true, true, true, false, false, false, false, false, false, false, false] rfl rfl (by kernel_rfl) (fun _ _ _ h => h) (Or.inl ⟨by rfl, ?_⟩) ?_ ?_
          rotate_left
          · intro w'
            go_simp
            with_reducible rfl
          rotate_left
          · simp only [Act.put, List.setIfInBounds_toArray, List.set_cons_zero, List.set_cons_succ]
            rfl
          refine pure_ (i := 7) (N := some 47) (v := ?_) (a' := ?_) #[true, true, true, true, true, true, true, true, false, false, false, false, false, false, false] rfl rfl (by kernel_rfl) (fun _ _ _ h => h) (Or.inl ⟨by rfl, ?_⟩) ?_ ?_
          rotate_left
          · intro w'
            go_simp
            with_reducible rfl
          rotate_left
          · simp only [Act.put, List.setIfInBounds_toArray, List.set_cons_zero, List.set_cons_succ]
            rfl
          refine take_ (i := 8) (N := some 48) (v := ?_) (a' := ?_) #[true, true, true, true, true, true, true, true, true, false, false, false, false, false, false] rfl rfl (by kernel_rfl) (fun _ _ _ h => h) (Or.inl ⟨by rfl, ?_⟩) hHeld ?_ ?_
          rotate_left
          · intro w' s0
            obtain ⟨x0, x1⟩ := TB.out _ (HB5.out.trans (s0.mono HB5.out.size))
            have BKt := Aside0.mk (blk_below BKq2.out s0)
            have y0 : w'.cell? ⟨q2, 0, none⟩ = some (.string m) := (blk_cell BKt.out 0).trans rfl
            have y1 : w'.cell? ⟨q2, 1, none⟩ = some (.int .i64 nb) := (blk_cell BKt.out 1).trans rfl
            go_simp
            with_reducible rfl
          rotate_left
          · simp only [Act.put, List.setIfInBounds_toArray, List.set_cons_zero, List.set_cons_succ]
            rfl
          refine one_ (i := 9) (N := some 49) #[true, true, true, true, true, true, true, true, true, true, false, false, false, false, false] rfl rfl (by kernel_rfl) (by decide) (fun K hK => ?_)
          refine goesV_ Try.func24 (by kernel_rfl) rfl #[.slice A n c, .agg #[.string m, .int .i64 nb], fnV] (by rfl) rfl rfl (by first | rfl | go_simp) (by first | rfl | simp [Act.eval] | go_simp) ?_
          refine (BW.out ⟨m, nb⟩ _ (HB5.out.trans (hHeld.mono HB5.out.size))).mono ?_
          rintro e w6 ⟨⟨bi, bb, rfl, hbs⟩, hb⟩
          refine ⟨_, rfl, hK.out _ _ (hHeld.trans (hb.mono hHeld.size)) (fun hHeld => ?_)⟩
          clear hK K hb
          refine norm_ (a' := ?_) ?_ ?_
          rotate_left
          · show Act.put _ (some 49) _ = _
            simp only [Act.put, List.setIfInBounds_toArray, List.set_cons_zero, List.set_cons_succ]
            rfl
          refine pure_ (i := 10) (N := some 39) (v := ?_) (a' := ?_) #[true, true, true, true, true, true, true, true, true, true, true, false, false, false, false] rfl rfl (by kernel_rfl) (fun _ _ _ h => h) (Or.inl ⟨by rfl, ?_⟩) ?_ ?_
          rotate_left
          · intro w'
            go_simp
            with_reducible rfl
          rotate_left
          · simp only [Act.put, List.setIfInBounds_toArray, List.set_cons_zero, List.set_cons_succ]
            rfl
          refine pure_ (i := 11) (N := some 50) (v := ?_) (a' := ?_) #[true, true, true, true, true, true, true, true, true, true, true, true, false, false, false] rfl rfl (by kernel_rfl) (fun _ _ _ h => h) (Or.inl ⟨by rfl, ?_⟩) ?_ ?_
          rotate_left
          · intro w'
            go_simp
            with_reducible rfl
          rotate_left
          · simp only [Act.put, List.setIfInBounds_toArray, List.set_cons_zero, List.set_cons_succ]
            rfl
          refine pure_ (i := 12) (N := some 51) (v := ?_) (a' := ?_) #[true, true, true, true, true, true, true, true, true, true, true, true, true, false, false] rfl rfl (by kernel_rfl) (fun _ _ _ h => h) (Or.inl ⟨by rfl, ?_⟩) ?_ ?_
          rotate_left
          · intro w'
            go_simp
            with_reducible rfl
          rotate_left
          · simp only [Act.put, List.setIfInBounds_toArray, List.set_cons_zero, List.set_cons_succ]
            rfl
          refine pure_ (i := 13) (N := some 9) (v := ?_) (a' := ?_) #[true, true, true, true, true, true, true, true, true, true, true, true, true, true, false] rfl rfl (by kernel_rfl) (fun _ _ _ h => h) (Or.inl ⟨by rfl, ?_⟩) ?_ ?_
          rotate_left
          · intro w'
            go_simp
            with_reducible rfl
          rotate_left
          · simp only [Act.put, List.setIfInBounds_toArray, List.set_cons_zero, List.set_cons_succ]
            rfl
          refine pure_ (i := 14) (N := some 10) (v := ?_) (a' := ?_) #[true, true, true, true, true, true, true, true, true, true, true, true, true, true, true] rfl rfl (by kernel_rfl) (fun _ _ _ h => h) (Or.inl ⟨by rfl, ?_⟩) ?_ ?_
          rotate_left
          · intro w'
            go_simp
            with_reducible rfl
          rotate_left
          · simp only [Act.put, List.setIfInBounds_toArray, List.set_cons_zero, List.set_cons_succ]
            rfl
          refine done_ (by kernel_rfl) ?_
          have BKq1 := Aside0.mk (blk_below BKq1.out hHeld)
          have HB6 := Aside0.mk (HB5.out.trans (hHeld.mono HB5.out.size))
          clear hHeld
          have HBS := Aside0.mk hbs
          clear hbs
          cases bb
          · go_wp2_with (fail)
            go_roundw
            case rel => exact ⟨nb - 1, by omega, by omega, by go_num, Aside0.mk (fun b' h1 h2 => (Int.lt_or_eq_of_le (show nb ≤ b' by omega)).elim (fun h3 => HM.out b' h3 h2) (fun h3 => h3 ▸ ⟨bi, by rw [HMm.out]; exact HBS.out⟩)), BKq1, HB6⟩
            case measure => simp [intOf]; omega
          · have hbi : bi < n := by
              have h0 := HBS.out.2.2.2
              rw [eq_comm, decide_eq_true_iff] at h0
              have h1 := h0.1
              rw [HN.out] at h1
              exact h1
            have hbiI : (bi : Int) < (n : Int) := by omega
            obtain ⟨ad, hA, hcs⟩ := at_T28 (HR.out _ HB6.out) (bi : Int) (by omega) (by omega)
            rw [Int.toNat_natCast] at hcs
            have er8 : rd_T28 l (bi : Int) = l.getD bi z28 := by unfold rd_T28; rw [Int.toNat_natCast]
            rw [er8] at hcs
            obtain ⟨⟨⟨xa, xb⟩, xv, xp⟩, hx⟩ : ∃ x, l.getD bi z28 = x := ⟨_, rfl⟩
            have HX := Aside0.mk hx
            have ht0 := (TB.out _ HB6.out).1
            subst hA
            simp only [hx] at hcs
            obtain ⟨x0, x1, x2, x3⟩ := hcs
            clear hx er8 hbi
            go_wp2_with (first | ((with_reducible refine gate_store (t := 28) (p := 4) rfl ?_); have ca0 : w6.cell? ⟨q1, 0, none⟩ = some (.string ByteArray.empty) := (blk_cell BKq1.out 0).trans rfl; have ca1 : w6.cell? ⟨q1, 1, none⟩ = some (.int .i64 0) := (blk_cell BKq1.out 1).trans rfl; have ca2 : w6.cell? ⟨q1, 2, none⟩ = some (.string ByteArray.empty) := (blk_cell BKq1.out 2).trans rfl; have ca3 : w6.cell? ⟨q1, 3, none⟩ = some (.int .i64 0) := (blk_cell BKq1.out 3).trans rfl; have fa0 : w6.frozen? ⟨q1, 0, none⟩ = false := blk_frozen BKq1.out 0; have fa1 : w6.frozen? ⟨q1, 1, none⟩ = false := blk_frozen BKq1.out 1; have fa2 : w6.frozen? ⟨q1, 2, none⟩ = false := blk_frozen BKq1.out 2; have fa3 : w6.frozen? ⟨q1, 3, none⟩ = false := blk_frozen BKq1.out 3; refine store_event (t := 28) (p := 4) (v := ?vo4_7_2) (w1 := Cells.setAll w6 q1 0 [.string xa, .int .i64 xb, .string xv, .int .i64 xp]) ?hg ?ho ?hn ?hr ?_; (case ho => rfl); (case hg => rfl); (case hn => rfl); (case hr => first | (go_simp; done) | (go_simp; rfl)); intro w7 hw; have HB7 := Aside0.mk (show Below w.heap.size w w7 from by rw [hw]; exact Cells.setAll_below HQq1.out _ _ _ HB6.out); have BKq1 := Aside0.mk (show w7.heap[q1]? = some (.cells #[.string xa, .int .i64 xb, .string xv, .int .i64 xp] 28 (0, 0)) from by rw [hw]; exact Cells.stored4 BKq1.out); clear ca0 ca1 ca2 ca3 fa0 fa1 fa2 fa3; clear hw))
            (try simp only [Exit.inBlock, Exit.then])
            refine bodyPost_ret (results_ct rfl _ _ q1 28 _ (0, 0) _ rfl BKq1.out Try.underlying28 rfl size28) rfl ?_
            exact ⟨⟨_, _, rfl, Or.inr ⟨by rw [HK.out]; exact HS.out, Or.inl ⟨nb, bi, hge, by rw [HK.out]; exact hb2, by rw [HMm.out]; exact HBS.out, HX.out.symm, rfl, fun b' h1 h2 => HM.out b' h1 (by rw [HK.out] at h2; exact h2)⟩⟩⟩, HB7.out⟩
        · clear PN
          go_wp2_with (first | ((with_reducible refine gate_store (t := 28) (p := 4) rfl ?_); have ca0 : wr.cell? ⟨q1, 0, none⟩ = some (.string ByteArray.empty) := (blk_cell BKq1.out 0).trans rfl; have ca1 : wr.cell? ⟨q1, 1, none⟩ = some (.int .i64 0) := (blk_cell BKq1.out 1).trans rfl; have ca2 : wr.cell? ⟨q1, 2, none⟩ = some (.string ByteArray.empty) := (blk_cell BKq1.out 2).trans rfl; have ca3 : wr.cell? ⟨q1, 3, none⟩ = some (.int .i64 0) := (blk_cell BKq1.out 3).trans rfl; have fa0 : wr.frozen? ⟨q1, 0, none⟩ = false := blk_frozen BKq1.out 0; have fa1 : wr.frozen? ⟨q1, 1, none⟩ = false := blk_frozen BKq1.out 1; have fa2 : wr.frozen? ⟨q1, 2, none⟩ = false := blk_frozen BKq1.out 2; have fa3 : wr.frozen? ⟨q1, 3, none⟩ = false := blk_frozen BKq1.out 3; refine store_event (t := 28) (p := 4) (v := ?vo4_7_3) (w1 := Cells.setAll wr q1 0 [.string ByteArray.empty, .int .i64 0, .string ByteArray.empty, .int .i64 0]) ?hg ?ho ?hn ?hr ?_; (case ho => rfl); (case hg => rfl); (case hn => rfl); (case hr => first | (go_simp; done) | (go_simp; rfl)); intro w7 hw; have HB7 := Aside0.mk (show Below w.heap.size w w7 from by rw [hw]; exact Cells.setAll_below HQq1.out _ _ _ HB2.out); have BKq1 := Aside0.mk (show w7.heap[q1]? = some (.cells #[.string ByteArray.empty, .int .i64 0, .string ByteArray.empty, .int .i64 0] 28 (0, 0)) from by rw [hw]; exact Cells.stored4 BKq1.out); clear ca0 ca1 ca2 ca3 fa0 fa1 fa2 fa3; clear hw))
          (try simp only [Exit.inBlock, Exit.then])
          refine bodyPost_ret (results_ct rfl _ _ q1 28 _ (0, 0) _ rfl BKq1.out Try.underlying28 rfl size28) rfl ?_
          exact ⟨⟨_, _, rfl, Or.inr ⟨by rw [HK.out]; exact HS.out, Or.inr ⟨rfl, rfl, fun b' h1 h2 => HM.out b' (by omega) (by rw [HK.out] at h2; exact h2)⟩⟩⟩, HB7.out⟩
    · have hsI : (k : Int) = 16 := by omega
      clear hs
      go_enter Try.func15, Try.ntmps15
      go_wp2_with (first | ((with_reducible refine gate_dst (N := 4) rfl ?_); refine box_event ?hg (N := 4) ?hd (cs := #[.string ByteArray.empty, .int .i64 0, .string ByteArray.empty, .int .i64 0]) (t := 28) ?hr ?_; (case hd => rfl); (case hg => rfl); (case hr => first | (go_simp; done) | (go_simp; rfl)); intro q1 hq w1 hbox hb; have BKq1 := Aside0.mk hbox; have HQq1 := Aside0.mk (show w.heap.size ≤ q1 from by rw [hq]; exact Nat.le_refl _); have HB1 := Aside0.mk hb; clear hbox hb hq))
      have hk16 : (k : Int) ≤ 16 := by omega
      clear ht0
      go_loopw [6] (fun bv wr => ∃ nb : Int, -1 ≤ nb ∧ nb ≤ 8 * (k : Int) ∧ bv = .int .i64 nb ∧ Aside0 (∀ b', nb < b' → b' ≤ 8 * (k : Int) → Miss l d b') ∧ Aside0 (wr.heap[q1]? = some (.cells #[.string ByteArray.empty, .int .i64 0, .string ByteArray.empty, .int .i64 0] 28 (0, 0))) ∧ Aside0 (Below w.heap.size w wr)) (fun bv _ => ((intOf bv) + 1).toNat)
      case atStart => exact ⟨8 * (k : Int), by omega, by omega, by go_num, Aside0.mk (fun b' h1 h2 => absurd h1 (by omega)), BKq1, HB1⟩
      case round =>
        clear BKq1 HB1
        obtain ⟨nb, hb1, hb2, rfl, HM, BKq1, HB2⟩ := hrel
        obtain ⟨m, hm⟩ : ∃ m, (maskE d nb).1 = m := ⟨_, rfl⟩
        obtain ⟨er, her⟩ : ∃ er, (maskE d nb).2 = er := ⟨_, rfl⟩
        have HMm := Aside0.mk hm
        have PN := Aside0.mk (PW.out nb)
        rw [hm, her] at PN
        clear hm her
        by_cases hge : 0 ≤ nb
        · go_wp2_with (fail)
          refine (PN.out _).mono ?_
          rintro e w3 ⟨rfl, hb⟩
          have BKq1 := Aside0.mk (blk_below BKq1.out hb)
          have HB3 := Aside0.mk (HB2.out.trans (hb.mono HB2.out.size))
          clear hb PN
          go_wp2_with (first | ((with_reducible refine gate_dst (N := 7) rfl ?_); refine box_event ?hg (N := 7) ?hd (cs := #[.string ByteArray.empty, .int .i64 0]) (t := 26) ?hr ?_; (case hd => rfl); (case hg => rfl); (case hr => first | (go_simp; done) | (go_simp; rfl)); intro q2 hq w4 hbox hb; have HNq1q2 := Aside0.mk (show q1 ≠ q2 from by have := blk_lt BKq1.out; omega); have BKq1 := Aside0.mk (blk_below BKq1.out hb); have BKq2 := Aside0.mk hbox; have HQq2 := Aside0.mk (show w.heap.size ≤ q2 from by rw [hq]; exact HB3.out.size); have HB4 := Aside0.mk (HB3.out.trans (hb.mono HB3.out.size)); clear hbox hb hq) | ((with_reducible refine gate_store (t := 26) (p := 7) rfl ?_); have ca0 : w4.cell? ⟨q2, 0, none⟩ = some (.string ByteArray.empty) := (blk_cell BKq2.out 0).trans rfl; have ca1 : w4.cell? ⟨q2, 1, none⟩ = some (.int .i64 0) := (blk_cell BKq2.out 1).trans rfl; have fa0 : w4.frozen? ⟨q2, 0, none⟩ = false := blk_frozen BKq2.out 0; have fa1 : w4.frozen? ⟨q2, 1, none⟩ = false := blk_frozen BKq2.out 1; refine store_event (t := 26) (p := 7) (v := ?vo7_5_1) (w1 := Cells.setAll w4 q2 0 [.string m, .int .i64 nb]) ?hg ?ho ?hn ?hr ?_; (case ho => rfl); (case hg => rfl); (case hn => rfl); (case hr => first | (go_simp; done) | (go_simp; rfl)); intro w5 hw; have BKq1 := Aside0.mk (show w5.heap[q1]? = _ from (congrArg (fun W : World => W.heap[q1]?) hw).trans ((Cells.setAll_far HNq1q2.out _ _ _).trans BKq1.out)); have HB5 := Aside0.mk (show Below w.heap.size w w5 from by rw [hw]; exact Cells.setAll_below HQq2.out _ _ _ HB4.out); have BKq2 := Aside0.mk (show w5.heap[q2]? = some (.cells #[.string m, .int .i64 nb] 26 (0, 0)) from by rw [hw]; exact Cells.stored2 BKq2.out); clear ca0 ca1 fa0 fa1; clear hw))
          refine start_ (n := 15) (S := fun W => Below w5.heap.size w5 W) (ds := []) #[false, false, false, false, false, false, false, false, false, false, false, false, false, false, false] (by kernel_rfl) rfl rfl (below_drew (Below.refl w5.heap.size w5)) (fun hHeld => ?_)
          refine pure_ (i := 0) (N := some 40) (v := ?_) (a' := ?_) #[true, false, false, false, false, false, false, false, false, false, false, false, false, false, false] rfl rfl (by kernel_rfl) (fun _ _ _ h => h) (Or.inl ⟨by rfl, ?_⟩) ?_ ?_
          rotate_left
          · intro w'
            go_simp
            with_reducible rfl
          rotate_left
          · simp only [Act.put, List.setIfInBounds_toArray, List.set_cons_zero, List.set_cons_succ]
            rfl
          refine pure_ (i := 1) (N := some 41) (v := ?_) (a' := ?_) #[true, true, false, false, false, false, false, false, false, false, false, false, false, false, false] rfl rfl (by kernel_rfl) (fun _ _ _ h => h) (Or.inl ⟨by rfl, ?_⟩) ?_ ?_
          rotate_left
          · intro w'
            go_simp
            with_reducible rfl
          rotate_left
          · simp only [Act.put, List.setIfInBounds_toArray, List.set_cons_zero, List.set_cons_succ]
            rfl
          refine pure_ (i := 2) (N := some 42) (v := ?_) (a' := ?_) #[true, true, true, false, false, false, false, false, false, false, false, false, false, false, false] rfl rfl (by kernel_rfl) (fun _ _ _ h => h) (Or.inl ⟨by rfl, ?_⟩) ?_ ?_
          rotate_left
          · intro w'
            go_simp
            with_reducible rfl
          rotate_left
          · simp only [Act.put, List.setIfInBounds_toArray, List.set_cons_zero, List.set_cons_succ]
            rfl
          refine take_ (i := 3) (N := some 43) (v := ?_) (a' := ?_) #[true, true, true, true, false, false, false, false, false, false, false, false, false, false, false] rfl rfl (by kernel_rfl) (fun _ _ _ h => h) (Or.inl ⟨by rfl, ?_⟩) hHeld ?_ ?_
          rotate_left
          · intro w' s0
            obtain ⟨x0, x1⟩ := TB.out _ (HB5.out.trans (s0.mono HB5.out.size))
            have BKt := Aside0.mk (blk_below BKq2.out s0)
            have y0 : w'.cell? ⟨q2, 0, none⟩ = some (.string m) := (blk_cell BKt.out 0).trans rfl
            have y1 : w'.cell? ⟨q2, 1, none⟩ = some (.int .i64 nb) := (blk_cell BKt.out 1).trans rfl
            go_simp
            with_reducible rfl
          rotate_left
          · simp only [Act.put, List.setIfInBounds_toArray, List.set_cons_zero, List.set_cons_succ]
            rfl
          refine take_ (i := 4) (N := some 44) (v := ?_) (a' := ?_) #[true, true, true, true, true, false, false, false, false, false, false, false, false, false, false] rfl rfl (by kernel_rfl) (fun _ _ _ h => h) (Or.inl ⟨by rfl, ?_⟩) hHeld ?_ ?_
          rotate_left
          · intro w' s0
            obtain ⟨x0, x1⟩ := TB.out _ (HB5.out.trans (s0.mono HB5.out.size))
            have BKt := Aside0.mk (blk_below BKq2.out s0)
            have y0 : w'.cell? ⟨q2, 0, none⟩ = some (.string m) := (blk_cell BKt.out 0).trans rfl
            have y1 : w'.cell? ⟨q2, 1, none⟩ = some (.int .i64 nb) := (blk_cell BKt.out 1).trans rfl
            go_simp
            with_reducible rfl
          rotate_left
          · simp only [Act.put, List.setIfInBounds_toArray, List.set_cons_zero, List.set_cons_succ]
            rfl
          refine pure_ (i := 5) (N := some 45) (v := ?_) (a' := ?_) #[true, true, true, true, true, true, false, false, false, false, false, false, false, false, false] rfl rfl (by kernel_rfl) (fun _ _ _ h => h) (Or.inl ⟨by rfl, ?_⟩) ?_ ?_
          rotate_left
          · intro w'
            go_simp
            with_reducible rfl
          rotate_left
          · simp only [Act.put, List.setIfInBounds_toArray, List.set_cons_zero, List.set_cons_succ]
            rfl
          refine pure_ (i := 6) (N := some 46) (v := ?_) (a' := ?_) #[true, true, true, true, true, true, true, false, false, false, false, false, false, false, false] rfl rfl (by kernel_rfl) (fun _ _ _ h => h) (Or.inl ⟨by rfl, ?_⟩) ?_ ?_
          rotate_left
          · intro w'
            go_simp
            with_reducible rfl
          rotate_left
          · simp only [Act.put, List.setIfInBounds_toArray, List.set_cons_zero, List.set_cons_succ]
            rfl
          refine pure_ (i := 7) (N := some 47) (v := ?_) (a' := ?_) #[true, true, true, true, true, true, true, true, false, false, false, false, false, false, false] rfl rfl (by kernel_rfl) (fun _ _ _ h => h) (Or.inl ⟨by rfl, ?_⟩) ?_ ?_
          rotate_left
          · intro w'
            go_simp
            with_reducible rfl
          rotate_left
          · simp only [Act.put, List.setIfInBounds_toArray, List.set_cons_zero, List.set_cons_succ]
            rfl
          refine take_ (i := 8) (N := some 48) (v := ?_) (a' := ?_) #[true, true, true, true, true, true, true, true, true, false, false, false, false, false, false] rfl rfl (by kernel_rfl) (fun _ _ _ h => h) (Or.inl ⟨by rfl, ?_⟩) hHeld ?_ ?_
          rotate_left
          · intro w' s0
            obtain ⟨x0, x1⟩ := TB.out _ (HB5.out.trans (s0.mono HB5.out.size))
            have BKt := Aside0.mk (blk_below BKq2.out s0)
            have y0 : w'.cell? ⟨q2, 0, none⟩ = some (.string m) := (blk_cell BKt.out 0).trans rfl
            have y1 : w'.cell? ⟨q2, 1, none⟩ = some (.int .i64 nb) := (blk_cell BKt.out 1).trans rfl
            go_simp
            with_reducible rfl
          rotate_left
          · simp only [Act.put, List.setIfInBounds_toArray, List.set_cons_zero, List.set_cons_succ]
            rfl
          refine one_ (i := 9) (N := some 49) #[true, true, true, true, true, true, true, true, true, true, false, false, false, false, false] rfl rfl (by kernel_rfl) (by decide) (fun K hK => ?_)
          refine goesV_ Try.func24 (by kernel_rfl) rfl #[.slice A n c, .agg #[.string m, .int .i64 nb], fnV] (by rfl) rfl rfl (by first | rfl | go_simp) (by first | rfl | simp [Act.eval] | go_simp) ?_
          refine (BW.out ⟨m, nb⟩ _ (HB5.out.trans (hHeld.mono HB5.out.size))).mono ?_
          rintro e w6 ⟨⟨bi, bb, rfl, hbs⟩, hb⟩
          refine ⟨_, rfl, hK.out _ _ (hHeld.trans (hb.mono hHeld.size)) (fun hHeld => ?_)⟩
          clear hK K hb
          refine norm_ (a' := ?_) ?_ ?_
          rotate_left
          · show Act.put _ (some 49) _ = _
            simp only [Act.put, List.setIfInBounds_toArray, List.set_cons_zero, List.set_cons_succ]
            rfl
          refine pure_ (i := 10) (N := some 39) (v := ?_) (a' := ?_) #[true, true, true, true, true, true, true, true, true, true, true, false, false, false, false] rfl rfl (by kernel_rfl) (fun _ _ _ h => h) (Or.inl ⟨by rfl, ?_⟩) ?_ ?_
          rotate_left
          · intro w'
            go_simp
            with_reducible rfl
          rotate_left
          · simp only [Act.put, List.setIfInBounds_toArray, List.set_cons_zero, List.set_cons_succ]
            rfl
          refine pure_ (i := 11) (N := some 50) (v := ?_) (a' := ?_) #[true, true, true, true, true, true, true, true, true, true, true, true, false, false, false] rfl rfl (by kernel_rfl) (fun _ _ _ h => h) (Or.inl ⟨by rfl, ?_⟩) ?_ ?_
          rotate_left
          · intro w'
            go_simp
            with_reducible rfl
          rotate_left
          · simp only [Act.put, List.setIfInBounds_toArray, List.set_cons_zero, List.set_cons_succ]
            rfl
          refine pure_ (i := 12) (N := some 51) (v := ?_) (a' := ?_) #[true, true, true, true, true, true, true, true, true, true, true, true, true, false, false] rfl rfl (by kernel_rfl) (fun _ _ _ h => h) (Or.inl ⟨by rfl, ?_⟩) ?_ ?_
          rotate_left
          · intro w'
            go_simp
            with_reducible rfl
          rotate_left
          · simp only [Act.put, List.setIfInBounds_toArray, List.set_cons_zero, List.set_cons_succ]
            rfl
          refine pure_ (i := 13) (N := some 9) (v := ?_) (a' := ?_) #[true, true, true, true, true, true, true, true, true, true, true, true, true, true, false] rfl rfl (by kernel_rfl) (fun _ _ _ h => h) (Or.inl ⟨by rfl, ?_⟩) ?_ ?_
          rotate_left
          · intro w'
            go_simp
            with_reducible rfl
          rotate_left
          · simp only [Act.put, List.setIfInBounds_toArray, List.set_cons_zero, List.set_cons_succ]
            rfl
          refine pure_ (i := 14) (N := some 10) (v := ?_) (a' := ?_) #[true, true, true, true, true, true, true, true, true, true, true, true, true, true, true] rfl rfl (by kernel_rfl) (fun _ _ _ h => h) (Or.inl ⟨by rfl, ?_⟩) ?_ ?_
          rotate_left
          · intro w'
            go_simp
            with_reducible rfl
          rotate_left
          · simp only [Act.put, List.setIfInBounds_toArray, List.set_cons_zero, List.set_cons_succ]
            rfl
          refine done_ (by kernel_rfl) ?_
          have BKq1 := Aside0.mk (blk_below BKq1.out hHeld)
          have HB6 := Aside0.mk (HB5.out.trans (hHeld.mono HB5.out.size))
          clear hHeld
          have HBS := Aside0.mk hbs
          clear hbs
          cases bb
          · go_wp2_with (fail)
            go_roundw
            case rel => exact ⟨nb - 1, by omega, by omega, by go_num, Aside0.mk (fun b' h1 h2 => (Int.lt_or_eq_of_le (show nb ≤ b' by omega)).elim (fun h3 => HM.out b' h3 h2) (fun h3 => h3 ▸ ⟨bi, by rw [HMm.out]; exact HBS.out⟩)), BKq1, HB6⟩
            case measure => simp [intOf]; omega
          · have hbi : bi < n := by
              have h0 := HBS.out.2.2.2
              rw [eq_comm, decide_eq_true_iff] at h0
              have h1 := h0.1
              rw [HN.out] at h1
              exact h1
            have hbiI : (bi : Int) < (n : Int) := by omega
            obtain ⟨ad, hA, hcs⟩ := at_T28 (HR.out _ HB6.out) (bi : Int) (by omega) (by omega)
            rw [Int.toNat_natCast] at hcs
            have er8 : rd_T28 l (bi : Int) = l.getD bi z28 := by unfold rd_T28; rw [Int.toNat_natCast]
            rw [er8] at hcs
            obtain ⟨⟨⟨xa, xb⟩, xv, xp⟩, hx⟩ : ∃ x, l.getD bi z28 = x := ⟨_, rfl⟩
            have HX := Aside0.mk hx
            have ht0 := (TB.out _ HB6.out).1
            subst hA
            simp only [hx] at hcs
            obtain ⟨x0, x1, x2, x3⟩ := hcs
            clear hx er8 hbi
            go_wp2_with (first | ((with_reducible refine gate_store (t := 28) (p := 4) rfl ?_); have ca0 : w6.cell? ⟨q1, 0, none⟩ = some (.string ByteArray.empty) := (blk_cell BKq1.out 0).trans rfl; have ca1 : w6.cell? ⟨q1, 1, none⟩ = some (.int .i64 0) := (blk_cell BKq1.out 1).trans rfl; have ca2 : w6.cell? ⟨q1, 2, none⟩ = some (.string ByteArray.empty) := (blk_cell BKq1.out 2).trans rfl; have ca3 : w6.cell? ⟨q1, 3, none⟩ = some (.int .i64 0) := (blk_cell BKq1.out 3).trans rfl; have fa0 : w6.frozen? ⟨q1, 0, none⟩ = false := blk_frozen BKq1.out 0; have fa1 : w6.frozen? ⟨q1, 1, none⟩ = false := blk_frozen BKq1.out 1; have fa2 : w6.frozen? ⟨q1, 2, none⟩ = false := blk_frozen BKq1.out 2; have fa3 : w6.frozen? ⟨q1, 3, none⟩ = false := blk_frozen BKq1.out 3; refine store_event (t := 28) (p := 4) (v := ?vo4_7_2) (w1 := Cells.setAll w6 q1 0 [.string xa, .int .i64 xb, .string xv, .int .i64 xp]) ?hg ?ho ?hn ?hr ?_; (case ho => rfl); (case hg => rfl); (case hn => rfl); (case hr => first | (go_simp; done) | (go_simp; rfl)); intro w7 hw; have HB7 := Aside0.mk (show Below w.heap.size w w7 from by rw [hw]; exact Cells.setAll_below HQq1.out _ _ _ HB6.out); have BKq1 := Aside0.mk (show w7.heap[q1]? = some (.cells #[.string xa, .int .i64 xb, .string xv, .int .i64 xp] 28 (0, 0)) from by rw [hw]; exact Cells.stored4 BKq1.out); clear ca0 ca1 ca2 ca3 fa0 fa1 fa2 fa3; clear hw))
            (try simp only [Exit.inBlock, Exit.then])
            refine bodyPost_ret (results_ct rfl _ _ q1 28 _ (0, 0) _ rfl BKq1.out Try.underlying28 rfl size28) rfl ?_
            exact ⟨⟨_, _, rfl, Or.inr ⟨by rw [HK.out]; exact HS.out, Or.inl ⟨nb, bi, hge, by rw [HK.out]; exact hb2, by rw [HMm.out]; exact HBS.out, HX.out.symm, rfl, fun b' h1 h2 => HM.out b' h1 (by rw [HK.out] at h2; exact h2)⟩⟩⟩, HB7.out⟩
        · clear PN
          go_wp2_with (first | ((with_reducible refine gate_store (t := 28) (p := 4) rfl ?_); have ca0 : wr.cell? ⟨q1, 0, none⟩ = some (.string ByteArray.empty) := (blk_cell BKq1.out 0).trans rfl; have ca1 : wr.cell? ⟨q1, 1, none⟩ = some (.int .i64 0) := (blk_cell BKq1.out 1).trans rfl; have ca2 : wr.cell? ⟨q1, 2, none⟩ = some (.string ByteArray.empty) := (blk_cell BKq1.out 2).trans rfl; have ca3 : wr.cell? ⟨q1, 3, none⟩ = some (.int .i64 0) := (blk_cell BKq1.out 3).trans rfl; have fa0 : wr.frozen? ⟨q1, 0, none⟩ = false := blk_frozen BKq1.out 0; have fa1 : wr.frozen? ⟨q1, 1, none⟩ = false := blk_frozen BKq1.out 1; have fa2 : wr.frozen? ⟨q1, 2, none⟩ = false := blk_frozen BKq1.out 2; have fa3 : wr.frozen? ⟨q1, 3, none⟩ = false := blk_frozen BKq1.out 3; refine store_event (t := 28) (p := 4) (v := ?vo4_7_3) (w1 := Cells.setAll wr q1 0 [.string ByteArray.empty, .int .i64 0, .string ByteArray.empty, .int .i64 0]) ?hg ?ho ?hn ?hr ?_; (case ho => rfl); (case hg => rfl); (case hn => rfl); (case hr => first | (go_simp; done) | (go_simp; rfl)); intro w7 hw; have HB7 := Aside0.mk (show Below w.heap.size w w7 from by rw [hw]; exact Cells.setAll_below HQq1.out _ _ _ HB2.out); have BKq1 := Aside0.mk (show w7.heap[q1]? = some (.cells #[.string ByteArray.empty, .int .i64 0, .string ByteArray.empty, .int .i64 0] 28 (0, 0)) from by rw [hw]; exact Cells.stored4 BKq1.out); clear ca0 ca1 ca2 ca3 fa0 fa1 fa2 fa3; clear hw))
          (try simp only [Exit.inBlock, Exit.then])
          refine bodyPost_ret (results_ct rfl _ _ q1 28 _ (0, 0) _ rfl BKq1.out Try.underlying28 rfl size28) rfl ?_
          exact ⟨⟨_, _, rfl, Or.inr ⟨by rw [HK.out]; exact HS.out, Or.inr ⟨rfl, rfl, fun b' h1 h2 => HM.out b' (by omega) (by rw [HK.out] at h2; exact h2)⟩⟩⟩, HB7.out⟩
  · have HS := Aside0.mk hs
    have hkI : (d.size : Int) = (k : Int) := by rw [hk]
    have hs4 : ¬ (k : Int) = 4 := by omega
    have hs16 : ¬ (k : Int) = 16 := by omega
    clear hk hs
    go_enter Try.func15, Try.ntmps15
    go_wp2_with (first | ((with_reducible refine gate_dst (N := 4) rfl ?_); refine box_event ?hg (N := 4) ?hd (cs := #[.string ByteArray.empty, .int .i64 0, .string ByteArray.empty, .int .i64 0]) (t := 28) ?hr ?_; (case hd => rfl); (case hg => rfl); (case hr => first | (go_simp; done) | (go_simp; rfl)); intro q1 hq w1 hbox hb; have BKq1 := Aside0.mk hbox; have HQq1 := Aside0.mk (show w.heap.size ≤ q1 from by rw [hq]; exact Nat.le_refl _); have HB1 := Aside0.mk hb; clear hbox hb hq) | ((with_reducible refine gate_store (t := 28) (p := 4) rfl ?_); have ca0 : w1.cell? ⟨q1, 0, none⟩ = some (.string ByteArray.empty) := (blk_cell BKq1.out 0).trans rfl; have ca1 : w1.cell? ⟨q1, 1, none⟩ = some (.int .i64 0) := (blk_cell BKq1.out 1).trans rfl; have ca2 : w1.cell? ⟨q1, 2, none⟩ = some (.string ByteArray.empty) := (blk_cell BKq1.out 2).trans rfl; have ca3 : w1.cell? ⟨q1, 3, none⟩ = some (.int .i64 0) := (blk_cell BKq1.out 3).trans rfl; have fa0 : w1.frozen? ⟨q1, 0, none⟩ = false := blk_frozen BKq1.out 0; have fa1 : w1.frozen? ⟨q1, 1, none⟩ = false := blk_frozen BKq1.out 1; have fa2 : w1.frozen? ⟨q1, 2, none⟩ = false := blk_frozen BKq1.out 2; have fa3 : w1.frozen? ⟨q1, 3, none⟩ = false := blk_frozen BKq1.out 3; refine store_event (t := 28) (p := 4) (v := ?vo4_2_4) (w1 := Cells.setAll w1 q1 0 [.string ByteArray.empty, .int .i64 0, .string ByteArray.empty, .int .i64 0]) ?hg ?ho ?hn ?hr ?_; (case ho => rfl); (case hg => rfl); (case hn => rfl); (case hr => first | (go_simp; done) | (go_simp; rfl)); intro w2 hw; have HB2 := Aside0.mk (show Below w.heap.size w w2 from by rw [hw]; exact Cells.setAll_below HQq1.out _ _ _ HB1.out); have BKq1 := Aside0.mk (show w2.heap[q1]? = some (.cells #[.string ByteArray.empty, .int .i64 0, .string ByteArray.empty, .int .i64 0] 28 (0, 0)) from by rw [hw]; exact Cells.stored4 BKq1.out); clear ca0 ca1 ca2 ca3 fa0 fa1 fa2 fa3; clear hw))
    (try simp only [Exit.inBlock, Exit.then])
    refine bodyPost_ret (results_ct rfl _ _ q1 28 _ (0, 0) _ rfl BKq1.out Try.underlying28 rfl size28) rfl ?_
    have := HS.out
    exact ⟨⟨z28, _, rfl, Or.inl ⟨by rw [HK.out]; omega, by rw [HK.out]; omega, rfl, rfl⟩⟩, HB2.out⟩
    exfalso
    rcases (show ((k : Int) != 4) = false ∨ ((k : Int) != 16) = false by assumption) with h | h
    · exact hs4 (by simpa using h)
    · exact hs16 (by simpa using h)
set_option maxHeartbeats 1600000 in
set_option maxRecDepth 100000 in
theorem find_nil (d : ByteArray) (w : World) :
    Calls Try.prog 15 #[.pointer none, .string d] w fun e w' => e = .returned (.tuple #[v28 z28, .int .i64 3]) ∧ Below w.heap.size w w' := by
  go_enter Try.func15, Try.ntmps15
  go_wp2_with (first | ((with_reducible refine gate_dst (N := 4) rfl ?_); refine box_event ?hg (N := 4) ?hd (cs := #[.string ByteArray.empty, .int .i64 0, .string ByteArray.empty, .int .i64 0]) (t := 28) ?hr ?_; (case hd => rfl); (case hg => rfl); (case hr => first | (go_simp; done) | (go_simp; rfl)); intro q1 hq w1 hbox hb; have BKq1 := Aside0.mk hbox; have HQq1 := Aside0.mk (show w.heap.size ≤ q1 from by rw [hq]; exact Nat.le_refl _); have HB1 := Aside0.mk hb; clear hbox hb hq) | ((with_reducible refine gate_store (t := 28) (p := 4) rfl ?_); have ca0 : w1.cell? ⟨q1, 0, none⟩ = some (.string ByteArray.empty) := (blk_cell BKq1.out 0).trans rfl; have ca1 : w1.cell? ⟨q1, 1, none⟩ = some (.int .i64 0) := (blk_cell BKq1.out 1).trans rfl; have ca2 : w1.cell? ⟨q1, 2, none⟩ = some (.string ByteArray.empty) := (blk_cell BKq1.out 2).trans rfl; have ca3 : w1.cell? ⟨q1, 3, none⟩ = some (.int .i64 0) := (blk_cell BKq1.out 3).trans rfl; have fa0 : w1.frozen? ⟨q1, 0, none⟩ = false := blk_frozen BKq1.out 0; have fa1 : w1.frozen? ⟨q1, 1, none⟩ = false := blk_frozen BKq1.out 1; have fa2 : w1.frozen? ⟨q1, 2, none⟩ = false := blk_frozen BKq1.out 2; have fa3 : w1.frozen? ⟨q1, 3, none⟩ = false := blk_frozen BKq1.out 3; refine store_event (t := 28) (p := 4) (v := ?vo4_2_4) (w1 := Cells.setAll w1 q1 0 [.string ByteArray.empty, .int .i64 0, .string ByteArray.empty, .int .i64 0]) ?hg ?ho ?hn ?hr ?_; (case ho => rfl); (case hg => rfl); (case hn => rfl); (case hr => first | (go_simp; done) | (go_simp; rfl)); intro w2 hw; have HB2 := Aside0.mk (show Below w.heap.size w w2 from by rw [hw]; exact Cells.setAll_below HQq1.out _ _ _ HB1.out); have BKq1 := Aside0.mk (show w2.heap[q1]? = some (.cells #[.string ByteArray.empty, .int .i64 0, .string ByteArray.empty, .int .i64 0] 28 (0, 0)) from by rw [hw]; exact Cells.stored4 BKq1.out); clear ca0 ca1 ca2 ca3 fa0 fa1 fa2 fa3; clear hw))
  (try simp only [Exit.inBlock, Exit.then])
  refine bodyPost_ret (results_ct rfl _ _ q1 28 _ (0, 0) _ rfl BKq1.out Try.underlying28 rfl size28) rfl ?_
  exact ⟨rfl, HB2.out⟩
end Go.Proofs.Ytmedkjiabieloaa.Rt
namespace Go.Proofs.Ytmedkjiabieloaa.Rt
open Go.RowKit Go.Proofs.YtmedkjiabieloaaW.PrintWords Go.Proofs.YtmedkjiabieloaaW.PrintLast Go.Proofs.YtmedkjiabieloaaW.PrintMore Go.Proofs.Ytmedkjiabieloaa.QRd
open Go.Proofs.Ytmedkjiabieloaa
set_option linter.unusedVariables false
set_option linter.unusedSimpArgs false
/-- What In answers. -/
def inR (a p : ByteArray) (nb : Int) : Bool := decide ((maskE a nb).2 = 0) && decide ((maskE p nb).2 = 0) && decide (a.size = p.size) && decide ((maskE a nb).1 = (maskE p nb).1)
set_option maxHeartbeats 4000000 in
set_option maxRecDepth 100000 in
theorem rin_walk (a p : ByteArray) (nb : Int) (w : World) (hs : a.size ≤ 140737488351232) (hp : p.size ≤ 140737488351232) :
    Calls Try.prog 34 #[.string a, .agg #[.string p, .int .i64 nb]] w fun e w' => e = .returned (.bool (inR a p nb)) ∧ Below w.heap.size w w' := by
  have MA := Aside0.mk fun (W : World) => rmask_any a nb W hs
  have MP := Aside0.mk fun (W : World) => rmask_any p nb W hp
  unfold inR
  obtain ⟨⟨m, er⟩, hm⟩ : ∃ x, maskE a nb = x := ⟨_, rfl⟩
  obtain ⟨⟨m', er'⟩, hm'⟩ : ∃ x, maskE p nb = x := ⟨_, rfl⟩
  rw [hm] at MA ⊢
  rw [hm'] at MP ⊢
  simp only at MA MP ⊢
  obtain ⟨na, hna⟩ : ∃ k, a.size = k := ⟨_, rfl⟩
  obtain ⟨np, hnp⟩ : ∃ k, p.size = k := ⟨_, rfl⟩
  have hnaI : (a.size : Int) = (na : Int) := by rw [hna]
  have hnpI : (p.size : Int) = (np : Int) := by rw [hnp]
  rw [hna, hnp]
  clear hs hp hm hm' hna hnp
  go_enter Try.func34, Try.ntmps34
  go_wp2_with (first | ((with_reducible refine gate_dst (N := 3) rfl ?_); refine box_event ?hg (N := 3) ?hd (cs := #[.string p, .int .i64 nb]) (t := 26) ?hr ?_; (case hd => rfl); (case hg => rfl); (case hr => first | (go_simp; done) | (go_simp; rfl)); intro q1 hq w1 hbox hb; have BKq1 := Aside0.mk hbox; have HB1 := Aside0.mk hb; clear hbox hb hq; have z0 : w1.cell? ⟨q1, 0, none⟩ = some (.string p) := (blk_cell BKq1.out 0).trans rfl; have z1 : w1.cell? ⟨q1, 1, none⟩ = some (.int .i64 nb) := (blk_cell BKq1.out 1).trans rfl))
  refine (MA.out _).mono ?_
  rintro e w3 ⟨rfl, hb⟩
  have BKq1 := Aside0.mk (blk_below BKq1.out hb)
  have HB3 := Aside0.mk (HB1.out.trans (hb.mono HB1.out.size))
  clear hb z0 z1 HB1
  have z0 : w3.cell? ⟨q1, 0, none⟩ = some (.string p) := (blk_cell BKq1.out 0).trans rfl
  have z1 : w3.cell? ⟨q1, 1, none⟩ = some (.int .i64 nb) := (blk_cell BKq1.out 1).trans rfl
  go_wp2_with (fail)
  refine (MP.out _).mono ?_
  rintro e w4 ⟨rfl, hb⟩
  have HB4 := Aside0.mk (HB3.out.trans (hb.mono HB3.out.size))
  have BKq1 := Aside0.mk (blk_below BKq1.out hb)
  clear hb z0 z1
  have z0 : w4.cell? ⟨q1, 0, none⟩ = some (.string p) := (blk_cell BKq1.out 0).trans rfl
  go_wp2_with (fail)
  all_goals go_ret
  · rename_i h1 h2 h3
    refine ⟨?_, HB4.out⟩
    show Ending.returned (Value.bool (m.toList == m'.toList)) = _
    rw [bytes_dec, decide_eq_true h1, decide_eq_true h2, decide_eq_true (show na = np by omega)]
    rfl
  · rename_i h1 h2 h3
    refine ⟨?_, HB4.out⟩
    rw [decide_eq_false (show ¬ na = np by omega)]
    simp
  · rename_i h1 h2
    refine ⟨?_, HB4.out⟩
    rw [decide_eq_false h2]
    simp
  · rename_i h1
    refine ⟨?_, HB4.out⟩
    rw [decide_eq_false h1]
    rfl
/-- Both answer alike. -/
theorem inR_eq (a p : ByteArray) (nb : Int) : inR a p nb = inB a p nb := by
  unfold inR inB
  by_cases h : (maskE a nb).1 = (maskE p nb).1
  · by_cases h0 : maskBad a nb
    · simp [maskE, h0]
    · by_cases h1 : maskBad p nb
      · simp [maskE, h1]
      · have e : a.size = p.size := by
          have h' := congrArg ByteArray.size h
          rw [maskE, maskE, if_neg h0, if_neg h1] at h'
          have hz : ∀ (s : ByteArray), (strOfNums (mkTo nb s.size (bytesOf s))).size = s.size := fun s => by
            unfold strOfNums
            show Array.size _ = _
            simp [mkTo_len, bytesOf_length]
          rwa [hz, hz] at h'
        rw [decide_eq_true e]
        simp
  · simp [h]
end Go.Proofs.Ytmedkjiabieloaa.Rt

/- Loads and stores of structs; the age of an association. -/
import Derived.Test.YtkmnpnbfeiobiaaDoorSdE
import Derived.Test.YtkmnpnbfeiobiaaDoorQSax3
import Derived.Test.YtkmnpnbfeiobiaaDoorQSax6
import Derived.Test.YtkmnpnbfeiobiaaDoorQSax9
import Derived.Test.YtkmnpnbfeiobiaaDoorQSax36
import Derived.Test.YtkmnpnbfeiobiaaDoorQSax40
import Derived.Test.YtkmnpnbfeiobiaaDoorQSax52
import Derived.Deep.WholeRow
import Derived.Laws.CopyOwn
namespace Go.Proofs.YtkmnpnbfeiobiaaDoor.Sd
open Go.RowKit Go.Proofs.YtkmnpnbfeiobiaaDoorW.PrintWords Go.Proofs.YtkmnpnbfeiobiaaDoorW.PrintLast Go.Proofs.YtkmnpnbfeiobiaaDoorW.PrintMore Go.Proofs.YtkmnpnbfeiobiaaDoor.QSa
open Go.Proofs.YtkmnpnbfeiobiaaDoor
set_option linter.unusedVariables false
set_option linter.unusedSimpArgs false
theorem quiet_add_same {P : Program} {f : FuncId} {args : Array Value} {w : World} {a n : Nat} {v : Value}
    (h : Calls P f args (w.drewN (a + n)) fun e w' => e = .returned v ∧ w' = w.drewN (a + n)) :
    Calls P f args (w.drewN (a + n)) fun e w'' => e = .returned v ∧ ∃ m, w'' = w.drewN (a + m) :=
  h.mono fun _ _ ⟨he, hm⟩ => ⟨he, n, hm⟩
theorem add_at (p o j : Nat) : (⟨p, o, none⟩ : Addr).add j = ⟨p, o + j, none⟩ := by
  unfold Addr.add
  split <;> simp_all
theorem load_blk {W : World} {p o : Nat} {cs : Array Value} {t ty : TypeId} (h : W.heap[p]? = some (.cells cs t (0, 0))) (ls : List Value) (hls : ∀ j v, ls[j]? = some v → cs[o + j]? = some v) (d : TypeDesc) (hu : Tryd.prog.underlying ty = some d) (hd : (match d with | .struct _ | .array _ _ => true | _ => false) = true) (hi : (Tryd.prog.info? ty).map (·.size) = some ls.length) :
    (loadVar ty ⟨p, o, none⟩).run Tryd.prog W = .ok (.agg ls.toArray) W := by
  have hl := run_loadCells_list (P := Tryd.prog) W ⟨p, o, none⟩ ls (fun j v hv => by
    rw [add_at, blk_cell h]
    exact hls j v hv)
  cases hq : Tryd.prog.info? ty with
  | none => rw [hq] at hi; cases hi
  | some inf =>
    have hs : inf.size = ls.length := by rw [hq] at hi; simpa using hi
    have hagg : (isAgg ty).run Tryd.prog W = .ok true W := by
      unfold isAgg
      rw [Sem.run_bind, run_underlying hu W]
      cases d <;> first | rfl | cases hd
    simp only [loadVar, Sem.run_bind, hagg, sizeOf, typeInfo, hq, hs, hl, Result.andThen_ok, if_true, Sem.run_pure]
    simp [hq, hs, hl]
theorem load_runA {P : Program} {o : Oper} {a : Act} {W : World} (ty : TypeId) (x : Operand) (ad : Addr) (cs : Array Value) (ho : o.op = .load ty x) (hx : a.eval x = .pointer (some ad)) (h : (loadVar ty ad).run P W = .ok (.agg cs) W) : (execOp a.eval o).run P W = .ok (.value (.agg cs)) W := by
  unfold execOp
  simp only [ho, hx, Instr.loadAt, Instr.sureAddr, Sem.run_bind, Sem.run_pure, Result.andThen_ok, h]
theorem store_runA {P : Program} {o : Oper} {a : Act} {w : World} (ty : TypeId) (x y : Operand) (ho : o.op = .store ty x y) (g : Nat) (cells : Array Value) (hx : a.eval x = .pointer (some ⟨g, 0, none⟩)) (hy : a.eval y = .agg cells)
    (t : TypeId) (old : Array Value) (hg : w.heap[g]? = some (.cells old t (0, 0))) (hi : (P.info? ty).map (·.size) = some cells.size) (hold : old.size = cells.size) (h1 : cells.all (·.oneCell') = true) :
    (execOp a.eval o).run P w = .ok .skip (w.setRow g cells) := by
  unfold execOp
  simp only [ho, hx, hy, Instr.storeAt, Instr.sureAddr, Sem.run_bind, Sem.run_pure, Result.andThen_ok, run_storeVar_row w g t ty old cells hg hi hold h1]
theorem store_rowE {P : Program} {ops : Array Oper} {Q : Exit → Act → World → Prop} {rest : List Oper} {o : Oper} {a : Act} {w : World} (hgd : o.guard = none) (ty : TypeId) (x y : Operand) (ho : o.op = .store ty x y) (hN : o.dst = none)
    (g : Nat) (cells : Array Value) (hx : a.eval x = .pointer (some ⟨g, 0, none⟩)) (hy : a.eval y = .agg cells)
    (t : TypeId) (old : Array Value) (hg : w.heap[g]? = some (.cells old t (0, 0))) (hi : (P.info? ty).map (·.size) = some cells.size)
    (hold : old.size = cells.size) (h1 : cells.all (·.oneCell') = true)
    (h : ∀ w', w' = w.setRow g cells → wpList P ops Q rest a w') : wpList P ops Q (o :: rest) a w := by
  refine wpList_store_row hgd ty x y ho g cells hx hy t old hg hi hold h1 ?_
  rw [hN]
  exact h _ rfl
theorem isz27 : (Tryd.prog.info? 27).map (·.size) = some 12 := by kernel_rfl
theorem isz25 : (Tryd.prog.info? 25).map (·.size) = some 6 := by kernel_rfl
theorem one27 (x : S27) : (enc27 x).toArray.all (·.oneCell') = true := by
  unfold enc27
  simp [Value.oneCell']
theorem one25 (x : S25) : (enc25 x).toArray.all (·.oneCell') = true := by
  unfold enc25
  simp [Value.oneCell']
/-- An association's life, read whole. -/
theorem load27 {W : World} {p g : Nat} {e : En} {t : TypeId} (h : W.heap[p]? = some (.cells (encE e g).toArray t (0, 0))) : (loadVar 27 ⟨p, 0, none⟩).run Tryd.prog W = .ok (.agg (enc27 e.life).toArray) W := by
  refine load_blk h (enc27 e.life) (fun j v hv => ?_) _ Tryd.underlying27 rfl isz27
  unfold enc27 at hv
  unfold encE
  match j with
  | 0 | 1 | 2 | 3 | 4 | 5 | 6 | 7 | 8 | 9 | 10 | 11 => exact hv
  | j + 12 => simp at hv
theorem load25 {W : World} {p g : Nat} {e : En} {t : TypeId} (h : W.heap[p]? = some (.cells (encE e g).toArray t (0, 0))) : (loadVar 25 ⟨p, 0, none⟩).run Tryd.prog W = .ok (.agg (enc25 e.life.f0).toArray) W := by
  refine load_blk h (enc25 e.life.f0) (fun j v hv => ?_) _ Tryd.underlying25 rfl isz25
  unfold enc25 at hv
  unfold encE
  match j with
  | 0 | 1 | 2 | 3 | 4 | 5 => exact hv
  | j + 6 => simp at hv
/-- Is a limit reached? -/
def reachB (n limit : Int) : Bool := decide (0 < limit) && decide (limit ≤ n)
theorem reached_same (n l : Int) (w : World) : Calls Tryd.prog 43 #[.int .i64 n, .int .i64 l] w fun e w' => e = .returned (.bool (reachB n l)) ∧ w' = w := by
  by_cases h : 0 < l
  · have h1 : decide (0 < l) = true := decide_eq_true h
    have e : reachB n l = decide (l ≤ n) := by unfold reachB; rw [h1]; simp
    rw [e]
    clear e h
    go_enter Tryd.func43, Tryd.ntmps43
    go_wp2
    go_ret
    exact ⟨rfl, rfl⟩
  · have h1 : decide (0 < l) = false := decide_eq_false h
    have e : reachB n l = false := by unfold reachB; rw [h1]; rfl
    rw [e]
    clear e h
    go_enter Tryd.func43, Tryd.ntmps43
    go_wp2
    go_ret
    exact ⟨rfl, rfl⟩
/-- How old an association is. -/
def ageB (a b c d : Bool) : Int := if a = true then 2 else if b = true then 2 else if c = true then 1 else if d = true then 1 else 0
def ageE (e : En) (now : Int) : Int := ageB (reachB e.bytes e.life.f4) (reachB (now - e.born) e.life.f6) (reachB e.bytes e.life.f3) (reachB (now - e.born) e.life.f5)
set_option maxHeartbeats 1600000 in
set_option maxRecDepth 100000 in
theorem age_aux {w : World} {p : Nat} {CS LS : Array Value} {bo by_ l3 l4 l5 l6 : Int} (now : Int) (h : w.heap[p]? = some (.cells CS 71 (0, 0))) (h12 : CS[12]? = some (.int .i64 bo)) (h13 : CS[13]? = some (.int .i64 by_)) (LDL : Aside0 (∀ W, Below w.heap.size w W → (loadVar 27 ⟨p, 0, none⟩).run Tryd.prog W = .ok (.agg LS) W)) (hLS : LS.size = 12) (H1 : Aside0 (LS.all (·.oneCell') = true))
    (g8 : LS[8]? = some (.int .i64 l3)) (g9 : LS[9]? = some (.int .i64 l4)) (g10 : LS[10]? = some (.int .i64 l5)) (g11 : LS[11]? = some (.int .i64 l6)) (hn : -4611686018427387904 ≤ now - bo ∧ now - bo ≤ 4611686018427387904) :
    Calls Tryd.prog 26 #[.pointer (some ⟨p, 0, none⟩), .int .i64 now] w fun e w' => e = .returned (.int .i64 (ageB (reachB by_ l4) (reachB (now - bo) l6) (reachB by_ l3) (reachB (now - bo) l5))) ∧ Below w.heap.size w w' := by
  obtain ⟨B, hB⟩ : ∃ B, w.heap.size = B := ⟨_, rfl⟩
  have HBW := Aside0.mk hB
  have HC := Aside0.mk fun (W : World) (hb : Below B w W) => blk_below h (by rw [hB]; exact hb)
  rw [hB] at LDL ⊢
  have K12 := Aside0.mk h12
  have K13 := Aside0.mk h13
  have G8 := Aside0.mk g8
  have G9 := Aside0.mk g9
  have G10 := Aside0.mk g10
  have G11 := Aside0.mk g11
  obtain ⟨t, ht⟩ : ∃ t, now - bo = t := ⟨_, rfl⟩
  have hsub : IntKind.i64.wrap (now - bo) = t := (IntWalk.i64_in _ (by omega)).trans ht
  rw [ht]
  obtain ⟨ZS, hZ⟩ : ∃ ZS : Array Value, #[.int .i64 0, .string ByteArray.empty, .string ByteArray.empty, .string ByteArray.empty, .bool false, .int .i64 0, .int .i64 0, .bool false, .int .i64 0, .int .i64 0, .int .i64 0, .int .i64 0] = ZS := ⟨_, rfl⟩
  have HZ := Aside0.mk hZ
  have HLZ := Aside0.mk (show LS.size = 12 ∧ ZS.size = 12 from ⟨hLS, by rw [← hZ]; rfl⟩)
  clear h hB h12 h13 hn hZ hLS g8 g9 g10 g11
  have ht2 := Aside0.mk ht
  clear ht
  go_enter Tryd.func26, Tryd.ntmps26
  go_wp2_with (fail)
  refine start_ (n := 13) (S := fun W => Below B w W) (ds := []) #[false, false, false, false, false, false, false, false, false, false, false, false, false] (by kernel_rfl) rfl rfl (below_drew (Below.refl B w)) (fun hHeld => ?_)
  refine pure_ (i := 0) (N := some 7) (v := ?_) (a' := ?_) #[true, false, false, false, false, false, false, false, false, false, false, false, false] rfl rfl (by kernel_rfl) (fun _ _ _ h => h) (Or.inl ⟨by rfl, ?_⟩) ?_ ?_
  rotate_left
  · intro w'
    go_simp
    with_reducible rfl
  rotate_left
  · simp only [Act.put, List.setIfInBounds_toArray, List.set_cons_zero, List.set_cons_succ]
    rfl
  refine pure_ (i := 1) (N := some 8) (v := ?_) (a' := ?_) #[true, true, false, false, false, false, false, false, false, false, false, false, false] rfl rfl (by kernel_rfl) (fun _ _ _ h => h) (Or.inl ⟨by rfl, ?_⟩) ?_ ?_
  rotate_left
  · intro w'
    go_simp
    with_reducible rfl
  rotate_left
  · simp only [Act.put, List.setIfInBounds_toArray, List.set_cons_zero, List.set_cons_succ]
    rfl
  refine pure_ (i := 2) (N := some 9) (v := ?_) (a' := ?_) #[true, true, true, false, false, false, false, false, false, false, false, false, false] rfl rfl (by kernel_rfl) (fun _ _ _ h => h) (Or.inl ⟨by rfl, ?_⟩) ?_ ?_
  rotate_left
  · intro w'
    go_simp
    with_reducible rfl
  rotate_left
  · simp only [Act.put, List.setIfInBounds_toArray, List.set_cons_zero, List.set_cons_succ]
    rfl
  refine take_ (i := 3) (N := some 10) (v := ?_) (a' := ?_) #[true, true, true, true, false, false, false, false, false, false, false, false, false] rfl rfl (by kernel_rfl) (fun _ _ _ h => h) (Or.inl ⟨by rfl, ?_⟩) hHeld ?_ ?_
  rotate_left
  · intro w' s0
    have BK0 := HC.out _ s0
    have k12 : w'.cell? ⟨p, 12, none⟩ = some (.int .i64 bo) := (blk_cell BK0 12).trans K12.out
    refine load_runA 27 (.tmp 9) ⟨p, 0, none⟩ LS ?_ ?_ (LDL.out w' s0)
    · rfl
    · rfl
  rotate_left
  · simp only [Act.put, List.setIfInBounds_toArray, List.set_cons_zero, List.set_cons_succ]
    rfl
  refine pure_ (i := 4) (N := some 11) (v := ?_) (a' := ?_) #[true, true, true, true, true, false, false, false, false, false, false, false, false] rfl rfl (by kernel_rfl) (fun _ _ _ h => h) (Or.inl ⟨by rfl, ?_⟩) ?_ ?_
  rotate_left
  · intro w'
    go_simp
    with_reducible rfl
  rotate_left
  · simp only [Act.put, List.setIfInBounds_toArray, List.set_cons_zero, List.set_cons_succ]
    rfl
  refine pure_ (i := 5) (N := some 12) (v := ?_) (a' := ?_) #[true, true, true, true, true, true, false, false, false, false, false, false, false] rfl rfl (by kernel_rfl) (fun _ _ _ h => h) (Or.inl ⟨by rfl, ?_⟩) ?_ ?_
  rotate_left
  · intro w'
    go_simp
    with_reducible rfl
  rotate_left
  · simp only [Act.put, List.setIfInBounds_toArray, List.set_cons_zero, List.set_cons_succ]
    rfl
  refine pure_ (i := 6) (N := some 13) (v := ?_) (a' := ?_) #[true, true, true, true, true, true, true, false, false, false, false, false, false] rfl rfl (by kernel_rfl) (fun _ _ _ h => h) (Or.inl ⟨by rfl, ?_⟩) ?_ ?_
  rotate_left
  · intro w'
    go_simp
    with_reducible rfl
  rotate_left
  · simp only [Act.put, List.setIfInBounds_toArray, List.set_cons_zero, List.set_cons_succ]
    rfl
  refine pure_ (i := 7) (N := some 14) (v := ?_) (a' := ?_) #[true, true, true, true, true, true, true, true, false, false, false, false, false] rfl rfl (by kernel_rfl) (fun _ _ _ h => h) (Or.inl ⟨by rfl, ?_⟩) ?_ ?_
  rotate_left
  · intro w'
    go_simp
    with_reducible rfl
  rotate_left
  · simp only [Act.put, List.setIfInBounds_toArray, List.set_cons_zero, List.set_cons_succ]
    rfl
  refine take_ (i := 8) (N := some 15) (v := ?_) (a' := ?_) #[true, true, true, true, true, true, true, true, true, false, false, false, false] rfl rfl (by kernel_rfl) (fun _ _ _ h => h) (Or.inl ⟨by rfl, ?_⟩) hHeld ?_ ?_
  rotate_left
  · intro w' s0
    have BK0 := HC.out _ s0
    have k12 : w'.cell? ⟨p, 12, none⟩ = some (.int .i64 bo) := (blk_cell BK0 12).trans K12.out
    go_simp
    with_reducible rfl
  rotate_left
  · simp only [Act.put, List.setIfInBounds_toArray, List.set_cons_zero, List.set_cons_succ]
    rfl
  refine pure_ (i := 9) (N := some 16) (v := ?_) (a' := ?_) #[true, true, true, true, true, true, true, true, true, true, false, false, false] rfl rfl (by kernel_rfl) (fun _ _ _ h => h) (Or.inl ⟨by rfl, ?_⟩) ?_ ?_
  rotate_left
  · intro w'
    go_simp
    with_reducible rfl
  rotate_left
  · simp only [Act.put, List.setIfInBounds_toArray, List.set_cons_zero, List.set_cons_succ]
    rfl
  refine one_ (i := 10) (N := some 5) #[true, true, true, true, true, true, true, true, true, true, true, false, false] rfl rfl (by kernel_rfl) (by decide) (fun K hK => ?_)
  refine value_ (v := .pointer (some ⟨w.heap.size, 0, none⟩)) (w1 := w.drew.alloc (.cells ZS 27 (0, 0))) (by rfl) rfl ?_ ?_
  · obtain rfl := HZ.out
    first | (go_simp; done) | (go_simp; rfl)
  refine hK.out _ _ (hHeld.alloc (Nat.le_of_eq HBW.out.symm) _) (fun hHeld => ?_)
  have BK := Aside0.mk (show (w.drew.alloc (.cells ZS 27 (0, 0))).heap[w.heap.size]? = some (.cells ZS 27 (0, 0)) from blk_new w.drew _)
  obtain ⟨w1, hw1⟩ : ∃ w1, w.drew.alloc (.cells ZS 27 (0, 0)) = w1 := ⟨_, rfl⟩
  obtain ⟨q5, hq5⟩ : ∃ q5, w.heap.size = q5 := ⟨_, rfl⟩
  rw [hw1] at BK hHeld ⊢
  rw [hq5] at BK ⊢
  have HQ := Aside0.mk hq5
  clear hK K hw1 hq5
  refine norm_ (a' := ?_) ?_ ?_
  rotate_left
  · show Act.put _ (some 5) _ = _
    simp only [Act.put, List.setIfInBounds_toArray, List.set_cons_zero, List.set_cons_succ]
    rfl
  refine one_ (i := 11) (N := none) #[true, true, true, true, true, true, true, true, true, true, true, true, false] rfl rfl (by kernel_rfl) (by decide) (fun K hK => ?_)
  refine skip_ (w1 := w1.setRow q5 LS) (by rfl) rfl ?_ ?_
  · refine store_runA 27 (.tmp 5) (.tmp 10) rfl q5 LS ?_ ?_ 27 ZS BK.out (by rw [HLZ.out.1]; exact isz27) (by rw [HLZ.out.1, HLZ.out.2]) H1.out
    · rfl
    · rfl
  refine hK.out _ _ (below_setRow hHeld (Nat.le_of_eq (HBW.out.symm.trans HQ.out)) _) (fun hHeld => ?_)
  have BK2 := Aside0.mk (show (w1.setRow q5 LS).heap[q5]? = some (.cells LS 27 (0, 0)) from setRow_heap _ _ _ _ _ _ BK.out)
  obtain ⟨w2, hw2⟩ : ∃ w2, w1.setRow q5 LS = w2 := ⟨_, rfl⟩
  rw [hw2] at BK2 hHeld ⊢
  clear hK K hw2
  refine pure_ (i := 12) (N := some 6) (v := ?_) (a' := ?_) #[true, true, true, true, true, true, true, true, true, true, true, true, true] rfl rfl (by kernel_rfl) (fun _ _ _ h => h) (Or.inl ⟨by rfl, ?_⟩) ?_ ?_
  rotate_left
  · intro w'
    go_simp
    with_reducible rfl
  rotate_left
  · simp only [Act.put, List.setIfInBounds_toArray, List.set_cons_zero, List.set_cons_succ]
    rfl
  refine done_ (by kernel_rfl) ?_
  have HB := Aside0.mk hHeld
  clear hHeld
  (try simp only [Exit.inBlock, Exit.then])
  have BP := Aside0.mk (HC.out _ HB.out)
  have k13 : w2.cell? ⟨p, 13, none⟩ = some (.int .i64 by_) := (blk_cell BP.out 13).trans K13.out
  have q9 : w2.cell? ⟨q5, 9, none⟩ = some (.int .i64 l4) := (blk_cell BK2.out 9).trans G9.out
  have q11 : w2.cell? ⟨q5, 11, none⟩ = some (.int .i64 l6) := (blk_cell BK2.out 11).trans G11.out
  have q8 : w2.cell? ⟨q5, 8, none⟩ = some (.int .i64 l3) := (blk_cell BK2.out 8).trans G8.out
  have q10 : w2.cell? ⟨q5, 10, none⟩ = some (.int .i64 l5) := (blk_cell BK2.out 10).trans G10.out
  go_wp2_with (fail)
  cases hb4 : reachB by_ l4
  · cases hb6 : reachB t l6
    · go_quiet ((exact Calls.quiet_of_same (reached_same _ _ _)))
      go_wp2_with (fail)
      cases hb3 : reachB by_ l3
      · cases hb5 : reachB t l5
        · go_quiet ((exact quiet_add_same (reached_same _ _ _)))
          go_wp2_with (fail)
          go_ret
          refine ⟨?_, by first | exact pw_below_drewN HB.out _ | exact pw_below_drewN (pw_below_drewN HB.out _) _⟩
          unfold ageB
          simp [*]
        · go_quiet ((exact quiet_add_same (reached_same _ _ _)))
          go_wp2_with (fail)
          go_ret
          refine ⟨?_, by first | exact pw_below_drewN HB.out _ | exact pw_below_drewN (pw_below_drewN HB.out _) _⟩
          unfold ageB
          simp [*]
      · go_quiet ((exact quiet_add_same (reached_same _ _ _)))
        go_wp2_with (fail)
        go_ret
        refine ⟨?_, by first | exact pw_below_drewN HB.out _ | exact pw_below_drewN (pw_below_drewN HB.out _) _⟩
        unfold ageB
        simp [*]
    · go_quiet ((exact Calls.quiet_of_same (reached_same _ _ _)))
      go_wp2_with (fail)
      go_ret
      refine ⟨?_, by first | exact pw_below_drewN HB.out _ | exact pw_below_drewN (pw_below_drewN HB.out _) _⟩
      unfold ageB
      simp [*]
  · go_quiet ((exact Calls.quiet_of_same (reached_same _ _ _)))
    go_wp2_with (fail)
    go_ret
    refine ⟨?_, by first | exact pw_below_drewN HB.out _ | exact pw_below_drewN (pw_below_drewN HB.out _) _⟩
    unfold ageB
    simp [*]
theorem age_walk {w : World} {p g : Nat} {e : En} (h : w.heap[p]? = some (.cells (encE e g).toArray 71 (0, 0))) (now : Int) (hn : -4611686018427387904 ≤ now - e.born ∧ now - e.born ≤ 4611686018427387904) :
    Calls Tryd.prog 26 #[.pointer (some ⟨p, 0, none⟩), .int .i64 now] w fun e' w' => e' = .returned (.int .i64 (ageE e now)) ∧ Below w.heap.size w w' :=
  age_aux (LS := (enc27 e.life).toArray) now h rfl rfl ⟨fun W hb => load27 (blk_below h hb)⟩ rfl ⟨one27 _⟩ rfl rfl rfl rfl hn
end Go.Proofs.YtkmnpnbfeiobiaaDoor.Sd

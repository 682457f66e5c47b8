/- Loads and stores of structs; the age of an association. The closures of find and Remove; slices.IndexFunc; find; live. The program's associations: New, Age, Pick, List. List of the program: a row of lives. Take and Look of the program. (Texts of this session, put together by wip/tools/merge.py.) -/
import Derived.Test.YtkmnpnbfeiobiaaDoorSdE
import Derived.Test.YtkmnpnbfeiobiaaDoorQSax3
import Derived.Test.YtkmnpnbfeiobiaaDoorQSax6
import Derived.Test.YtkmnpnbfeiobiaaDoorQSax9
import Derived.Test.YtkmnpnbfeiobiaaDoorQSax36
import Derived.Test.YtkmnpnbfeiobiaaDoorQSax40
import Derived.Test.YtkmnpnbfeiobiaaDoorQSax52
import Derived.Deep.WholeRow
import Derived.Laws.CopyOwn
import Derived.Deep.Slices
import Derived.LaidEqlPtr
namespace Go.Proofs.YtkmnpnbfeiobiaaDoor.Sd
open Go.RowKit Go.Proofs.YtkmnpnbfeiobiaaDoorW.PrintWords Go.Proofs.YtkmnpnbfeiobiaaDoorW.PrintLast Go.Proofs.YtkmnpnbfeiobiaaDoorW.PrintMore Go.Proofs.YtkmnpnbfeiobiaaDoor.QSa
open Go.Proofs.YtkmnpnbfeiobiaaDoor
set_option linter.unusedVariables false
set_option linter.unusedSimpArgs false
theorem quiet_add_same {P : Program} {f : FuncId} {args : Array Value} {w : World} {a n : Nat} {v : Value}
    (h : Calls P f args (w.drewN (a + n)) fun e w' => e = .returned v ∧ w' = w.drewN (a + n)) :
    Calls P f args (w.drewN (a + n)) fun e w'' => e = .returned v ∧ ∃ m, w'' = w.drewN (a + m) :=
  h.mono fun _ _ ⟨he, hm⟩ => ⟨he, n, hm⟩
theorem add_at (p o j : Nat) : (⟨p, o, none⟩ : Addr).add j = ⟨p, o + j, none⟩ := by
  unfold Addr.add
  split <;> simp_all
theorem load_blk {W : World} {p o : Nat} {cs : Array Value} {t ty : TypeId} (h : W.heap[p]? = some (.cells cs t (0, 0))) (ls : List Value) (hls : ∀ j v, ls[j]? = some v → cs[o + j]? = some v) (d : TypeDesc) (hu : Tryd.prog.underlying ty = some d) (hd : (match d with | .struct _ | .array _ _ => true | _ => false) = true) (hi : (Tryd.prog.info? ty).map (·.size) = some ls.length) :
    (loadVar ty ⟨p, o, none⟩).run Tryd.prog W = .ok (.agg ls.toArray) W := by
  have hl := run_loadCells_list (P := Tryd.prog) W ⟨p, o, none⟩ ls (fun j v hv => by
    rw [add_at, blk_cell h]
    exact hls j v hv)
  cases hq : Tryd.prog.info? ty with
  | none => rw [hq] at hi; cases hi
  | some inf =>
    have hs : inf.size = ls.length := by rw [hq] at hi; simpa using hi
    have hagg : (isAgg ty).run Tryd.prog W = .ok true W := by
      unfold isAgg
      rw [Sem.run_bind, run_underlying hu W]
      cases d <;> first | rfl | cases hd
    simp only [loadVar, Sem.run_bind, hagg, sizeOf, typeInfo, hq, hs, hl, Result.andThen_ok, if_true, Sem.run_pure]
    simp [hq, hs, hl]
theorem load_runA {P : Program} {o : Oper} {a : Act} {W : World} (ty : TypeId) (x : Operand) (ad : Addr) (cs : Array Value) (ho : o.op = .load ty x) (hx : a.eval x = .pointer (some ad)) (h : (loadVar ty ad).run P W = .ok (.agg cs) W) : (execOp a.eval o).run P W = .ok (.value (.agg cs)) W := by
  unfold execOp
  simp only [ho, hx, Instr.loadAt, Instr.sureAddr, Sem.run_bind, Sem.run_pure, Result.andThen_ok, h]
theorem store_runA {P : Program} {o : Oper} {a : Act} {w : World} (ty : TypeId) (x y : Operand) (ho : o.op = .store ty x y) (g : Nat) (cells : Array Value) (hx : a.eval x = .pointer (some ⟨g, 0, none⟩)) (hy : a.eval y = .agg cells)
    (t : TypeId) (old : Array Value) (hg : w.heap[g]? = some (.cells old t (0, 0))) (hi : (P.info? ty).map (·.size) = some cells.size) (hold : old.size = cells.size) (h1 : cells.all (·.oneCell') = true) :
    (execOp a.eval o).run P w = .ok .skip (w.setRow g cells) := by
  unfold execOp
  simp only [ho, hx, hy, Instr.storeAt, Instr.sureAddr, Sem.run_bind, Sem.run_pure, Result.andThen_ok, run_storeVar_row w g t ty old cells hg hi hold h1]
theorem store_rowE {P : Program} {ops : Array Oper} {Q : Exit → Act → World → Prop} {rest : List Oper} {o : Oper} {a : Act} {w : World} (hgd : o.guard = none) (ty : TypeId) (x y : Operand) (ho : o.op = .store ty x y) (hN : o.dst = none)
    (g : Nat) (cells : Array Value) (hx : a.eval x = .pointer (some ⟨g, 0, none⟩)) (hy : a.eval y = .agg cells)
    (t : TypeId) (old : Array Value) (hg : w.heap[g]? = some (.cells old t (0, 0))) (hi : (P.info? ty).map (·.size) = some cells.size)
    (hold : old.size = cells.size) (h1 : cells.all (·.oneCell') = true)
    (h : ∀ w', w' = w.setRow g cells → wpList P ops Q rest a w') : wpList P ops Q (o :: rest) a w := by
  refine wpList_store_row hgd ty x y ho g cells hx hy t old hg hi hold h1 ?_
  rw [hN]
  exact h _ rfl
theorem isz27 : (Tryd.prog.info? 27).map (·.size) = some 12 := by kernel_rfl
theorem isz25 : (Tryd.prog.info? 25).map (·.size) = some 6 := by kernel_rfl
theorem one27 (x : S27) : (enc27 x).toArray.all (·.oneCell') = true := by
  unfold enc27
  simp [Value.oneCell']
theorem one25 (x : S25) : (enc25 x).toArray.all (·.oneCell') = true := by
  unfold enc25
  simp [Value.oneCell']
/-- An association's life, read whole. -/
theorem load27 {W : World} {p g : Nat} {e : En} {t : TypeId} (h : W.heap[p]? = some (.cells (encE e g).toArray t (0, 0))) : (loadVar 27 ⟨p, 0, none⟩).run Tryd.prog W = .ok (.agg (enc27 e.life).toArray) W := by
  refine load_blk h (enc27 e.life) (fun j v hv => ?_) _ Tryd.underlying27 rfl isz27
  unfold enc27 at hv
  unfold encE
  match j with
  | 0 | 1 | 2 | 3 | 4 | 5 | 6 | 7 | 8 | 9 | 10 | 11 => exact hv
  | j + 12 => simp at hv
theorem load25 {W : World} {p g : Nat} {e : En} {t : TypeId} (h : W.heap[p]? = some (.cells (encE e g).toArray t (0, 0))) : (loadVar 25 ⟨p, 0, none⟩).run Tryd.prog W = .ok (.agg (enc25 e.life.f0).toArray) W := by
  refine load_blk h (enc25 e.life.f0) (fun j v hv => ?_) _ Tryd.underlying25 rfl isz25
  unfold enc25 at hv
  unfold encE
  match j with
  | 0 | 1 | 2 | 3 | 4 | 5 => exact hv
  | j + 6 => simp at hv
/-- Is a limit reached? -/
def reachB (n limit : Int) : Bool := decide (0 < limit) && decide (limit ≤ n)
theorem reached_same (n l : Int) (w : World) : Calls Tryd.prog 43 #[.int .i64 n, .int .i64 l] w fun e w' => e = .returned (.bool (reachB n l)) ∧ w' = w := by
  by_cases h : 0 < l
  · have h1 : decide (0 < l) = true := decide_eq_true h
    have e : reachB n l = decide (l ≤ n) := by unfold reachB; rw [h1]; simp
    rw [e]
    clear e h
    go_enter Tryd.func43, Tryd.ntmps43
    go_wp2
    go_ret
    exact ⟨rfl, rfl⟩
  · have h1 : decide (0 < l) = false := decide_eq_false h
    have e : reachB n l = false := by unfold reachB; rw [h1]; rfl
    rw [e]
    clear e h
    go_enter Tryd.func43, Tryd.ntmps43
    go_wp2
    go_ret
    exact ⟨rfl, rfl⟩
/-- How old an association is. -/
def ageB (a b c d : Bool) : Int := if a = true then 2 else if b = true then 2 else if c = true then 1 else if d = true then 1 else 0
def ageE (e : En) (now : Int) : Int := ageB (reachB e.bytes e.life.f4) (reachB (now - e.born) e.life.f6) (reachB e.bytes e.life.f3) (reachB (now - e.born) e.life.f5)
set_option maxHeartbeats 1600000 in
set_option maxRecDepth 100000 in
theorem age_aux {w : World} {p : Nat} {CS LS : Array Value} {bo by_ l3 l4 l5 l6 : Int} (now : Int) (h : w.heap[p]? = some (.cells CS 71 (0, 0))) (h12 : CS[12]? = some (.int .i64 bo)) (h13 : CS[13]? = some (.int .i64 by_)) (LDL : Aside0 (∀ W, Below w.heap.size w W → (loadVar 27 ⟨p, 0, none⟩).run Tryd.prog W = .ok (.agg LS) W)) (hLS : LS.size = 12) (H1 : Aside0 (LS.all (·.oneCell') = true))
    (g8 : LS[8]? = some (.int .i64 l3)) (g9 : LS[9]? = some (.int .i64 l4)) (g10 : LS[10]? = some (.int .i64 l5)) (g11 : LS[11]? = some (.int .i64 l6)) (hn : -4611686018427387904 ≤ now - bo ∧ now - bo ≤ 4611686018427387904) :
    Calls Tryd.prog 26 #[.pointer (some ⟨p, 0, none⟩), .int .i64 now] w fun e w' => e = .returned (.int .i64 (ageB (reachB by_ l4) (reachB (now - bo) l6) (reachB by_ l3) (reachB (now - bo) l5))) ∧ Below w.heap.size w w' := by
  obtain ⟨B, hB⟩ : ∃ B, w.heap.size = B := ⟨_, rfl⟩
  have HBW := Aside0.mk hB
  have HC := Aside0.mk fun (W : World) (hb : Below B w W) => blk_below h (by rw [hB]; exact hb)
  rw [hB] at LDL ⊢
  have K12 := Aside0.mk h12
  have K13 := Aside0.mk h13
  have G8 := Aside0.mk g8
  have G9 := Aside0.mk g9
  have G10 := Aside0.mk g10
  have G11 := Aside0.mk g11
  obtain ⟨t, ht⟩ : ∃ t, now - bo = t := ⟨_, rfl⟩
  have hsub : IntKind.i64.wrap (now - bo) = t := (IntWalk.i64_in _ (by omega)).trans ht
  rw [ht]
  obtain ⟨ZS, hZ⟩ : ∃ ZS : Array Value, #[.int .i64 0, .string ByteArray.empty, .string ByteArray.empty, .string ByteArray.empty, .bool false, .int .i64 0, .int .i64 0, .bool false, .int .i64 0, .int .i64 0, .int .i64 0, .int .i64 0] = ZS := ⟨_, rfl⟩
  have HZ := Aside0.mk hZ
  have HLZ := Aside0.mk (show LS.size = 12 ∧ ZS.size = 12 from ⟨hLS, by rw [← hZ]; rfl⟩)
  clear h hB h12 h13 hn hZ hLS g8 g9 g10 g11
  have ht2 := Aside0.mk ht
  clear ht
  go_enter Tryd.func26, Tryd.ntmps26
  go_wp2_with (fail)
  refine start_ (n := 13) (S := fun W => Below B w W) (ds := []) #[false, false, false, false, false, false, false, false, false, false, false, false, false] (by kernel_rfl) rfl rfl (below_drew (Below.refl B w)) (fun hHeld => ?_)
  refine pure_ (i := 0) (N := some 7) (v := ?_) (a' := ?_) #[true, false, false, false, false, false, false, false, false, false, false, false, false] rfl rfl (by kernel_rfl) (fun _ _ _ h => h) (Or.inl ⟨by rfl, ?_⟩) ?_ ?_
  rotate_left
  · intro w'
    go_simp
    with_reducible rfl
  rotate_left
  · simp only [Act.put, List.setIfInBounds_toArray, List.set_cons_zero, List.set_cons_succ]
    rfl
  refine pure_ (i := 1) (N := some 8) (v := ?_) (a' := ?_) #[true, true, false, false, false, false, false, false, false, false, false, false, false] rfl rfl (by kernel_rfl) (fun _ _ _ h => h) (Or.inl ⟨by rfl, ?_⟩) ?_ ?_
  rotate_left
  · intro w'
    go_simp
    with_reducible rfl
  rotate_left
  · simp only [Act.put, List.setIfInBounds_toArray, List.set_cons_zero, List.set_cons_succ]
    rfl
  refine pure_ (i := 2) (N := some 9) (v := ?_) (a' := ?_) #[true, true, true, false, false, false, false, false, false, false, false, false, false] rfl rfl (by kernel_rfl) (fun _ _ _ h => h) (Or.inl ⟨by rfl, ?_⟩) ?_ ?_
  rotate_left
  · intro w'
    go_simp
    with_reducible rfl
  rotate_left
  · simp only [Act.put, List.setIfInBounds_toArray, List.set_cons_zero, List.set_cons_succ]
    rfl
  refine take_ (i := 3) (N := some 10) (v := ?_) (a' := ?_) #[true, true, true, true, false, false, false, false, false, false, false, false, false] rfl rfl (by kernel_rfl) (fun _ _ _ h => h) (Or.inl ⟨by rfl, ?_⟩) hHeld ?_ ?_
  rotate_left
  · intro w' s0
    have BK0 := HC.out _ s0
    have k12 : w'.cell? ⟨p, 12, none⟩ = some (.int .i64 bo) := (blk_cell BK0 12).trans K12.out
    refine load_runA 27 (.tmp 9) ⟨p, 0, none⟩ LS ?_ ?_ (LDL.out w' s0)
    · rfl
    · rfl
  rotate_left
  · simp only [Act.put, List.setIfInBounds_toArray, List.set_cons_zero, List.set_cons_succ]
    rfl
  refine pure_ (i := 4) (N := some 11) (v := ?_) (a' := ?_) #[true, true, true, true, true, false, false, false, false, false, false, false, false] rfl rfl (by kernel_rfl) (fun _ _ _ h => h) (Or.inl ⟨by rfl, ?_⟩) ?_ ?_
  rotate_left
  · intro w'
    go_simp
    with_reducible rfl
  rotate_left
  · simp only [Act.put, List.setIfInBounds_toArray, List.set_cons_zero, List.set_cons_succ]
    rfl
  refine pure_ (i := 5) (N := some 12) (v := ?_) (a' := ?_) #[true, true, true, true, true, true, false, false, false, false, false, false, false] rfl rfl (by kernel_rfl) (fun _ _ _ h => h) (Or.inl ⟨by rfl, ?_⟩) ?_ ?_
  rotate_left
  · intro w'
    go_simp
    with_reducible rfl
  rotate_left
  · simp only [Act.put, List.setIfInBounds_toArray, List.set_cons_zero, List.set_cons_succ]
    rfl
  refine pure_ (i := 6) (N := some 13) (v := ?_) (a' := ?_) #[true, true, true, true, true, true, true, false, false, false, false, false, false] rfl rfl (by kernel_rfl) (fun _ _ _ h => h) (Or.inl ⟨by rfl, ?_⟩) ?_ ?_
  rotate_left
  · intro w'
    go_simp
    with_reducible rfl
  rotate_left
  · simp only [Act.put, List.setIfInBounds_toArray, List.set_cons_zero, List.set_cons_succ]
    rfl
  refine pure_ (i := 7) (N := some 14) (v := ?_) (a' := ?_) #[true, true, true, true, true, true, true, true, false, false, false, false, false] rfl rfl (by kernel_rfl) (fun _ _ _ h => h) (Or.inl ⟨by rfl, ?_⟩) ?_ ?_
  rotate_left
  · intro w'
    go_simp
    with_reducible rfl
  rotate_left
  · simp only [Act.put, List.setIfInBounds_toArray, List.set_cons_zero, List.set_cons_succ]
    rfl
  refine take_ (i := 8) (N := some 15) (v := ?_) (a' := ?_) #[true, true, true, true, true, true, true, true, true, false, false, false, false] rfl rfl (by kernel_rfl) (fun _ _ _ h => h) (Or.inl ⟨by rfl, ?_⟩) hHeld ?_ ?_
  rotate_left
  · intro w' s0
    have BK0 := HC.out _ s0
    have k12 : w'.cell? ⟨p, 12, none⟩ = some (.int .i64 bo) := (blk_cell BK0 12).trans K12.out
    go_simp
    with_reducible rfl
  rotate_left
  · simp only [Act.put, List.setIfInBounds_toArray, List.set_cons_zero, List.set_cons_succ]
    rfl
  refine pure_ (i := 9) (N := some 16) (v := ?_) (a' := ?_) #[true, true, true, true, true, true, true, true, true, true, false, false, false] rfl rfl (by kernel_rfl) (fun _ _ _ h => h) (Or.inl ⟨by rfl, ?_⟩) ?_ ?_
  rotate_left
  · intro w'
    go_simp
    with_reducible rfl
  rotate_left
  · simp only [Act.put, List.setIfInBounds_toArray, List.set_cons_zero, List.set_cons_succ]
    rfl
  refine one_ (i := 10) (N := some 5) #[true, true, true, true, true, true, true, true, true, true, true, false, false] rfl rfl (by kernel_rfl) (by decide) (fun K hK => ?_)
  refine value_ (v := .pointer (some ⟨w.heap.size, 0, none⟩)) (w1 := w.drew.alloc (.cells ZS 27 (0, 0))) (by rfl) rfl ?_ ?_
  · obtain rfl := HZ.out
    first | (go_simp; done) | (go_simp; rfl)
  refine hK.out _ _ (hHeld.alloc (Nat.le_of_eq HBW.out.symm) _) (fun hHeld => ?_)
  have BK := Aside0.mk (show (w.drew.alloc (.cells ZS 27 (0, 0))).heap[w.heap.size]? = some (.cells ZS 27 (0, 0)) from blk_new w.drew _)
  obtain ⟨w1, hw1⟩ : ∃ w1, w.drew.alloc (.cells ZS 27 (0, 0)) = w1 := ⟨_, rfl⟩
  obtain ⟨q5, hq5⟩ : ∃ q5, w.heap.size = q5 := ⟨_, rfl⟩
  rw [hw1] at BK hHeld ⊢
  rw [hq5] at BK ⊢
  have HQ := Aside0.mk hq5
  clear hK K hw1 hq5
  refine norm_ (a' := ?_) ?_ ?_
  rotate_left
  · show Act.put _ (some 5) _ = _
    simp only [Act.put, List.setIfInBounds_toArray, List.set_cons_zero, List.set_cons_succ]
    rfl
  refine one_ (i := 11) (N := none) #[true, true, true, true, true, true, true, true, true, true, true, true, false] rfl rfl (by kernel_rfl) (by decide) (fun K hK => ?_)
  refine skip_ (w1 := w1.setRow q5 LS) (by rfl) rfl ?_ ?_
  · refine store_runA 27 (.tmp 5) (.tmp 10) rfl q5 LS ?_ ?_ 27 ZS BK.out (by rw [HLZ.out.1]; exact isz27) (by rw [HLZ.out.1, HLZ.out.2]) H1.out
    · rfl
    · rfl
  refine hK.out _ _ (below_setRow hHeld (Nat.le_of_eq (HBW.out.symm.trans HQ.out)) _) (fun hHeld => ?_)
  have BK2 := Aside0.mk (show (w1.setRow q5 LS).heap[q5]? = some (.cells LS 27 (0, 0)) from setRow_heap _ _ _ _ _ _ BK.out)
  obtain ⟨w2, hw2⟩ : ∃ w2, w1.setRow q5 LS = w2 := ⟨_, rfl⟩
  rw [hw2] at BK2 hHeld ⊢
  clear hK K hw2
  refine pure_ (i := 12) (N := some 6) (v := ?_) (a' := ?_) #[true, true, true, true, true, true, true, true, true, true, true, true, true] rfl rfl (by kernel_rfl) (fun _ _ _ h => h) (Or.inl ⟨by rfl, ?_⟩) ?_ ?_
  rotate_left
  · intro w'
    go_simp
    with_reducible rfl
  rotate_left
  · simp only [Act.put, List.setIfInBounds_toArray, List.set_cons_zero, List.set_cons_succ]
    rfl
  refine done_ (by kernel_rfl) ?_
  have HB := Aside0.mk hHeld
  clear hHeld
  (try simp only [Exit.inBlock, Exit.then])
  have BP := Aside0.mk (HC.out _ HB.out)
  have k13 : w2.cell? ⟨p, 13, none⟩ = some (.int .i64 by_) := (blk_cell BP.out 13).trans K13.out
  have q9 : w2.cell? ⟨q5, 9, none⟩ = some (.int .i64 l4) := (blk_cell BK2.out 9).trans G9.out
  have q11 : w2.cell? ⟨q5, 11, none⟩ = some (.int .i64 l6) := (blk_cell BK2.out 11).trans G11.out
  have q8 : w2.cell? ⟨q5, 8, none⟩ = some (.int .i64 l3) := (blk_cell BK2.out 8).trans G8.out
  have q10 : w2.cell? ⟨q5, 10, none⟩ = some (.int .i64 l5) := (blk_cell BK2.out 10).trans G10.out
  go_wp2_with (fail)
  cases hb4 : reachB by_ l4
  · cases hb6 : reachB t l6
    · go_quiet ((exact Calls.quiet_of_same (reached_same _ _ _)))
      go_wp2_with (fail)
      cases hb3 : reachB by_ l3
      · cases hb5 : reachB t l5
        · go_quiet ((exact quiet_add_same (reached_same _ _ _)))
          go_wp2_with (fail)
          go_ret
          refine ⟨?_, by first | exact pw_below_drewN HB.out _ | exact pw_below_drewN (pw_below_drewN HB.out _) _⟩
          unfold ageB
          simp [*]
        · go_quiet ((exact quiet_add_same (reached_same _ _ _)))
          go_wp2_with (fail)
          go_ret
          refine ⟨?_, by first | exact pw_below_drewN HB.out _ | exact pw_below_drewN (pw_below_drewN HB.out _) _⟩
          unfold ageB
          simp [*]
      · go_quiet ((exact quiet_add_same (reached_same _ _ _)))
        go_wp2_with (fail)
        go_ret
        refine ⟨?_, by first | exact pw_below_drewN HB.out _ | exact pw_below_drewN (pw_below_drewN HB.out _) _⟩
        unfold ageB
        simp [*]
    · go_quiet ((exact Calls.quiet_of_same (reached_same _ _ _)))
      go_wp2_with (fail)
      go_ret
      refine ⟨?_, by first | exact pw_below_drewN HB.out _ | exact pw_below_drewN (pw_below_drewN HB.out _) _⟩
      unfold ageB
      simp [*]
  · go_quiet ((exact Calls.quiet_of_same (reached_same _ _ _)))
    go_wp2_with (fail)
    go_ret
    refine ⟨?_, by first | exact pw_below_drewN HB.out _ | exact pw_below_drewN (pw_below_drewN HB.out _) _⟩
    unfold ageB
    simp [*]
theorem age_walk {w : World} {p g : Nat} {e : En} (h : w.heap[p]? = some (.cells (encE e g).toArray 71 (0, 0))) (now : Int) (hn : -4611686018427387904 ≤ now - e.born ∧ now - e.born ≤ 4611686018427387904) :
    Calls Tryd.prog 26 #[.pointer (some ⟨p, 0, none⟩), .int .i64 now] w fun e' w' => e' = .returned (.int .i64 (ageE e now)) ∧ Below w.heap.size w w' :=
  age_aux (LS := (enc27 e.life).toArray) now h rfl rfl ⟨fun W hb => load27 (blk_below h hb)⟩ rfl ⟨one27 _⟩ rfl rfl rfl rfl hn
end Go.Proofs.YtkmnpnbfeiobiaaDoor.Sd
namespace Go.Proofs.YtkmnpnbfeiobiaaDoor.Sd
open Go.RowKit Go.Proofs.YtkmnpnbfeiobiaaDoorW.PrintWords Go.Proofs.YtkmnpnbfeiobiaaDoorW.PrintLast Go.Proofs.YtkmnpnbfeiobiaaDoorW.PrintMore Go.Proofs.YtkmnpnbfeiobiaaDoor.QSa
open Go.Proofs.YtkmnpnbfeiobiaaDoor
set_option linter.unusedVariables false
set_option linter.unusedSimpArgs false
/-- Is an association one of that number and direction? -/
def hitB (spi : Int) (out : Bool) (e : En) : Bool := e.life.f0.f0 == spi && e.life.f2 == out
set_option maxHeartbeats 1600000 in
set_option maxRecDepth 100000 in
theorem hit_aux {w : World} {p b4 b5 : Nat} {CS : Array Value} {s0 spi : Int} {o0 out : Bool} (h : w.heap[p]? = some (.cells CS 71 (0, 0))) (h0 : CS[0]? = some (.int .i64 s0)) (h7 : CS[7]? = some (.bool o0)) (h4 : w.heap[b4]? = some (.cells #[.int .i64 spi] 3 (0, 0))) (h5 : w.heap[b5]? = some (.cells #[.bool out] 4 (0, 0))) :
    Calls Tryd.prog 42 #[.pointer (some ⟨p, 0, none⟩), .pointer (some ⟨b4, 0, none⟩), .pointer (some ⟨b5, 0, none⟩)] w fun e w' => e = .returned (.bool (s0 == spi && o0 == out)) ∧ ∃ m, w' = w.drewN m := by
  have k0 : w.cell? ⟨p, 0, none⟩ = some (.int .i64 s0) := (blk_cell h 0).trans h0
  have k7 : w.cell? ⟨p, 7, none⟩ = some (.bool o0) := (blk_cell h 7).trans h7
  have c4 : w.cell? ⟨b4, 0, none⟩ = some (.int .i64 spi) := (blk_cell h4 0).trans rfl
  have c5 : w.cell? ⟨b5, 0, none⟩ = some (.bool out) := (blk_cell h5 0).trans rfl
  clear h h0 h7 h4 h5
  cases hs : (s0 == spi)
  · go_enter Tryd.func42, Tryd.ntmps42
    go_wp2_with (fail)
    go_quiet (fail)
    go_wp2_with (fail)
    go_ret
    exact ⟨rfl, _, rfl⟩
  · go_enter Tryd.func42, Tryd.ntmps42
    go_wp2_with (fail)
    go_quiet (fail)
    go_wp2_with (fail)
    go_ret
    exact ⟨by simp, _, rfl⟩
theorem hit_walk {w : World} {p g b4 b5 : Nat} {e : En} {spi : Int} {out : Bool} (h : w.heap[p]? = some (.cells (encE e g).toArray 71 (0, 0))) (h4 : w.heap[b4]? = some (.cells #[.int .i64 spi] 3 (0, 0))) (h5 : w.heap[b5]? = some (.cells #[.bool out] 4 (0, 0))) :
    Calls Tryd.prog 42 #[.pointer (some ⟨p, 0, none⟩), .pointer (some ⟨b4, 0, none⟩), .pointer (some ⟨b5, 0, none⟩)] w fun e' w' => e' = .returned (.bool (hitB spi out e)) ∧ ∃ m, w' = w.drewN m :=
  hit_aux h rfl rfl h4 h5
theorem isz71 : (Tryd.prog.info? 71).map (·.size) = some 16 := by kernel_rfl
theorem eql_ptrs {W : World} {p x : Nat} {cp cx : Array Value} {tp tx : TypeId} (hp : W.heap[p]? = some (.cells cp tp (0, 0))) (hx : W.heap[x]? = some (.cells cx tx (0, 0))) :
    (binOp .eql 61 (.pointer (some ⟨p, 0, none⟩)) (.pointer (some ⟨x, 0, none⟩))).run Tryd.prog W = .ok (.bool (p == x)) W := by
  obtain ⟨j, hj, hjs⟩ := Option.map_eq_some_iff.1 isz71
  by_cases h : p = x
  · subst h
    simpa using run_eql_ptr_same (P := Tryd.prog) W ⟨p, 0, none⟩ Tryd.underlying61 hj
  · rw [beq_eq_false_iff_ne.2 h]
    exact run_eql_ptr_other (P := Tryd.prog) W Tryd.underlying61 hj (by rw [hjs]; decide) (fun e => h (by injection e)) hp hx
set_option maxHeartbeats 1600000 in
set_option maxRecDepth 100000 in
theorem same_walk {w : World} {p x b : Nat} {cp cx : Array Value} {tp tx : TypeId} (hp : w.heap[p]? = some (.cells cp tp (0, 0))) (hx : w.heap[x]? = some (.cells cx tx (0, 0))) (h : w.heap[b]? = some (.cells #[.pointer (some ⟨x, 0, none⟩)] 61 (0, 0))) :
    Calls Tryd.prog 30 #[.pointer (some ⟨p, 0, none⟩), .pointer (some ⟨b, 0, none⟩)] w fun e' w' => e' = .returned (.bool (p == x)) ∧ ∃ m, w' = w.drewN m := by
  have c : w.cell? ⟨b, 0, none⟩ = some (.pointer (some ⟨x, 0, none⟩)) := (blk_cell h 0).trans rfl
  have hq := eql_ptrs hp hx
  obtain ⟨r, hr⟩ : ∃ r, (p == x) = r := ⟨_, rfl⟩
  rw [hr] at hq ⊢
  clear h hp hx hr
  go_enter Tryd.func30, Tryd.ntmps30
  go_wp2_with (fail)
  go_ret
  exact ⟨rfl, 0, rfl⟩
/-- The first one of n that is hit, or -1. -/
def IdxOf (n : Nat) (hit : Nat → Bool) (r : Int) : Prop := (r = -1 ∧ ∀ j, j < n → hit j = false) ∨ ∃ i : Nat, i < n ∧ r = (i : Int) ∧ hit i = true ∧ ∀ j, j < i → hit j = false
def IdxQ (n : Nat) (hit : Nat → Bool) (w : World) (e : Ending) (w' : World) : Prop := (∃ r, e = .returned (.int .i64 r) ∧ IdxOf n hit r) ∧ Below w.heap.size w w'
/-- The pointers of a row, in memory. -/
def PtrAt (w : World) (A : Option Addr) (n : Nat) (p : Nat → Nat) : Prop := ∀ i, i < n → ∃ b, A = some ⟨b, 0, none⟩ ∧ w.cell? ⟨b, i, none⟩ = some (.pointer (some ⟨p i, 0, none⟩))
set_option maxHeartbeats 1600000 in
set_option maxRecDepth 100000 in
theorem index42 {w : World} {A : Option Addr} {n c : Nat} {p : Nat → Nat} {hit : Nat → Bool} {b4 b5 : Nat} (hn : n ≤ 1000) (hp : ∀ W, Below w.heap.size w W → PtrAt W A n p) (hh : ∀ i W, i < n → Below w.heap.size w W → Calls Tryd.prog 42 #[.pointer (some ⟨p i, 0, none⟩), .pointer (some ⟨b4, 0, none⟩), .pointer (some ⟨b5, 0, none⟩)] W fun e W' => e = .returned (.bool (hit i)) ∧ ∃ m, W' = W.drewN m) :
    Calls Tryd.prog 41 #[.slice A n c, .func (.func 42) #[] #[.pointer (some ⟨b4, 0, none⟩), .pointer (some ⟨b5, 0, none⟩)]] w (IdxQ n hit w) := by
  have HP := Aside0.mk hp
  have HH := Aside0.mk hh
  have HB := Aside0.mk (Below.refl w.heap.size w)
  clear hp hh
  go_enter Tryd.func41, Tryd.ntmps41
  go_wp2_with (fail)
  go_loopw [8] (fun iv wr => ∃ i : Nat, i ≤ n ∧ iv = .int .i64 i ∧ Aside0 (∀ j, j < i → hit j = false) ∧ Aside0 (Below w.heap.size w wr)) (fun iv _ => n - (intOf iv).toNat)
  case atStart => exact ⟨0, by omega, rfl, ⟨fun j hj => by omega⟩, HB⟩
  case round =>
    clear HB
    obtain ⟨i, hin, rfl, HI, HB⟩ := hrel
    by_cases hlt : i < n
    · have hd : decide ((i : Int) < (n : Int)) = true := decide_eq_true (by omega)
      have hd' : decide (i < n) = true := decide_eq_true hlt
      obtain ⟨b, hA, hc⟩ := HP.out _ HB.out i hlt
      subst hA
      obtain ⟨x, hx⟩ : ∃ x, p i = x := ⟨_, rfl⟩
      have HX := Aside0.mk fun W hb => HH.out i W hlt hb
      rw [hx] at hc HX
      clear hx
      cases hhb : hit i
      · rw [hhb] at HX
        have HHB := Aside0.mk hhb
        clear hhb
        have hi1 : IntKind.i64.wrap ((i : Int) + 1) = ((i + 1 : Nat) : Int) := by rw [IntWalk.i64_in _ (by omega)]; omega
        go_wp2_with (fail)
        refine (HX.out wr HB.out).mono ?_
        rintro e w2 ⟨rfl, m, rfl⟩
        go_wp2_with (fail)
        go_roundw
        case rel =>
          refine ⟨i + 1, by omega, by go_num, ⟨fun j hj => ?_⟩, ⟨pw_below_drewN HB.out m⟩⟩
          rcases Nat.lt_succ_iff_lt_or_eq.1 hj with h | rfl
          · exact HI.out j h
          · exact HHB.out
        case measure => simp [intOf]; omega
      · rw [hhb] at HX
        have HHB := Aside0.mk hhb
        clear hhb
        go_wp2_with (fail)
        refine (HX.out wr HB.out).mono ?_
        rintro e w2 ⟨rfl, m, rfl⟩
        go_wp2_with (fail)
        go_ret
        exact ⟨⟨_, rfl, .inr ⟨i, hlt, rfl, HHB.out, HI.out⟩⟩, pw_below_drewN HB.out m⟩
    · have hd : decide ((i : Int) < (n : Int)) = false := decide_eq_false (by omega)
      have hd' : decide (i < n) = false := decide_eq_false hlt
      go_wp2_with (fail)
      go_ret
      exact ⟨⟨_, rfl, .inl ⟨rfl, fun j hj => HI.out j (by omega)⟩⟩, HB.out⟩
set_option maxHeartbeats 1600000 in
set_option maxRecDepth 100000 in
theorem index30 {w : World} {A : Option Addr} {n c : Nat} {p : Nat → Nat} {hit : Nat → Bool} {b4 : Nat} (hn : n ≤ 1000) (hp : ∀ W, Below w.heap.size w W → PtrAt W A n p) (hh : ∀ i W, i < n → Below w.heap.size w W → Calls Tryd.prog 30 #[.pointer (some ⟨p i, 0, none⟩), .pointer (some ⟨b4, 0, none⟩)] W fun e W' => e = .returned (.bool (hit i)) ∧ ∃ m, W' = W.drewN m) :
    Calls Tryd.prog 41 #[.slice A n c, .func (.func 30) #[] #[.pointer (some ⟨b4, 0, none⟩)]] w (IdxQ n hit w) := by
  have HP := Aside0.mk hp
  have HH := Aside0.mk hh
  have HB := Aside0.mk (Below.refl w.heap.size w)
  clear hp hh
  go_enter Tryd.func41, Tryd.ntmps41
  go_wp2_with (fail)
  go_loopw [8] (fun iv wr => ∃ i : Nat, i ≤ n ∧ iv = .int .i64 i ∧ Aside0 (∀ j, j < i → hit j = false) ∧ Aside0 (Below w.heap.size w wr)) (fun iv _ => n - (intOf iv).toNat)
  case atStart => exact ⟨0, by omega, rfl, ⟨fun j hj => by omega⟩, HB⟩
  case round =>
    clear HB
    obtain ⟨i, hin, rfl, HI, HB⟩ := hrel
    by_cases hlt : i < n
    · have hd : decide ((i : Int) < (n : Int)) = true := decide_eq_true (by omega)
      have hd' : decide (i < n) = true := decide_eq_true hlt
      obtain ⟨b, hA, hc⟩ := HP.out _ HB.out i hlt
      subst hA
      obtain ⟨x, hx⟩ : ∃ x, p i = x := ⟨_, rfl⟩
      have HX := Aside0.mk fun W hb => HH.out i W hlt hb
      rw [hx] at hc HX
      clear hx
      cases hhb : hit i
      · rw [hhb] at HX
        have HHB := Aside0.mk hhb
        clear hhb
        have hi1 : IntKind.i64.wrap ((i : Int) + 1) = ((i + 1 : Nat) : Int) := by rw [IntWalk.i64_in _ (by omega)]; omega
        go_wp2_with (fail)
        refine (HX.out wr HB.out).mono ?_
        rintro e w2 ⟨rfl, m, rfl⟩
        go_wp2_with (fail)
        go_roundw
        case rel =>
          refine ⟨i + 1, by omega, by go_num, ⟨fun j hj => ?_⟩, ⟨pw_below_drewN HB.out m⟩⟩
          rcases Nat.lt_succ_iff_lt_or_eq.1 hj with h | rfl
          · exact HI.out j h
          · exact HHB.out
        case measure => simp [intOf]; omega
      · rw [hhb] at HX
        have HHB := Aside0.mk hhb
        clear hhb
        go_wp2_with (fail)
        refine (HX.out wr HB.out).mono ?_
        rintro e w2 ⟨rfl, m, rfl⟩
        go_wp2_with (fail)
        go_ret
        exact ⟨⟨_, rfl, .inr ⟨i, hlt, rfl, HHB.out, HI.out⟩⟩, pw_below_drewN HB.out m⟩
    · have hd : decide ((i : Int) < (n : Int)) = false := decide_eq_false (by omega)
      have hd' : decide (i < n) = false := decide_eq_false hlt
      go_wp2_with (fail)
      go_ret
      exact ⟨⟨_, rfl, .inl ⟨rfl, fun j hj => HI.out j (by omega)⟩⟩, HB.out⟩
/-- Where an association of that number and direction lies in the list. -/
def findI (es : List En) (spi : Int) (out : Bool) : Nat := es.findIdx (hitB spi out)
theorem findI_of {es : List En} {spi : Int} {out : Bool} {r : Int} (h : IdxOf es.length (fun i => hitB spi out (es.getD i en0)) r) : (r = -1 ∧ ¬ findI es spi out < es.length) ∨ (r = (findI es spi out : Int) ∧ findI es spi out < es.length) := by
  rcases h with ⟨rfl, h⟩ | ⟨i, hi, rfl, h1, h2⟩
  · refine .inl ⟨rfl, fun hlt => ?_⟩
    have h3 := List.findIdx_getElem (p := hitB spi out) (w := hlt)
    have h4 : hitB spi out (es.getD (findI es spi out) en0) = false := h _ hlt
    rw [List.getD_eq_getElem?_getD, List.getElem?_eq_getElem hlt] at h4
    simp only [Option.getD_some, findI] at h4
    cases h4.symm.trans h3
  · have e : findI es spi out = i := by
      unfold findI
      rw [List.findIdx_eq hi]
      refine ⟨?_, fun j hj => ?_⟩
      · have h1 : hitB spi out (es.getD i en0) = true := h1
        rw [List.getD_eq_getElem?_getD, List.getElem?_eq_getElem hi] at h1
        exact h1
      · have h3 : hitB spi out (es.getD j en0) = false := h2 j hj
        rw [List.getD_eq_getElem?_getD, List.getElem?_eq_getElem (Nat.lt_trans hj hi)] at h3
        exact h3
    rw [e]
    exact .inr ⟨rfl, hi⟩
def SadP (w : World) (base q : Nat) (v : Value) (ps : List Pl) (es : List En) : Prop := Tab TP WnPg w base q v ps es
theorem SadP.below {w w' : World} {base q : Nat} {v : Value} {ps : List Pl} {es : List En} (h : SadP w base q v ps es) (hb : Below w.heap.size w w') : SadP w' base q v ps es := Tab.below h WnPg_ok hb
theorem SadP.ptrs {w : World} {base q c : Nat} {A : Option Addr} {ps : List Pl} {es : List En} (h : SadP w base q (.slice A es.length c) ps es) : PtrAt w A es.length fun i => (ps.getD i pl0).p := fun i hi => by
  obtain ⟨b, c', hv, hc⟩ := h.cell i hi
  injection hv with hv _ _
  exact ⟨b, hv, hc⟩
/-- What find leaves: the association, or an error. -/
def FindYes (p : Nat) (w : World) (e : Ending) (w' : World) : Prop := e = .returned (.tuple #[.pointer (some ⟨p, 0, none⟩), .nilIface]) ∧ Below w.heap.size w w'
def FindNo (c : Int) (w : World) (e : Ending) (w' : World) : Prop := (∃ v, e = .returned (.tuple #[.pointer none, v]) ∧ LostAt w' v c) ∧ Below w.heap.size w w'
set_option maxHeartbeats 1600000 in
set_option maxRecDepth 100000 in
theorem find_yes {w : World} {base q : Nat} {v : Value} {ps : List Pl} {es : List En} (h : SadP w base q v ps es) (hl : es.length ≤ 1000) (spi : Int) (out : Bool) (hf : findI es spi out < es.length) :
    Calls Tryd.prog 23 #[.pointer (some ⟨q, 0, none⟩), .int .i64 spi, .bool out] w (FindYes (ps.getD (findI es spi out) pl0).p w) := by
  obtain ⟨A, c, rfl, hlc⟩ := h.slice
  have HT := Aside0.mk fun (W : World) (hb : Below w.heap.size w W) => h.below hb
  have HF := Aside0.mk fun r => @findI_of es spi out r
  have IX := Aside0.mk fun (W : World) (b4 b5 : Nat) (hb : Below w.heap.size w W) (h4 : W.heap[b4]? = some (.cells #[.int .i64 spi] 3 (0, 0))) (h5 : W.heap[b5]? = some (.cells #[.bool out] 4 (0, 0))) =>
    index42 (w := W) (A := A) (n := es.length) (c := c) (p := fun i => (ps.getD i pl0).p) (hit := fun i => hitB spi out (es.getD i en0)) (b4 := b4) (b5 := b5) hl (fun W2 hb2 => ((h.below hb).below hb2).ptrs) (fun i W2 hi hb2 => hit_walk (((h.below hb).below hb2).at i hi).blk (blk_below h4 hb2) (blk_below h5 hb2))
  have PT := Aside0.mk fun (W : World) (hb : Below w.heap.size w W) => (h.below hb).ptrs
  obtain ⟨F, hF⟩ : ∃ F, findI es spi out = F := ⟨_, rfl⟩
  obtain ⟨n, hn⟩ : ∃ n, es.length = n := ⟨_, rfl⟩
  rw [hF, hn] at HF hf
  (try rw [hF])
  rw [hn] at HT IX PT hl hlc
  obtain ⟨P, hP⟩ : ∃ P, (ps.getD F pl0).p = P := ⟨_, rfl⟩
  rw [hP]
  have HPP := Aside0.mk hP
  clear h hF hn hP
  go_enter Tryd.func23, Tryd.ntmps23
  go_wp2_with (first | ((with_reducible refine gate_dst (N := 4) rfl ?_); refine box_event ?hg (N := 4) ?hd (cs := #[.int .i64 spi]) (t := 3) ?hr ?_; (case hd => rfl); (case hg => rfl); (case hr => first | (go_simp; done) | (go_simp; rfl)); intro q4 hq w1 hbox hb; have BKq4 := Aside0.mk hbox; have HQq4 := Aside0.mk (show w.heap.size ≤ q4 from by rw [hq]; exact Nat.le_refl _); have HB1 := Aside0.mk hb; clear hbox hb hq) | ((with_reducible refine gate_dst (N := 5) rfl ?_); refine box_event ?hg (N := 5) ?hd (cs := #[.bool out]) (t := 4) ?hr ?_; (case hd => rfl); (case hg => rfl); (case hr => first | (go_simp; done) | (go_simp; rfl)); intro q5 hq w2 hbox hb; have HNq4q5 := Aside0.mk (show q4 ≠ q5 from by have := blk_lt BKq4.out; omega); have BKq4 := Aside0.mk (blk_below BKq4.out hb); have BKq5 := Aside0.mk hbox; have HQq5 := Aside0.mk (show w.heap.size ≤ q5 from by rw [hq]; exact HB1.out.size); have HB2 := Aside0.mk (HB1.out.trans (hb.mono HB1.out.size)); clear hbox hb hq; have c0 : w2.cell? ⟨q, 0, none⟩ = some (.slice A n c) := (blk_cell (HT.out w2 HB2.out).blk 0).trans rfl))
  refine (IX.out w2 q4 q5 HB2.out BKq4.out BKq5.out).mono ?_
  rintro e w3 ⟨⟨r, rfl, hr⟩, hb⟩
  have HB3 := Aside0.mk (HB2.out.trans (hb.mono HB2.out.size))
  have BKq4 := Aside0.mk (blk_below BKq4.out hb)
  have hr2 := HF.out r hr
  clear hr hb
  obtain rfl : r = (F : Int) := by rcases hr2 with ⟨_, h⟩ | ⟨h, _⟩; exact absurd hf h; exact h
  clear hr2
  have hltI : (F : Int) < (n : Int) := by omega
  have h0 : decide ((F : Int) < 0) = false := decide_eq_false (by omega)
  have h0N : decide (F < 0) = false := decide_eq_false (by omega)
  obtain ⟨b, hA, hc⟩ := PT.out w3 HB3.out F hf
  subst hA
  dsimp only at hc
  rw [HPP.out] at hc
  have c0 : w3.cell? ⟨q, 0, none⟩ = some (.slice (some ⟨b, 0, none⟩) n c) := (blk_cell (HT.out w3 HB3.out).blk 0).trans rfl
  clear hf
  go_wp2_with (fail)
  go_ret2
  exact ⟨rfl, HB3.out⟩
set_option maxHeartbeats 1600000 in
set_option maxRecDepth 100000 in
theorem find_no {w : World} {base q : Nat} {v : Value} {ps : List Pl} {es : List En} (h : SadP w base q v ps es) (hl : es.length ≤ 1000) (spi : Int) (out : Bool) (hf : ¬ findI es spi out < es.length) :
    Calls Tryd.prog 23 #[.pointer (some ⟨q, 0, none⟩), .int .i64 spi, .bool out] w (FindNo 6 w) := by
  obtain ⟨A, c, rfl, hlc⟩ := h.slice
  have HT := Aside0.mk fun (W : World) (hb : Below w.heap.size w W) => h.below hb
  have HF := Aside0.mk fun r => @findI_of es spi out r
  have IX := Aside0.mk fun (W : World) (b4 b5 : Nat) (hb : Below w.heap.size w W) (h4 : W.heap[b4]? = some (.cells #[.int .i64 spi] 3 (0, 0))) (h5 : W.heap[b5]? = some (.cells #[.bool out] 4 (0, 0))) =>
    index42 (w := W) (A := A) (n := es.length) (c := c) (p := fun i => (ps.getD i pl0).p) (hit := fun i => hitB spi out (es.getD i en0)) (b4 := b4) (b5 := b5) hl (fun W2 hb2 => ((h.below hb).below hb2).ptrs) (fun i W2 hi hb2 => hit_walk (((h.below hb).below hb2).at i hi).blk (blk_below h4 hb2) (blk_below h5 hb2))
  have PT := Aside0.mk fun (W : World) (hb : Below w.heap.size w W) => (h.below hb).ptrs
  obtain ⟨F, hF⟩ : ∃ F, findI es spi out = F := ⟨_, rfl⟩
  obtain ⟨n, hn⟩ : ∃ n, es.length = n := ⟨_, rfl⟩
  rw [hF, hn] at HF hf
  (try rw [hF])
  rw [hn] at HT IX PT hl hlc
  clear h hF hn
  go_enter Tryd.func23, Tryd.ntmps23
  go_wp2_with (first | ((with_reducible refine gate_dst (N := 4) rfl ?_); refine box_event ?hg (N := 4) ?hd (cs := #[.int .i64 spi]) (t := 3) ?hr ?_; (case hd => rfl); (case hg => rfl); (case hr => first | (go_simp; done) | (go_simp; rfl)); intro q4 hq w1 hbox hb; have BKq4 := Aside0.mk hbox; have HQq4 := Aside0.mk (show w.heap.size ≤ q4 from by rw [hq]; exact Nat.le_refl _); have HB1 := Aside0.mk hb; clear hbox hb hq) | ((with_reducible refine gate_dst (N := 5) rfl ?_); refine box_event ?hg (N := 5) ?hd (cs := #[.bool out]) (t := 4) ?hr ?_; (case hd => rfl); (case hg => rfl); (case hr => first | (go_simp; done) | (go_simp; rfl)); intro q5 hq w2 hbox hb; have HNq4q5 := Aside0.mk (show q4 ≠ q5 from by have := blk_lt BKq4.out; omega); have BKq4 := Aside0.mk (blk_below BKq4.out hb); have BKq5 := Aside0.mk hbox; have HQq5 := Aside0.mk (show w.heap.size ≤ q5 from by rw [hq]; exact HB1.out.size); have HB2 := Aside0.mk (HB1.out.trans (hb.mono HB1.out.size)); clear hbox hb hq; have c0 : w2.cell? ⟨q, 0, none⟩ = some (.slice A n c) := (blk_cell (HT.out w2 HB2.out).blk 0).trans rfl))
  refine (IX.out w2 q4 q5 HB2.out BKq4.out BKq5.out).mono ?_
  rintro e w3 ⟨⟨r, rfl, hr⟩, hb⟩
  have HB3 := Aside0.mk (HB2.out.trans (hb.mono HB2.out.size))
  have BKq4 := Aside0.mk (blk_below BKq4.out hb)
  have hr2 := HF.out r hr
  clear hr hb
  obtain rfl : r = -1 := by rcases hr2 with ⟨h, _⟩ | ⟨_, h⟩; exact h; exact absurd h hf
  clear hr2 hf
  go_wp2_with (fail)
  refine start_ (n := 6) (S := fun W => Below w3.heap.size w3 W) (ds := []) #[false, false, false, false, false, false] (by kernel_rfl) rfl rfl (below_drew (Below.refl w3.heap.size w3)) (fun hHeld => ?_)
  refine take_ (i := 0) (N := some 23) (v := ?_) (a' := ?_) #[true, false, false, false, false, false] rfl rfl (by kernel_rfl) (fun _ _ _ h => h) (Or.inl ⟨by rfl, ?_⟩) hHeld ?_ ?_
  rotate_left
  · intro w' s0
    have x0 : w'.cell? ⟨q4, 0, none⟩ = some (.int .i64 spi) := (blk_cell (blk_below BKq4.out s0) 0).trans rfl
    go_simp
    with_reducible rfl
  rotate_left
  · simp only [Act.put, List.setIfInBounds_toArray, List.set_cons_zero, List.set_cons_succ]
    rfl
  refine pure_ (i := 1) (N := some 24) (v := ?_) (a' := ?_) #[true, true, false, false, false, false] rfl rfl (by kernel_rfl) (fun _ _ _ h => h) (Or.inl ⟨by rfl, ?_⟩) ?_ ?_
  rotate_left
  · intro w'
    go_simp
    with_reducible rfl
  rotate_left
  · simp only [Act.put, List.setIfInBounds_toArray, List.set_cons_zero, List.set_cons_succ]
    rfl
  refine pure_ (i := 4) (N := some 6) (v := ?_) (a' := ?_) #[true, true, false, false, true, false] rfl rfl (by kernel_rfl) (fun _ _ _ h => h) (Or.inl ⟨by rfl, ?_⟩) ?_ ?_
  rotate_left
  · intro w'
    go_simp
    with_reducible rfl
  rotate_left
  · simp only [Act.put, List.setIfInBounds_toArray, List.set_cons_zero, List.set_cons_succ]
    rfl
  refine one_ (i := 2) (N := some 25) #[true, true, true, false, true, false] rfl rfl (by kernel_rfl) (by decide) (fun K hK => ?_)
  refine value_ (v := .pointer (some ⟨w3.heap.size, 0, none⟩)) (w1 := w3.drew.alloc (.cells #[.int .i64 spi, .int .i64 6] 86 (0, 0))) (by rfl) rfl ?_ ?_
  · first | (go_simp; done) | (go_simp; rfl)
  refine hK.out _ _ (below_alloc hHeld _) (fun hHeld => ?_)
  have BKn := Aside0.mk (show (w3.drew.alloc (.cells #[.int .i64 spi, .int .i64 6] 86 (0, 0))).heap[w3.heap.size]? = some (.cells #[.int .i64 spi, .int .i64 6] 86 (0, 0)) from blk_new w3.drew _)
  clear hK K
  refine norm_ (a' := ?_) ?_ ?_
  rotate_left
  · show Act.put _ (some 25) _ = _
    simp only [Act.put, List.setIfInBounds_toArray, List.set_cons_zero, List.set_cons_succ]
    rfl
  refine pure_ (i := 3) (N := some 26) (v := ?_) (a' := ?_) #[true, true, true, true, true, false] rfl rfl (by kernel_rfl) (fun _ _ _ h => h) (Or.inl ⟨by rfl, ?_⟩) ?_ ?_
  rotate_left
  · intro w'
    go_simp
    with_reducible rfl
  rotate_left
  · simp only [Act.put, List.setIfInBounds_toArray, List.set_cons_zero, List.set_cons_succ]
    rfl
  refine pure_ (i := 5) (N := some 7) (v := ?_) (a' := ?_) #[true, true, true, true, true, true] rfl rfl (by kernel_rfl) (fun _ _ _ h => h) (Or.inl ⟨by rfl, ?_⟩) ?_ ?_
  rotate_left
  · intro w'
    go_simp
    with_reducible rfl
  rotate_left
  · simp only [Act.put, List.setIfInBounds_toArray, List.set_cons_zero, List.set_cons_succ]
    rfl
  refine done_ (by kernel_rfl) ?_
  have HB5 := Aside0.mk (HB3.out.trans (hHeld.mono HB3.out.size))
  clear hHeld
  (try simp only [Exit.inBlock, Exit.then])
  go_wp2_with (fail)
  go_ret2
  exact ⟨⟨_, rfl, _, _, rfl, BKn.out⟩, HB5.out⟩
set_option maxHeartbeats 1600000 in
set_option maxRecDepth 100000 in
theorem find_nil (w : World) (spi : Int) (out : Bool) : Calls Tryd.prog 23 #[.pointer none, .int .i64 spi, .bool out] w (FindNo 3 w) := by
  go_enter Tryd.func23, Tryd.ntmps23
  go_wp2_with (first | ((with_reducible refine gate_dst (N := 4) rfl ?_); refine box_event ?hg (N := 4) ?hd (cs := #[.int .i64 spi]) (t := 3) ?hr ?_; (case hd => rfl); (case hg => rfl); (case hr => first | (go_simp; done) | (go_simp; rfl)); intro q4 hq w1 hbox hb; have BKq4 := Aside0.mk hbox; have HQq4 := Aside0.mk (show w.heap.size ≤ q4 from by rw [hq]; exact Nat.le_refl _); have HB1 := Aside0.mk hb; clear hbox hb hq) | ((with_reducible refine gate_dst (N := 5) rfl ?_); refine box_event ?hg (N := 5) ?hd (cs := #[.bool out]) (t := 4) ?hr ?_; (case hd => rfl); (case hg => rfl); (case hr => first | (go_simp; done) | (go_simp; rfl)); intro q5 hq w2 hbox hb; have HNq4q5 := Aside0.mk (show q4 ≠ q5 from by have := blk_lt BKq4.out; omega); have BKq4 := Aside0.mk (blk_below BKq4.out hb); have BKq5 := Aside0.mk hbox; have HQq5 := Aside0.mk (show w.heap.size ≤ q5 from by rw [hq]; exact HB1.out.size); have HB2 := Aside0.mk (HB1.out.trans (hb.mono HB1.out.size)); clear hbox hb hq))
  refine start_ (n := 6) (S := fun W => Below w2.heap.size w2 W) (ds := []) #[false, false, false, false, false, false] (by kernel_rfl) rfl rfl (below_drew (Below.refl w2.heap.size w2)) (fun hHeld => ?_)
  refine take_ (i := 0) (N := some 11) (v := ?_) (a' := ?_) #[true, false, false, false, false, false] rfl rfl (by kernel_rfl) (fun _ _ _ h => h) (Or.inl ⟨by rfl, ?_⟩) hHeld ?_ ?_
  rotate_left
  · intro w' s0
    have x0 : w'.cell? ⟨q4, 0, none⟩ = some (.int .i64 spi) := (blk_cell (blk_below BKq4.out s0) 0).trans rfl
    go_simp
    with_reducible rfl
  rotate_left
  · simp only [Act.put, List.setIfInBounds_toArray, List.set_cons_zero, List.set_cons_succ]
    rfl
  refine pure_ (i := 1) (N := some 12) (v := ?_) (a' := ?_) #[true, true, false, false, false, false] rfl rfl (by kernel_rfl) (fun _ _ _ h => h) (Or.inl ⟨by rfl, ?_⟩) ?_ ?_
  rotate_left
  · intro w'
    go_simp
    with_reducible rfl
  rotate_left
  · simp only [Act.put, List.setIfInBounds_toArray, List.set_cons_zero, List.set_cons_succ]
    rfl
  refine pure_ (i := 4) (N := some 6) (v := ?_) (a' := ?_) #[true, true, false, false, true, false] rfl rfl (by kernel_rfl) (fun _ _ _ h => h) (Or.inl ⟨by rfl, ?_⟩) ?_ ?_
  rotate_left
  · intro w'
    go_simp
    with_reducible rfl
  rotate_left
  · simp only [Act.put, List.setIfInBounds_toArray, List.set_cons_zero, List.set_cons_succ]
    rfl
  refine one_ (i := 2) (N := some 13) #[true, true, true, false, true, false] rfl rfl (by kernel_rfl) (by decide) (fun K hK => ?_)
  refine value_ (v := .pointer (some ⟨w2.heap.size, 0, none⟩)) (w1 := w2.drew.alloc (.cells #[.int .i64 spi, .int .i64 3] 86 (0, 0))) (by rfl) rfl ?_ ?_
  · first | (go_simp; done) | (go_simp; rfl)
  refine hK.out _ _ (below_alloc hHeld _) (fun hHeld => ?_)
  have BKn := Aside0.mk (show (w2.drew.alloc (.cells #[.int .i64 spi, .int .i64 3] 86 (0, 0))).heap[w2.heap.size]? = some (.cells #[.int .i64 spi, .int .i64 3] 86 (0, 0)) from blk_new w2.drew _)
  clear hK K
  refine norm_ (a' := ?_) ?_ ?_
  rotate_left
  · show Act.put _ (some 13) _ = _
    simp only [Act.put, List.setIfInBounds_toArray, List.set_cons_zero, List.set_cons_succ]
    rfl
  refine pure_ (i := 3) (N := some 14) (v := ?_) (a' := ?_) #[true, true, true, true, true, false] rfl rfl (by kernel_rfl) (fun _ _ _ h => h) (Or.inl ⟨by rfl, ?_⟩) ?_ ?_
  rotate_left
  · intro w'
    go_simp
    with_reducible rfl
  rotate_left
  · simp only [Act.put, List.setIfInBounds_toArray, List.set_cons_zero, List.set_cons_succ]
    rfl
  refine pure_ (i := 5) (N := some 7) (v := ?_) (a' := ?_) #[true, true, true, true, true, true] rfl rfl (by kernel_rfl) (fun _ _ _ h => h) (Or.inl ⟨by rfl, ?_⟩) ?_ ?_
  rotate_left
  · intro w'
    go_simp
    with_reducible rfl
  rotate_left
  · simp only [Act.put, List.setIfInBounds_toArray, List.set_cons_zero, List.set_cons_succ]
    rfl
  refine done_ (by kernel_rfl) ?_
  have HB5 := Aside0.mk (HB2.out.trans (hHeld.mono HB2.out.size))
  clear hHeld
  (try simp only [Exit.inBlock, Exit.then])
  go_wp2_with (fail)
  go_ret2
  exact ⟨⟨_, rfl, _, _, rfl, BKn.out⟩, HB5.out⟩
/-- An association whose time can be told. -/
def Timed (e : En) (now : Int) : Prop := -4611686018427387904 ≤ now - e.born ∧ now - e.born ≤ 4611686018427387904
set_option maxHeartbeats 1600000 in
set_option maxRecDepth 100000 in
theorem live_no {w : World} {p : Option Addr} {c : Int} (now spi : Int) (out : Bool) (hf : Calls Tryd.prog 23 #[.pointer p, .int .i64 spi, .bool out] w (FindNo c w)) :
    Calls Tryd.prog 27 #[.pointer p, .int .i64 now, .int .i64 spi, .bool out] w (FindNo c w) := by
  have HF := Aside0.mk hf
  clear hf
  go_enter Tryd.func27, Tryd.ntmps27
  go_wp2_with (fail)
  refine HF.out.mono ?_
  rintro e w1 ⟨⟨v, rfl, k, s, rfl, hk⟩, hb⟩
  have HK := Aside0.mk hk
  have HB := Aside0.mk hb
  clear hk hb
  go_wp2_with (fail)
  go_ret2
  exact ⟨⟨_, rfl, _, _, rfl, HK.out⟩, HB.out⟩
set_option maxHeartbeats 1600000 in
set_option maxRecDepth 100000 in
theorem live_yes {w : World} {q p g : Nat} {e : En} (now spi : Int) (out : Bool) (hf : Calls Tryd.prog 23 #[.pointer (some ⟨q, 0, none⟩), .int .i64 spi, .bool out] w (FindYes p w)) (he : w.heap[p]? = some (.cells (encE e g).toArray 71 (0, 0))) (hn : Timed e now) (ha : ageE e now ≠ 2) :
    Calls Tryd.prog 27 #[.pointer (some ⟨q, 0, none⟩), .int .i64 now, .int .i64 spi, .bool out] w (FindYes p w) := by
  have HF := Aside0.mk hf
  have AG := Aside0.mk fun (W : World) (hb : Below w.heap.size w W) => age_walk (blk_below he hb) now hn
  obtain ⟨a, hae⟩ : ∃ a, ageE e now = a := ⟨_, rfl⟩
  rw [hae] at AG ha
  have ha2 : (a == 2) = false := by rw [beq_eq_false_iff_ne]; exact ha
  clear hf he hn ha hae
  go_enter Tryd.func27, Tryd.ntmps27
  go_wp2_with (fail)
  refine HF.out.mono ?_
  rintro e w1 ⟨rfl, hb⟩
  have HB := Aside0.mk hb
  clear hb
  go_wp2_with (fail)
  refine (AG.out w1 HB.out).mono ?_
  rintro e w2 ⟨rfl, hb⟩
  have HB2 := Aside0.mk (HB.out.trans (hb.mono HB.out.size))
  clear hb
  go_wp2_with (fail)
  go_ret2
  exact ⟨rfl, HB2.out⟩
set_option maxHeartbeats 1600000 in
set_option maxRecDepth 100000 in
theorem live_hard {w : World} {q p g : Nat} {e : En} (now spi : Int) (out : Bool) (hf : Calls Tryd.prog 23 #[.pointer (some ⟨q, 0, none⟩), .int .i64 spi, .bool out] w (FindYes p w)) (he : w.heap[p]? = some (.cells (encE e g).toArray 71 (0, 0))) (hn : Timed e now) (ha : ageE e now = 2) :
    Calls Tryd.prog 27 #[.pointer (some ⟨q, 0, none⟩), .int .i64 now, .int .i64 spi, .bool out] w (FindNo 171 w) := by
  have HF := Aside0.mk hf
  have AG := Aside0.mk fun (W : World) (hb : Below w.heap.size w W) => age_walk (blk_below he hb) now hn
  rw [ha] at AG
  clear hf he hn ha
  go_enter Tryd.func27, Tryd.ntmps27
  go_wp2_with (fail)
  refine HF.out.mono ?_
  rintro e w1 ⟨rfl, hb⟩
  have HB := Aside0.mk hb
  clear hb
  go_wp2_with (fail)
  refine (AG.out w1 HB.out).mono ?_
  rintro e w2 ⟨rfl, hb⟩
  have HB2 := Aside0.mk (HB.out.trans (hb.mono HB.out.size))
  clear hb
  go_wp2_with (first | ((with_reducible refine gate_dst (N := 29) rfl ?_); refine box_event ?hg (N := 29) ?hd (cs := #[.int .i64 spi, .int .i64 171]) (t := 86) ?hr ?_; (case hd => rfl); (case hg => rfl); (case hr => first | (go_simp; done) | (go_simp; rfl)); intro qn hq w3 hbox hb; have BKqn := Aside0.mk hbox; have HQqn := Aside0.mk (show w.heap.size ≤ qn from by rw [hq]; exact HB2.out.size); have HB3 := Aside0.mk (HB2.out.trans (hb.mono HB2.out.size)); clear hbox hb hq))
  go_ret2
  exact ⟨⟨_, rfl, _, _, rfl, BKqn.out⟩, HB3.out⟩
end Go.Proofs.YtkmnpnbfeiobiaaDoor.Sd
namespace Go.Proofs.YtkmnpnbfeiobiaaDoor.Sd
open Go.RowKit Go.Proofs.YtkmnpnbfeiobiaaDoorW.PrintWords Go.Proofs.YtkmnpnbfeiobiaaDoorW.PrintLast Go.Proofs.YtkmnpnbfeiobiaaDoorW.PrintMore Go.Proofs.YtkmnpnbfeiobiaaDoor.QSa
open Go.Proofs.YtkmnpnbfeiobiaaDoor
set_option linter.unusedVariables false
set_option linter.unusedSimpArgs false
/-- The program's associations in memory. -/
def SadX (w : World) (base q : Nat) (es : List En) : Prop := ∃ v ps, SadP w base q v ps es
theorem SadX.below {w w' : World} {base q : Nat} {es : List En} (h : SadX w base q es) (hb : Below w.heap.size w w') : SadX w' base q es := by
  obtain ⟨v, ps, h⟩ := h
  exact ⟨v, ps, h.below hb⟩
theorem SadX.other {w w' : World} {base b' q : Nat} {es : List En} (h : SadX w base q es) (ht : Turn TR b' w w') : SadX w' base q es := by
  obtain ⟨v, ps, h⟩ := h
  exact ⟨v, ps, Tab.other h WnPg_ok ht TP_TR⟩
theorem SadX.base_le {w : World} {base q : Nat} {es : List En} (h : SadX w base q es) : base ≤ w.heap.size := by
  obtain ⟨v, ps, h⟩ := h
  exact h.base_le
/-- What a call leaves: its answer, the associations, what may have turned. -/
def PgQ (base q : Nat) (es' : List En) (r : Value) (w : World) (e : Ending) (w' : World) : Prop := e = .returned r ∧ SadX w' base q es' ∧ Turn TP base w w'
theorem getD_mem {es : List En} {i : Nat} (h : i < es.length) : es.getD i en0 ∈ es := by
  rw [List.getD_eq_getElem?_getD, List.getElem?_eq_getElem h]
  exact List.getElem_mem h
set_option maxHeartbeats 1600000 in
theorem new_call (w : World) (base : Nat) (hb : base ≤ w.heap.size) : Calls Tryd.prog 8 #[] w fun e w' => (∃ q, e = .returned (.pointer (some ⟨q, 0, none⟩)) ∧ w.heap.size ≤ q ∧ SadX w' base q []) ∧ Below w.heap.size w w' := by
  go_enter Tryd.func8, Tryd.ntmps8
  go_wp2
  go_ret
  exact ⟨⟨_, rfl, Nat.le_refl _, _, [], Tab.empty (blk_new w _) hb⟩, below_alloc (Below.refl _ _) _⟩
/-- The calls' answers. -/
def ageF (es : List En) (now spi : Int) (out : Bool) : Int × Int := if findI es spi out < es.length then (ageE (es.getD (findI es spi out) en0) now, 0) else (0, 6)
set_option maxHeartbeats 1600000 in
set_option maxRecDepth 100000 in
theorem age_nil (w : World) (hL : Laid w) (now spi : Int) (out : Bool) : Calls Tryd.prog 17 #[.pointer none, .int .i64 now, .int .i64 spi, .bool out] w fun e w' => e = .returned (.tuple #[.int .i64 0, .int .i64 3]) ∧ Below w.heap.size w w' := by
  have FN := Aside0.mk (find_nil w spi out)
  have HL := Aside0.mk fun (W : World) (hb : Below w.heap.size w W) => hL.below hL.pos hb
  clear hL
  go_enter Tryd.func17, Tryd.ntmps17
  go_wp2_with (fail)
  refine FN.out.mono ?_
  rintro e w1 ⟨⟨v, rfl, hv⟩, hb⟩
  have NW := Aside0.mk (number_walk (HL.out w1 hb) hv)
  obtain ⟨k, s, rfl, _⟩ := hv
  have HB := Aside0.mk hb
  clear hb
  go_wp2_with (fail)
  refine NW.out.mono ?_
  rintro e w2 ⟨rfl, hb⟩
  have HB2 := Aside0.mk (HB.out.trans (hb.mono HB.out.size))
  clear hb
  go_wp2_with (fail)
  go_ret2
  exact ⟨rfl, HB2.out⟩
set_option maxHeartbeats 1600000 in
set_option maxRecDepth 100000 in
theorem age_call {w : World} {base q : Nat} {es : List En} (h : SadX w base q es) (hL : Laid w) (hl : es.length ≤ 1000) (now spi : Int) (out : Bool) (ht : ∀ e ∈ es, Timed e now) :
    Calls Tryd.prog 17 #[.pointer (some ⟨q, 0, none⟩), .int .i64 now, .int .i64 spi, .bool out] w (PgQ base q es (.tuple #[.int .i64 (ageF es now spi out).1, .int .i64 (ageF es now spi out).2]) w) := by
  obtain ⟨v, ps, hp⟩ := h
  have HP := Aside0.mk fun (W : World) (hb : Below w.heap.size w W) => hp.below hb
  have HL := Aside0.mk fun (W : World) (hb : Below w.heap.size w W) => hL.below hL.pos hb
  by_cases hf : findI es spi out < es.length
  · have FY := Aside0.mk (find_yes hp hl spi out hf)
    have AG := Aside0.mk fun (W : World) (hb : Below w.heap.size w W) => age_walk (blk_below (hp.at _ hf).blk hb) now (ht _ (getD_mem hf))
    unfold ageF
    rw [if_pos hf]
    obtain ⟨P, hP⟩ : ∃ P, (ps.getD (findI es spi out) pl0).p = P := ⟨_, rfl⟩
    obtain ⟨a, ha⟩ : ∃ a, ageE (es.getD (findI es spi out) en0) now = a := ⟨_, rfl⟩
    rw [hP] at FY AG
    rw [ha] at AG ⊢
    clear hp hL hf ht hP ha
    go_enter Tryd.func17, Tryd.ntmps17
    go_wp2_with (fail)
    refine FY.out.mono ?_
    rintro e w1 ⟨rfl, hb⟩
    have HB := Aside0.mk hb
    clear hb
    go_wp2_with (fail)
    refine (AG.out w1 HB.out).mono ?_
    rintro e w2 ⟨rfl, hb⟩
    have HB2 := Aside0.mk (HB.out.trans (hb.mono HB.out.size))
    clear hb
    go_wp2_with (fail)
    go_ret2
    exact ⟨rfl, ⟨_, _, HP.out _ HB2.out⟩, .of_below HB2.out⟩
  · have FN := Aside0.mk (find_no hp hl spi out hf)
    unfold ageF
    rw [if_neg hf]
    clear hp hL hf ht
    go_enter Tryd.func17, Tryd.ntmps17
    go_wp2_with (fail)
    refine FN.out.mono ?_
    rintro e w1 ⟨⟨v, rfl, hv⟩, hb⟩
    have NW := Aside0.mk (number_walk (HL.out w1 hb) hv)
    obtain ⟨k, s, rfl, _⟩ := hv
    have HB := Aside0.mk hb
    clear hb
    go_wp2_with (fail)
    refine NW.out.mono ?_
    rintro e w2 ⟨rfl, hb⟩
    have HB2 := Aside0.mk (HB.out.trans (hb.mono HB.out.size))
    clear hb
    go_wp2_with (fail)
    go_ret2
    exact ⟨rfl, ⟨_, _, HP.out _ HB2.out⟩, .of_below HB2.out⟩
/-- Which one sends by a rule; o: the last one that is old. -/
def pickL (now rule : Int) : List En → Option Int → Int × Int
  | [], none => (0, 161)
  | [], some s => (s, 0)
  | e :: l, o => if e.life.f2 = true then (if e.life.f1 = rule then (if ageE e now = 0 then (e.life.f0.f0, 0) else if ageE e now = 1 then pickL now rule l (some e.life.f0.f0) else pickL now rule l o) else pickL now rule l o) else pickL now rule l o
def pickF (es : List En) (now rule : Int) : Int × Int := pickL now rule es none
set_option maxHeartbeats 1600000 in
theorem pick_nil (w : World) (now rule : Int) : Calls Tryd.prog 11 #[.pointer none, .int .i64 now, .int .i64 rule] w fun e w' => e = .returned (.tuple #[.int .i64 0, .int .i64 3]) ∧ Below w.heap.size w w' := by
  go_enter Tryd.func11, Tryd.ntmps11
  go_wp2
  go_ret2
  exact ⟨rfl, Below.refl _ _⟩
/-- The old one, as the program keeps it. -/
def OldP (ps : List Pl) (es : List En) (n : Nat) (u : Value) (o : Option Int) : Prop := (u = .pointer none ∧ o = none) ∨ ∃ k, k < n ∧ u = .pointer (some ⟨(ps.getD k pl0).p, 0, none⟩) ∧ o = some (es.getD k en0).life.f0.f0
set_option maxHeartbeats 3200000 in
set_option maxRecDepth 100000 in
theorem pick_call {w : World} {base q : Nat} {es : List En} (h : SadX w base q es) (hl : es.length ≤ 1000) (now rule : Int) (ht : ∀ e ∈ es, Timed e now) :
    Calls Tryd.prog 11 #[.pointer (some ⟨q, 0, none⟩), .int .i64 now, .int .i64 rule] w (PgQ base q es (.tuple #[.int .i64 (pickF es now rule).1, .int .i64 (pickF es now rule).2]) w) := by
  obtain ⟨v, ps, hp⟩ := h
  obtain ⟨A, c, rfl, hlc⟩ := hp.slice
  have HP := Aside0.mk fun (W : World) (hb : Below w.heap.size w W) => hp.below hb
  have HA := Aside0.mk fun (i : Nat) (hi : i < es.length) (W : World) (hb : Below w.heap.size w W) => (hp.below hb).at i hi
  have AG := Aside0.mk fun (i : Nat) (hi : i < es.length) (W : World) (hb : Below w.heap.size w W) => age_walk (blk_below (hp.at i hi).blk hb) now (ht _ (getD_mem hi))
  have HT := Aside0.mk fun (W : World) (hb : Below w.heap.size w W) => (hp.below hb).ptrs
  have HB0 := Aside0.mk (Below.refl w.heap.size w)
  have c0 : w.cell? ⟨q, 0, none⟩ = some (.slice A es.length c) := (blk_cell hp.blk 0).trans rfl
  have HD := Aside0.mk (fun (i : Nat) (hi : i < es.length) => (List.drop_eq_getElem_cons hi).trans (by rw [show es[i] = es.getD i en0 from by rw [List.getD_eq_getElem?_getD, List.getElem?_eq_getElem hi]; rfl]))
  have HE := Aside0.mk (List.drop_length (l := es))
  obtain ⟨ra, hra⟩ : ∃ r, pickF es now rule = r := ⟨_, rfl⟩
  have HR0 := Aside0.mk (show pickL now rule (es.drop 0) none = ra from hra)
  rw [hra]
  obtain ⟨n, hn⟩ : ∃ n, es.length = n := ⟨_, rfl⟩
  rw [hn] at hl hlc HA AG HT HD HE c0
  clear hp ht hra hn
  go_enter Tryd.func11, Tryd.ntmps11
  go_wp2_with (fail)
  go_loopw [18, 8] (fun iv uv wr => ∃ (i : Nat) (u : Value) (o : Option Int), i ≤ n ∧ iv = .int .i64 i ∧ u = uv ∧ Aside0 (OldP ps es n u o) ∧ Aside0 (pickL now rule (es.drop i) o = ra) ∧ Aside0 (Below w.heap.size w wr)) (fun iv _ _ => n - (intOf iv).toNat)
  case atStart => exact ⟨0, .pointer none, none, by omega, rfl, rfl, ⟨.inl ⟨rfl, rfl⟩⟩, HR0, HB0⟩
  case round =>
    clear HB0 HR0
    obtain ⟨i, uv, o, hin, rfl, rfl, HO, HR, HB⟩ := hrel
    by_cases hlt : i < n
    · have hltI : (i : Int) < (n : Int) := by omega
      have hltN : decide (i < n) = true := decide_eq_true hlt
      obtain ⟨b, hA, hc⟩ := HT.out _ HB.out i hlt
      subst hA
      dsimp only at hc
      have hd := HD.out i hlt
      have EN := HA.out i hlt _ HB.out
      have AGi := Aside0.mk (AG.out i hlt)
      have HPI := Aside0.mk (show OldP ps es n (.pointer (some ⟨(ps.getD i pl0).p, 0, none⟩)) (some (es.getD i en0).life.f0.f0) from .inr ⟨i, hlt, rfl, rfl⟩)
      obtain ⟨e, he⟩ : ∃ e, es.getD i en0 = e := ⟨_, rfl⟩
      obtain ⟨x, hx⟩ : ∃ x, ps.getD i pl0 = x := ⟨_, rfl⟩
      have HRr := HR.out
      rw [hd, he] at HRr
      rw [he, hx] at EN
      rw [he, hx] at AGi HPI
      rw [hx] at hc
      have k0 : wr.cell? ⟨x.p, 0, none⟩ = some (.int .i64 e.life.f0.f0) := (blk_cell EN.blk 0).trans rfl
      have k6 : wr.cell? ⟨x.p, 6, none⟩ = some (.int .i64 e.life.f1) := (blk_cell EN.blk 6).trans rfl
      have k7 : wr.cell? ⟨x.p, 7, none⟩ = some (.bool e.life.f2) := (blk_cell EN.blk 7).trans rfl
      obtain ⟨P, hP⟩ : ∃ P, x.p = P := ⟨_, rfl⟩
      have HEN := Aside0.mk fun (W : World) (hb : Below wr.heap.size wr W) => blk_below EN.blk hb
      rw [hP] at k0 k6 k7 hc AGi HPI HEN
      obtain ⟨a, ha⟩ : ∃ a, ageE e now = a := ⟨_, rfl⟩
      rw [ha] at AGi
      obtain ⟨s0, hs0⟩ : ∃ s, e.life.f0.f0 = s := ⟨_, rfl⟩
      obtain ⟨r0, hr0⟩ : ∃ s, e.life.f1 = s := ⟨_, rfl⟩
      obtain ⟨o0, ho0⟩ : ∃ s, e.life.f2 = s := ⟨_, rfl⟩
      rw [hs0] at k0 HPI
      rw [hr0] at k6
      rw [ho0] at k7
      simp only [pickL] at HRr
      rw [ha, hs0, hr0, ho0] at HRr
      have HRR := Aside0.mk HRr
      have HS0 := Aside0.mk hs0
      clear EN hd he hx hP ha hs0 hr0 ho0 HRr
      have hi1 : IntKind.i64.wrap ((i : Int) + 1) = ((i + 1 : Nat) : Int) := by rw [IntWalk.i64_in _ (by omega)]; omega
      cases o0
      · have HN := Aside0.mk (show pickL now rule (es.drop (i + 1)) o = ra from by have := HRR.out; rwa [if_neg (by simp)] at this)
        go_wp2_with (fail)
        go_roundw
        case rel => exact ⟨i + 1, _, o, by omega, by go_num, rfl, HO, HN, HB⟩
        case measure => simp [intOf]; omega
      by_cases hru : r0 = rule
      · subst hru
        by_cases ha0 : a = 0
        · subst ha0
          have HN := Aside0.mk (show (s0, (0 : Int)) = ra from by have := HRR.out; rwa [if_pos rfl, if_pos rfl, if_pos rfl] at this)
          go_wp2_with (fail)
          refine (AGi.out wr HB.out).mono ?_
          rintro e' w2 ⟨rfl, hb⟩
          have HB2 := Aside0.mk (HB.out.trans (hb.mono HB.out.size))
          have k0' : w2.cell? ⟨P, 0, none⟩ = some (.int .i64 e.life.f0.f0) := (blk_cell (HEN.out w2 hb) 0).trans rfl
          rw [HS0.out] at k0'
          clear hb
          go_wp2_with (fail)
          go_ret2
          refine ⟨?_, ⟨_, _, HP.out _ HB2.out⟩, .of_below HB2.out⟩
          rw [← HN.out]
          rfl
        · have ha0b : (a == 0) = false := by rw [beq_eq_false_iff_ne]; exact ha0
          by_cases ha1 : a = 1
          · subst ha1
            have HN := Aside0.mk (show pickL now r0 (es.drop (i + 1)) (some s0) = ra from by have := HRR.out; rwa [if_pos rfl, if_pos rfl, if_neg (by decide), if_pos rfl] at this)
            clear ha0 ha0b
            go_wp2_with (fail)
            refine (AGi.out wr HB.out).mono ?_
            rintro e' w2 ⟨rfl, hb⟩
            have HB2 := Aside0.mk (HB.out.trans (hb.mono HB.out.size))
            clear hb
            go_wp2_with (fail)
            go_roundw
            case rel => exact ⟨i + 1, _, _, by omega, by go_num, rfl, HPI, HN, HB2⟩
            case measure => simp [intOf]; omega
          · have ha1b : (a == 1) = false := by rw [beq_eq_false_iff_ne]; exact ha1
            have HN := Aside0.mk (show pickL now r0 (es.drop (i + 1)) o = ra from by have := HRR.out; rwa [if_pos rfl, if_pos rfl, if_neg ha0, if_neg ha1] at this)
            clear ha0 ha1
            go_wp2_with (fail)
            refine (AGi.out wr HB.out).mono ?_
            rintro e' w2 ⟨rfl, hb⟩
            have HB2 := Aside0.mk (HB.out.trans (hb.mono HB.out.size))
            clear hb
            go_wp2_with (fail)
            go_roundw
            case rel => exact ⟨i + 1, _, o, by omega, by go_num, rfl, HO, HN, HB2⟩
            case measure => simp [intOf]; omega
      · have hrub : (r0 != rule) = true := by rw [bne_iff_ne]; exact hru
        have HN := Aside0.mk (show pickL now rule (es.drop (i + 1)) o = ra from by have := HRR.out; rwa [if_pos rfl, if_neg hru] at this)
        clear hru
        go_wp2_with (fail)
        go_roundw
        case rel => exact ⟨i + 1, _, o, by omega, by go_num, rfl, HO, HN, HB⟩
        case measure => simp [intOf]; omega
    · have hltI : ¬ (i : Int) < (n : Int) := by omega
      have hltN : decide (i < n) = false := decide_eq_false hlt
      obtain rfl : n = i := by omega
      have HRr := HR.out
      rw [HE.out] at HRr
      rcases HO.out with ⟨rfl, rfl⟩ | ⟨k, hk, rfl, rfl⟩
      · have HN := Aside0.mk (show ((0 : Int), (161 : Int)) = ra from HRr)
        clear HRr
        go_wp2_with (fail)
        go_ret2
        refine ⟨?_, ⟨_, _, HP.out _ HB.out⟩, .of_below HB.out⟩
        rw [← HN.out]
        rfl
      · have k0 : wr.cell? ⟨(ps.getD k pl0).p, 0, none⟩ = some (.int .i64 (es.getD k en0).life.f0.f0) := (blk_cell (HA.out k hk _ HB.out).blk 0).trans rfl
        have HN := Aside0.mk (show ((es.getD k en0).life.f0.f0, (0 : Int)) = ra from HRr)
        obtain ⟨P, hP⟩ : ∃ P, (ps.getD k pl0).p = P := ⟨_, rfl⟩
        obtain ⟨s0, hs0⟩ : ∃ s, (es.getD k en0).life.f0.f0 = s := ⟨_, rfl⟩
        rw [hP, hs0] at k0
        rw [hs0] at HN
        rw [hP]
        clear HRr hP hs0 HO
        go_wp2_with (fail)
        go_ret2
        refine ⟨?_, ⟨_, _, HP.out _ HB.out⟩, .of_below HB.out⟩
        rw [← HN.out]
        rfl
end Go.Proofs.YtkmnpnbfeiobiaaDoor.Sd
namespace Go.Proofs.YtkmnpnbfeiobiaaDoor.Sd
open Go.RowKit Go.Proofs.YtkmnpnbfeiobiaaDoorW.PrintWords Go.Proofs.YtkmnpnbfeiobiaaDoorW.PrintLast Go.Proofs.YtkmnpnbfeiobiaaDoorW.PrintMore Go.Proofs.YtkmnpnbfeiobiaaDoor.QSa
open Go.Proofs.YtkmnpnbfeiobiaaDoor
set_option linter.unusedVariables false
set_option linter.unusedSimpArgs false
theorem info27 : (Tryd.prog.info? 27).map (fun i => (i.zero, i.size, i.bytes)) = some (some (.agg #[.int .i64 0, .string ByteArray.empty, .string ByteArray.empty, .string ByteArray.empty, .bool false, .int .i64 0, .int .i64 0, .bool false, .int .i64 0, .int .i64 0, .int .i64 0, .int .i64 0]), 12, 120) := by kernel_rfl
/-- A row of lives. -/
def LivesAt (w : World) (base : Nat) (u : Value) (l : List S27) : Prop := k27.R 27 w base (fun _ => True) u l
def lives (es : List En) : List S27 := es.map (·.life)
theorem lives_snoc {es : List En} {i : Nat} (hi : i < es.length) : lives (es.take (i + 1)) = lives (es.take i) ++ [(es.getD i en0).life] := by
  unfold lives
  rw [List.take_succ_eq_append_getElem hi, List.map_append, List.getD_eq_getElem?_getD, List.getElem?_eq_getElem hi]
  rfl
def ListQ (l : List S27) (w : World) (e : Ending) (w' : World) : Prop := (∃ u, e = .returned u ∧ LivesAt w' w.heap.size u l) ∧ Below w.heap.size w w'
set_option maxHeartbeats 1600000 in
theorem list_nil (w : World) : Calls Tryd.prog 21 #[.pointer none] w fun e w' => e = .returned (.slice none 0 0) ∧ Below w.heap.size w w' := by
  go_enter Tryd.func21, Tryd.ntmps21
  go_wp2
  go_ret
  exact ⟨rfl, Below.refl _ _⟩
set_option maxHeartbeats 3200000 in
set_option maxRecDepth 100000 in
theorem list_call {w : World} {base q : Nat} {es : List En} (h : SadX w base q es) (hl : es.length ≤ 1000) :
    Calls Tryd.prog 21 #[.pointer (some ⟨q, 0, none⟩)] w (ListQ (lives es) w) := by
  obtain ⟨v, ps, hp⟩ := h
  obtain ⟨A, c, rfl, hlc⟩ := hp.slice
  have HA := Aside0.mk fun (i : Nat) (hi : i < es.length) (W : World) (hb : Below w.heap.size w W) => (hp.below hb).at i hi
  have HT := Aside0.mk fun (W : World) (hb : Below w.heap.size w W) => (hp.below hb).ptrs
  have HB0 := Aside0.mk (Below.refl w.heap.size w)
  have c0 : w.cell? ⟨q, 0, none⟩ = some (.slice A es.length c) := (blk_cell hp.blk 0).trans rfl
  have HS := Aside0.mk (fun i hi => @lives_snoc es i hi)
  have HE := Aside0.mk (List.take_length (l := es))
  have HLT := Aside0.mk (List.length_take_le (l := es))
  obtain ⟨n, hn⟩ : ∃ n, es.length = n := ⟨_, rfl⟩
  rw [hn] at hl hlc HA HT HS HE c0
  clear hp hn
  go_enter Tryd.func21, Tryd.ntmps21
  go_wp2_with (fail)
  have U0 := Aside0.mk (show LivesAt w w.heap.size (.slice none 0 0) (lives (es.take 0)) from Kd.R_nil _ _ _ _ _)
  go_loopw [13, 3] (fun iv uv wr => ∃ (i : Nat) (u : Value), i ≤ n ∧ iv = .int .i64 i ∧ u = uv ∧ Aside0 (LivesAt wr w.heap.size u (lives (es.take i))) ∧ Aside0 (Below w.heap.size w wr)) (fun iv _ _ => n - (intOf iv).toNat)
  case atStart => exact ⟨0, _, by omega, rfl, rfl, U0, HB0⟩
  case round =>
    clear HB0 U0
    obtain ⟨i, uv, hin, rfl, rfl, U, HB⟩ := hrel
    by_cases hlt : i < n
    · have hltI : (i : Int) < (n : Int) := by omega
      have hltN : decide (i < n) = true := decide_eq_true hlt
      obtain ⟨b, hA, hc⟩ := HT.out _ HB.out i hlt
      subst hA
      dsimp only at hc
      have hs := HS.out i hlt
      have LD0 := load27 (HA.out i hlt _ HB.out).blk
      obtain ⟨x, hx⟩ : ∃ x, (es.getD i en0).life = x := ⟨_, rfl⟩
      rw [hx] at LD0 hs
      obtain ⟨P, hP⟩ : ∃ P, (ps.getD i pl0).p = P := ⟨_, rfl⟩
      rw [hP] at hc LD0
      have LD := Aside0.mk (show (loadVar 27 ⟨P, 0, none⟩).run Tryd.prog wr = .ok (.agg #[.int .i64 x.f0.f0, .string x.f0.f1, .string x.f0.f2, .string x.f0.f3, .bool x.f0.f4, .int .i64 x.f0.f5, .int .i64 x.f1, .bool x.f2, .int .i64 x.f3, .int .i64 x.f4, .int .i64 x.f5, .int .i64 x.f6]) wr from LD0)
      have HS1 := Aside0.mk hs
      have HLN := Aside0.mk (show (lives (es.take i)).length ≤ i from by unfold lives; rw [List.length_map]; exact List.length_take_le _ _)
      clear hs LD0 hx hP
      have hi1 : IntKind.i64.wrap ((i : Int) + 1) = ((i + 1 : Nat) : Int) := by rw [IntWalk.i64_in _ (by omega)]; omega
      obtain ⟨XS, hXS⟩ : ∃ XS, lives (es.take i) = XS := ⟨_, rfl⟩
      rw [hXS] at U HS1 HLN
      clear hXS
      go_wp2_with (first | ((with_reducible refine gate_dst (N := 21) rfl ?_); refine Kd.event_run (v := .agg #[.int .i64 x.f0.f0, .string x.f0.f1, .string x.f0.f2, .string x.f0.f3, .bool x.f0.f4, .int .i64 x.f0.f5, .int .i64 x.f1, .bool x.f2, .int .i64 x.f3, .int .i64 x.f4, .int .i64 x.f5, .int .i64 x.f6]) (w1 := wr) ?hg (load_runA 27 (.tmp 20) ⟨P, 0, none⟩ #[.int .i64 x.f0.f0, .string x.f0.f1, .string x.f0.f2, .string x.f0.f3, .bool x.f0.f4, .int .i64 x.f0.f5, .int .i64 x.f1, .bool x.f2, .int .i64 x.f3, .int .i64 x.f4, .int .i64 x.f5, .int .i64 x.f6] ?ho ?hx LD.out) ?_; (case hg => rfl); (case ho => rfl); (case hx => rfl)) | ((with_reducible refine gate_builtin (b := .append) (xs := #[.tmp 17, .tmp 22]) rfl ?_); at_builtin; refine Kd.R_append k27 (w0 := w) w.heap.size rfl (.tmp 17) (.tmp 22) 55 27 (.agg #[.int .i64 0, .string ByteArray.empty, .string ByteArray.empty, .string ByteArray.empty, .bool false, .int .i64 0, .int .i64 0, .bool false, .int .i64 0, .int .i64 0, .int .i64 0, .int .i64 0]) 120 rfl Tryd.underlying55 info27 rfl (by decide) (by omega) uv XS x [.int .i64 x.f0.f0, .string x.f0.f1, .string x.f0.f2, .string x.f0.f3, .bool x.f0.f4, .int .i64 x.f0.f5, .int .i64 x.f1, .bool x.f2, .int .i64 x.f3, .int .i64 x.f4, .int .i64 x.f5, .int .i64 x.f6] (fun _ => True) (fun _ => False) rfl rfl ?aP (fun _ hk => hk.elim) ?aF ?aO ?aB ?aS ?aL ?_; (case aP => exact k27_mkM _ _ _ x); (case aB => exact HB.out); (case aF => exact (fun k hk => trivial)); (case aO => exact U.out); (case aS => exact HB.out.size); (case aL => have := HLN.out; omega); intro u6 w6 ho hb1 hg hat; have HO2 := Aside0.mk (show LivesAt w6 w.heap.size u6 _ from ho); have HB2 := Aside0.mk hb1; clear ho hb1 hg hat))
      go_roundw
      case rel => exact ⟨i + 1, _, by omega, by go_num, rfl, ⟨by rw [HS1.out]; exact HO2.out⟩, HB2⟩
      case measure => simp [intOf]; omega
    · have hltI : ¬ (i : Int) < (n : Int) := by omega
      have hltN : decide (i < n) = false := decide_eq_false hlt
      obtain rfl : n = i := by omega
      rw [HE.out] at U
      go_wp2_with (fail)
      go_ret
      exact ⟨⟨_, rfl, U.out⟩, HB.out⟩
end Go.Proofs.YtkmnpnbfeiobiaaDoor.Sd
namespace Go.Proofs.YtkmnpnbfeiobiaaDoor.Sd
open Go.RowKit Go.Proofs.YtkmnpnbfeiobiaaDoorW.PrintWords Go.Proofs.YtkmnpnbfeiobiaaDoorW.PrintLast Go.Proofs.YtkmnpnbfeiobiaaDoorW.PrintMore Go.Proofs.YtkmnpnbfeiobiaaDoor.QSa
open Go.Proofs.YtkmnpnbfeiobiaaDoor
set_option linter.unusedVariables false
set_option linter.unusedSimpArgs false
/-- What is kept of an association: its size, its window, its numbers; k calls were made. -/
structure Good (k : Nat) (e : En) : Prop where
  lo : 64 ≤ e.life.f0.f5
  hi : e.life.f0.f5 ≤ 1024
  inv : Win.Inv e.life.f0.f5.toNat e.st e.ns
  top : e.st.1 < 18446744073709551616
  sent : e.sent < 18446744073709551616
  born : 0 ≤ e.born ∧ e.born ≤ 1000000000
  bytes : 0 ≤ e.bytes ∧ e.bytes ≤ 1000000000 * (k : Int)
  spi : 256 ≤ e.life.f0.f0
  ns : e.ns.length ≤ k
theorem Good.mono {k k' : Nat} {e : En} (h : Good k e) (hk : k ≤ k') : Good k' e :=
  ⟨h.lo, h.hi, h.inv, h.top, h.sent, h.born, ⟨h.bytes.1, by have := h.bytes.2; omega⟩, h.spi, Nat.le_trans h.ns hk⟩
theorem Good.timed {k : Nat} {e : En} (h : Good k e) {now : Int} (h0 : -1000000000 ≤ now) (h1 : now ≤ 4000000000) : Timed e now := by
  have := h.born
  unfold Timed
  omega
theorem Good.len {k : Nat} {e : En} (h : Good k e) : 0 < e.st.2.length ∧ e.st.2.length ≤ 1024 := by
  have h1 := h.inv.len
  have h2 := h.lo
  have h3 := h.hi
  omega
def takeE (e : En) (n : Int) (seq : Nat) : En := { e with bytes := e.bytes + n, st := Win.acc e.life.f0.f4 e.st seq, ns := e.ns ++ [seq] }
theorem Good.take {k : Nat} {e : En} (h : Good k e) {n : Int} {seq : Nat} (h0 : 0 ≤ n) (h1 : n ≤ 1000000000) (hs : seq < 18446744073709551616) (hc : Win.chk e.life.f0.f4 e.st seq = 0) : Good (k + 1) (takeE e n seq) := by
  have hl := h.lo
  have hg := Win.Good.acc (show Win.Good e.life.f0.f5.toNat e.st from ⟨h.inv.len, h.top⟩) e.life.f0.f4 seq hs
  refine ⟨h.lo, h.hi, h.inv.acc (by omega) _ _ hc, hg.2, h.sent, h.born, ?_, h.spi, ?_⟩
  · have := h.bytes
    show 0 ≤ e.bytes + n ∧ e.bytes + n ≤ 1000000000 * ((k + 1 : Nat) : Int)
    omega
  · show (e.ns ++ [seq]).length ≤ k + 1
    rw [List.length_append, List.length_singleton]
    have := h.ns
    omega
def takeF (es : List En) (now spi : Int) (seq : Nat) (n : Int) : List En × Int :=
  if n < 0 then (es, 1) else if findI es spi false < es.length then (if ageE (es.getD (findI es spi false) en0) now = 2 then (es, 171) else if Win.chk (es.getD (findI es spi false) en0).life.f0.f4 (es.getD (findI es spi false) en0).st seq = 0 then (es.set (findI es spi false) (takeE (es.getD (findI es spi false) en0) n seq), 0) else (es, Win.chk (es.getD (findI es spi false) en0).life.f0.f4 (es.getD (findI es spi false) en0).st seq)) else (es, 6)
def LiveAny (w : World) (e : Ending) (w' : World) : Prop := (∃ u v, e = .returned (.tuple #[u, v])) ∧ Below w.heap.size w w'
theorem FindYes.any {p : Nat} {w w' : World} {e : Ending} (h : FindYes p w e w') : LiveAny w e w' := ⟨⟨_, _, h.1⟩, h.2⟩
theorem FindNo.any {c : Int} {w w' : World} {e : Ending} (h : FindNo c w e w') : LiveAny w e w' := by
  obtain ⟨⟨v, h1, _⟩, h2⟩ := h
  exact ⟨⟨_, _, h1⟩, h2⟩
theorem live_any {w : World} {base q : Nat} {v : Value} {ps : List Pl} {es : List En} (hp : SadP w base q v ps es) (hl : es.length ≤ 1000) (now spi : Int) (out : Bool) (ht : ∀ e ∈ es, Timed e now) :
    Calls Tryd.prog 27 #[.pointer (some ⟨q, 0, none⟩), .int .i64 now, .int .i64 spi, .bool out] w (LiveAny w) := by
  by_cases hf : findI es spi out < es.length
  · by_cases ha : ageE (es.getD (findI es spi out) en0) now = 2
    · exact (live_hard now spi out (find_yes hp hl spi out hf) (hp.at _ hf).blk (ht _ (getD_mem hf)) ha).mono fun _ _ h => h.any
    · exact (live_yes now spi out (find_yes hp hl spi out hf) (hp.at _ hf).blk (ht _ (getD_mem hf)) ha).mono fun _ _ h => h.any
  · exact (live_no now spi out (find_no hp hl spi out hf)).mono fun _ _ h => h.any
set_option maxHeartbeats 1600000 in
set_option maxRecDepth 100000 in
theorem take_neg {w : World} {q : Nat} (now spi : Int) (seq : Nat) (n : Int) (hn : n < 0) (hv : Calls Tryd.prog 27 #[.pointer (some ⟨q, 0, none⟩), .int .i64 now, .int .i64 spi, .bool false] w (LiveAny w)) :
    Calls Tryd.prog 16 #[.pointer (some ⟨q, 0, none⟩), .int .i64 now, .int .i64 spi, .int .u64 (seq : Int), .int .i64 n] w fun e w' => e = .returned (.int .i64 1) ∧ Below w.heap.size w w' := by
  have HV := Aside0.mk hv
  have hn1 : decide (n < 0) = true := decide_eq_true hn
  clear hv hn
  go_enter Tryd.func16, Tryd.ntmps16
  go_wp2_with (fail)
  refine HV.out.mono ?_
  rintro e w1 ⟨⟨u, v, rfl⟩, hb⟩
  have HB := Aside0.mk hb
  clear hb
  go_wp2_with (fail)
  go_ret
  exact ⟨rfl, HB.out⟩
set_option maxHeartbeats 1600000 in
set_option maxRecDepth 100000 in
theorem take_no {w : World} {p : Option Addr} {c : Int} (hL : Laid w) (now spi : Int) (seq : Nat) (n : Int) (hn : p = none ∨ 0 ≤ n) (hv : Calls Tryd.prog 27 #[.pointer p, .int .i64 now, .int .i64 spi, .bool false] w (FindNo c w)) :
    Calls Tryd.prog 16 #[.pointer p, .int .i64 now, .int .i64 spi, .int .u64 (seq : Int), .int .i64 n] w fun e w' => e = .returned (.int .i64 c) ∧ Below w.heap.size w w' := by
  have HV := Aside0.mk hv
  have HL := Aside0.mk fun (W : World) (hb : Below w.heap.size w W) => hL.below hL.pos hb
  clear hv hL
  cases p with
  | none =>
    clear hn
    go_enter Tryd.func16, Tryd.ntmps16
    go_wp2_with (fail)
    refine HV.out.mono ?_
    rintro e w1 ⟨⟨v, rfl, hv⟩, hb⟩
    have NW := Aside0.mk (number_walk (HL.out w1 hb) hv)
    obtain ⟨k, s, rfl, _⟩ := hv
    have HB := Aside0.mk hb
    clear hb
    go_wp2_with (fail)
    refine NW.out.mono ?_
    rintro e w2 ⟨rfl, hb⟩
    have HB2 := Aside0.mk (HB.out.trans (hb.mono HB.out.size))
    clear hb
    go_wp2_with (fail)
    go_ret
    exact ⟨rfl, HB2.out⟩
  | some ad =>
    have hn0 : 0 ≤ n := by rcases hn with h | h; cases h; exact h
    have hn1 : decide (n < 0) = false := decide_eq_false (by omega)
    clear hn hn0
    go_enter Tryd.func16, Tryd.ntmps16
    go_wp2_with (fail)
    refine HV.out.mono ?_
    rintro e w1 ⟨⟨v, rfl, hv⟩, hb⟩
    have NW := Aside0.mk (number_walk (HL.out w1 hb) hv)
    obtain ⟨k, s, rfl, _⟩ := hv
    have HB := Aside0.mk hb
    clear hb
    go_wp2_with (fail)
    refine NW.out.mono ?_
    rintro e w2 ⟨rfl, hb⟩
    have HB2 := Aside0.mk (HB.out.trans (hb.mono HB.out.size))
    clear hb
    go_wp2_with (fail)
    go_ret
    exact ⟨rfl, HB2.out⟩
/-- A window's row is as long as it was. -/
theorem accLen (wide : Bool) (st : Nat × List Bool) (n : Nat) : (Win.acc wide st n).2.length = st.2.length := by
  unfold Win.acc
  split
  · exact Win.accSeen_length _ _ _
  · rfl
theorem set_self (es : List En) (i : Nat) : es.set i (es.getD i en0) = es := by
  apply List.ext_getElem?
  intro j
  by_cases h : i = j
  · subst h
    by_cases hi : i < es.length
    · rw [List.getElem?_set_self hi, List.getD_eq_getElem?_getD, List.getElem?_eq_getElem hi]; rfl
    · rw [List.getElem?_eq_none (by simpa using hi), List.getElem?_eq_none (by simpa using hi)]
  · rw [List.getElem?_set_ne h]
/-- What Accept leaves of the table. -/
theorem acc_tab {w w' : World} {base q : Nat} {v : Value} {ps : List Pl} {es : List En} (hp : SadP w base q v ps es) (i : Nat) (hi : i < es.length) {a : Nat} (hu : (ps.getD i pl0).u = .slice (some ⟨a, 0, none⟩) (es.getD i en0).st.2.length (es.getD i en0).st.2.length) (st' : Nat × List Bool) (hl : st'.2.length = (es.getD i en0).st.2.length) (ns' : List Nat)
    (hw : Win.WinAt w' (ps.getD i pl0).g a (es.getD i en0).life.f0.f4 st'.1 st'.2) (hs : Win.Step (fun k => k = (ps.getD i pl0).g ∨ k = a) w w') : ∃ ps', SadP w' base q v ps' (es.set i { es.getD i en0 with st := st', ns := ns' }) ∧ Turn TP base w w' ∧ (ps'.getD i pl0).p = (ps.getD i pl0).p := by
  obtain ⟨h1, h2, h3, h4, h5⟩ := hp.at i hi
  obtain ⟨cg, hg⟩ := WnPg_ok.blkg h2
  have ha := WnPg_ok.blku h2 (show _ = some a by rw [hu]; rfl)
  obtain ⟨ca, ha⟩ := ha
  have hp' : w'.heap[(ps.getD i pl0).p]? = some (.cells (encE (es.getD i en0) (ps.getD i pl0).g).toArray 71 (0, 0)) := by
    refine (hs.k.2 _ (blk_lt h1) ?_).trans h1
    rintro (e | e)
    · exact blk_ne h1 hg (by decide) e
    · exact blk_ne h1 ha (by decide) e
  obtain ⟨h6, h7⟩ := Tab.upd hp TP_ok WnPg_ok i hi (.slice (some ⟨a, 0, none⟩) st'.2.length st'.2.length) { es.getD i en0 with st := st', ns := ns' }
    ⟨hp', ⟨a, rfl, hw⟩, h3, h4, fun k hk => h5 k (by rw [hu]; rw [← hk]; rfl)⟩ (fun k hk => .inl (by rw [hu]; rw [← hk]; rfl)) hs.b.os hs.b.tape hs.b.output hs.b.size
    (fun k hk n1 n2 n3 => hs.k.2 k hk (by rintro (e | e); exact n2 e; exact n3 (by rw [hu, e]; rfl)))
  exact ⟨_, h6, h7, by rw [getD_set _ _ _ _ _ (by rw [hp.len]; exact hi), if_pos rfl]⟩
/-- A store into an association. -/
theorem set_tab {w : World} {base q : Nat} {v : Value} {ps : List Pl} {es : List En} (hp : SadP w base q v ps es) (i : Nat) (hi : i < es.length) (j : Nat) (u : Value) (e' : En) (hst : e'.st = (es.getD i en0).st) (hw : e'.life.f0.f4 = (es.getD i en0).life.f0.f4)
    (he : (encE (es.getD i en0) (ps.getD i pl0).g).toArray.setIfInBounds j u = (encE e' (ps.getD i pl0).g).toArray) :
    ∃ ps', SadP (w.setCell ⟨(ps.getD i pl0).p, j, none⟩ u) base q v ps' (es.set i e') ∧ Turn TP base w (w.setCell ⟨(ps.getD i pl0).p, j, none⟩ u) ∧ (ps'.getD i pl0).p = (ps.getD i pl0).p := by
  obtain ⟨h1, h2, h3, h4, h5⟩ := hp.at i hi
  have far : ∀ k, k ≠ (ps.getD i pl0).p → (w.setCell ⟨(ps.getD i pl0).p, j, none⟩ u).heap[k]? = w.heap[k]? := fun k hk => Below.heap_setCell w _ _ k hk
  have hsz : (w.setCell ⟨(ps.getD i pl0).p, j, none⟩ u).heap.size = w.heap.size := by simp [World.setCell]
  obtain ⟨a, ha, hwa⟩ := h2
  obtain ⟨h6, h7⟩ := Tab.upd hp TP_ok WnPg_ok i hi (ps.getD i pl0).u e' (w' := w.setCell ⟨(ps.getD i pl0).p, j, none⟩ u)
    ⟨blk_put h1 j u he, (by
      refine ⟨a, by rw [ha, hst], ?_⟩
      rw [hst, hw]
      exact ⟨(far _ (blk_ne hwa.hs h1 (by decide))).trans hwa.hs, (far _ (blk_ne hwa.ha h1 (by decide))).trans hwa.ha, hwa.ne⟩), h3, h4, h5⟩ (fun k hk => .inl hk) rfl rfl rfl (Nat.le_of_eq hsz.symm)
    (fun k hk n1 n2 n3 => far k n1)
  refine ⟨_, h6, h7, ?_⟩
  rw [getD_set _ _ _ _ _ (by rw [hp.len]; exact hi), if_pos rfl]
set_option maxHeartbeats 1600000 in
set_option maxRecDepth 100000 in
theorem take_bad {w : World} {base q k : Nat} {v : Value} {ps : List Pl} {es : List En} (hp : SadP w base q v ps es) (hl : es.length ≤ 1000) (now spi : Int) (seq : Nat) (n : Int) (hn : 0 ≤ n) (hs : seq < 18446744073709551616) (hf : findI es spi false < es.length) (hg : Good k (es.getD (findI es spi false) en0)) (ht : Timed (es.getD (findI es spi false) en0) now)
    (ha : ageE (es.getD (findI es spi false) en0) now ≠ 2) (hc : Win.chk (es.getD (findI es spi false) en0).life.f0.f4 (es.getD (findI es spi false) en0).st seq ≠ 0) :
    Calls Tryd.prog 16 #[.pointer (some ⟨q, 0, none⟩), .int .i64 now, .int .i64 spi, .int .u64 (seq : Int), .int .i64 n] w (PgQ base q es (.int .i64 (Win.chk (es.getD (findI es spi false) en0).life.f0.f4 (es.getD (findI es spi false) en0).st seq)) w) := by
  obtain ⟨i, hi⟩ : ∃ i, findI es spi false = i := ⟨_, rfl⟩
  have LV := Aside0.mk (live_yes now spi false (find_yes hp hl spi false hf) (hp.at _ hf).blk ht ha)
  rw [hi] at hf hg ht ha hc LV ⊢
  have AC := Aside0.mk fun (W : World) (hb : Below w.heap.size w W) (a : Nat) (hwa : Win.WinAt W (ps.getD i pl0).g a (es.getD i en0).life.f0.f4 (es.getD i en0).st.1 (es.getD i en0).st.2) => Win.accept_walk hwa hg.len.2 hg.len.1 seq hg.top hs
  have HP := Aside0.mk fun (W : World) (hb : Below w.heap.size w W) => hp.below hb
  have HF := Aside0.mk hf
  have hno := hg.inv.no (es.getD i en0).life.f0.f4 seq hc
  have hce : Win.checkE (es.getD i en0).life.f0.f4 (es.getD i en0).st.1 seq (es.getD i en0).st.2 = Win.chk (es.getD i en0).life.f0.f4 (es.getD i en0).st seq := rfl
  rw [hce] at AC
  simp only [if_neg hc] at AC
  obtain ⟨P, hP⟩ : ∃ P, (ps.getD i pl0).p = P := ⟨_, rfl⟩
  obtain ⟨G, hG⟩ : ∃ G, (ps.getD i pl0).g = G := ⟨_, rfl⟩
  have hU : ∃ a, (ps.getD i pl0).u = .slice (some ⟨a, 0, none⟩) (es.getD i en0).st.2.length (es.getD i en0).st.2.length ∧ ∀ W, Below w.heap.size w W → Win.WinAt W G a (es.getD i en0).life.f0.f4 (es.getD i en0).st.1 (es.getD i en0).st.2 ∧ W.cell? ⟨P, 15, none⟩ = some (.pointer (some ⟨G, 0, none⟩)) := by
    obtain ⟨a, hu, hwa⟩ := (hp.at i hf).win
    refine ⟨a, hu, fun W hb => ⟨?_, ?_⟩⟩
    · rw [← hG]
      exact ⟨blk_below hwa.hs hb, blk_below hwa.ha hb, hwa.ne⟩
    · rw [← hP, ← hG]
      exact (blk_cell (blk_below (hp.at i hf).blk hb) 15).trans rfl
  obtain ⟨a, hu, hwin⟩ := hU
  have HW := Aside0.mk hwin
  have HU := Aside0.mk hu
  have ACT := Aside0.mk fun (W W' : World) (hb : Below w.heap.size w W) (h1 : Win.WinAt W' (ps.getD i pl0).g a (es.getD i en0).life.f0.f4 (es.getD i en0).st.1 (es.getD i en0).st.2) (h2 : Win.Step (fun k => k = (ps.getD i pl0).g ∨ k = a) W W') => acc_tab (hp.below hb) i hf hu (es.getD i en0).st rfl (es.getD i en0).ns h1 h2
  rw [show ({ es.getD i en0 with st := (es.getD i en0).st, ns := (es.getD i en0).ns } : En) = es.getD i en0 from rfl, set_self] at ACT
  obtain ⟨c, hcc⟩ : ∃ c, Win.chk (es.getD i en0).life.f0.f4 (es.getD i en0).st seq = c := ⟨_, rfl⟩
  rw [hcc] at AC hc ⊢
  rw [hG] at AC ACT
  rw [hP] at LV ACT
  have hcb : (c == 0) = false := by rw [beq_eq_false_iff_ne]; exact hc
  have hcb2 : (c != 0) = true := by rw [bne_iff_ne]; exact hc
  have hn1 : decide (n < 0) = false := decide_eq_false (by omega)
  clear hp hf hg ht ha hc hno hce hcc hP hG hu hwin hi hn
  go_enter Tryd.func16, Tryd.ntmps16
  go_wp2_with (fail)
  refine LV.out.mono ?_
  rintro e w1 ⟨rfl, hb⟩
  obtain ⟨hwa, c15⟩ := HW.out w1 hb
  have ACI := Aside0.mk (AC.out w1 hb a hwa)
  have HB := Aside0.mk hb
  clear hb hwa
  go_wp2_with (fail)
  refine ACI.out.mono ?_
  rintro e w2 ⟨rfl, h2, h3⟩
  obtain ⟨ps', h6, h7, _⟩ := ACT.out w1 w2 HB.out h2 h3
  have H6 := Aside0.mk h6
  have H7 := Aside0.mk ((Turn.of_below HB.out).trans h7)
  clear h2 h3 h6 h7
  go_wp2_with (fail)
  go_ret
  exact ⟨rfl, ⟨_, _, H6.out⟩, H7.out⟩
set_option maxHeartbeats 1600000 in
set_option maxRecDepth 100000 in
theorem take_ok {w : World} {base q k : Nat} {v : Value} {ps : List Pl} {es : List En} (hp : SadP w base q v ps es) (hl : es.length ≤ 1000) (now spi : Int) (seq : Nat) (n : Int) (hn : 0 ≤ n) (hn9 : n ≤ 1000000000) (hk : k ≤ 200) (hs : seq < 18446744073709551616) (hf : findI es spi false < es.length) (hg : Good k (es.getD (findI es spi false) en0)) (ht : Timed (es.getD (findI es spi false) en0) now)
    (ha : ageE (es.getD (findI es spi false) en0) now ≠ 2) (hc : Win.chk (es.getD (findI es spi false) en0).life.f0.f4 (es.getD (findI es spi false) en0).st seq = 0) :
    Calls Tryd.prog 16 #[.pointer (some ⟨q, 0, none⟩), .int .i64 now, .int .i64 spi, .int .u64 (seq : Int), .int .i64 n] w (PgQ base q (es.set (findI es spi false) (takeE (es.getD (findI es spi false) en0) n seq)) (.int .i64 0) w) := by
  obtain ⟨i, hi⟩ : ∃ i, findI es spi false = i := ⟨_, rfl⟩
  have LV := Aside0.mk (live_yes now spi false (find_yes hp hl spi false hf) (hp.at _ hf).blk ht ha)
  rw [hi] at hf hg ht ha hc LV ⊢
  have AC := Aside0.mk fun (W : World) (hb : Below w.heap.size w W) (a : Nat) (hwa : Win.WinAt W (ps.getD i pl0).g a (es.getD i en0).life.f0.f4 (es.getD i en0).st.1 (es.getD i en0).st.2) => Win.accept_walk hwa hg.len.2 hg.len.1 seq hg.top hs
  have hce : Win.checkE (es.getD i en0).life.f0.f4 (es.getD i en0).st.1 seq (es.getD i en0).st.2 = 0 := hc
  have hacc : Win.acc (es.getD i en0).life.f0.f4 (es.getD i en0).st seq = (max (es.getD i en0).st.1 seq, Win.accSeen (es.getD i en0).st.1 seq (es.getD i en0).st.2) := by unfold Win.acc; rw [if_pos hce]
  rw [hce] at AC
  simp only [if_true] at AC
  obtain ⟨P, hP⟩ : ∃ P, (ps.getD i pl0).p = P := ⟨_, rfl⟩
  obtain ⟨G, hG⟩ : ∃ G, (ps.getD i pl0).g = G := ⟨_, rfl⟩
  have hU : ∃ a, (ps.getD i pl0).u = .slice (some ⟨a, 0, none⟩) (es.getD i en0).st.2.length (es.getD i en0).st.2.length ∧ ∀ W, Below w.heap.size w W → Win.WinAt W G a (es.getD i en0).life.f0.f4 (es.getD i en0).st.1 (es.getD i en0).st.2 ∧ W.cell? ⟨P, 15, none⟩ = some (.pointer (some ⟨G, 0, none⟩)) := by
    obtain ⟨a, hu, hwa⟩ := (hp.at i hf).win
    refine ⟨a, hu, fun W hb => ⟨?_, ?_⟩⟩
    · rw [← hG]
      exact ⟨blk_below hwa.hs hb, blk_below hwa.ha hb, hwa.ne⟩
    · rw [← hP, ← hG]
      exact (blk_cell (blk_below (hp.at i hf).blk hb) 15).trans rfl
  obtain ⟨a, hu, hwin⟩ := hU
  have HW := Aside0.mk hwin
  have ACT := Aside0.mk fun (W W' : World) (hb : Below w.heap.size w W) (h1 : Win.WinAt W' (ps.getD i pl0).g a (es.getD i en0).life.f0.f4 (max (es.getD i en0).st.1 seq) (Win.accSeen (es.getD i en0).st.1 seq (es.getD i en0).st.2)) (h2 : Win.Step (fun k => k = (ps.getD i pl0).g ∨ k = a) W W') => acc_tab (hp.below hb) i hf hu (Win.acc (es.getD i en0).life.f0.f4 (es.getD i en0).st seq) (accLen _ _ _) ((es.getD i en0).ns ++ [seq]) (by rw [hacc]; exact h1) h2
  obtain ⟨em, hem⟩ : ∃ em : En, { es.getD i en0 with st := Win.acc (es.getD i en0).life.f0.f4 (es.getD i en0).st seq, ns := (es.getD i en0).ns ++ [seq] } = em := ⟨_, rfl⟩
  rw [hem] at ACT
  have hby : em.bytes = (es.getD i en0).bytes := by rw [← hem]
  have hte : takeE (es.getD i en0) n seq = { em with bytes := em.bytes + n } := by rw [← hem]; rfl
  rw [hte]
  have hsum : IntKind.i64.wrap (em.bytes + n) = em.bytes + n := IntWalk.i64_in _ (by have := hg.bytes; rw [hby]; omega)
  have STT := Aside0.mk fun (W : World) (ps' : List Pl) (h : SadP W base q v ps' (es.set i em)) => set_tab h i (by rw [List.length_set]; exact hf) 13 (.int .i64 (em.bytes + n)) { em with bytes := em.bytes + n } (by rw [getD_set _ _ _ _ _ hf, if_pos rfl]) (by rw [getD_set _ _ _ _ _ hf, if_pos rfl]) (by rw [getD_set _ _ _ _ _ hf, if_pos rfl]; rfl)
  have HSS := Aside0.mk (show (es.set i em).set i { em with bytes := em.bytes + n } = es.set i { em with bytes := em.bytes + n } from by rw [List.set_set])
  have HEM := Aside0.mk fun (W : World) (ps' : List Pl) (h : SadP W base q v ps' (es.set i em)) => (h.at i (by rw [List.length_set]; exact hf)).blk
  have HGD := Aside0.mk (show (es.set i em).getD i en0 = em from by rw [getD_set _ _ _ _ _ hf, if_pos rfl])
  rw [hG] at AC ACT
  rw [hP] at LV
  rw [hP] at ACT
  have hn1 : decide (n < 0) = false := decide_eq_false (by omega)
  clear hp hf hg ht ha hc hce hacc hG hP hu hwin hi hn hte hby hem hn9 hk
  have HSM := Aside0.mk hsum
  clear hsum
  go_enter Tryd.func16, Tryd.ntmps16
  go_wp2_with (fail)
  refine LV.out.mono ?_
  rintro e w1 ⟨rfl, hb⟩
  obtain ⟨hwa, c15⟩ := HW.out w1 hb
  have ACI := Aside0.mk (AC.out w1 hb a hwa)
  have HB := Aside0.mk hb
  clear hb hwa
  go_wp2_with (fail)
  refine ACI.out.mono ?_
  rintro e w2 ⟨rfl, h2, h3⟩
  obtain ⟨ps', h6, h7, h8⟩ := ACT.out w1 w2 HB.out h2 h3
  have H6 := Aside0.mk h6
  have H7 := Aside0.mk ((Turn.of_below HB.out).trans h7)
  have ST := Aside0.mk (STT.out w2 ps' h6)
  have bk := HEM.out w2 ps' h6
  rw [HGD.out, h8] at bk
  rw [h8] at ST
  have k13 : w2.cell? ⟨P, 13, none⟩ = some (.int .i64 em.bytes) := (blk_cell bk 13).trans rfl
  have f13 : w2.frozen? ⟨P, 13, none⟩ = false := blk_frozen bk 13
  obtain ⟨bs, hbs⟩ : ∃ b, em.bytes + n = b := ⟨_, rfl⟩
  have hsum : IntKind.i64.wrap (em.bytes + n) = bs := HSM.out.trans hbs
  obtain ⟨b0, hb0⟩ : ∃ b, em.bytes = b := ⟨_, rfl⟩
  rw [hbs] at ST
  rw [hb0] at hsum k13
  rw [hbs] at HSS
  have HBS := Aside0.mk hbs
  clear h2 h3 h6 h7 h8 bk hbs hb0 c15
  go_wp2_with (fail)
  go_ret
  obtain ⟨ps2, h9, h10, _⟩ := ST.out
  rw [HSS.out] at h9
  obtain rfl := HBS.out
  exact ⟨rfl, ⟨_, _, h9⟩, H7.out.trans h10⟩
theorem take_call {w : World} {base q k : Nat} {es : List En} (h : SadX w base q es) (hL : Laid w) (hl : es.length ≤ 1000) (now spi : Int) (seq : Nat) (n : Int) (hn9 : n ≤ 1000000000) (hk : k ≤ 200) (hs : seq < 18446744073709551616) (hg : ∀ e ∈ es, Good k e) (h0 : -1000000000 ≤ now) (h1 : now ≤ 4000000000) :
    Calls Tryd.prog 16 #[.pointer (some ⟨q, 0, none⟩), .int .i64 now, .int .i64 spi, .int .u64 (seq : Int), .int .i64 n] w (PgQ base q (takeF es now spi seq n).1 (.int .i64 (takeF es now spi seq n).2) w) := by
  obtain ⟨v, ps, hp⟩ := h
  have ht : ∀ e ∈ es, Timed e now := fun e he => (hg e he).timed h0 h1
  unfold takeF
  by_cases hn : n < 0
  · rw [if_pos hn]
    exact (take_neg now spi seq n hn (live_any hp hl now spi false ht)).mono fun e w' ⟨he, hb⟩ => ⟨he, ⟨_, _, hp.below hb⟩, .of_below hb⟩
  · rw [if_neg hn]
    by_cases hf : findI es spi false < es.length
    · rw [if_pos hf]
      by_cases ha : ageE (es.getD (findI es spi false) en0) now = 2
      · rw [if_pos ha]
        exact (take_no hL now spi seq n (.inr (by omega)) (live_hard now spi false (find_yes hp hl spi false hf) (hp.at _ hf).blk (ht _ (getD_mem hf)) ha)).mono fun e w' ⟨he, hb⟩ => ⟨he, ⟨_, _, hp.below hb⟩, .of_below hb⟩
      · rw [if_neg ha]
        by_cases hc : Win.chk (es.getD (findI es spi false) en0).life.f0.f4 (es.getD (findI es spi false) en0).st seq = 0
        · rw [if_pos hc]
          exact take_ok hp hl now spi seq n (by omega) hn9 hk hs hf (hg _ (getD_mem hf)) (ht _ (getD_mem hf)) ha hc
        · rw [if_neg hc]
          exact take_bad hp hl now spi seq n (by omega) hs hf (hg _ (getD_mem hf)) (ht _ (getD_mem hf)) ha hc
    · rw [if_neg hf]
      exact (take_no hL now spi seq n (.inr (by omega)) (live_no now spi false (find_no hp hl spi false hf))).mono fun e w' ⟨he, hb⟩ => ⟨he, ⟨_, _, hp.below hb⟩, .of_below hb⟩
theorem take_nil (w : World) (hL : Laid w) (now spi : Int) (seq : Nat) (n : Int) : Calls Tryd.prog 16 #[.pointer none, .int .i64 now, .int .i64 spi, .int .u64 (seq : Int), .int .i64 n] w fun e w' => e = .returned (.int .i64 3) ∧ Below w.heap.size w w' :=
  take_no hL now spi seq n (.inl rfl) (live_no now spi false (find_nil w spi false))
end Go.Proofs.YtkmnpnbfeiobiaaDoor.Sd

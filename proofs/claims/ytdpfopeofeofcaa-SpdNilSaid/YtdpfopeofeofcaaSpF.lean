/- A policy in memory: New, List, Remove, Add. -/
import Derived.Test.YtdpfopeofeofcaaSpE
namespace Go.Proofs.Ytdpfopeofeofcaa.Sp
open Go.RowKit Go.Proofs.YtdpfopeofeofcaaW.PrintWords Go.Proofs.YtdpfopeofeofcaaW.PrintLast Go.Proofs.YtdpfopeofeofcaaW.PrintMore Go.Proofs.Ytdpfopeofeofcaa.QSp
open Go.Proofs.Ytdpfopeofeofcaa
set_option linter.unusedVariables false
set_option linter.unusedSimpArgs false
/-- A call of a function value. -/
theorem goesV_ {P : Program} {ops : Array Oper} {Q : Exit → Act → World → Prop} {oi : Oper} {N : Option Tmp} {a : Act} {w : World} {K : Act → World → Prop} {f : FuncId} {fn : Func} {x : Operand} {xs : Array Operand} {ts : Array TypeId} (hf : P.funcs[f]? = some fn) (hname : (fn.name == "runtime.NumGoroutine") = false) (hb : fn.body.isSome = true) (args : Array Value)
    (hw : Region.wanted oi (yielded ops a.tmps) = true) (hN : oi.dst = N) (hop : oi.op = .call { callee := .value x, args := xs, argTypes := ts }) (hx : a.eval x = .func (.func f) #[] #[]) (hargs : xs.map a.eval = args)
    (h : Calls P f args w fun e w' => ∃ v, e = .returned v ∧ K (a.put N v) w') : if Region.wanted oi (yielded ops a.tmps) = true then Oper.wp P oi a w K Q else K (a.put oi.dst undef) w := by
  subst hN
  refine call_ f args hw rfl ?_ h
  have he := enters_ hf hname hb args w
  unfold execOp
  simp [hop, resolve, Deferred.ofValue, invoke, hx, hargs, he]
theorem load_run {P : Program} {o : Oper} {a : Act} {W : World} (ty : TypeId) (x : Operand) (g : Nat) (cs : Array Value) (ho : o.op = .load ty x) (hx : a.eval x = .pointer (some ⟨g, 0, none⟩)) (h : (loadVar ty ⟨g, 0, none⟩).run P W = .ok (.agg cs) W) : (execOp a.eval o).run P W = .ok (.value (.agg cs)) W := by
  unfold execOp
  simp only [ho, hx, Instr.loadAt, Instr.sureAddr, Sem.run_bind, Sem.run_pure, Result.andThen_ok, h]
/-- A policy in memory: its block, its row, its map. -/
structure SpdO (w : World) (base q m : Nat) (v : Value) (l : List S35) : Prop where
  blk : w.heap[q]? = some (.cells #[v, .map (some m)] 56 (0, 0))
  map : ∃ es clock, w.heap[m]? = some (.map es clock) ∧ Kept l es.toList
  own : OwnT w base v l
  low : base ≤ q
  lom : base ≤ m
/-- What a call may turn: the policy's block, its map and its row. -/
structure Turn (w w' : World) (q m : Nat) (v v' : Value) : Prop where
  os : w'.os = w.os
  tape : w'.tape = w.tape
  output : w'.output = w.output
  size : w.heap.size ≤ w'.heap.size
  block : ∀ k, k < w.heap.size → k ≠ q → k ≠ m → some k ≠ v.ownBlock → w'.heap[k]? = w.heap[k]?
  row : ∀ k, v'.ownBlock = some k → v.ownBlock = some k ∨ w.heap.size ≤ k
theorem Turn.of_below {w w' : World} (h : Below w.heap.size w w') (q m : Nat) (v : Value) : Turn w w' q m v v := ⟨h.os, h.tape, h.output, h.size, fun k hk _ _ _ => h.block k hk, fun k hk => .inl hk⟩
theorem SpdO.below {w w' : World} {base q m : Nat} {v : Value} {l : List S35} (h : SpdO w base q m v l) (hb : Below w.heap.size w w') : SpdO w' base q m v l :=
  ⟨blk_below h.blk hb, (let ⟨es, c, h1, h2⟩ := h.map; ⟨es, c, blk_below h1 hb, h2⟩), pw_own_below h.own hb, h.low, h.lom⟩
theorem own_slice' {w : World} {base : Nat} {v : Value} {l : List S35} (h : OwnT w base v l) : ∃ A c, v = .slice A l.length c ∧ l.length ≤ c ∧ c ≤ maxLen := by
  rcases h.2 with ⟨e, h1⟩ | ⟨g, cap, cur, hv, hb, hh, h1, h2, h3, h4⟩
  · exact ⟨none, 0, by rw [e, h1], by omega, by unfold maxLen; omega⟩
  · exact ⟨_, cap, hv, h1, h2⟩
theorem own_neT {w : World} {base q : Nat} {v : Value} {l : List S35} {cs : Array Value} {t : TypeId} (h : OwnT w base v l) (hb : w.heap[q]? = some (.cells cs t (0, 0))) (ht : 35 ≠ t) : some q ≠ v.ownBlock := own_ne h hb ht
theorem own_neM {w : World} {base m clock : Nat} {v : Value} {l : List S35} {es : Array MapEntry} (h : OwnT w base v l) (hb : w.heap[m]? = some (.map es clock)) : some m ≠ v.ownBlock := by
  rcases h.2 with ⟨rfl, _⟩ | ⟨g', cap, cur, rfl, _, hh, _⟩
  · simp [Value.ownBlock]
  · intro he
    have : m = g' := by simpa [Value.ownBlock] using he
    subst this
    rw [hh] at hb
    cases hb
theorem blk_neM {w : World} {q m clock : Nat} {es : Array MapEntry} {cs : Array Value} {t : TypeId} (h : w.heap[q]? = some (.cells cs t (0, 0))) (hb : w.heap[m]? = some (.map es clock)) : q ≠ m := by
  rintro rfl
  rw [h] at hb
  cases hb
theorem kept_nil (l : List S35) : Kept l [] := fun e he => by simp at he
/-- The row and the block stand; the map is laid anew. -/
theorem SpdO.lay {w w9 : World} {base q m clock clock' : Nat} {v v' : Value} {l' : List S35} {es es' : Array MapEntry} (hb : w9.heap[q]? = some (.cells #[v', .map (some m)] 56 (0, 0))) (hm : w9.heap[m]? = some (.map es clock)) (ho : OwnT w9 base v' l') (low : base ≤ q) (lom : base ≤ m) (hk : Kept l' es'.toList)
    (ht : Turn w w9 q m v v') : SpdO (putM w9 m es' clock') base q m v' l' ∧ Turn w (putM w9 m es' clock') q m v v' := by
  refine ⟨⟨(putM_far _ _ (blk_neM hb hm)).trans hb, ⟨es', clock', putM_blk hm, hk⟩, own_move ho fun k hk => putM_far _ _ (fun e => own_neM ho hm (by rw [← e, hk])), low, lom⟩, ht.os, ht.tape, ht.output, ?_, fun k hk h1 h2 h3 => (putM_far _ _ h2).trans (ht.block k hk h1 h2 h3), ht.row⟩
  rw [putM_size]
  exact ht.size
theorem isz35 : (Try.prog.info? 35).map (·.size) = some 16 := by kernel_rfl
/-- The calls' answers. -/
def addF (l : List S35) (i : Int) (r : S35) : List S35 × Int :=
  if checkE r = 0 then (if i < 0 then (l, 1) else if (l.length : Int) < i then (l, 1) else if (64 : Int) ≤ (l.length : Int) then (l, 7) else (l.take i.toNat ++ r :: l.drop i.toNat, 0)) else (l, 1)
def remF (l : List S35) (i : Int) : List S35 × Int := if i < 0 then (l, 6) else if (l.length : Int) ≤ i then (l, 6) else (l.eraseIdx i.toNat, 0)
def SpCall (F : List S35 × Int) (w : World) (base q m : Nat) (v : Value) (e : Ending) (w' : World) : Prop := ∃ v', e = .returned (.int .i64 F.2) ∧ SpdO w' base q m v' F.1 ∧ Turn w w' q m v v'
set_option maxHeartbeats 1600000 in
set_option maxRecDepth 100000 in
theorem new_call (w : World) : Calls Try.prog 8 #[] w fun e w' => (∃ q m, e = .returned (.pointer (some ⟨q, 0, none⟩)) ∧ w.heap.size ≤ q ∧ SpdO w' w.heap.size q m (.slice none 0 0) []) ∧ Below w.heap.size w w' := by
  have hmm := @run_makeMap Try.prog
  go_enter Try.func8, Try.ntmps8
  go_wp2
  go_ret
  refine ⟨⟨_, w.heap.size, rfl, by simp, ?_, ⟨#[], 0, ?_, kept_nil _⟩, ⟨rfl, .inl ⟨rfl, rfl⟩⟩, by simp, Nat.le_refl _⟩, below_alloc (below_alloc (Below.refl _ _) _) _⟩
  · have h := blk_new (w.alloc (.map #[] 0)) (.cells #[.slice none 0 0, .map (some w.heap.size)] 56)
    simpa using h
  · have h := blk_new w (.map #[] 0)
    rw [heap_alloc_old _ _ (blk_lt h)]
    exact h
set_option maxHeartbeats 1600000 in
set_option maxRecDepth 100000 in
theorem list_call {w : World} {base q m : Nat} {v : Value} {l : List S35} (h : SpdO w base q m v l) (hlim : l.length ≤ 1000) : Calls Try.prog 11 #[.pointer (some ⟨q, 0, none⟩)] w fun e w' => (∃ v', e = .returned v' ∧ k35.R 35 w' w.heap.size (fun _ => True) v' l) ∧ Below w.heap.size w w' := by
  obtain ⟨A, c, rfl, _, _⟩ := own_slice' h.own
  have CW := Aside0.mk (clone_walk A c l w (Kd.R_reads' (R_of_own h.own)).2.2 (by omega))
  have c0 : w.cell? ⟨q, 0, none⟩ = some (.slice A l.length c) := (blk_cell h.blk 0).trans rfl
  clear h hlim
  go_enter Try.func11, Try.ntmps11
  go_wp2_with (fail)
  refine CW.out.mono ?_
  rintro e w1 ⟨⟨v', rfl, hr⟩, hb⟩
  have HR := Aside0.mk hr
  clear hr
  go_wp2_with (fail)
  go_ret
  exact ⟨⟨_, rfl, HR.out⟩, hb⟩
set_option maxHeartbeats 1600000 in
set_option maxRecDepth 100000 in
theorem list_nil (w : World) : Calls Try.prog 11 #[.pointer none] w fun e w' => e = .returned (.slice none 0 0) ∧ Below w.heap.size w w' := by
  go_enter Try.func11, Try.ntmps11
  go_wp2
  go_ret
  exact ⟨rfl, Below.refl _ _⟩
set_option maxHeartbeats 1600000 in
set_option maxRecDepth 100000 in
theorem rem_nil (i : Int) (w : World) : Calls Try.prog 9 #[.pointer none, .int .i64 i] w fun e w' => e = .returned (.int .i64 3) ∧ Below w.heap.size w w' := by
  go_enter Try.func9, Try.ntmps9
  go_wp2
  go_ret
  exact ⟨rfl, Below.refl _ _⟩
set_option maxHeartbeats 1600000 in
set_option maxRecDepth 100000 in
theorem add_nil (i : Int) (r : S35) (w : World) : Calls Try.prog 10 #[.pointer none, .int .i64 i, v35 r] w fun e w' => e = .returned (.int .i64 3) ∧ Below w.heap.size w w' := by
  unfold v35
  obtain ⟨f0, ⟨⟨p0, p1⟩, ⟨p2, p3⟩, p4, ⟨p5, p6⟩, ⟨p7, p8⟩⟩, f2, f3, f4, f5, f6, f7⟩ := r
  dsimp only
  go_enter Try.func10, Try.ntmps10
  go_wp2_with (first | ((with_reducible refine gate_dst (N := 5) rfl ?_); refine box_event ?hg (N := 5) ?hd (cs := #[.int .i64 f0, .string p0, .string p1, .string p2, .string p3, .int .i64 p4, .int .i64 p5, .int .i64 p6, .int .i64 p7, .int .i64 p8, .bool f2, .bool f3, .int .i64 f4, .bool f5, .string f6, .string f7]) (t := 35) ?hr ?_; (case hd => rfl); (case hg => rfl); (case hr => first | (go_simp; done) | (go_simp; rfl)); intro q1 hq w1 hbox hb; have BKq1 := Aside0.mk hbox; have HQq1 := Aside0.mk (show w.heap.size ≤ q1 from by rw [hq]; exact Nat.le_refl _); have HB1 := Aside0.mk hb; clear hbox hb hq))
  go_ret
  exact ⟨rfl, HB1.out⟩
set_option maxHeartbeats 1600000 in
set_option maxRecDepth 100000 in
theorem rem_call {w : World} {base q m : Nat} {v : Value} {l : List S35} (h : SpdO w base q m v l) (hlim : l.length ≤ 1000) (i : Int) : Calls Try.prog 9 #[.pointer (some ⟨q, 0, none⟩), .int .i64 i] w (SpCall (remF l i) w base q m v) := by
  obtain ⟨A, c, rfl, _, _⟩ := own_slice' h.own
  have HO := Aside0.mk h
  have c0 : w.cell? ⟨q, 0, none⟩ = some (.slice A l.length c) := (blk_cell h.blk 0).trans rfl
  obtain ⟨n, hn⟩ : ∃ n, l.length = n := ⟨_, rfl⟩
  have HN := Aside0.mk hn
  by_cases h1 : i < 0
  · have hF := Aside0.mk (show remF l i = (l, 6) from if_pos h1)
    have d1 : decide (i < 0) = true := decide_eq_true h1
    clear h h1
    rw [hn] at c0 hlim HO ⊢
    clear hn
    go_enter Try.func9, Try.ntmps9
    go_wp2
    go_ret
    refine ⟨_, by rw [hF.out] <;> rfl, by rw [hF.out]; exact HO.out, Turn.of_below (Below.refl _ _) _ _ _⟩
  · have d1 : decide (i < 0) = false := decide_eq_false h1
    by_cases h2 : (n : Int) ≤ i
    · have hF := Aside0.mk (show remF l i = (l, 6) from (if_neg h1).trans (if_pos (by rw [hn]; exact h2)))
      have d2 : decide ((n : Int) ≤ i) = true := decide_eq_true h2
      clear h h1 h2
      rw [hn] at c0 hlim HO ⊢
      clear hn
      go_enter Try.func9, Try.ntmps9
      go_wp2
      go_ret
      refine ⟨_, by rw [hF.out] <;> rfl, by rw [hF.out]; exact HO.out, Turn.of_below (Below.refl _ _) _ _ _⟩
    · have d2 : decide ((n : Int) ≤ i) = false := decide_eq_false h2
      have hF := Aside0.mk (show remF l i = (l.eraseIdx i.toNat, 0) from (if_neg h1).trans (if_neg (by rw [hn]; exact h2)))
      obtain ⟨j, rfl⟩ : ∃ j : Nat, i = (j : Int) := ⟨i.toNat, by omega⟩
      rw [Int.toNat_natCast] at hF
      have hj : j < l.length := by omega
      obtain ⟨g, cur, hA, hnl, _, _, _, _, _, _⟩ := own_form h.own (by omega)
      subst hA
      obtain ⟨es, clock, hm, hk⟩ := h.map
      have HM := Aside0.mk hm
      have DW := Aside0.mk (delete_walk base g c l j w h.own hlim hj (by have := h.low; have := blk_lt h.blk; omega))
      have hj1 : IntKind.i64.wrap ((j : Int) + 1) = (j : Int) + 1 := IntWalk.i64_in _ (by omega)
      rw [hn] at DW
      have d2n : decide (n ≤ j) = false := decide_eq_false (by omega)
      clear h h1 h2 hnl hj hm hk
      rw [hn] at c0 hlim HO ⊢
      clear hn
      go_enter Try.func9, Try.ntmps9
      go_wp2_with (fail)
      refine DW.out.mono ?_
      rintro e w5 ⟨rfl, ho, hg⟩
      have HO5 := Aside0.mk ho
      have HG5 := Aside0.mk hg
      have BK5 := Aside0.mk (blk_grown HO.out.blk hg (fun e => own_neT HO.out.own HO.out.blk (by decide) e))
      have BM5 := Aside0.mk (blk_grown HM.out hg (fun e => own_neM HO.out.own HM.out e))
      clear ho hg c0
      have c0 : w5.cell? ⟨q, 0, none⟩ = some (.slice (some ⟨g, 0, none⟩) n c) := (blk_cell BK5.out 0).trans rfl
      have f0 : w5.frozen? ⟨q, 0, none⟩ = false := blk_frozen BK5.out 0
      have B6 := Aside0.mk (show (w5.setCell ⟨q, 0, none⟩ (.slice (some ⟨g, 0, none⟩) (n - 1) c)).heap[q]? = some (.cells #[.slice (some ⟨g, 0, none⟩) (n - 1) c, .map (some m)] 56 (0, 0)) from (blk_set BK5.out 0 _).trans rfl)
      have M6 := Aside0.mk (show (w5.setCell ⟨q, 0, none⟩ (.slice (some ⟨g, 0, none⟩) (n - 1) c)).heap[m]? = some (.map es clock) from (Below.heap_setCell w5 ⟨q, 0, none⟩ _ m (Ne.symm (blk_neM BK5.out BM5.out))).trans BM5.out)
      have HT := Aside0.mk (show OwnT (w5.setCell ⟨q, 0, none⟩ (.slice (some ⟨g, 0, none⟩) (n - 1) c)) base (.slice (some ⟨g, 0, none⟩) (n - 1) c) (l.eraseIdx j) ∧ Turn w (w5.setCell ⟨q, 0, none⟩ (.slice (some ⟨g, 0, none⟩) (n - 1) c)) q m (.slice (some ⟨g, 0, none⟩) n c) (.slice (some ⟨g, 0, none⟩) (n - 1) c) from by
        have hq : some q ≠ (Value.slice (some ⟨g, 0, none⟩) (n - 1) c).ownBlock := own_neT HO5.out BK5.out (by decide)
        refine ⟨own_setCell HO5.out hq _, HG5.out.os, HG5.out.tape, HG5.out.output, ?_, fun k hk h1 h2 h3 => ?_, fun k hk => .inl hk⟩
        · have e : (w5.setCell ⟨q, 0, none⟩ (.slice (some ⟨g, 0, none⟩) (n - 1) c)).heap.size = w5.heap.size := by simp [World.setCell]
          rw [e]
          exact HG5.out.size
        · exact (Below.heap_setCell w5 ⟨q, 0, none⟩ _ k h1).trans (HG5.out.block k hk h3))
      obtain ⟨w6, hw6⟩ : ∃ w6, w5.setCell ⟨q, 0, none⟩ (.slice (some ⟨g, 0, none⟩) (n - 1) c) = w6 := ⟨_, rfl⟩
      rw [hw6] at B6 M6 HT
      have c1 : w6.cell? ⟨q, 1, none⟩ = some (.map (some m)) := (blk_cell B6.out 1).trans rfl
      have hcl := fun ty => clear54 ty m clock w6 M6.out
      go_wp2_with (fail)
      go_ret
      obtain ⟨h8, h9⟩ := SpdO.lay (es' := #[]) (clock' := clock) B6.out M6.out HT.out.1 HO.out.low HO.out.lom (kept_nil _) HT.out.2
      exact ⟨_, by rw [hF.out] <;> rfl, by rw [hF.out]; exact h8, h9⟩
set_option maxHeartbeats 3200000 in
set_option maxRecDepth 100000 in
theorem add_1 {w : World} {base q m : Nat} {A : Option Addr} {c : Nat} {l : List S35} (h : SpdO w base q m (.slice A l.length c) l) (hlim : l.length ≤ 1000) (i : Int) (r : S35) (CS : Array Value) (CK : Aside0 (∀ W : World, Calls Try.prog 17 #[.agg CS] W fun e w' => e = .returned (.int .i64 0) ∧ Below W.heap.size W w')) (HER : Aside0 (checkE r = 0)) (h2 : i < 0) (HEN : Aside0 ((enc35 r).toArray = CS)) :
    Calls Try.prog 10 #[.pointer (some ⟨q, 0, none⟩), .int .i64 i, .agg CS] w (SpCall (addF l i r) w base q m (.slice A l.length c)) := by
  have HO := Aside0.mk h
  have HLT := Aside0.mk (show ∀ k, (Value.slice A l.length c).ownBlock = some k → k < w.heap.size from fun k hk => own_lt h.own k hk)
  obtain ⟨es, clock, hm, hk⟩ := h.map
  have HM := Aside0.mk hm
  have LDV := Aside0.mk fun (W : World) (g : Nat) (hb : W.heap[g]? = some (.cells CS 35 (0, 0))) => run_loadVar_row (P := Try.prog) W g 35 35 CS (0, 0) _ hb Try.underlying35 rfl (by rw [← HEN.out]; exact isz35)
  have IW := Aside0.mk fun (j : Nat) (hj : j ≤ l.length) (W : World) (vb : Nat) (hb : Below w.heap.size w W) (hv : W.heap[vb]? = some (.cells CS 35 (0, 0))) (hvb : w.heap.size ≤ vb) =>
    insert_walk base vb A c l r j W (h.below hb).own (by rw [HEN.out]; exact hv) (fun e => by have := own_lt h.own vb e.symm; omega) hlim hj (by have := h.low; have := blk_lt h.blk; have := hb.size; omega)
  obtain ⟨n, hn⟩ : ∃ n, l.length = n := ⟨_, rfl⟩
  have HN := Aside0.mk hn
  simp only [hn] at IW
  rw [hn] at hlim HO HLT ⊢
  have TB := Aside0.mk (show ∀ W, Below w.heap.size w W → W.cell? ⟨q, 0, none⟩ = some (.slice A n c) ∧ W.cell? ⟨q, 1, none⟩ = some (.map (some m)) from fun W hb => ⟨(blk_cell (HO.out.below hb).blk 0).trans rfl, (blk_cell (HO.out.below hb).blk 1).trans rfl⟩)
  have HF := Aside0.mk (show ∀ x w', addF l i r = (l, x) → Below w.heap.size w w' → ∀ e, e = .returned (.int .i64 x) → SpCall (addF l i r) w base q m (.slice A n c) e w' from fun x w' hx hb e he => by
    rw [hx]
    exact ⟨_, he, HO.out.below hb, Turn.of_below hb _ _ _⟩)
  clear h hn hm hk
  have HX := Aside0.mk (show addF l i r = (l, 1) from (if_pos HER.out).trans (if_pos h2))
  have d2 : decide (i < 0) = true := decide_eq_true h2
  clear h2
  go_enter Try.func10, Try.ntmps10
  go_wp2_with (first | ((with_reducible refine gate_dst (N := 5) rfl ?_); refine box_event ?hg (N := 5) ?hd (cs := CS) (t := 35) ?hr ?_; (case hd => rfl); (case hg => rfl); (case hr => first | (go_simp; done) | (go_simp; rfl)); intro q1 hq w1 hbox hb; have BKq1 := Aside0.mk hbox; have HQq1 := Aside0.mk (show w.heap.size ≤ q1 from by rw [hq]; exact Nat.le_refl _); have HB1 := Aside0.mk hb; clear hbox hb hq; have LD1 := LDV.out w1 q1 BKq1.out) | ((with_reducible refine gate_dst (N := 11) rfl ?_); refine Kd.event_run (v := .agg CS) (w1 := w1) ?hg (load_run 35 (.tmp 5) q1 CS ?ho ?hx LD1) ?_; (case hg => rfl); (case ho => rfl); (case hx => rfl); clear LD1))
  refine (CK.out _).mono ?_
  rintro e w2 ⟨rfl, hb⟩
  have BKq1 := Aside0.mk (blk_below BKq1.out hb)
  have HB2 := Aside0.mk (HB1.out.trans (hb.mono HB1.out.size))
  clear hb
  go_wp2_with (fail)
  go_ret
  exact HF.out 1 _ HX.out HB2.out _ rfl
set_option maxHeartbeats 3200000 in
set_option maxRecDepth 100000 in
theorem add_2 {w : World} {base q m : Nat} {A : Option Addr} {c : Nat} {l : List S35} (h : SpdO w base q m (.slice A l.length c) l) (hlim : l.length ≤ 1000) (i : Int) (r : S35) (CS : Array Value) (CK : Aside0 (∀ W : World, Calls Try.prog 17 #[.agg CS] W fun e w' => e = .returned (.int .i64 0) ∧ Below W.heap.size W w')) (HER : Aside0 (checkE r = 0)) (h2 : ¬ i < 0) (h3' : (l.length : Int) < i) (HEN : Aside0 ((enc35 r).toArray = CS)) :
    Calls Try.prog 10 #[.pointer (some ⟨q, 0, none⟩), .int .i64 i, .agg CS] w (SpCall (addF l i r) w base q m (.slice A l.length c)) := by
  have HO := Aside0.mk h
  have HLT := Aside0.mk (show ∀ k, (Value.slice A l.length c).ownBlock = some k → k < w.heap.size from fun k hk => own_lt h.own k hk)
  obtain ⟨es, clock, hm, hk⟩ := h.map
  have HM := Aside0.mk hm
  have LDV := Aside0.mk fun (W : World) (g : Nat) (hb : W.heap[g]? = some (.cells CS 35 (0, 0))) => run_loadVar_row (P := Try.prog) W g 35 35 CS (0, 0) _ hb Try.underlying35 rfl (by rw [← HEN.out]; exact isz35)
  have IW := Aside0.mk fun (j : Nat) (hj : j ≤ l.length) (W : World) (vb : Nat) (hb : Below w.heap.size w W) (hv : W.heap[vb]? = some (.cells CS 35 (0, 0))) (hvb : w.heap.size ≤ vb) =>
    insert_walk base vb A c l r j W (h.below hb).own (by rw [HEN.out]; exact hv) (fun e => by have := own_lt h.own vb e.symm; omega) hlim hj (by have := h.low; have := blk_lt h.blk; have := hb.size; omega)
  obtain ⟨n, hn⟩ : ∃ n, l.length = n := ⟨_, rfl⟩
  have HN := Aside0.mk hn
  simp only [hn] at IW
  rw [hn] at hlim HO HLT ⊢
  have TB := Aside0.mk (show ∀ W, Below w.heap.size w W → W.cell? ⟨q, 0, none⟩ = some (.slice A n c) ∧ W.cell? ⟨q, 1, none⟩ = some (.map (some m)) from fun W hb => ⟨(blk_cell (HO.out.below hb).blk 0).trans rfl, (blk_cell (HO.out.below hb).blk 1).trans rfl⟩)
  have HF := Aside0.mk (show ∀ x w', addF l i r = (l, x) → Below w.heap.size w w' → ∀ e, e = .returned (.int .i64 x) → SpCall (addF l i r) w base q m (.slice A n c) e w' from fun x w' hx hb e he => by
    rw [hx]
    exact ⟨_, he, HO.out.below hb, Turn.of_below hb _ _ _⟩)
  clear h hn hm hk
  have h3 : (n : Int) < i := by rw [← HN.out]; exact h3'
  clear h3'
  have d2 : decide (i < 0) = false := decide_eq_false h2
  have HX := Aside0.mk (show addF l i r = (l, 1) from (if_pos HER.out).trans ((if_neg h2).trans (if_pos (by rw [HN.out]; exact h3))))
  have d3 : decide ((n : Int) < i) = true := decide_eq_true h3
  clear h2 h3
  go_enter Try.func10, Try.ntmps10
  go_wp2_with (first | ((with_reducible refine gate_dst (N := 5) rfl ?_); refine box_event ?hg (N := 5) ?hd (cs := CS) (t := 35) ?hr ?_; (case hd => rfl); (case hg => rfl); (case hr => first | (go_simp; done) | (go_simp; rfl)); intro q1 hq w1 hbox hb; have BKq1 := Aside0.mk hbox; have HQq1 := Aside0.mk (show w.heap.size ≤ q1 from by rw [hq]; exact Nat.le_refl _); have HB1 := Aside0.mk hb; clear hbox hb hq; have LD1 := LDV.out w1 q1 BKq1.out) | ((with_reducible refine gate_dst (N := 11) rfl ?_); refine Kd.event_run (v := .agg CS) (w1 := w1) ?hg (load_run 35 (.tmp 5) q1 CS ?ho ?hx LD1) ?_; (case hg => rfl); (case ho => rfl); (case hx => rfl); clear LD1))
  refine (CK.out _).mono ?_
  rintro e w2 ⟨rfl, hb⟩
  have BKq1 := Aside0.mk (blk_below BKq1.out hb)
  have HB2 := Aside0.mk (HB1.out.trans (hb.mono HB1.out.size))
  clear hb
  obtain ⟨x0, x1⟩ := TB.out _ HB2.out
  go_wp2_with (fail)
  go_ret
  exact HF.out 1 _ HX.out HB2.out _ rfl
set_option maxHeartbeats 3200000 in
set_option maxRecDepth 100000 in
theorem add_3 {w : World} {base q m : Nat} {A : Option Addr} {c : Nat} {l : List S35} (h : SpdO w base q m (.slice A l.length c) l) (hlim : l.length ≤ 1000) (j : Nat) (r : S35) (CS : Array Value) (CK : Aside0 (∀ W : World, Calls Try.prog 17 #[.agg CS] W fun e w' => e = .returned (.int .i64 0) ∧ Below W.heap.size W w')) (HER : Aside0 (checkE r = 0)) (hjn' : j ≤ l.length) (h4' : 64 ≤ l.length) (HEN : Aside0 ((enc35 r).toArray = CS)) :
    Calls Try.prog 10 #[.pointer (some ⟨q, 0, none⟩), .int .i64 (j : Int), .agg CS] w (SpCall (addF l (j : Int) r) w base q m (.slice A l.length c)) := by
  have HO := Aside0.mk h
  have HLT := Aside0.mk (show ∀ k, (Value.slice A l.length c).ownBlock = some k → k < w.heap.size from fun k hk => own_lt h.own k hk)
  obtain ⟨es, clock, hm, hk⟩ := h.map
  have HM := Aside0.mk hm
  have LDV := Aside0.mk fun (W : World) (g : Nat) (hb : W.heap[g]? = some (.cells CS 35 (0, 0))) => run_loadVar_row (P := Try.prog) W g 35 35 CS (0, 0) _ hb Try.underlying35 rfl (by rw [← HEN.out]; exact isz35)
  have IW := Aside0.mk fun (j : Nat) (hj : j ≤ l.length) (W : World) (vb : Nat) (hb : Below w.heap.size w W) (hv : W.heap[vb]? = some (.cells CS 35 (0, 0))) (hvb : w.heap.size ≤ vb) =>
    insert_walk base vb A c l r j W (h.below hb).own (by rw [HEN.out]; exact hv) (fun e => by have := own_lt h.own vb e.symm; omega) hlim hj (by have := h.low; have := blk_lt h.blk; have := hb.size; omega)
  obtain ⟨n, hn⟩ : ∃ n, l.length = n := ⟨_, rfl⟩
  have HN := Aside0.mk hn
  simp only [hn] at IW
  rw [hn] at hlim HO HLT ⊢
  have TB := Aside0.mk (show ∀ W, Below w.heap.size w W → W.cell? ⟨q, 0, none⟩ = some (.slice A n c) ∧ W.cell? ⟨q, 1, none⟩ = some (.map (some m)) from fun W hb => ⟨(blk_cell (HO.out.below hb).blk 0).trans rfl, (blk_cell (HO.out.below hb).blk 1).trans rfl⟩)
  have HF := Aside0.mk (show ∀ x w', addF l (j : Int) r = (l, x) → Below w.heap.size w w' → ∀ e, e = .returned (.int .i64 x) → SpCall (addF l (j : Int) r) w base q m (.slice A n c) e w' from fun x w' hx hb e he => by
    rw [hx]
    exact ⟨_, he, HO.out.below hb, Turn.of_below hb _ _ _⟩)
  clear h hn hm hk
  have h2 : ¬ (j : Int) < 0 := by omega
  have d2 : decide ((j : Int) < 0) = false := decide_eq_false h2
  have hjn : j ≤ n := by rw [← HN.out]; exact hjn'
  have h3 : ¬ (n : Int) < (j : Int) := by omega
  have d3 : decide ((n : Int) < (j : Int)) = false := decide_eq_false h3
  have d3n : decide (n < j) = false := decide_eq_false (by omega)
  have h4 : 64 ≤ n := by rw [← HN.out]; exact h4'
  clear h4' hjn' hjn
  have HX := Aside0.mk (show addF l (j : Int) r = (l, 7) from (if_pos HER.out).trans ((if_neg h2).trans ((if_neg (by rw [HN.out]; exact h3)).trans (if_pos (by rw [HN.out]; omega)))))
  have d4 : decide ((64 : Int) ≤ (n : Int)) = true := decide_eq_true (by omega)
  clear h2 h3 h4
  go_enter Try.func10, Try.ntmps10
  go_wp2_with (first | ((with_reducible refine gate_dst (N := 5) rfl ?_); refine box_event ?hg (N := 5) ?hd (cs := CS) (t := 35) ?hr ?_; (case hd => rfl); (case hg => rfl); (case hr => first | (go_simp; done) | (go_simp; rfl)); intro q1 hq w1 hbox hb; have BKq1 := Aside0.mk hbox; have HQq1 := Aside0.mk (show w.heap.size ≤ q1 from by rw [hq]; exact Nat.le_refl _); have HB1 := Aside0.mk hb; clear hbox hb hq; have LD1 := LDV.out w1 q1 BKq1.out) | ((with_reducible refine gate_dst (N := 11) rfl ?_); refine Kd.event_run (v := .agg CS) (w1 := w1) ?hg (load_run 35 (.tmp 5) q1 CS ?ho ?hx LD1) ?_; (case hg => rfl); (case ho => rfl); (case hx => rfl); clear LD1))
  refine (CK.out _).mono ?_
  rintro e w2 ⟨rfl, hb⟩
  have BKq1 := Aside0.mk (blk_below BKq1.out hb)
  have HB2 := Aside0.mk (HB1.out.trans (hb.mono HB1.out.size))
  clear hb
  obtain ⟨x0, x1⟩ := TB.out _ HB2.out
  go_wp2_with (fail)
  go_ret
  exact HF.out 7 _ HX.out HB2.out _ rfl
set_option maxHeartbeats 3200000 in
set_option maxRecDepth 100000 in
theorem add_4 {w : World} {base q m : Nat} {A : Option Addr} {c : Nat} {l : List S35} (h : SpdO w base q m (.slice A l.length c) l) (hlim : l.length ≤ 1000) (j : Nat) (r : S35) (CS : Array Value) (CK : Aside0 (∀ W : World, Calls Try.prog 17 #[.agg CS] W fun e w' => e = .returned (.int .i64 0) ∧ Below W.heap.size W w')) (HER : Aside0 (checkE r = 0)) (hjn' : j ≤ l.length) (h4' : ¬ 64 ≤ l.length) (HEN : Aside0 ((enc35 r).toArray = CS)) :
    Calls Try.prog 10 #[.pointer (some ⟨q, 0, none⟩), .int .i64 (j : Int), .agg CS] w (SpCall (addF l (j : Int) r) w base q m (.slice A l.length c)) := by
  have HO := Aside0.mk h
  have HLT := Aside0.mk (show ∀ k, (Value.slice A l.length c).ownBlock = some k → k < w.heap.size from fun k hk => own_lt h.own k hk)
  obtain ⟨es, clock, hm, hk⟩ := h.map
  have HM := Aside0.mk hm
  have LDV := Aside0.mk fun (W : World) (g : Nat) (hb : W.heap[g]? = some (.cells CS 35 (0, 0))) => run_loadVar_row (P := Try.prog) W g 35 35 CS (0, 0) _ hb Try.underlying35 rfl (by rw [← HEN.out]; exact isz35)
  have IW := Aside0.mk fun (j : Nat) (hj : j ≤ l.length) (W : World) (vb : Nat) (hb : Below w.heap.size w W) (hv : W.heap[vb]? = some (.cells CS 35 (0, 0))) (hvb : w.heap.size ≤ vb) =>
    insert_walk base vb A c l r j W (h.below hb).own (by rw [HEN.out]; exact hv) (fun e => by have := own_lt h.own vb e.symm; omega) hlim hj (by have := h.low; have := blk_lt h.blk; have := hb.size; omega)
  obtain ⟨n, hn⟩ : ∃ n, l.length = n := ⟨_, rfl⟩
  have HN := Aside0.mk hn
  simp only [hn] at IW
  rw [hn] at hlim HO HLT ⊢
  have TB := Aside0.mk (show ∀ W, Below w.heap.size w W → W.cell? ⟨q, 0, none⟩ = some (.slice A n c) ∧ W.cell? ⟨q, 1, none⟩ = some (.map (some m)) from fun W hb => ⟨(blk_cell (HO.out.below hb).blk 0).trans rfl, (blk_cell (HO.out.below hb).blk 1).trans rfl⟩)
  have HF := Aside0.mk (show ∀ x w', addF l (j : Int) r = (l, x) → Below w.heap.size w w' → ∀ e, e = .returned (.int .i64 x) → SpCall (addF l (j : Int) r) w base q m (.slice A n c) e w' from fun x w' hx hb e he => by
    rw [hx]
    exact ⟨_, he, HO.out.below hb, Turn.of_below hb _ _ _⟩)
  clear h hn hm hk
  have h2 : ¬ (j : Int) < 0 := by omega
  have d2 : decide ((j : Int) < 0) = false := decide_eq_false h2
  have hjn : j ≤ n := by rw [← HN.out]; exact hjn'
  have h3 : ¬ (n : Int) < (j : Int) := by omega
  have d3 : decide ((n : Int) < (j : Int)) = false := decide_eq_false h3
  have d3n : decide (n < j) = false := decide_eq_false (by omega)
  have h4 : ¬ 64 ≤ n := by rw [← HN.out]; exact h4'
  clear h4' hjn'
  have HX := Aside0.mk (show addF l (j : Int) r = (l.take j ++ r :: l.drop j, 0) from (if_pos HER.out).trans ((if_neg h2).trans ((if_neg (by rw [HN.out]; exact h3)).trans (if_neg (by rw [HN.out]; omega)))))
  have d4 : decide ((64 : Int) ≤ (n : Int)) = false := decide_eq_false (by omega)
  clear h2 h3 h4
  obtain ⟨l', hl'⟩ : ∃ l', l.take j ++ r :: l.drop j = l' := ⟨_, rfl⟩
  have IX := Aside0.mk (IW.out j hjn)
  rw [hl'] at IX HX
  clear hl' hjn
  go_enter Try.func10, Try.ntmps10
  go_wp2_with (first | ((with_reducible refine gate_dst (N := 5) rfl ?_); refine box_event ?hg (N := 5) ?hd (cs := CS) (t := 35) ?hr ?_; (case hd => rfl); (case hg => rfl); (case hr => first | (go_simp; done) | (go_simp; rfl)); intro q1 hq w1 hbox hb; have BKq1 := Aside0.mk hbox; have HQq1 := Aside0.mk (show w.heap.size ≤ q1 from by rw [hq]; exact Nat.le_refl _); have HB1 := Aside0.mk hb; clear hbox hb hq; have LD1 := LDV.out w1 q1 BKq1.out) | ((with_reducible refine gate_dst (N := 11) rfl ?_); refine Kd.event_run (v := .agg CS) (w1 := w1) ?hg (load_run 35 (.tmp 5) q1 CS ?ho ?hx LD1) ?_; (case hg => rfl); (case ho => rfl); (case hx => rfl); clear LD1))
  refine (CK.out _).mono ?_
  rintro e w2 ⟨rfl, hb⟩
  have BKq1 := Aside0.mk (blk_below BKq1.out hb)
  have HB2 := Aside0.mk (HB1.out.trans (hb.mono HB1.out.size))
  clear hb
  have hS2 := HO.out.below HB2.out
  have HS2 := Aside0.mk hS2.blk
  have HM2 := Aside0.mk (blk_below HM.out HB2.out)
  obtain ⟨x0, x1⟩ := TB.out _ HB2.out
  clear hS2
  go_wp2_with (fail)
  clear x0 x1
  refine start_ (n := 12) (S := fun W => W.heap[q]? = some (.cells #[.slice A n c, .map (some m)] 56 (0, 0)) ∧ W.heap[q1]? = some (.cells CS 35 (0, 0)) ∧ W.heap[m]? = some (.map es clock)) (ds := [11]) #[false, false, false, false, false, false, false, false, false, false, false, false] (by kernel_rfl) rfl rfl ⟨HS2.out, BKq1.out, HM2.out⟩ (fun hHeld => ?_)
  refine pure_ (i := 0) (N := some 34) (v := ?_) (a' := ?_) #[true, false, false, false, false, false, false, false, false, false, false, false] rfl rfl (by kernel_rfl) (fun _ _ _ h => h) (Or.inl ⟨by rfl, ?_⟩) ?_ ?_
  rotate_left
  · intro w'
    go_simp
    with_reducible rfl
  rotate_left
  · simp only [Act.put, List.setIfInBounds_toArray, List.set_cons_zero, List.set_cons_succ]
    rfl
  refine pure_ (i := 1) (N := some 35) (v := ?_) (a' := ?_) #[true, true, false, false, false, false, false, false, false, false, false, false] rfl rfl (by kernel_rfl) (fun _ _ _ h => h) (Or.inl ⟨by rfl, ?_⟩) ?_ ?_
  rotate_left
  · intro w'
    go_simp
    with_reducible rfl
  rotate_left
  · simp only [Act.put, List.setIfInBounds_toArray, List.set_cons_zero, List.set_cons_succ]
    rfl
  refine pure_ (i := 2) (N := some 36) (v := ?_) (a' := ?_) #[true, true, true, false, false, false, false, false, false, false, false, false] rfl rfl (by kernel_rfl) (fun _ _ _ h => h) (Or.inl ⟨by rfl, ?_⟩) ?_ ?_
  rotate_left
  · intro w'
    go_simp
    with_reducible rfl
  rotate_left
  · simp only [Act.put, List.setIfInBounds_toArray, List.set_cons_zero, List.set_cons_succ]
    rfl
  refine pure_ (i := 3) (N := some 37) (v := ?_) (a' := ?_) #[true, true, true, true, false, false, false, false, false, false, false, false] rfl rfl (by kernel_rfl) (fun _ _ _ h => h) (Or.inl ⟨by rfl, ?_⟩) ?_ ?_
  rotate_left
  · intro w'
    go_simp
    with_reducible rfl
  rotate_left
  · simp only [Act.put, List.setIfInBounds_toArray, List.set_cons_zero, List.set_cons_succ]
    rfl
  refine take_ (i := 4) (N := some 38) (v := ?_) (a' := ?_) #[true, true, true, true, true, false, false, false, false, false, false, false] rfl rfl (by kernel_rfl) (fun _ _ _ h => h) (Or.inl ⟨by rfl, ?_⟩) hHeld ?_ ?_
  rotate_left
  · intro w' s0
    have s1 := Aside0.mk s0.1
    have s2 := Aside0.mk s0.2.1
    clear s0
    have x0 : w'.cell? ⟨q, 0, none⟩ = some (.slice A n c) := (blk_cell s1.out 0).trans rfl
    have LD := LDV.out w' q1 s2.out
    go_simp
    with_reducible rfl
  rotate_left
  · simp only [Act.put, List.setIfInBounds_toArray, List.set_cons_zero, List.set_cons_succ]
    rfl
  refine pure_ (i := 5) (N := some 39) (v := ?_) (a' := ?_) #[true, true, true, true, true, true, false, false, false, false, false, false] rfl rfl (by kernel_rfl) (fun _ _ _ h => h) (Or.inl ⟨by rfl, ?_⟩) ?_ ?_
  rotate_left
  · intro w'
    go_simp
    with_reducible rfl
  rotate_left
  · simp only [Act.put, List.setIfInBounds_toArray, List.set_cons_zero, List.set_cons_succ]
    rfl
  refine take_ (i := 6) (N := some 40) (v := ?_) (a' := ?_) #[true, true, true, true, true, true, true, false, false, false, false, false] rfl rfl (by kernel_rfl) (fun _ _ _ h => h) (Or.inl ⟨by rfl, ?_⟩) hHeld ?_ ?_
  rotate_left
  · intro w' s0
    have s1 := Aside0.mk s0.1
    have s2 := Aside0.mk s0.2.1
    clear s0
    have x0 : w'.cell? ⟨q, 0, none⟩ = some (.slice A n c) := (blk_cell s1.out 0).trans rfl
    have LD := LDV.out w' q1 s2.out
    refine load_run 35 (.tmp 5) q1 CS ?_ ?_ LD
    · rfl
    · rfl
  rotate_left
  · simp only [Act.put, List.setIfInBounds_toArray, List.set_cons_zero, List.set_cons_succ]
    rfl
  refine one_ (i := 7) (N := some 41) #[true, true, true, true, true, true, true, true, false, false, false, false] rfl rfl (by kernel_rfl) (by decide) (fun K hK => ?_)
  refine value_ (v := .slice (some ⟨w2.heap.size, 0, none⟩) 1 1) (w1 := (w2.alloc (.cells CS 35 (0, 0))).drew) (by rfl) rfl ?_ ?_
  · obtain rfl := HEN.out
    unfold enc35
    go_simp
  obtain ⟨vb, hvb⟩ : ∃ vb, w2.heap.size = vb := ⟨_, rfl⟩
  have HB7 := Aside0.mk (show Below w.heap.size w ((w2.alloc (.cells CS 35 (0, 0))).drew) from below_drew (below_alloc HB2.out _))
  have BV := Aside0.mk (show ((w2.alloc (.cells CS 35 (0, 0))).drew).heap[vb]? = some (.cells CS 35 (0, 0)) from by rw [← hvb]; exact heap_alloc_new w2 _)
  have HVB := Aside0.mk (show w.heap.size ≤ vb from by rw [← hvb]; exact HB2.out.size)
  have HB27 := Aside0.mk (show Below w2.heap.size w2 ((w2.alloc (.cells CS 35 (0, 0))).drew) from below_drew (below_alloc (Below.refl _ _) _))
  obtain ⟨W7, hW7⟩ : ∃ W7, (w2.alloc (.cells CS 35 (0, 0))).drew = W7 := ⟨_, rfl⟩
  rw [hW7] at HB7 BV HB27 ⊢
  rw [hvb]
  clear hW7 hvb
  refine hK.out _ _ ⟨blk_below HS2.out HB27.out, blk_below BKq1.out HB27.out, blk_below HM2.out HB27.out⟩ (fun hHeld => ?_)
  clear hK K
  refine norm_ (a' := ?_) ?_ ?_
  rotate_left
  · show Act.put _ (some 41) _ = _
    simp only [Act.put, List.setIfInBounds_toArray, List.set_cons_zero, List.set_cons_succ]
    rfl
  refine one_ (i := 8) (N := some 42) #[true, true, true, true, true, true, true, true, true, false, false, false] rfl rfl (by kernel_rfl) (by decide) (fun K hK => ?_)
  refine goesV_ Try.func18 (by kernel_rfl) rfl #[.slice A n c, .int .i64 j, .slice (some ⟨vb, 0, none⟩) 1 1] (by rfl) rfl rfl (by first | rfl | go_simp) (by first | rfl | simp [Act.eval] | go_simp) ?_
  refine (IX.out _ _ HB7.out BV.out HVB.out).mono ?_
  rintro e w8 ⟨v', rfl, ho, hg, hat⟩
  obtain ⟨A', c', rfl, _, _⟩ := own_slice' ho
  have HO8 := Aside0.mk ho
  have HG8 := Aside0.mk hg
  have HA8 := Aside0.mk hat
  clear ho hg hat
  refine ⟨_, rfl, hK.out _ _ ⟨blk_grown hHeld.1 HG8.out (fun e => own_neT HO.out.own HO.out.blk (by decide) e), blk_grown hHeld.2.1 HG8.out (fun e => by have h1 := HLT.out q1 e.symm; have h2 := HQq1.out; omega), blk_grown hHeld.2.2 HG8.out (fun e => own_neM HO.out.own HM.out e)⟩ (fun hHeld => ?_)⟩
  clear hK K
  refine norm_ (a' := ?_) ?_ ?_
  rotate_left
  · show Act.put _ (some 42) _ = _
    simp only [Act.put, List.setIfInBounds_toArray, List.set_cons_zero, List.set_cons_succ]
    rfl
  refine pure_ (i := 9) (N := some 43) (v := ?_) (a' := ?_) #[true, true, true, true, true, true, true, true, true, true, false, false] rfl rfl (by kernel_rfl) (fun _ _ _ h => h) (Or.inl ⟨by rfl, ?_⟩) ?_ ?_
  rotate_left
  · intro w'
    go_simp
    with_reducible rfl
  rotate_left
  · simp only [Act.put, List.setIfInBounds_toArray, List.set_cons_zero, List.set_cons_succ]
    rfl
  refine pure_ (i := 10) (N := some 44) (v := ?_) (a' := ?_) #[true, true, true, true, true, true, true, true, true, true, true, false] rfl rfl (by kernel_rfl) (fun _ _ _ h => h) (Or.inl ⟨by rfl, ?_⟩) ?_ ?_
  rotate_left
  · intro w'
    go_simp
    with_reducible rfl
  rotate_left
  · simp only [Act.put, List.setIfInBounds_toArray, List.set_cons_zero, List.set_cons_succ]
    rfl
  refine last_ (i := 11) (N := none) #[true, true, true, true, true, true, true, true, true, true, true, true] rfl rfl (by kernel_rfl) (by decide) (fun K hK => ?_)
  refine skip_ (w1 := w8.setCell ⟨q, 0, none⟩ (.slice A' l'.length c')) (by rfl) rfl ?_ ?_
  · have c0 : w8.cell? ⟨q, 0, none⟩ = some (.slice A n c) := (blk_cell hHeld.1 0).trans rfl
    have f0 : w8.frozen? ⟨q, 0, none⟩ = false := blk_frozen hHeld.1 0
    clear hHeld
    go_simp
  have B9 := Aside0.mk (show (w8.setCell ⟨q, 0, none⟩ (.slice A' l'.length c')).heap[q]? = some (.cells #[.slice A' l'.length c', .map (some m)] 56 (0, 0)) from (blk_set hHeld.1 0 _).trans rfl)
  have M9 := Aside0.mk (show (w8.setCell ⟨q, 0, none⟩ (.slice A' l'.length c')).heap[m]? = some (.map es clock) from (Below.heap_setCell w8 ⟨q, 0, none⟩ _ m (Ne.symm (blk_neM hHeld.1 hHeld.2.2))).trans hHeld.2.2)
  have HT := Aside0.mk (show OwnT (w8.setCell ⟨q, 0, none⟩ (.slice A' l'.length c')) base (.slice A' l'.length c') l' ∧ Turn w (w8.setCell ⟨q, 0, none⟩ (.slice A' l'.length c')) q m (.slice A n c) (.slice A' l'.length c') from by
    have hq : some q ≠ (Value.slice A' l'.length c').ownBlock := own_neT HO8.out hHeld.1 (by decide)
    refine ⟨own_setCell HO8.out hq _, HG8.out.os.trans HB7.out.os, HG8.out.tape.trans HB7.out.tape, HG8.out.output.trans HB7.out.output, ?_, fun k hk h1 hm2 h2 => ?_, ?_⟩
    · have e : (w8.setCell ⟨q, 0, none⟩ (.slice A' l'.length c')).heap.size = w8.heap.size := by simp [World.setCell]
      rw [e]
      exact Nat.le_trans HB7.out.size HG8.out.size
    · exact (Below.heap_setCell w8 ⟨q, 0, none⟩ _ k h1).trans ((HG8.out.block k (Nat.lt_of_lt_of_le hk HB7.out.size) h2).trans (HB7.out.block k hk))
    · intro k hk
      rcases HA8.out with h | ⟨b, h1, h2⟩
      · exact .inl (by rw [← h]; exact hk)
      · rw [h1] at hk
        injection hk with hk
        exact .inr (by rw [← hk]; exact Nat.le_trans HB7.out.size h2))
  obtain ⟨w9, hw9⟩ : ∃ w9, w8.setCell ⟨q, 0, none⟩ (.slice A' l'.length c') = w9 := ⟨_, rfl⟩
  rw [hw9] at B9 M9 HT ⊢
  clear hw9
  refine hK.out _ _ ?_
  clear hK K hHeld
  refine done_ (by kernel_rfl) ?_
  (try simp only [Exit.inBlock, Exit.then])
  have c1 : w9.cell? ⟨q, 1, none⟩ = some (.map (some m)) := (blk_cell B9.out 1).trans rfl
  have hcl := fun ty => clear54 ty m clock w9 M9.out
  go_wp2_with (fail)
  go_ret
  obtain ⟨h8, h9⟩ := SpdO.lay (es' := #[]) (clock' := clock) B9.out M9.out HT.out.1 HO.out.low HO.out.lom (kept_nil _) HT.out.2
  exact ⟨_, by rw [HX.out] <;> rfl, by rw [HX.out]; exact h8, h9⟩
set_option maxHeartbeats 3200000 in
set_option maxRecDepth 100000 in
theorem add_5 {w : World} {base q m : Nat} {A : Option Addr} {c : Nat} {l : List S35} (h : SpdO w base q m (.slice A l.length c) l) (hlim : l.length ≤ 1000) (i : Int) (r : S35) (er : Int) (CS : Array Value) (CK : Aside0 (∀ W : World, Calls Try.prog 17 #[.agg CS] W fun e w' => e = .returned (.int .i64 er) ∧ Below W.heap.size W w')) (HER : Aside0 (checkE r = er)) (h1 : er ≠ 0) (HEN : Aside0 ((enc35 r).toArray = CS)) :
    Calls Try.prog 10 #[.pointer (some ⟨q, 0, none⟩), .int .i64 i, .agg CS] w (SpCall (addF l i r) w base q m (.slice A l.length c)) := by
  have HO := Aside0.mk h
  have HLT := Aside0.mk (show ∀ k, (Value.slice A l.length c).ownBlock = some k → k < w.heap.size from fun k hk => own_lt h.own k hk)
  obtain ⟨es, clock, hm, hk⟩ := h.map
  have HM := Aside0.mk hm
  have LDV := Aside0.mk fun (W : World) (g : Nat) (hb : W.heap[g]? = some (.cells CS 35 (0, 0))) => run_loadVar_row (P := Try.prog) W g 35 35 CS (0, 0) _ hb Try.underlying35 rfl (by rw [← HEN.out]; exact isz35)
  have IW := Aside0.mk fun (j : Nat) (hj : j ≤ l.length) (W : World) (vb : Nat) (hb : Below w.heap.size w W) (hv : W.heap[vb]? = some (.cells CS 35 (0, 0))) (hvb : w.heap.size ≤ vb) =>
    insert_walk base vb A c l r j W (h.below hb).own (by rw [HEN.out]; exact hv) (fun e => by have := own_lt h.own vb e.symm; omega) hlim hj (by have := h.low; have := blk_lt h.blk; have := hb.size; omega)
  obtain ⟨n, hn⟩ : ∃ n, l.length = n := ⟨_, rfl⟩
  have HN := Aside0.mk hn
  simp only [hn] at IW
  rw [hn] at hlim HO HLT ⊢
  have TB := Aside0.mk (show ∀ W, Below w.heap.size w W → W.cell? ⟨q, 0, none⟩ = some (.slice A n c) ∧ W.cell? ⟨q, 1, none⟩ = some (.map (some m)) from fun W hb => ⟨(blk_cell (HO.out.below hb).blk 0).trans rfl, (blk_cell (HO.out.below hb).blk 1).trans rfl⟩)
  have HF := Aside0.mk (show ∀ x w', addF l i r = (l, x) → Below w.heap.size w w' → ∀ e, e = .returned (.int .i64 x) → SpCall (addF l i r) w base q m (.slice A n c) e w' from fun x w' hx hb e he => by
    rw [hx]
    exact ⟨_, he, HO.out.below hb, Turn.of_below hb _ _ _⟩)
  clear h hn hm hk
  have HX := Aside0.mk (show addF l i r = (l, 1) from if_neg (by rw [HER.out]; exact h1))
  have h1B : (er != 0) = true := by rw [bne_iff_ne]; exact h1
  clear h1
  go_enter Try.func10, Try.ntmps10
  go_wp2_with (first | ((with_reducible refine gate_dst (N := 5) rfl ?_); refine box_event ?hg (N := 5) ?hd (cs := CS) (t := 35) ?hr ?_; (case hd => rfl); (case hg => rfl); (case hr => first | (go_simp; done) | (go_simp; rfl)); intro q1 hq w1 hbox hb; have BKq1 := Aside0.mk hbox; have HQq1 := Aside0.mk (show w.heap.size ≤ q1 from by rw [hq]; exact Nat.le_refl _); have HB1 := Aside0.mk hb; clear hbox hb hq; have LD1 := LDV.out w1 q1 BKq1.out) | ((with_reducible refine gate_dst (N := 11) rfl ?_); refine Kd.event_run (v := .agg CS) (w1 := w1) ?hg (load_run 35 (.tmp 5) q1 CS ?ho ?hx LD1) ?_; (case hg => rfl); (case ho => rfl); (case hx => rfl); clear LD1))
  refine (CK.out _).mono ?_
  rintro e w2 ⟨rfl, hb⟩
  have BKq1 := Aside0.mk (blk_below BKq1.out hb)
  have HB2 := Aside0.mk (HB1.out.trans (hb.mono HB1.out.size))
  clear hb
  go_wp2_with (fail)
  go_ret
  exact HF.out 1 _ HX.out HB2.out _ rfl
theorem add_call {w : World} {base q m : Nat} {v : Value} {l : List S35} (h : SpdO w base q m v l) (hlim : l.length ≤ 1000) (i : Int) (r : S35) : Calls Try.prog 10 #[.pointer (some ⟨q, 0, none⟩), .int .i64 i, v35 r] w (SpCall (addF l i r) w base q m v) := by
  obtain ⟨A, c, rfl, _, _⟩ := own_slice' h.own
  have CK := fun W => spdcheck_walk r W
  by_cases h1 : checkE r = 0
  · rw [h1] at CK
    by_cases h2 : i < 0
    · exact add_1 h hlim i r (enc35 r).toArray ⟨CK⟩ ⟨h1⟩ h2 ⟨rfl⟩
    · by_cases h3 : (l.length : Int) < i
      · exact add_2 h hlim i r (enc35 r).toArray ⟨CK⟩ ⟨h1⟩ h2 h3 ⟨rfl⟩
      · obtain ⟨j, rfl⟩ : ∃ j : Nat, i = (j : Int) := ⟨i.toNat, by omega⟩
        by_cases h4 : 64 ≤ l.length
        · exact add_3 h hlim j r (enc35 r).toArray ⟨CK⟩ ⟨h1⟩ (by omega) h4 ⟨rfl⟩
        · exact add_4 h hlim j r (enc35 r).toArray ⟨CK⟩ ⟨h1⟩ (by omega) h4 ⟨rfl⟩
  · exact add_5 h hlim i r (checkE r) (enc35 r).toArray ⟨CK⟩ ⟨rfl⟩ h1 ⟨rfl⟩
end Go.Proofs.Ytdpfopeofeofcaa.Sp

/- The law SadDoes: its state, and the calls of both sides. The law SadDoes: step, where the call is Add. The law SadDoes: step, where the call is Remove. The law SadDoes: step, where the call is Age. The law SadDoes: step, where the call is Pick. The law SadDoes: step, where the call is Send. The law SadDoes: step, where the call is Look. The law SadDoes: step, where the call is Take. The law SadDoes. (Texts of this session, put together by wip/tools/merge.py.) -/
import Derived.Test.YtkmnpnbfeiobiaaDoorSdX4
import Derived.Test.YtkmnpnbfeiobiaaDoorSdX3
import Derived.Deep.DeepCutAuto
import Derived.Deep.CutBlock
import Derived.Test.YtkmnpnbfeiobiaaDoorQSax52
namespace Go.Proofs.YtkmnpnbfeiobiaaDoor.Sd
open Go.RowKit Go.Proofs.YtkmnpnbfeiobiaaDoorW.PrintWords Go.Proofs.YtkmnpnbfeiobiaaDoorW.PrintLast Go.Proofs.YtkmnpnbfeiobiaaDoorW.PrintMore Go.Proofs.YtkmnpnbfeiobiaaDoor.QSa
open Go.Proofs.YtkmnpnbfeiobiaaDoor
set_option linter.unusedVariables false
set_option linter.unusedSimpArgs false
/-- A call's life, out of its block. -/
theorem load27d {W : World} {q : Nat} {x : S40} {t : TypeId} (h : W.heap[q]? = some (.cells (enc40 x).toArray t (0, 0))) : (loadVar 27 ⟨q, 8, none⟩).run Tryd.prog W = .ok (.agg #[.int .i64 x.f8.f0.f0, .string x.f8.f0.f1, .string x.f8.f0.f2, .string x.f8.f0.f3, .bool x.f8.f0.f4, .int .i64 x.f8.f0.f5, .int .i64 x.f8.f1, .bool x.f8.f2, .int .i64 x.f8.f3, .int .i64 x.f8.f4, .int .i64 x.f8.f5, .int .i64 x.f8.f6]) W := by
  refine load_blk h (enc27 x.f8) (fun j v hv => ?_) _ Tryd.underlying27 rfl isz27
  unfold enc27 at hv
  unfold enc40
  match j with
  | 0 | 1 | 2 | 3 | 4 | 5 | 6 | 7 | 8 | 9 | 10 | 11 => exact hv
  | j + 12 => simp at hv
/-- The law's state. -/
structure Dos (w0 w : World) (q qx j : Nat) (es : List En) : Prop where
  sad : SadX w w0.heap.size q es
  ref : RefX w w0.heap.size qx es
  lst : Lst j es
  below : Below w0.heap.size w0 w
  laid0 : Laid w0
/-- Between the two calls. -/
structure Mid (w0 w : World) (q qx j : Nat) (es es' : List En) : Prop where
  sad : SadX w w0.heap.size q es'
  ref : RefX w w0.heap.size qx es
  lst : Lst j es
  lst' : Lst (j + 1) es'
  below : Below w0.heap.size w0 w
  laid0 : Laid w0
/-- What both sides' calls leave as it was. -/
def Kp (w w' : World) : Prop := ∀ (k : Nat) (cs : Array Value) (t : TypeId), w.heap[k]? = some (.cells cs t (0, 0)) → ¬ TP.has t → ¬ TR.has t → w'.heap[k]? = some (.cells cs t (0, 0))
theorem Kp.turn {T : Ty} {b : Nat} {w w' : World} (h : Turn T b w w') (hT : T = TP ∨ T = TR) : Kp w w' := fun k cs t hc h1 h2 => h.keep hc (by rcases hT with rfl | rfl <;> assumption)
theorem Kp.below {w w' : World} (h : Below w.heap.size w w') : Kp w w' := fun k cs t hc _ _ => (h.block k (blk_lt hc)).trans hc
theorem Kp.trans {w w' w'' : World} (h : Kp w w') (h' : Kp w' w'') : Kp w w'' := fun k cs t hc h1 h2 => h' k cs t (h k cs t hc h1 h2) h1 h2
theorem Dos.laid {w0 w : World} {q qx j : Nat} {es : List En} (h : Dos w0 w q qx j es) : Laid w := h.laid0.below h.laid0.pos h.below
theorem Dos.step {w0 w w' : World} {q qx j : Nat} {es : List En} (h : Dos w0 w q qx j es) (hb : Below w.heap.size w w') : Dos w0 w' q qx j es := ⟨h.sad.below hb, h.ref.below hb, h.lst, h.below.trans (hb.mono h.below.size), h.laid0⟩
theorem Mid.step {w0 w w' : World} {q qx j : Nat} {es es' : List En} (h : Mid w0 w q qx j es es') (hb : Below w.heap.size w w') : Mid w0 w' q qx j es es' := ⟨h.sad.below hb, h.ref.below hb, h.lst, h.lst', h.below.trans (hb.mono h.below.size), h.laid0⟩
theorem Lst.le {j : Nat} {es : List En} (h : Lst j es) : es.length ≤ 1000 := Nat.le_trans h.len (by decide)
theorem Lst.timed {j : Nat} {es : List En} (h : Lst j es) {now : Int} (h0 : -1 ≤ now ∧ now ≤ 1000000000) : ∀ e ∈ es, Timed e now := fun e he => (h.good e he).timed (by omega) (by omega)
theorem Lst.rem {j : Nat} {es : List En} (h : Lst j es) (spi : Int) (out : Bool) : Lst (j + 1) (remF es spi out).1 := by
  unfold remF
  split
  · refine ⟨fun e he => (h.good e (List.mem_of_mem_eraseIdx he)).mono (Nat.le_succ _), Nat.le_trans (List.length_eraseIdx_le _ _) h.len, ?_⟩
    rw [map_erase]
    exact h.keys.sublist (List.eraseIdx_sublist _ _)
  · exact h.mono
theorem Lst.add' {j : Nat} {es : List En} (h : Lst j es) {now : Int} (h1 : now ≤ 1000000000) (x : S27) : Lst (j + 1) (addF es now x).1 := by
  by_cases h0 : 0 ≤ now
  · exact (h.add h0 h1 x).1
  · unfold addF
    rw [if_neg (fun hh => h0 hh.2)]
    exact h.mono
theorem Dos.first {w0 w w' : World} {q qx j : Nat} {es es' : List En} {r : Value} {e : Ending} (h : Dos w0 w q qx j es) (hq : PgQ w0.heap.size q es' r w e w') (hl : Lst (j + 1) es') : e = .returned r ∧ Mid w0 w' q qx j es es' ∧ Kp w w' :=
  ⟨hq.1, ⟨hq.2.1, h.ref.other hq.2.2, h.lst, hl, hq.2.2.below h.below h.below.size, h.laid0⟩, Kp.turn hq.2.2 (.inl rfl)⟩
theorem Mid.second {w0 w w' : World} {q qx j : Nat} {es es' : List En} {r : Value} {e : Ending} (h : Mid w0 w q qx j es es') (hq : RfQ w0.heap.size qx es' r w e w') : e = .returned r ∧ Dos w0 w' q qx (j + 1) es' ∧ Kp w w' :=
  ⟨hq.1, ⟨h.sad.other hq.2.2, hq.2.1, h.lst', hq.2.2.below h.below h.below.size, h.laid0⟩, Kp.turn hq.2.2 (.inr rfl)⟩
theorem Dos.add {w0 w : World} {q qx j : Nat} {es es' : List En} (h : Dos w0 w q qx j es) {now : Int} (h0 : -1 ≤ now ∧ now ≤ 1000000000) {x : S27} {c : Int} (hr : addF es now x = (es', c)) :
    Calls Tryd.prog 10 #[.pointer (some ⟨q, 0, none⟩), .int .i64 now, .agg #[.int .i64 x.f0.f0, .string x.f0.f1, .string x.f0.f2, .string x.f0.f3, .bool x.f0.f4, .int .i64 x.f0.f5, .int .i64 x.f1, .bool x.f2, .int .i64 x.f3, .int .i64 x.f4, .int .i64 x.f5, .int .i64 x.f6]] w fun e w' => e = .returned (.int .i64 c) ∧ Mid w0 w' q qx j es es' ∧ Kp w w' := by
  have hc := add_call h.sad h.lst.le now x
  have hl : Lst (j + 1) es' := by have := h.lst.add' h0.2 x; rw [hr] at this; exact this
  rw [hr] at hc
  exact hc.mono fun e w' hq => h.first hq hl
theorem Mid.add {w0 w : World} {q qx j : Nat} {es es' : List En} (h : Mid w0 w q qx j es es') {now : Int} (h0 : -1 ≤ now ∧ now ≤ 1000000000) {x : S27} {c : Int} (hr : addF es now x = (es', c)) :
    Calls Tryd.prog 34 #[.pointer (some ⟨qx, 0, none⟩), .int .i64 now, .agg #[.int .i64 x.f0.f0, .string x.f0.f1, .string x.f0.f2, .string x.f0.f3, .bool x.f0.f4, .int .i64 x.f0.f5, .int .i64 x.f1, .bool x.f2, .int .i64 x.f3, .int .i64 x.f4, .int .i64 x.f5, .int .i64 x.f6]] w fun e w' => e = .returned (.int .i64 c) ∧ Dos w0 w' q qx (j + 1) es' ∧ Kp w w' := by
  have hc := radd_call h.ref h.lst.le now x
  rw [hr] at hc
  exact hc.mono fun e w' hq => h.second hq
theorem Dos.rem {w0 w : World} {q qx j : Nat} {es es' : List En} (h : Dos w0 w q qx j es) {spi : Int} {ob : Bool} {c : Int} (hr : remF es spi ob = (es', c)) :
    Calls Tryd.prog 15 #[.pointer (some ⟨q, 0, none⟩), .int .i64 spi, .bool ob] w fun e w' => e = .returned (.int .i64 c) ∧ Mid w0 w' q qx j es es' ∧ Kp w w' := by
  have hc := rem_call h.sad h.laid h.lst.le spi ob
  have hl : Lst (j + 1) es' := by have := h.lst.rem spi ob; rw [hr] at this; exact this
  rw [hr] at hc
  exact hc.mono fun e w' hq => h.first hq hl
theorem Mid.rem {w0 w : World} {q qx j : Nat} {es es' : List En} (h : Mid w0 w q qx j es es') {spi : Int} {ob : Bool} {c : Int} (hr : remF es spi ob = (es', c)) :
    Calls Tryd.prog 35 #[.pointer (some ⟨qx, 0, none⟩), .int .i64 spi, .bool ob] w fun e w' => e = .returned (.int .i64 c) ∧ Dos w0 w' q qx (j + 1) es' ∧ Kp w w' := by
  have hc := rrem_call h.ref h.lst.le spi ob
  rw [hr] at hc
  exact hc.mono fun e w' hq => h.second hq
theorem Dos.age {w0 w : World} {q qx j : Nat} {es : List En} (h : Dos w0 w q qx j es) {now : Int} (h0 : -1 ≤ now ∧ now ≤ 1000000000) {spi : Int} {ob : Bool} {a c : Int} (hr : ageF es now spi ob = (a, c)) :
    Calls Tryd.prog 17 #[.pointer (some ⟨q, 0, none⟩), .int .i64 now, .int .i64 spi, .bool ob] w fun e w' => e = .returned (.tuple #[.int .i64 a, .int .i64 c]) ∧ Mid w0 w' q qx j es es ∧ Kp w w' := by
  have hc := age_call h.sad h.laid h.lst.le now spi ob (h.lst.timed h0)
  have hl : Lst (j + 1) es := h.lst.mono
  rw [hr] at hc
  exact hc.mono fun e w' hq => h.first hq hl
theorem Mid.age {w0 w : World} {q qx j : Nat} {es : List En} (h : Mid w0 w q qx j es es) {now : Int} (h0 : -1 ≤ now ∧ now ≤ 1000000000) {spi : Int} {ob : Bool} {a c : Int} (hr : ageF es now spi ob = (a, c)) :
    Calls Tryd.prog 36 #[.pointer (some ⟨qx, 0, none⟩), .int .i64 now, .int .i64 spi, .bool ob] w fun e w' => e = .returned (.tuple #[.int .i64 a, .int .i64 c]) ∧ Dos w0 w' q qx (j + 1) es ∧ Kp w w' := by
  have hc := rage_call h.ref h.lst.le now spi ob (h.lst.timed h0)
  rw [hr] at hc
  exact hc.mono fun e w' hq => h.second hq
theorem Dos.pick {w0 w : World} {q qx j : Nat} {es : List En} (h : Dos w0 w q qx j es) {now : Int} (h0 : -1 ≤ now ∧ now ≤ 1000000000) {rule : Int} {a c : Int} (hr : pickF es now rule = (a, c)) :
    Calls Tryd.prog 11 #[.pointer (some ⟨q, 0, none⟩), .int .i64 now, .int .i64 rule] w fun e w' => e = .returned (.tuple #[.int .i64 a, .int .i64 c]) ∧ Mid w0 w' q qx j es es ∧ Kp w w' := by
  have hc := pick_call h.sad h.lst.le now rule (h.lst.timed h0)
  have hl : Lst (j + 1) es := h.lst.mono
  rw [hr] at hc
  exact hc.mono fun e w' hq => h.first hq hl
theorem Mid.pick {w0 w : World} {q qx j : Nat} {es : List En} (h : Mid w0 w q qx j es es) {now : Int} (h0 : -1 ≤ now ∧ now ≤ 1000000000) {rule : Int} {a c : Int} (hr : pickF es now rule = (a, c)) :
    Calls Tryd.prog 37 #[.pointer (some ⟨qx, 0, none⟩), .int .i64 now, .int .i64 rule] w fun e w' => e = .returned (.tuple #[.int .i64 a, .int .i64 c]) ∧ Dos w0 w' q qx (j + 1) es ∧ Kp w w' := by
  have hc := rpick_call h.ref h.lst.le now rule (h.lst.timed h0) (fun e he => (h.lst.good e he).spi)
  rw [hr] at hc
  exact hc.mono fun e w' hq => h.second hq
theorem Dos.send {w0 w : World} {q qx j : Nat} {es es' : List En} (h : Dos w0 w q qx j es) {now : Int} (h0 : -1 ≤ now ∧ now ≤ 1000000000) (hj : j ≤ 150) {spi n : Int} (hn : n ≤ 1000000000) {x : S25} {k c : Int} (hr : sendF es now spi n = (es', x, k, c)) :
    Calls Tryd.prog 14 #[.pointer (some ⟨q, 0, none⟩), .int .i64 now, .int .i64 spi, .int .i64 n] w fun e w' => e = .returned (.tuple #[v25 x, .int .u64 k, .int .i64 c]) ∧ Mid w0 w' q qx j es es' ∧ Kp w w' := by
  have hc := send_call h.sad h.laid h.lst.le now spi n hn (show j ≤ 200 by omega) h.lst.good (by omega) (by omega)
  have hl : Lst (j + 1) es' := by have := (h.lst.send now spi hn).1; rw [hr] at this; exact this
  rw [hr] at hc
  exact hc.mono fun e w' hq => h.first hq hl
theorem Mid.send {w0 w : World} {q qx j : Nat} {es es' : List En} (h : Mid w0 w q qx j es es') {now : Int} (h0 : -1 ≤ now ∧ now ≤ 1000000000) (hj : j ≤ 150) {spi n : Int} (hn : n ≤ 1000000000) {x : S25} {k c : Int} (hr : sendF es now spi n = (es', x, k, c)) :
    Calls Tryd.prog 38 #[.pointer (some ⟨qx, 0, none⟩), .int .i64 now, .int .i64 spi, .int .i64 n] w fun e w' => e = .returned (.tuple #[v25 x, .int .u64 k, .int .i64 c]) ∧ Dos w0 w' q qx (j + 1) es' ∧ Kp w w' := by
  have hc := rsend_call h.ref h.lst.le now spi n hn (show j ≤ 200 by omega) h.lst.good (by omega) (by omega)
  rw [hr] at hc
  exact hc.mono fun e w' hq => h.second hq
theorem Dos.look {w0 w : World} {q qx j : Nat} {es : List En} (h : Dos w0 w q qx j es) {now : Int} (h0 : -1 ≤ now ∧ now ≤ 1000000000) (hj : j ≤ 150) {spi low : Int} {x : S27} {k c : Int} (hr : lookF es now spi low = (x, k, c)) :
    Calls Tryd.prog 18 #[.pointer (some ⟨q, 0, none⟩), .int .i64 now, .int .i64 spi, .int .i64 low] w fun e w' => e = .returned (.tuple #[v27 x, .int .u64 k, .int .i64 c]) ∧ Mid w0 w' q qx j es es ∧ Kp w w' := by
  have hc := look_call h.sad h.laid h.lst.le now spi low h.lst.good (by omega) (by omega)
  have hl : Lst (j + 1) es := h.lst.mono
  rw [hr] at hc
  exact hc.mono fun e w' hq => h.first hq hl
theorem Mid.look {w0 w : World} {q qx j : Nat} {es : List En} (h : Mid w0 w q qx j es es) {now : Int} (h0 : -1 ≤ now ∧ now ≤ 1000000000) (hj : j ≤ 150) {spi low : Int} {x : S27} {k c : Int} (hr : lookF es now spi low = (x, k, c)) :
    Calls Tryd.prog 39 #[.pointer (some ⟨qx, 0, none⟩), .int .i64 now, .int .i64 spi, .int .i64 low] w fun e w' => e = .returned (.tuple #[v27 x, .int .u64 k, .int .i64 c]) ∧ Dos w0 w' q qx (j + 1) es ∧ Kp w w' := by
  have hc := rlook_call h.ref h.lst.le (show j ≤ 200 by omega) now spi low h.lst.good (by omega) (by omega)
  rw [hr] at hc
  exact hc.mono fun e w' hq => h.second hq
theorem Dos.take {w0 w : World} {q qx j : Nat} {es es' : List En} (h : Dos w0 w q qx j es) {now : Int} (h0 : -1 ≤ now ∧ now ≤ 1000000000) (hj : j ≤ 150) {spi n : Int} (hn : n ≤ 1000000000) {sq : Nat} (hs : sq < 18446744073709551616) {c : Int} (hr : takeF es now spi sq n = (es', c)) :
    Calls Tryd.prog 16 #[.pointer (some ⟨q, 0, none⟩), .int .i64 now, .int .i64 spi, .int .u64 (sq : Int), .int .i64 n] w fun e w' => e = .returned (.int .i64 c) ∧ Mid w0 w' q qx j es es' ∧ Kp w w' := by
  have hc := take_call h.sad h.laid h.lst.le now spi sq n hn (show j ≤ 200 by omega) hs h.lst.good (by omega) (by omega)
  have hl : Lst (j + 1) es' := by have := (h.lst.take now spi hs hn).1; rw [hr] at this; exact this
  rw [hr] at hc
  exact hc.mono fun e w' hq => h.first hq hl
theorem Mid.take {w0 w : World} {q qx j : Nat} {es es' : List En} (h : Mid w0 w q qx j es es') {now : Int} (h0 : -1 ≤ now ∧ now ≤ 1000000000) (hj : j ≤ 150) {spi n : Int} (hn : n ≤ 1000000000) {sq : Nat} (hs : sq < 18446744073709551616) {c : Int} (hr : takeF es now spi sq n = (es', c)) :
    Calls Tryd.prog 40 #[.pointer (some ⟨qx, 0, none⟩), .int .i64 now, .int .i64 spi, .int .u64 (sq : Int), .int .i64 n] w fun e w' => e = .returned (.int .i64 c) ∧ Dos w0 w' q qx (j + 1) es' ∧ Kp w w' := by
  have hc := rtake_call h.ref h.lst.le now spi sq n hn (show j ≤ 200 by omega) h.lst.good (by omega) (by omega)
  rw [hr] at hc
  exact hc.mono fun e w' hq => h.second hq
end Go.Proofs.YtkmnpnbfeiobiaaDoor.Sd
namespace Go.Proofs.YtkmnpnbfeiobiaaDoor.Sd
open Go.RowKit Go.Proofs.YtkmnpnbfeiobiaaDoorW.PrintWords Go.Proofs.YtkmnpnbfeiobiaaDoorW.PrintLast Go.Proofs.YtkmnpnbfeiobiaaDoorW.PrintMore Go.Proofs.YtkmnpnbfeiobiaaDoor.QSa
open Go.Proofs.YtkmnpnbfeiobiaaDoor
set_option linter.unusedVariables false
set_option linter.unusedSimpArgs false
/-- A call of a function that captured nothing. -/
theorem goesV_ {P : Program} {ops : Array Oper} {Q : Exit → Act → World → Prop} {oi : Oper} {N : Option Tmp} {a : Act} {w : World} {K : Act → World → Prop} {f : FuncId} {fn : Func} {x : Operand} {xs : Array Operand} {ts : Array TypeId} (hf : P.funcs[f]? = some fn) (hname : (fn.name == "runtime.NumGoroutine") = false) (hb : fn.body.isSome = true) (args : Array Value)
    (hw : Region.wanted oi (yielded ops a.tmps) = true) (hN : oi.dst = N) (hop : oi.op = .call { callee := .value x, args := xs, argTypes := ts }) (hx : a.eval x = .func (.func f) #[] #[]) (hargs : xs.map a.eval = args)
    (h : Calls P f args w fun e w' => ∃ v, e = .returned v ∧ K (a.put N v) w') : if Region.wanted oi (yielded ops a.tmps) = true then Oper.wp P oi a w K Q else K (a.put oi.dst undef) w := by
  subst hN
  refine call_ f args hw rfl ?_ h
  have he := enters_ hf hname hb args w
  unfold execOp
  simp [hop, resolve, Deferred.ofValue, invoke, hx, hargs, he]
/-- What the box of a call holds. -/
def BoxY (CS : Array Value) (x : S40) (sq : Nat) : Prop := ∀ (q5 : Nat) (W : World), W.heap[q5]? = some (.cells CS 40 (0, 0)) → W.cell? ⟨q5, 0, none⟩ = some (.int .i64 x.f0) ∧ W.cell? ⟨q5, 1, none⟩ = some (.int .i64 x.f1) ∧ W.cell? ⟨q5, 2, none⟩ = some (.int .i64 x.f2) ∧ W.cell? ⟨q5, 3, none⟩ = some (.int .i64 x.f3) ∧ W.cell? ⟨q5, 4, none⟩ = some (.int .i64 x.f4) ∧ W.cell? ⟨q5, 5, none⟩ = some (.int .i64 x.f5) ∧ W.cell? ⟨q5, 6, none⟩ = some (.bool x.f6) ∧ W.cell? ⟨q5, 7, none⟩ = some (.int .u64 (sq : Int)) ∧ (loadVar 27 ⟨q5, 8, none⟩).run Tryd.prog W = .ok (.agg #[.int .i64 x.f8.f0.f0, .string x.f8.f0.f1, .string x.f8.f0.f2, .string x.f8.f0.f3, .bool x.f8.f0.f4, .int .i64 x.f8.f0.f5, .int .i64 x.f8.f1, .bool x.f8.f2, .int .i64 x.f8.f3, .int .i64 x.f8.f4, .int .i64 x.f8.f5, .int .i64 x.f8.f6]) W
theorem boxY {x : S40} {sq : Nat} (hs : x.f7 = (sq : Int)) : BoxY (enc40 x).toArray x sq := fun q5 W hW => ⟨(blk_cell hW 0).trans rfl, (blk_cell hW 1).trans rfl, (blk_cell hW 2).trans rfl, (blk_cell hW 3).trans rfl, (blk_cell hW 4).trans rfl, (blk_cell hW 5).trans rfl, (blk_cell hW 6).trans rfl, (blk_cell hW 7).trans (by rw [← hs]; rfl), load27d hW⟩
def DosQ (w0 : World) (q qx j : Nat) (e : Ending) (w' : World) : Prop := e = .returned (.bool true) ∧ ∃ es', Dos w0 w' q qx (j + 1) es'
theorem np40 : ¬ TP.has 40 := by unfold Ty.has; decide
theorem nr40 : ¬ TR.has 40 := by unfold Ty.has; decide
theorem np25 : ¬ TP.has 25 := by unfold Ty.has; decide
theorem nr25 : ¬ TR.has 25 := by unfold Ty.has; decide
theorem np27 : ¬ TP.has 27 := by unfold Ty.has; decide
theorem nr27 : ¬ TR.has 27 := by unfold Ty.has; decide
theorem eql_self25 (r : S25) {o : Oper} {a : Act} (x y : Operand) (W : World) (ho : o.op = .binOp .eql 25 x y 25) (hx : a.eval x = .agg (enc25 r).toArray) (hy : a.eval y = .agg (enc25 r).toArray) : (execOp a.eval o).run Tryd.prog W = .ok (.value (.bool true)) W := by
  unfold execOp
  simp only [ho, hx, hy]
  unfold enc25
  go_simp
theorem eql_self27 (r : S27) {o : Oper} {a : Act} (x y : Operand) (W : World) (ho : o.op = .binOp .eql 27 x y 27) (hx : a.eval x = .agg (enc27 r).toArray) (hy : a.eval y = .agg (enc27 r).toArray) : (execOp a.eval o).run Tryd.prog W = .ok (.value (.bool true)) W := by
  unfold execOp
  simp only [ho, hx, hy]
  unfold enc27
  go_simp
set_option maxHeartbeats 6400000 in
set_option maxRecDepth 100000 in
theorem step0_walk {w0 w : World} {q qx j sq : Nat} {es : List En} {x : S40} (hj : j ≤ 150) (D : Aside0 (Dos w0 w q qx j es)) (HN : Aside0 (-1 ≤ x.f1 ∧ x.f1 ≤ 1000000000)) (H4 : Aside0 (x.f4 ≤ 1000000000)) (HS : Aside0 (sq < 18446744073709551616)) (HS7 : x.f7 = (sq : Int)) (hc : x.f0 = 0) :
    Calls Tryd.prog 19 #[.pointer (some ⟨q, 0, none⟩), .pointer (some ⟨qx, 0, none⟩), .agg (enc40 x).toArray] w (DosQ w0 q qx j) := by
  have Z := Aside0.mk (boxY HS7)
  obtain ⟨CS, hCS⟩ : ∃ CS, (enc40 x).toArray = CS := ⟨_, rfl⟩
  rw [hCS] at Z ⊢
  have d0 : (x.f0 == 0) = true := by rw [beq_iff_eq]; exact hc
  obtain ⟨es', cc, hr⟩ : ∃ es' cc, addF es x.f1 x.f8 = (es', cc) := ⟨_, _, rfl⟩
  have HR := Aside0.mk hr
  clear hr hc hCS HS7
  go_enter Tryd.func19, Tryd.ntmps19
  go_wp2_with (first | ((with_reducible refine gate_dst (N := 5) rfl ?_); refine box_event ?hg (N := 5) ?hd (cs := CS) (t := 40) ?hr ?_; (case hd => rfl); (case hg => rfl); (case hr => first | (go_simp; done) | (go_simp; rfl)); intro q5 hq w1 hbox hb; have BK5 := Aside0.mk hbox; have D1 := Aside0.mk (D.out.step hb); obtain ⟨y0, y1, y2, y3, y4, y5, y6, y7, y8⟩ := Z.out q5 w1 hbox; clear hbox hb hq))
  clear y0 y1 y2 y3 y4 y5 y6 y7 y8
  refine start_ (n := 14) (S := fun W => W.heap[q5]? = some (.cells CS 40 (0, 0))) (ds := []) #[false, false, false, false, false, false, false, false, false, false, false, false, false, false] (by kernel_rfl) rfl rfl BK5.out (fun hHeld => ?_)
  refine pure_ (i := 0) (N := some 31) (v := ?_) (a' := ?_) #[true, false, false, false, false, false, false, false, false, false, false, false, false, false] rfl rfl (by kernel_rfl) (fun _ _ _ h => h) (Or.inl ⟨by rfl, ?_⟩) ?_ ?_
  rotate_left
  · intro w'
    go_simp
    with_reducible rfl
  rotate_left
  · simp only [Act.put, List.setIfInBounds_toArray, List.set_cons_zero, List.set_cons_succ]
    rfl
  refine pure_ (i := 1) (N := some 32) (v := ?_) (a' := ?_) #[true, true, false, false, false, false, false, false, false, false, false, false, false, false] rfl rfl (by kernel_rfl) (fun _ _ _ h => h) (Or.inl ⟨by rfl, ?_⟩) ?_ ?_
  rotate_left
  · intro w'
    go_simp
    with_reducible rfl
  rotate_left
  · simp only [Act.put, List.setIfInBounds_toArray, List.set_cons_zero, List.set_cons_succ]
    rfl
  refine take_ (i := 2) (N := some 33) (v := ?_) (a' := ?_) #[true, true, true, false, false, false, false, false, false, false, false, false, false, false] rfl rfl (by kernel_rfl) (fun _ _ _ h => h) (Or.inl ⟨by rfl, ?_⟩) hHeld ?_ ?_
  rotate_left
  · intro w' s0
    obtain ⟨y0, y1, y2, y3, y4, y5, y6, y7, y8⟩ := Z.out q5 w' s0
    go_simp
    with_reducible rfl
  rotate_left
  · simp only [Act.put, List.setIfInBounds_toArray, List.set_cons_zero, List.set_cons_succ]
    rfl
  refine pure_ (i := 3) (N := some 34) (v := ?_) (a' := ?_) #[true, true, true, true, false, false, false, false, false, false, false, false, false, false] rfl rfl (by kernel_rfl) (fun _ _ _ h => h) (Or.inl ⟨by rfl, ?_⟩) ?_ ?_
  rotate_left
  · intro w'
    go_simp
    with_reducible rfl
  rotate_left
  · simp only [Act.put, List.setIfInBounds_toArray, List.set_cons_zero, List.set_cons_succ]
    rfl
  refine take_ (i := 4) (N := some 35) (v := ?_) (a' := ?_) #[true, true, true, true, true, false, false, false, false, false, false, false, false, false] rfl rfl (by kernel_rfl) (fun _ _ _ h => h) (Or.inl ⟨by rfl, ?_⟩) hHeld ?_ ?_
  rotate_left
  · intro w' s0
    obtain ⟨y0, y1, y2, y3, y4, y5, y6, y7, y8⟩ := Z.out q5 w' s0
    refine load_runA 27 (.tmp 34) ⟨q5, 8, none⟩ (#[.int .i64 x.f8.f0.f0, .string x.f8.f0.f1, .string x.f8.f0.f2, .string x.f8.f0.f3, .bool x.f8.f0.f4, .int .i64 x.f8.f0.f5, .int .i64 x.f8.f1, .bool x.f8.f2, .int .i64 x.f8.f3, .int .i64 x.f8.f4, .int .i64 x.f8.f5, .int .i64 x.f8.f6]) ?_ ?_ y8
    · rfl
    · rfl
  rotate_left
  · simp only [Act.put, List.setIfInBounds_toArray, List.set_cons_zero, List.set_cons_succ]
    rfl
  refine pure_ (i := 6) (N := some 37) (v := ?_) (a' := ?_) #[true, true, true, true, true, false, true, false, false, false, false, false, false, false] rfl rfl (by kernel_rfl) (fun _ _ _ h => h) (Or.inl ⟨by rfl, ?_⟩) ?_ ?_
  rotate_left
  · intro w'
    go_simp
    with_reducible rfl
  rotate_left
  · simp only [Act.put, List.setIfInBounds_toArray, List.set_cons_zero, List.set_cons_succ]
    rfl
  refine pure_ (i := 7) (N := some 38) (v := ?_) (a' := ?_) #[true, true, true, true, true, false, true, true, false, false, false, false, false, false] rfl rfl (by kernel_rfl) (fun _ _ _ h => h) (Or.inl ⟨by rfl, ?_⟩) ?_ ?_
  rotate_left
  · intro w'
    go_simp
    with_reducible rfl
  rotate_left
  · simp only [Act.put, List.setIfInBounds_toArray, List.set_cons_zero, List.set_cons_succ]
    rfl
  refine take_ (i := 8) (N := some 39) (v := ?_) (a' := ?_) #[true, true, true, true, true, false, true, true, true, false, false, false, false, false] rfl rfl (by kernel_rfl) (fun _ _ _ h => h) (Or.inl ⟨by rfl, ?_⟩) hHeld ?_ ?_
  rotate_left
  · intro w' s0
    obtain ⟨y0, y1, y2, y3, y4, y5, y6, y7, y8⟩ := Z.out q5 w' s0
    go_simp
    with_reducible rfl
  rotate_left
  · simp only [Act.put, List.setIfInBounds_toArray, List.set_cons_zero, List.set_cons_succ]
    rfl
  refine pure_ (i := 9) (N := some 40) (v := ?_) (a' := ?_) #[true, true, true, true, true, false, true, true, true, true, false, false, false, false] rfl rfl (by kernel_rfl) (fun _ _ _ h => h) (Or.inl ⟨by rfl, ?_⟩) ?_ ?_
  rotate_left
  · intro w'
    go_simp
    with_reducible rfl
  rotate_left
  · simp only [Act.put, List.setIfInBounds_toArray, List.set_cons_zero, List.set_cons_succ]
    rfl
  refine take_ (i := 10) (N := some 41) (v := ?_) (a' := ?_) #[true, true, true, true, true, false, true, true, true, true, true, false, false, false] rfl rfl (by kernel_rfl) (fun _ _ _ h => h) (Or.inl ⟨by rfl, ?_⟩) hHeld ?_ ?_
  rotate_left
  · intro w' s0
    obtain ⟨y0, y1, y2, y3, y4, y5, y6, y7, y8⟩ := Z.out q5 w' s0
    refine load_runA 27 (.tmp 40) ⟨q5, 8, none⟩ (#[.int .i64 x.f8.f0.f0, .string x.f8.f0.f1, .string x.f8.f0.f2, .string x.f8.f0.f3, .bool x.f8.f0.f4, .int .i64 x.f8.f0.f5, .int .i64 x.f8.f1, .bool x.f8.f2, .int .i64 x.f8.f3, .int .i64 x.f8.f4, .int .i64 x.f8.f5, .int .i64 x.f8.f6]) ?_ ?_ y8
    · rfl
    · rfl
  rotate_left
  · simp only [Act.put, List.setIfInBounds_toArray, List.set_cons_zero, List.set_cons_succ]
    rfl
  refine one_ (i := 5) (N := some 36) #[true, true, true, true, true, true, true, true, true, true, true, false, false, false] rfl rfl (by kernel_rfl) (by decide) (fun K hK => ?_)
  have HTd := Aside0.mk (D1.out.step (below_drew (Below.refl _ _)))
  refine goesV_ Tryd.func10 (by kernel_rfl) rfl #[.pointer (some ⟨q, 0, none⟩), .int .i64 x.f1, .agg #[.int .i64 x.f8.f0.f0, .string x.f8.f0.f1, .string x.f8.f0.f2, .string x.f8.f0.f3, .bool x.f8.f0.f4, .int .i64 x.f8.f0.f5, .int .i64 x.f8.f1, .bool x.f8.f2, .int .i64 x.f8.f3, .int .i64 x.f8.f4, .int .i64 x.f8.f5, .int .i64 x.f8.f6]] (by rfl) rfl rfl (by first | rfl | go_simp) (by first | rfl | simp [Act.eval] | go_simp) ?_
  refine (HTd.out.add HN.out HR.out).mono ?_
  rintro e w2 ⟨he, hm, hk⟩
  subst he
  have M2 := Aside0.mk hm
  refine ⟨_, rfl, hK.out _ _ (hk _ _ _ hHeld np40 nr40) (fun hHeld => ?_)⟩
  clear hK K hm hk
  refine norm_ (a' := ?_) ?_ ?_
  rotate_left
  · show Act.put _ (some 36) _ = _
    simp only [Act.put, List.setIfInBounds_toArray, List.set_cons_zero, List.set_cons_succ]
    rfl
  refine one_ (i := 11) (N := some 42) #[true, true, true, true, true, true, true, true, true, true, true, true, false, false] rfl rfl (by kernel_rfl) (by decide) (fun K hK => ?_)
  refine goesV_ Tryd.func34 (by kernel_rfl) rfl #[.pointer (some ⟨qx, 0, none⟩), .int .i64 x.f1, .agg #[.int .i64 x.f8.f0.f0, .string x.f8.f0.f1, .string x.f8.f0.f2, .string x.f8.f0.f3, .bool x.f8.f0.f4, .int .i64 x.f8.f0.f5, .int .i64 x.f8.f1, .bool x.f8.f2, .int .i64 x.f8.f3, .int .i64 x.f8.f4, .int .i64 x.f8.f5, .int .i64 x.f8.f6]] (by rfl) rfl rfl (by first | rfl | go_simp) (by first | rfl | simp [Act.eval] | go_simp) ?_
  refine (M2.out.add HN.out HR.out).mono ?_
  rintro e w3 ⟨he, hm, hk⟩
  subst he
  have D3 := Aside0.mk hm
  refine ⟨_, rfl, hK.out _ _ (hk _ _ _ hHeld np40 nr40) (fun hHeld => ?_)⟩
  clear hK K hm hk
  refine norm_ (a' := ?_) ?_ ?_
  rotate_left
  · show Act.put _ (some 42) _ = _
    simp only [Act.put, List.setIfInBounds_toArray, List.set_cons_zero, List.set_cons_succ]
    rfl
  refine pure_ (i := 12) (N := some 43) (v := ?_) (a' := ?_) #[true, true, true, true, true, true, true, true, true, true, true, true, true, false] rfl rfl (by kernel_rfl) (fun _ _ _ h => h) (Or.inl ⟨by rfl, ?_⟩) ?_ ?_
  rotate_left
  · intro w'
    go_simp
    with_reducible rfl
  rotate_left
  · simp only [Act.put, List.setIfInBounds_toArray, List.set_cons_zero, List.set_cons_succ]
    rfl
  refine pure_ (i := 13) (N := some 6) (v := ?_) (a' := ?_) #[true, true, true, true, true, true, true, true, true, true, true, true, true, true] rfl rfl (by kernel_rfl) (fun _ _ _ h => h) (Or.inl ⟨by rfl, ?_⟩) ?_ ?_
  rotate_left
  · intro w'
    go_simp
    with_reducible rfl
  rotate_left
  · simp only [Act.put, List.setIfInBounds_toArray, List.set_cons_zero, List.set_cons_succ]
    rfl
  refine done_ (by kernel_rfl) ?_
  (try simp only [Exit.inBlock, Exit.then])
  go_wp2_with (fail)
  go_ret
  exact ⟨rfl, es', D3.out⟩
end Go.Proofs.YtkmnpnbfeiobiaaDoor.Sd
namespace Go.Proofs.YtkmnpnbfeiobiaaDoor.Sd
open Go.RowKit Go.Proofs.YtkmnpnbfeiobiaaDoorW.PrintWords Go.Proofs.YtkmnpnbfeiobiaaDoorW.PrintLast Go.Proofs.YtkmnpnbfeiobiaaDoorW.PrintMore Go.Proofs.YtkmnpnbfeiobiaaDoor.QSa
open Go.Proofs.YtkmnpnbfeiobiaaDoor
set_option linter.unusedVariables false
set_option linter.unusedSimpArgs false
set_option maxHeartbeats 6400000 in
set_option maxRecDepth 100000 in
theorem step1_walk {w0 w : World} {q qx j sq : Nat} {es : List En} {x : S40} (hj : j ≤ 150) (D : Aside0 (Dos w0 w q qx j es)) (HN : Aside0 (-1 ≤ x.f1 ∧ x.f1 ≤ 1000000000)) (H4 : Aside0 (x.f4 ≤ 1000000000)) (HS : Aside0 (sq < 18446744073709551616)) (HS7 : x.f7 = (sq : Int)) (hc : x.f0 = 1) :
    Calls Tryd.prog 19 #[.pointer (some ⟨q, 0, none⟩), .pointer (some ⟨qx, 0, none⟩), .agg (enc40 x).toArray] w (DosQ w0 q qx j) := by
  have Z := Aside0.mk (boxY HS7)
  obtain ⟨CS, hCS⟩ : ∃ CS, (enc40 x).toArray = CS := ⟨_, rfl⟩
  rw [hCS] at Z ⊢
  have d0 : (x.f0 == 0) = false := by rw [beq_eq_false_iff_ne]; omega
  have d1 : (x.f0 == 1) = true := by rw [beq_iff_eq]; exact hc
  obtain ⟨es', cc, hr⟩ : ∃ es' cc, remF es x.f2 x.f6 = (es', cc) := ⟨_, _, rfl⟩
  have HR := Aside0.mk hr
  clear hr hc hCS HS7
  go_enter Tryd.func19, Tryd.ntmps19
  go_wp2_with (first | ((with_reducible refine gate_dst (N := 5) rfl ?_); refine box_event ?hg (N := 5) ?hd (cs := CS) (t := 40) ?hr ?_; (case hd => rfl); (case hg => rfl); (case hr => first | (go_simp; done) | (go_simp; rfl)); intro q5 hq w1 hbox hb; have BK5 := Aside0.mk hbox; have D1 := Aside0.mk (D.out.step hb); obtain ⟨y0, y1, y2, y3, y4, y5, y6, y7, y8⟩ := Z.out q5 w1 hbox; clear hbox hb hq))
  clear y0 y1 y2 y3 y4 y5 y6 y7 y8
  refine start_ (n := 14) (S := fun W => W.heap[q5]? = some (.cells CS 40 (0, 0))) (ds := []) #[false, false, false, false, false, false, false, false, false, false, false, false, false, false] (by kernel_rfl) rfl rfl BK5.out (fun hHeld => ?_)
  refine pure_ (i := 0) (N := some 46) (v := ?_) (a' := ?_) #[true, false, false, false, false, false, false, false, false, false, false, false, false, false] rfl rfl (by kernel_rfl) (fun _ _ _ h => h) (Or.inl ⟨by rfl, ?_⟩) ?_ ?_
  rotate_left
  · intro w'
    go_simp
    with_reducible rfl
  rotate_left
  · simp only [Act.put, List.setIfInBounds_toArray, List.set_cons_zero, List.set_cons_succ]
    rfl
  refine pure_ (i := 1) (N := some 47) (v := ?_) (a' := ?_) #[true, true, false, false, false, false, false, false, false, false, false, false, false, false] rfl rfl (by kernel_rfl) (fun _ _ _ h => h) (Or.inl ⟨by rfl, ?_⟩) ?_ ?_
  rotate_left
  · intro w'
    go_simp
    with_reducible rfl
  rotate_left
  · simp only [Act.put, List.setIfInBounds_toArray, List.set_cons_zero, List.set_cons_succ]
    rfl
  refine take_ (i := 2) (N := some 48) (v := ?_) (a' := ?_) #[true, true, true, false, false, false, false, false, false, false, false, false, false, false] rfl rfl (by kernel_rfl) (fun _ _ _ h => h) (Or.inl ⟨by rfl, ?_⟩) hHeld ?_ ?_
  rotate_left
  · intro w' s0
    obtain ⟨y0, y1, y2, y3, y4, y5, y6, y7, y8⟩ := Z.out q5 w' s0
    go_simp
    with_reducible rfl
  rotate_left
  · simp only [Act.put, List.setIfInBounds_toArray, List.set_cons_zero, List.set_cons_succ]
    rfl
  refine pure_ (i := 3) (N := some 49) (v := ?_) (a' := ?_) #[true, true, true, true, false, false, false, false, false, false, false, false, false, false] rfl rfl (by kernel_rfl) (fun _ _ _ h => h) (Or.inl ⟨by rfl, ?_⟩) ?_ ?_
  rotate_left
  · intro w'
    go_simp
    with_reducible rfl
  rotate_left
  · simp only [Act.put, List.setIfInBounds_toArray, List.set_cons_zero, List.set_cons_succ]
    rfl
  refine take_ (i := 4) (N := some 50) (v := ?_) (a' := ?_) #[true, true, true, true, true, false, false, false, false, false, false, false, false, false] rfl rfl (by kernel_rfl) (fun _ _ _ h => h) (Or.inl ⟨by rfl, ?_⟩) hHeld ?_ ?_
  rotate_left
  · intro w' s0
    obtain ⟨y0, y1, y2, y3, y4, y5, y6, y7, y8⟩ := Z.out q5 w' s0
    go_simp
    with_reducible rfl
  rotate_left
  · simp only [Act.put, List.setIfInBounds_toArray, List.set_cons_zero, List.set_cons_succ]
    rfl
  refine pure_ (i := 6) (N := some 52) (v := ?_) (a' := ?_) #[true, true, true, true, true, false, true, false, false, false, false, false, false, false] rfl rfl (by kernel_rfl) (fun _ _ _ h => h) (Or.inl ⟨by rfl, ?_⟩) ?_ ?_
  rotate_left
  · intro w'
    go_simp
    with_reducible rfl
  rotate_left
  · simp only [Act.put, List.setIfInBounds_toArray, List.set_cons_zero, List.set_cons_succ]
    rfl
  refine pure_ (i := 7) (N := some 53) (v := ?_) (a' := ?_) #[true, true, true, true, true, false, true, true, false, false, false, false, false, false] rfl rfl (by kernel_rfl) (fun _ _ _ h => h) (Or.inl ⟨by rfl, ?_⟩) ?_ ?_
  rotate_left
  · intro w'
    go_simp
    with_reducible rfl
  rotate_left
  · simp only [Act.put, List.setIfInBounds_toArray, List.set_cons_zero, List.set_cons_succ]
    rfl
  refine take_ (i := 8) (N := some 54) (v := ?_) (a' := ?_) #[true, true, true, true, true, false, true, true, true, false, false, false, false, false] rfl rfl (by kernel_rfl) (fun _ _ _ h => h) (Or.inl ⟨by rfl, ?_⟩) hHeld ?_ ?_
  rotate_left
  · intro w' s0
    obtain ⟨y0, y1, y2, y3, y4, y5, y6, y7, y8⟩ := Z.out q5 w' s0
    go_simp
    with_reducible rfl
  rotate_left
  · simp only [Act.put, List.setIfInBounds_toArray, List.set_cons_zero, List.set_cons_succ]
    rfl
  refine pure_ (i := 9) (N := some 55) (v := ?_) (a' := ?_) #[true, true, true, true, true, false, true, true, true, true, false, false, false, false] rfl rfl (by kernel_rfl) (fun _ _ _ h => h) (Or.inl ⟨by rfl, ?_⟩) ?_ ?_
  rotate_left
  · intro w'
    go_simp
    with_reducible rfl
  rotate_left
  · simp only [Act.put, List.setIfInBounds_toArray, List.set_cons_zero, List.set_cons_succ]
    rfl
  refine take_ (i := 10) (N := some 56) (v := ?_) (a' := ?_) #[true, true, true, true, true, false, true, true, true, true, true, false, false, false] rfl rfl (by kernel_rfl) (fun _ _ _ h => h) (Or.inl ⟨by rfl, ?_⟩) hHeld ?_ ?_
  rotate_left
  · intro w' s0
    obtain ⟨y0, y1, y2, y3, y4, y5, y6, y7, y8⟩ := Z.out q5 w' s0
    go_simp
    with_reducible rfl
  rotate_left
  · simp only [Act.put, List.setIfInBounds_toArray, List.set_cons_zero, List.set_cons_succ]
    rfl
  refine one_ (i := 5) (N := some 51) #[true, true, true, true, true, true, true, true, true, true, true, false, false, false] rfl rfl (by kernel_rfl) (by decide) (fun K hK => ?_)
  have HTd := Aside0.mk (D1.out.step (below_drew (Below.refl _ _)))
  refine goesV_ Tryd.func15 (by kernel_rfl) rfl #[.pointer (some ⟨q, 0, none⟩), .int .i64 x.f2, .bool x.f6] (by rfl) rfl rfl (by first | rfl | go_simp) (by first | rfl | simp [Act.eval] | go_simp) ?_
  refine (HTd.out.rem HR.out).mono ?_
  rintro e w2 ⟨he, hm, hk⟩
  subst he
  have M2 := Aside0.mk hm
  refine ⟨_, rfl, hK.out _ _ (hk _ _ _ hHeld np40 nr40) (fun hHeld => ?_)⟩
  clear hK K hm hk
  refine norm_ (a' := ?_) ?_ ?_
  rotate_left
  · show Act.put _ (some 51) _ = _
    simp only [Act.put, List.setIfInBounds_toArray, List.set_cons_zero, List.set_cons_succ]
    rfl
  refine one_ (i := 11) (N := some 57) #[true, true, true, true, true, true, true, true, true, true, true, true, false, false] rfl rfl (by kernel_rfl) (by decide) (fun K hK => ?_)
  refine goesV_ Tryd.func35 (by kernel_rfl) rfl #[.pointer (some ⟨qx, 0, none⟩), .int .i64 x.f2, .bool x.f6] (by rfl) rfl rfl (by first | rfl | go_simp) (by first | rfl | simp [Act.eval] | go_simp) ?_
  refine (M2.out.rem HR.out).mono ?_
  rintro e w3 ⟨he, hm, hk⟩
  subst he
  have D3 := Aside0.mk hm
  refine ⟨_, rfl, hK.out _ _ (hk _ _ _ hHeld np40 nr40) (fun hHeld => ?_)⟩
  clear hK K hm hk
  refine norm_ (a' := ?_) ?_ ?_
  rotate_left
  · show Act.put _ (some 57) _ = _
    simp only [Act.put, List.setIfInBounds_toArray, List.set_cons_zero, List.set_cons_succ]
    rfl
  refine pure_ (i := 12) (N := some 58) (v := ?_) (a' := ?_) #[true, true, true, true, true, true, true, true, true, true, true, true, true, false] rfl rfl (by kernel_rfl) (fun _ _ _ h => h) (Or.inl ⟨by rfl, ?_⟩) ?_ ?_
  rotate_left
  · intro w'
    go_simp
    with_reducible rfl
  rotate_left
  · simp only [Act.put, List.setIfInBounds_toArray, List.set_cons_zero, List.set_cons_succ]
    rfl
  refine pure_ (i := 13) (N := some 6) (v := ?_) (a' := ?_) #[true, true, true, true, true, true, true, true, true, true, true, true, true, true] rfl rfl (by kernel_rfl) (fun _ _ _ h => h) (Or.inl ⟨by rfl, ?_⟩) ?_ ?_
  rotate_left
  · intro w'
    go_simp
    with_reducible rfl
  rotate_left
  · simp only [Act.put, List.setIfInBounds_toArray, List.set_cons_zero, List.set_cons_succ]
    rfl
  refine done_ (by kernel_rfl) ?_
  (try simp only [Exit.inBlock, Exit.then])
  go_wp2_with (fail)
  go_ret
  exact ⟨rfl, es', D3.out⟩
end Go.Proofs.YtkmnpnbfeiobiaaDoor.Sd
namespace Go.Proofs.YtkmnpnbfeiobiaaDoor.Sd
open Go.RowKit Go.Proofs.YtkmnpnbfeiobiaaDoorW.PrintWords Go.Proofs.YtkmnpnbfeiobiaaDoorW.PrintLast Go.Proofs.YtkmnpnbfeiobiaaDoorW.PrintMore Go.Proofs.YtkmnpnbfeiobiaaDoor.QSa
open Go.Proofs.YtkmnpnbfeiobiaaDoor
set_option linter.unusedVariables false
set_option linter.unusedSimpArgs false
set_option maxHeartbeats 6400000 in
set_option maxRecDepth 100000 in
theorem step2_walk {w0 w : World} {q qx j sq : Nat} {es : List En} {x : S40} (hj : j ≤ 150) (D : Aside0 (Dos w0 w q qx j es)) (HN : Aside0 (-1 ≤ x.f1 ∧ x.f1 ≤ 1000000000)) (H4 : Aside0 (x.f4 ≤ 1000000000)) (HS : Aside0 (sq < 18446744073709551616)) (HS7 : x.f7 = (sq : Int)) (hc : x.f0 = 2) :
    Calls Tryd.prog 19 #[.pointer (some ⟨q, 0, none⟩), .pointer (some ⟨qx, 0, none⟩), .agg (enc40 x).toArray] w (DosQ w0 q qx j) := by
  have Z := Aside0.mk (boxY HS7)
  obtain ⟨CS, hCS⟩ : ∃ CS, (enc40 x).toArray = CS := ⟨_, rfl⟩
  rw [hCS] at Z ⊢
  have d0 : (x.f0 == 0) = false := by rw [beq_eq_false_iff_ne]; omega
  have d1 : (x.f0 == 1) = false := by rw [beq_eq_false_iff_ne]; omega
  have d2 : (x.f0 == 2) = true := by rw [beq_iff_eq]; exact hc
  obtain ⟨aa, cc, hr⟩ : ∃ a c, ageF es x.f1 x.f2 x.f6 = (a, c) := ⟨_, _, rfl⟩
  have HR := Aside0.mk hr
  clear hr hc hCS HS7
  go_enter Tryd.func19, Tryd.ntmps19
  go_wp2_with (first | ((with_reducible refine gate_dst (N := 5) rfl ?_); refine box_event ?hg (N := 5) ?hd (cs := CS) (t := 40) ?hr ?_; (case hd => rfl); (case hg => rfl); (case hr => first | (go_simp; done) | (go_simp; rfl)); intro q5 hq w1 hbox hb; have BK5 := Aside0.mk hbox; have D1 := Aside0.mk (D.out.step hb); obtain ⟨y0, y1, y2, y3, y4, y5, y6, y7, y8⟩ := Z.out q5 w1 hbox; clear hbox hb hq))
  refine (D1.out.age HN.out HR.out).mono ?_
  rintro e w2 ⟨rfl, hm, hk⟩
  have M2 := Aside0.mk hm
  have BK5 := Aside0.mk (hk _ _ _ BK5.out np40 nr40)
  clear hm hk y0 y1 y2 y3 y4 y5 y6 y7 y8
  obtain ⟨y0, y1, y2, y3, y4, y5, y6, y7, y8⟩ := Z.out q5 w2 BK5.out
  go_wp2_with (fail)
  refine (M2.out.age HN.out HR.out).mono ?_
  rintro e w3 ⟨rfl, hm, hk⟩
  have D3 := Aside0.mk hm
  clear hm hk y0 y1 y2 y3 y4 y5 y6 y7 y8
  go_wp2_with (fail)
  go_ret
  exact ⟨rfl, es, D3.out⟩
end Go.Proofs.YtkmnpnbfeiobiaaDoor.Sd
namespace Go.Proofs.YtkmnpnbfeiobiaaDoor.Sd
open Go.RowKit Go.Proofs.YtkmnpnbfeiobiaaDoorW.PrintWords Go.Proofs.YtkmnpnbfeiobiaaDoorW.PrintLast Go.Proofs.YtkmnpnbfeiobiaaDoorW.PrintMore Go.Proofs.YtkmnpnbfeiobiaaDoor.QSa
open Go.Proofs.YtkmnpnbfeiobiaaDoor
set_option linter.unusedVariables false
set_option linter.unusedSimpArgs false
set_option maxHeartbeats 6400000 in
set_option maxRecDepth 100000 in
theorem step3_walk {w0 w : World} {q qx j sq : Nat} {es : List En} {x : S40} (hj : j ≤ 150) (D : Aside0 (Dos w0 w q qx j es)) (HN : Aside0 (-1 ≤ x.f1 ∧ x.f1 ≤ 1000000000)) (H4 : Aside0 (x.f4 ≤ 1000000000)) (HS : Aside0 (sq < 18446744073709551616)) (HS7 : x.f7 = (sq : Int)) (hc : x.f0 = 3) :
    Calls Tryd.prog 19 #[.pointer (some ⟨q, 0, none⟩), .pointer (some ⟨qx, 0, none⟩), .agg (enc40 x).toArray] w (DosQ w0 q qx j) := by
  have Z := Aside0.mk (boxY HS7)
  obtain ⟨CS, hCS⟩ : ∃ CS, (enc40 x).toArray = CS := ⟨_, rfl⟩
  rw [hCS] at Z ⊢
  have d0 : (x.f0 == 0) = false := by rw [beq_eq_false_iff_ne]; omega
  have d1 : (x.f0 == 1) = false := by rw [beq_eq_false_iff_ne]; omega
  have d2 : (x.f0 == 2) = false := by rw [beq_eq_false_iff_ne]; omega
  have d3 : (x.f0 == 3) = true := by rw [beq_iff_eq]; exact hc
  obtain ⟨aa, cc, hr⟩ : ∃ a c, pickF es x.f1 x.f3 = (a, c) := ⟨_, _, rfl⟩
  have HR := Aside0.mk hr
  clear hr hc hCS HS7
  go_enter Tryd.func19, Tryd.ntmps19
  go_wp2_with (first | ((with_reducible refine gate_dst (N := 5) rfl ?_); refine box_event ?hg (N := 5) ?hd (cs := CS) (t := 40) ?hr ?_; (case hd => rfl); (case hg => rfl); (case hr => first | (go_simp; done) | (go_simp; rfl)); intro q5 hq w1 hbox hb; have BK5 := Aside0.mk hbox; have D1 := Aside0.mk (D.out.step hb); obtain ⟨y0, y1, y2, y3, y4, y5, y6, y7, y8⟩ := Z.out q5 w1 hbox; clear hbox hb hq))
  refine (D1.out.pick HN.out HR.out).mono ?_
  rintro e w2 ⟨rfl, hm, hk⟩
  have M2 := Aside0.mk hm
  have BK5 := Aside0.mk (hk _ _ _ BK5.out np40 nr40)
  clear hm hk y0 y1 y2 y3 y4 y5 y6 y7 y8
  obtain ⟨y0, y1, y2, y3, y4, y5, y6, y7, y8⟩ := Z.out q5 w2 BK5.out
  go_wp2_with (fail)
  refine (M2.out.pick HN.out HR.out).mono ?_
  rintro e w3 ⟨rfl, hm, hk⟩
  have D3 := Aside0.mk hm
  clear hm hk y0 y1 y2 y3 y4 y5 y6 y7 y8
  go_wp2_with (fail)
  go_ret
  exact ⟨rfl, es, D3.out⟩
end Go.Proofs.YtkmnpnbfeiobiaaDoor.Sd
namespace Go.Proofs.YtkmnpnbfeiobiaaDoor.Sd
open Go.RowKit Go.Proofs.YtkmnpnbfeiobiaaDoorW.PrintWords Go.Proofs.YtkmnpnbfeiobiaaDoorW.PrintLast Go.Proofs.YtkmnpnbfeiobiaaDoorW.PrintMore Go.Proofs.YtkmnpnbfeiobiaaDoor.QSa
open Go.Proofs.YtkmnpnbfeiobiaaDoor
set_option linter.unusedVariables false
set_option linter.unusedSimpArgs false
set_option maxHeartbeats 6400000 in
set_option maxRecDepth 100000 in
theorem step4_walk {w0 w : World} {q qx j sq : Nat} {es : List En} {x : S40} (hj : j ≤ 150) (D : Aside0 (Dos w0 w q qx j es)) (HN : Aside0 (-1 ≤ x.f1 ∧ x.f1 ≤ 1000000000)) (H4 : Aside0 (x.f4 ≤ 1000000000)) (HS : Aside0 (sq < 18446744073709551616)) (HS7 : x.f7 = (sq : Int)) (hc : x.f0 = 4) :
    Calls Tryd.prog 19 #[.pointer (some ⟨q, 0, none⟩), .pointer (some ⟨qx, 0, none⟩), .agg (enc40 x).toArray] w (DosQ w0 q qx j) := by
  have Z := Aside0.mk (boxY HS7)
  obtain ⟨CS, hCS⟩ : ∃ CS, (enc40 x).toArray = CS := ⟨_, rfl⟩
  rw [hCS] at Z ⊢
  have d0 : (x.f0 == 0) = false := by rw [beq_eq_false_iff_ne]; omega
  have d1 : (x.f0 == 1) = false := by rw [beq_eq_false_iff_ne]; omega
  have d2 : (x.f0 == 2) = false := by rw [beq_eq_false_iff_ne]; omega
  have d3 : (x.f0 == 3) = false := by rw [beq_eq_false_iff_ne]; omega
  have d4 : (x.f0 == 4) = true := by rw [beq_iff_eq]; exact hc
  obtain ⟨es', sv, kk, cc, hr⟩ : ∃ es' s k c, sendF es x.f1 x.f2 x.f4 = (es', s, k, c) := ⟨_, _, _, _, rfl⟩
  have HR := Aside0.mk hr
  obtain ⟨C, hC⟩ : ∃ C, (enc25 sv).toArray = C := ⟨_, rfl⟩
  have HCC := Aside0.mk hC
  have HSZ := Aside0.mk (show C.size = 6 from by rw [← hC]; rfl)
  have H1 := Aside0.mk (show C.all (·.oneCell') = true from by rw [← hC]; exact one25 sv)
  have HV := Aside0.mk (show v25 sv = .agg C from by unfold v25; rw [hC])
  clear hr hc hCS HS7 hC
  go_enter Tryd.func19, Tryd.ntmps19
  go_wp2_with (first | ((with_reducible refine gate_dst (N := 5) rfl ?_); refine box_event ?hg (N := 5) ?hd (cs := CS) (t := 40) ?hr ?_; (case hd => rfl); (case hg => rfl); (case hr => first | (go_simp; done) | (go_simp; rfl)); intro q5 hq w1 hbox hb; have BK5 := Aside0.mk hbox; have D1 := Aside0.mk (D.out.step hb); obtain ⟨y0, y1, y2, y3, y4, y5, y6, y7, y8⟩ := Z.out q5 w1 hbox; clear hbox hb hq))
  have A1 := Aside0.mk (D1.out.send HN.out hj H4.out HR.out)
  rw [HV.out] at A1
  refine A1.out.mono ?_
  rintro e w2 ⟨rfl, hm, hk⟩
  have M2 := Aside0.mk hm
  have BK5 := Aside0.mk (hk _ _ _ BK5.out np40 nr40)
  clear hm hk y0 y1 y2 y3 y4 y5 y6 y7 y8 A1
  go_upto_region 16 with (first | ((with_reducible refine gate_dst (N := 15) rfl ?_); refine box_event ?hg (N := 15) ?hd (cs := #[.int .i64 0, .string ByteArray.empty, .string ByteArray.empty, .string ByteArray.empty, .bool false, .int .i64 0]) (t := 25) ?hr ?_; (case hd => rfl); (case hg => rfl); (case hr => first | (go_simp; done) | (go_simp; rfl)); intro q15 hq w3 hbox hb; have BB15 := Aside0.mk hbox; have HQ15 := Aside0.mk (show w2.heap.size ≤ q15 from Nat.le_of_eq hq.symm); have HL15 := Aside0.mk (show Below w2.heap.size w2 w3 from hb); clear hbox hb hq) | ((with_reducible refine gate_store (t := 25) (p := 15) rfl ?_); refine store_rowE ?hg 25 (.tmp 15) (.tmp 130) ?ho ?hN q15 C ?hx ?hy 25 _ BB15.out ?hi ?hold H1.out ?_; (case hg => rfl); (case ho => rfl); (case hN => rfl); (case hx => rfl); (case hy => rfl); (case hi => rw [HSZ.out]; exact isz25); (case hold => rw [HSZ.out]; rfl); intro w4 hw; have HM15 := Aside0.mk (show Below w2.heap.size w2 w4 from by rw [hw]; exact below_setRow HL15.out HQ15.out _); have BL15 := Aside0.mk (show w4.heap[q15]? = some (.cells C 25 (0, 0)) from by rw [hw]; exact setRow_heap _ _ _ _ _ _ BB15.out); clear hw))
  have M4 := Aside0.mk (M2.out.step HM15.out)
  have BK5 := Aside0.mk (blk_below BK5.out HM15.out)
  obtain ⟨y0, y1, y2, y3, y4, y5, y6, y7, y8⟩ := Z.out q5 w4 BK5.out
  go_wp2_with (fail)
  have A2 := Aside0.mk (M4.out.send HN.out hj H4.out HR.out)
  rw [HV.out] at A2
  refine A2.out.mono ?_
  rintro e w5 ⟨rfl, hm, hk⟩
  have D5 := Aside0.mk hm
  have BL15 := Aside0.mk (hk _ _ _ BL15.out np25 nr25)
  clear hm hk y0 y1 y2 y3 y4 y5 y6 y7 y8 A2 BB15 HQ15 HL15 HM15
  go_upto_region 17 with (first | ((with_reducible refine gate_dst (N := 18) rfl ?_); refine box_event ?hg (N := 18) ?hd (cs := #[.int .i64 0, .string ByteArray.empty, .string ByteArray.empty, .string ByteArray.empty, .bool false, .int .i64 0]) (t := 25) ?hr ?_; (case hd => rfl); (case hg => rfl); (case hr => first | (go_simp; done) | (go_simp; rfl)); intro q18 hq w6 hbox hb; have BB18 := Aside0.mk hbox; have HQ18 := Aside0.mk (show w5.heap.size ≤ q18 from Nat.le_of_eq hq.symm); have HL18 := Aside0.mk (show Below w5.heap.size w5 w6 from hb); clear hbox hb hq) | ((with_reducible refine gate_store (t := 25) (p := 18) rfl ?_); refine store_rowE ?hg 25 (.tmp 18) (.tmp 142) ?ho ?hN q18 C ?hx ?hy 25 _ BB18.out ?hi ?hold H1.out ?_; (case hg => rfl); (case ho => rfl); (case hN => rfl); (case hx => rfl); (case hy => rfl); (case hi => rw [HSZ.out]; exact isz25); (case hold => rw [HSZ.out]; rfl); intro w7 hw; have HM18 := Aside0.mk (show Below w5.heap.size w5 w7 from by rw [hw]; exact below_setRow HL18.out HQ18.out _); have BL18 := Aside0.mk (show w7.heap[q18]? = some (.cells C 25 (0, 0)) from by rw [hw]; exact setRow_heap _ _ _ _ _ _ BB18.out); clear hw))
  have D7 := Aside0.mk (D5.out.step HM18.out)
  have BL15 := Aside0.mk (blk_below BL15.out HM18.out)
  go_wp2_with (first | ((with_reducible refine gate_dst (N := 145) rfl ?_); refine Kd.event_run (v := .agg C) (w1 := w7) ?hg (load_runA 25 (.tmp 15) ⟨q15, 0, none⟩ C ?ho ?hx (run_loadVar_row w7 q15 25 25 C (0, 0) _ BL15.out Tryd.underlying25 rfl (by rw [HSZ.out]; exact isz25))) ?_; (case hg => rfl); (case ho => rfl); (case hx => rfl)) | ((with_reducible refine gate_dst (N := 146) rfl ?_); refine Kd.event_run (v := .agg C) (w1 := w7) ?hg (load_runA 25 (.tmp 18) ⟨q18, 0, none⟩ C ?ho ?hx (run_loadVar_row w7 q18 25 25 C (0, 0) _ BL18.out Tryd.underlying25 rfl (by rw [HSZ.out]; exact isz25))) ?_; (case hg => rfl); (case ho => rfl); (case hx => rfl)) | ((with_reducible refine gate_dst (N := 147) rfl ?_); refine Kd.event_run (v := .bool true) (w1 := w7) ?hg (eql_self25 sv (.tmp 145) (.tmp 146) w7 ?ho ?hx ?hy) ?_; (case hg => rfl); (case ho => rfl); (case hx => exact congrArg Value.agg HCC.out.symm); (case hy => exact congrArg Value.agg HCC.out.symm)))
  go_ret
  exact ⟨rfl, es', D7.out⟩
end Go.Proofs.YtkmnpnbfeiobiaaDoor.Sd
namespace Go.Proofs.YtkmnpnbfeiobiaaDoor.Sd
open Go.RowKit Go.Proofs.YtkmnpnbfeiobiaaDoorW.PrintWords Go.Proofs.YtkmnpnbfeiobiaaDoorW.PrintLast Go.Proofs.YtkmnpnbfeiobiaaDoorW.PrintMore Go.Proofs.YtkmnpnbfeiobiaaDoor.QSa
open Go.Proofs.YtkmnpnbfeiobiaaDoor
set_option linter.unusedVariables false
set_option linter.unusedSimpArgs false
set_option maxHeartbeats 6400000 in
set_option maxRecDepth 100000 in
theorem step5_walk {w0 w : World} {q qx j sq : Nat} {es : List En} {x : S40} (hj : j ≤ 150) (D : Aside0 (Dos w0 w q qx j es)) (HN : Aside0 (-1 ≤ x.f1 ∧ x.f1 ≤ 1000000000)) (H4 : Aside0 (x.f4 ≤ 1000000000)) (HS : Aside0 (sq < 18446744073709551616)) (HS7 : x.f7 = (sq : Int)) (hc : x.f0 = 5) :
    Calls Tryd.prog 19 #[.pointer (some ⟨q, 0, none⟩), .pointer (some ⟨qx, 0, none⟩), .agg (enc40 x).toArray] w (DosQ w0 q qx j) := by
  have Z := Aside0.mk (boxY HS7)
  obtain ⟨CS, hCS⟩ : ∃ CS, (enc40 x).toArray = CS := ⟨_, rfl⟩
  rw [hCS] at Z ⊢
  have d0 : (x.f0 == 0) = false := by rw [beq_eq_false_iff_ne]; omega
  have d1 : (x.f0 == 1) = false := by rw [beq_eq_false_iff_ne]; omega
  have d2 : (x.f0 == 2) = false := by rw [beq_eq_false_iff_ne]; omega
  have d3 : (x.f0 == 3) = false := by rw [beq_eq_false_iff_ne]; omega
  have d4 : (x.f0 == 4) = false := by rw [beq_eq_false_iff_ne]; omega
  have d5 : (x.f0 == 5) = true := by rw [beq_iff_eq]; exact hc
  obtain ⟨sv, kk, cc, hr⟩ : ∃ s k c, lookF es x.f1 x.f2 x.f5 = (s, k, c) := ⟨_, _, _, rfl⟩
  have HR := Aside0.mk hr
  obtain ⟨C, hC⟩ : ∃ C, (enc27 sv).toArray = C := ⟨_, rfl⟩
  have HCC := Aside0.mk hC
  have HSZ := Aside0.mk (show C.size = 12 from by rw [← hC]; rfl)
  have H1 := Aside0.mk (show C.all (·.oneCell') = true from by rw [← hC]; exact one27 sv)
  have HV := Aside0.mk (show v27 sv = .agg C from by unfold v27; rw [hC])
  clear hr hc hCS HS7 hC
  go_enter Tryd.func19, Tryd.ntmps19
  go_wp2_with (first | ((with_reducible refine gate_dst (N := 5) rfl ?_); refine box_event ?hg (N := 5) ?hd (cs := CS) (t := 40) ?hr ?_; (case hd => rfl); (case hg => rfl); (case hr => first | (go_simp; done) | (go_simp; rfl)); intro q5 hq w1 hbox hb; have BK5 := Aside0.mk hbox; have D1 := Aside0.mk (D.out.step hb); obtain ⟨y0, y1, y2, y3, y4, y5, y6, y7, y8⟩ := Z.out q5 w1 hbox; clear hbox hb hq))
  have A1 := Aside0.mk (D1.out.look HN.out hj HR.out)
  rw [HV.out] at A1
  refine A1.out.mono ?_
  rintro e w2 ⟨rfl, hm, hk⟩
  have M2 := Aside0.mk hm
  have BK5 := Aside0.mk (hk _ _ _ BK5.out np40 nr40)
  clear hm hk y0 y1 y2 y3 y4 y5 y6 y7 y8 A1
  go_upto_region 20 with (first | ((with_reducible refine gate_dst (N := 21) rfl ?_); refine box_event ?hg (N := 21) ?hd (cs := #[.int .i64 0, .string ByteArray.empty, .string ByteArray.empty, .string ByteArray.empty, .bool false, .int .i64 0, .int .i64 0, .bool false, .int .i64 0, .int .i64 0, .int .i64 0, .int .i64 0]) (t := 27) ?hr ?_; (case hd => rfl); (case hg => rfl); (case hr => first | (go_simp; done) | (go_simp; rfl)); intro q21 hq w3 hbox hb; have BB21 := Aside0.mk hbox; have HQ21 := Aside0.mk (show w2.heap.size ≤ q21 from Nat.le_of_eq hq.symm); have HL21 := Aside0.mk (show Below w2.heap.size w2 w3 from hb); clear hbox hb hq) | ((with_reducible refine gate_store (t := 27) (p := 21) rfl ?_); refine store_rowE ?hg 27 (.tmp 21) (.tmp 169) ?ho ?hN q21 C ?hx ?hy 27 _ BB21.out ?hi ?hold H1.out ?_; (case hg => rfl); (case ho => rfl); (case hN => rfl); (case hx => rfl); (case hy => rfl); (case hi => rw [HSZ.out]; exact isz27); (case hold => rw [HSZ.out]; rfl); intro w4 hw; have HM21 := Aside0.mk (show Below w2.heap.size w2 w4 from by rw [hw]; exact below_setRow HL21.out HQ21.out _); have BL21 := Aside0.mk (show w4.heap[q21]? = some (.cells C 27 (0, 0)) from by rw [hw]; exact setRow_heap _ _ _ _ _ _ BB21.out); clear hw))
  have M4 := Aside0.mk (M2.out.step HM21.out)
  have BK5 := Aside0.mk (blk_below BK5.out HM21.out)
  obtain ⟨y0, y1, y2, y3, y4, y5, y6, y7, y8⟩ := Z.out q5 w4 BK5.out
  go_wp2_with (fail)
  have A2 := Aside0.mk (M4.out.look HN.out hj HR.out)
  rw [HV.out] at A2
  refine A2.out.mono ?_
  rintro e w5 ⟨rfl, hm, hk⟩
  have D5 := Aside0.mk hm
  have BL21 := Aside0.mk (hk _ _ _ BL21.out np27 nr27)
  clear hm hk y0 y1 y2 y3 y4 y5 y6 y7 y8 A2 BB21 HQ21 HL21 HM21
  go_upto_region 21 with (first | ((with_reducible refine gate_dst (N := 24) rfl ?_); refine box_event ?hg (N := 24) ?hd (cs := #[.int .i64 0, .string ByteArray.empty, .string ByteArray.empty, .string ByteArray.empty, .bool false, .int .i64 0, .int .i64 0, .bool false, .int .i64 0, .int .i64 0, .int .i64 0, .int .i64 0]) (t := 27) ?hr ?_; (case hd => rfl); (case hg => rfl); (case hr => first | (go_simp; done) | (go_simp; rfl)); intro q24 hq w6 hbox hb; have BB24 := Aside0.mk hbox; have HQ24 := Aside0.mk (show w5.heap.size ≤ q24 from Nat.le_of_eq hq.symm); have HL24 := Aside0.mk (show Below w5.heap.size w5 w6 from hb); clear hbox hb hq) | ((with_reducible refine gate_store (t := 27) (p := 24) rfl ?_); refine store_rowE ?hg 27 (.tmp 24) (.tmp 181) ?ho ?hN q24 C ?hx ?hy 27 _ BB24.out ?hi ?hold H1.out ?_; (case hg => rfl); (case ho => rfl); (case hN => rfl); (case hx => rfl); (case hy => rfl); (case hi => rw [HSZ.out]; exact isz27); (case hold => rw [HSZ.out]; rfl); intro w7 hw; have HM24 := Aside0.mk (show Below w5.heap.size w5 w7 from by rw [hw]; exact below_setRow HL24.out HQ24.out _); have BL24 := Aside0.mk (show w7.heap[q24]? = some (.cells C 27 (0, 0)) from by rw [hw]; exact setRow_heap _ _ _ _ _ _ BB24.out); clear hw))
  have D7 := Aside0.mk (D5.out.step HM24.out)
  have BL21 := Aside0.mk (blk_below BL21.out HM24.out)
  go_wp2_with (first | ((with_reducible refine gate_dst (N := 184) rfl ?_); refine Kd.event_run (v := .agg C) (w1 := w7) ?hg (load_runA 27 (.tmp 21) ⟨q21, 0, none⟩ C ?ho ?hx (run_loadVar_row w7 q21 27 27 C (0, 0) _ BL21.out Tryd.underlying27 rfl (by rw [HSZ.out]; exact isz27))) ?_; (case hg => rfl); (case ho => rfl); (case hx => rfl)) | ((with_reducible refine gate_dst (N := 185) rfl ?_); refine Kd.event_run (v := .agg C) (w1 := w7) ?hg (load_runA 27 (.tmp 24) ⟨q24, 0, none⟩ C ?ho ?hx (run_loadVar_row w7 q24 27 27 C (0, 0) _ BL24.out Tryd.underlying27 rfl (by rw [HSZ.out]; exact isz27))) ?_; (case hg => rfl); (case ho => rfl); (case hx => rfl)) | ((with_reducible refine gate_dst (N := 186) rfl ?_); refine Kd.event_run (v := .bool true) (w1 := w7) ?hg (eql_self27 sv (.tmp 184) (.tmp 185) w7 ?ho ?hx ?hy) ?_; (case hg => rfl); (case ho => rfl); (case hx => exact congrArg Value.agg HCC.out.symm); (case hy => exact congrArg Value.agg HCC.out.symm)))
  go_ret
  exact ⟨rfl, es, D7.out⟩
end Go.Proofs.YtkmnpnbfeiobiaaDoor.Sd
namespace Go.Proofs.YtkmnpnbfeiobiaaDoor.Sd
open Go.RowKit Go.Proofs.YtkmnpnbfeiobiaaDoorW.PrintWords Go.Proofs.YtkmnpnbfeiobiaaDoorW.PrintLast Go.Proofs.YtkmnpnbfeiobiaaDoorW.PrintMore Go.Proofs.YtkmnpnbfeiobiaaDoor.QSa
open Go.Proofs.YtkmnpnbfeiobiaaDoor
set_option linter.unusedVariables false
set_option linter.unusedSimpArgs false
set_option maxHeartbeats 6400000 in
set_option maxRecDepth 100000 in
theorem step6_walk {w0 w : World} {q qx j sq : Nat} {es : List En} {x : S40} (hj : j ≤ 150) (D : Aside0 (Dos w0 w q qx j es)) (HN : Aside0 (-1 ≤ x.f1 ∧ x.f1 ≤ 1000000000)) (H4 : Aside0 (x.f4 ≤ 1000000000)) (HS : Aside0 (sq < 18446744073709551616)) (HS7 : x.f7 = (sq : Int)) (hc : x.f0 ≠ 0 ∧ x.f0 ≠ 1 ∧ x.f0 ≠ 2 ∧ x.f0 ≠ 3 ∧ x.f0 ≠ 4 ∧ x.f0 ≠ 5) :
    Calls Tryd.prog 19 #[.pointer (some ⟨q, 0, none⟩), .pointer (some ⟨qx, 0, none⟩), .agg (enc40 x).toArray] w (DosQ w0 q qx j) := by
  have Z := Aside0.mk (boxY HS7)
  obtain ⟨CS, hCS⟩ : ∃ CS, (enc40 x).toArray = CS := ⟨_, rfl⟩
  rw [hCS] at Z ⊢
  have d0 : (x.f0 == 0) = false := by rw [beq_eq_false_iff_ne]; omega
  have d1 : (x.f0 == 1) = false := by rw [beq_eq_false_iff_ne]; omega
  have d2 : (x.f0 == 2) = false := by rw [beq_eq_false_iff_ne]; omega
  have d3 : (x.f0 == 3) = false := by rw [beq_eq_false_iff_ne]; omega
  have d4 : (x.f0 == 4) = false := by rw [beq_eq_false_iff_ne]; omega
  have d5 : (x.f0 == 5) = false := by rw [beq_eq_false_iff_ne]; omega
  obtain ⟨es', cc, hr⟩ : ∃ es' cc, takeF es x.f1 x.f2 sq x.f4 = (es', cc) := ⟨_, _, rfl⟩
  have HR := Aside0.mk hr
  clear hr hc hCS HS7
  go_enter Tryd.func19, Tryd.ntmps19
  go_wp2_with (first | ((with_reducible refine gate_dst (N := 5) rfl ?_); refine box_event ?hg (N := 5) ?hd (cs := CS) (t := 40) ?hr ?_; (case hd => rfl); (case hg => rfl); (case hr => first | (go_simp; done) | (go_simp; rfl)); intro q5 hq w1 hbox hb; have BK5 := Aside0.mk hbox; have D1 := Aside0.mk (D.out.step hb); obtain ⟨y0, y1, y2, y3, y4, y5, y6, y7, y8⟩ := Z.out q5 w1 hbox; clear hbox hb hq))
  clear y0 y1 y2 y3 y4 y5 y6 y7 y8
  refine start_ (n := 22) (S := fun W => W.heap[q5]? = some (.cells CS 40 (0, 0))) (ds := []) #[false, false, false, false, false, false, false, false, false, false, false, false, false, false, false, false, false, false, false, false, false, false] (by kernel_rfl) rfl rfl BK5.out (fun hHeld => ?_)
  refine pure_ (i := 0) (N := some 197) (v := ?_) (a' := ?_) #[true, false, false, false, false, false, false, false, false, false, false, false, false, false, false, false, false, false, false, false, false, false] rfl rfl (by kernel_rfl) (fun _ _ _ h => h) (Or.inl ⟨by rfl, ?_⟩) ?_ ?_
  rotate_left
  · intro w'
    go_simp
    with_reducible rfl
  rotate_left
  · simp only [Act.put, List.setIfInBounds_toArray, List.set_cons_zero, List.set_cons_succ]
    rfl
  refine pure_ (i := 1) (N := some 198) (v := ?_) (a' := ?_) #[true, true, false, false, false, false, false, false, false, false, false, false, false, false, false, false, false, false, false, false, false, false] rfl rfl (by kernel_rfl) (fun _ _ _ h => h) (Or.inl ⟨by rfl, ?_⟩) ?_ ?_
  rotate_left
  · intro w'
    go_simp
    with_reducible rfl
  rotate_left
  · simp only [Act.put, List.setIfInBounds_toArray, List.set_cons_zero, List.set_cons_succ]
    rfl
  refine take_ (i := 2) (N := some 199) (v := ?_) (a' := ?_) #[true, true, true, false, false, false, false, false, false, false, false, false, false, false, false, false, false, false, false, false, false, false] rfl rfl (by kernel_rfl) (fun _ _ _ h => h) (Or.inl ⟨by rfl, ?_⟩) hHeld ?_ ?_
  rotate_left
  · intro w' s0
    obtain ⟨y0, y1, y2, y3, y4, y5, y6, y7, y8⟩ := Z.out q5 w' s0
    go_simp
    with_reducible rfl
  rotate_left
  · simp only [Act.put, List.setIfInBounds_toArray, List.set_cons_zero, List.set_cons_succ]
    rfl
  refine pure_ (i := 3) (N := some 200) (v := ?_) (a' := ?_) #[true, true, true, true, false, false, false, false, false, false, false, false, false, false, false, false, false, false, false, false, false, false] rfl rfl (by kernel_rfl) (fun _ _ _ h => h) (Or.inl ⟨by rfl, ?_⟩) ?_ ?_
  rotate_left
  · intro w'
    go_simp
    with_reducible rfl
  rotate_left
  · simp only [Act.put, List.setIfInBounds_toArray, List.set_cons_zero, List.set_cons_succ]
    rfl
  refine take_ (i := 4) (N := some 201) (v := ?_) (a' := ?_) #[true, true, true, true, true, false, false, false, false, false, false, false, false, false, false, false, false, false, false, false, false, false] rfl rfl (by kernel_rfl) (fun _ _ _ h => h) (Or.inl ⟨by rfl, ?_⟩) hHeld ?_ ?_
  rotate_left
  · intro w' s0
    obtain ⟨y0, y1, y2, y3, y4, y5, y6, y7, y8⟩ := Z.out q5 w' s0
    go_simp
    with_reducible rfl
  rotate_left
  · simp only [Act.put, List.setIfInBounds_toArray, List.set_cons_zero, List.set_cons_succ]
    rfl
  refine pure_ (i := 5) (N := some 202) (v := ?_) (a' := ?_) #[true, true, true, true, true, true, false, false, false, false, false, false, false, false, false, false, false, false, false, false, false, false] rfl rfl (by kernel_rfl) (fun _ _ _ h => h) (Or.inl ⟨by rfl, ?_⟩) ?_ ?_
  rotate_left
  · intro w'
    go_simp
    with_reducible rfl
  rotate_left
  · simp only [Act.put, List.setIfInBounds_toArray, List.set_cons_zero, List.set_cons_succ]
    rfl
  refine take_ (i := 6) (N := some 203) (v := ?_) (a' := ?_) #[true, true, true, true, true, true, true, false, false, false, false, false, false, false, false, false, false, false, false, false, false, false] rfl rfl (by kernel_rfl) (fun _ _ _ h => h) (Or.inl ⟨by rfl, ?_⟩) hHeld ?_ ?_
  rotate_left
  · intro w' s0
    obtain ⟨y0, y1, y2, y3, y4, y5, y6, y7, y8⟩ := Z.out q5 w' s0
    go_simp
    with_reducible rfl
  rotate_left
  · simp only [Act.put, List.setIfInBounds_toArray, List.set_cons_zero, List.set_cons_succ]
    rfl
  refine pure_ (i := 7) (N := some 204) (v := ?_) (a' := ?_) #[true, true, true, true, true, true, true, true, false, false, false, false, false, false, false, false, false, false, false, false, false, false] rfl rfl (by kernel_rfl) (fun _ _ _ h => h) (Or.inl ⟨by rfl, ?_⟩) ?_ ?_
  rotate_left
  · intro w'
    go_simp
    with_reducible rfl
  rotate_left
  · simp only [Act.put, List.setIfInBounds_toArray, List.set_cons_zero, List.set_cons_succ]
    rfl
  refine take_ (i := 8) (N := some 205) (v := ?_) (a' := ?_) #[true, true, true, true, true, true, true, true, true, false, false, false, false, false, false, false, false, false, false, false, false, false] rfl rfl (by kernel_rfl) (fun _ _ _ h => h) (Or.inl ⟨by rfl, ?_⟩) hHeld ?_ ?_
  rotate_left
  · intro w' s0
    obtain ⟨y0, y1, y2, y3, y4, y5, y6, y7, y8⟩ := Z.out q5 w' s0
    go_simp
    with_reducible rfl
  rotate_left
  · simp only [Act.put, List.setIfInBounds_toArray, List.set_cons_zero, List.set_cons_succ]
    rfl
  refine pure_ (i := 10) (N := some 207) (v := ?_) (a' := ?_) #[true, true, true, true, true, true, true, true, true, false, true, false, false, false, false, false, false, false, false, false, false, false] rfl rfl (by kernel_rfl) (fun _ _ _ h => h) (Or.inl ⟨by rfl, ?_⟩) ?_ ?_
  rotate_left
  · intro w'
    go_simp
    with_reducible rfl
  rotate_left
  · simp only [Act.put, List.setIfInBounds_toArray, List.set_cons_zero, List.set_cons_succ]
    rfl
  refine pure_ (i := 11) (N := some 208) (v := ?_) (a' := ?_) #[true, true, true, true, true, true, true, true, true, false, true, true, false, false, false, false, false, false, false, false, false, false] rfl rfl (by kernel_rfl) (fun _ _ _ h => h) (Or.inl ⟨by rfl, ?_⟩) ?_ ?_
  rotate_left
  · intro w'
    go_simp
    with_reducible rfl
  rotate_left
  · simp only [Act.put, List.setIfInBounds_toArray, List.set_cons_zero, List.set_cons_succ]
    rfl
  refine take_ (i := 12) (N := some 209) (v := ?_) (a' := ?_) #[true, true, true, true, true, true, true, true, true, false, true, true, true, false, false, false, false, false, false, false, false, false] rfl rfl (by kernel_rfl) (fun _ _ _ h => h) (Or.inl ⟨by rfl, ?_⟩) hHeld ?_ ?_
  rotate_left
  · intro w' s0
    obtain ⟨y0, y1, y2, y3, y4, y5, y6, y7, y8⟩ := Z.out q5 w' s0
    go_simp
    with_reducible rfl
  rotate_left
  · simp only [Act.put, List.setIfInBounds_toArray, List.set_cons_zero, List.set_cons_succ]
    rfl
  refine pure_ (i := 13) (N := some 210) (v := ?_) (a' := ?_) #[true, true, true, true, true, true, true, true, true, false, true, true, true, true, false, false, false, false, false, false, false, false] rfl rfl (by kernel_rfl) (fun _ _ _ h => h) (Or.inl ⟨by rfl, ?_⟩) ?_ ?_
  rotate_left
  · intro w'
    go_simp
    with_reducible rfl
  rotate_left
  · simp only [Act.put, List.setIfInBounds_toArray, List.set_cons_zero, List.set_cons_succ]
    rfl
  refine take_ (i := 14) (N := some 211) (v := ?_) (a' := ?_) #[true, true, true, true, true, true, true, true, true, false, true, true, true, true, true, false, false, false, false, false, false, false] rfl rfl (by kernel_rfl) (fun _ _ _ h => h) (Or.inl ⟨by rfl, ?_⟩) hHeld ?_ ?_
  rotate_left
  · intro w' s0
    obtain ⟨y0, y1, y2, y3, y4, y5, y6, y7, y8⟩ := Z.out q5 w' s0
    go_simp
    with_reducible rfl
  rotate_left
  · simp only [Act.put, List.setIfInBounds_toArray, List.set_cons_zero, List.set_cons_succ]
    rfl
  refine pure_ (i := 15) (N := some 212) (v := ?_) (a' := ?_) #[true, true, true, true, true, true, true, true, true, false, true, true, true, true, true, true, false, false, false, false, false, false] rfl rfl (by kernel_rfl) (fun _ _ _ h => h) (Or.inl ⟨by rfl, ?_⟩) ?_ ?_
  rotate_left
  · intro w'
    go_simp
    with_reducible rfl
  rotate_left
  · simp only [Act.put, List.setIfInBounds_toArray, List.set_cons_zero, List.set_cons_succ]
    rfl
  refine take_ (i := 16) (N := some 213) (v := ?_) (a' := ?_) #[true, true, true, true, true, true, true, true, true, false, true, true, true, true, true, true, true, false, false, false, false, false] rfl rfl (by kernel_rfl) (fun _ _ _ h => h) (Or.inl ⟨by rfl, ?_⟩) hHeld ?_ ?_
  rotate_left
  · intro w' s0
    obtain ⟨y0, y1, y2, y3, y4, y5, y6, y7, y8⟩ := Z.out q5 w' s0
    go_simp
    with_reducible rfl
  rotate_left
  · simp only [Act.put, List.setIfInBounds_toArray, List.set_cons_zero, List.set_cons_succ]
    rfl
  refine pure_ (i := 17) (N := some 214) (v := ?_) (a' := ?_) #[true, true, true, true, true, true, true, true, true, false, true, true, true, true, true, true, true, true, false, false, false, false] rfl rfl (by kernel_rfl) (fun _ _ _ h => h) (Or.inl ⟨by rfl, ?_⟩) ?_ ?_
  rotate_left
  · intro w'
    go_simp
    with_reducible rfl
  rotate_left
  · simp only [Act.put, List.setIfInBounds_toArray, List.set_cons_zero, List.set_cons_succ]
    rfl
  refine take_ (i := 18) (N := some 215) (v := ?_) (a' := ?_) #[true, true, true, true, true, true, true, true, true, false, true, true, true, true, true, true, true, true, true, false, false, false] rfl rfl (by kernel_rfl) (fun _ _ _ h => h) (Or.inl ⟨by rfl, ?_⟩) hHeld ?_ ?_
  rotate_left
  · intro w' s0
    obtain ⟨y0, y1, y2, y3, y4, y5, y6, y7, y8⟩ := Z.out q5 w' s0
    go_simp
    with_reducible rfl
  rotate_left
  · simp only [Act.put, List.setIfInBounds_toArray, List.set_cons_zero, List.set_cons_succ]
    rfl
  refine one_ (i := 9) (N := some 206) #[true, true, true, true, true, true, true, true, true, true, true, true, true, true, true, true, true, true, true, false, false, false] rfl rfl (by kernel_rfl) (by decide) (fun K hK => ?_)
  have HTd := Aside0.mk (D1.out.step (below_drew (Below.refl _ _)))
  refine goesV_ Tryd.func16 (by kernel_rfl) rfl #[.pointer (some ⟨q, 0, none⟩), .int .i64 x.f1, .int .i64 x.f2, .int .u64 (sq : Int), .int .i64 x.f4] (by rfl) rfl rfl (by first | rfl | go_simp) (by first | rfl | simp [Act.eval] | go_simp) ?_
  refine (HTd.out.take HN.out hj H4.out HS.out HR.out).mono ?_
  rintro e w2 ⟨he, hm, hk⟩
  subst he
  have M2 := Aside0.mk hm
  refine ⟨_, rfl, hK.out _ _ (hk _ _ _ hHeld np40 nr40) (fun hHeld => ?_)⟩
  clear hK K hm hk
  refine norm_ (a' := ?_) ?_ ?_
  rotate_left
  · show Act.put _ (some 206) _ = _
    simp only [Act.put, List.setIfInBounds_toArray, List.set_cons_zero, List.set_cons_succ]
    rfl
  refine one_ (i := 19) (N := some 216) #[true, true, true, true, true, true, true, true, true, true, true, true, true, true, true, true, true, true, true, true, false, false] rfl rfl (by kernel_rfl) (by decide) (fun K hK => ?_)
  refine goesV_ Tryd.func40 (by kernel_rfl) rfl #[.pointer (some ⟨qx, 0, none⟩), .int .i64 x.f1, .int .i64 x.f2, .int .u64 (sq : Int), .int .i64 x.f4] (by rfl) rfl rfl (by first | rfl | go_simp) (by first | rfl | simp [Act.eval] | go_simp) ?_
  refine (M2.out.take HN.out hj H4.out HS.out HR.out).mono ?_
  rintro e w3 ⟨he, hm, hk⟩
  subst he
  have D3 := Aside0.mk hm
  refine ⟨_, rfl, hK.out _ _ (hk _ _ _ hHeld np40 nr40) (fun hHeld => ?_)⟩
  clear hK K hm hk
  refine norm_ (a' := ?_) ?_ ?_
  rotate_left
  · show Act.put _ (some 216) _ = _
    simp only [Act.put, List.setIfInBounds_toArray, List.set_cons_zero, List.set_cons_succ]
    rfl
  refine pure_ (i := 20) (N := some 217) (v := ?_) (a' := ?_) #[true, true, true, true, true, true, true, true, true, true, true, true, true, true, true, true, true, true, true, true, true, false] rfl rfl (by kernel_rfl) (fun _ _ _ h => h) (Or.inl ⟨by rfl, ?_⟩) ?_ ?_
  rotate_left
  · intro w'
    go_simp
    with_reducible rfl
  rotate_left
  · simp only [Act.put, List.setIfInBounds_toArray, List.set_cons_zero, List.set_cons_succ]
    rfl
  refine pure_ (i := 21) (N := some 6) (v := ?_) (a' := ?_) #[true, true, true, true, true, true, true, true, true, true, true, true, true, true, true, true, true, true, true, true, true, true] rfl rfl (by kernel_rfl) (fun _ _ _ h => h) (Or.inl ⟨by rfl, ?_⟩) ?_ ?_
  rotate_left
  · intro w'
    go_simp
    with_reducible rfl
  rotate_left
  · simp only [Act.put, List.setIfInBounds_toArray, List.set_cons_zero, List.set_cons_succ]
    rfl
  refine done_ (by kernel_rfl) ?_
  (try simp only [Exit.inBlock, Exit.then])
  go_wp2_with (fail)
  go_ret
  exact ⟨rfl, es', D3.out⟩
end Go.Proofs.YtkmnpnbfeiobiaaDoor.Sd
namespace Go.Proofs.YtkmnpnbfeiobiaaDoor.Sd
open Go.RowKit Go.Proofs.YtkmnpnbfeiobiaaDoorW.PrintWords Go.Proofs.YtkmnpnbfeiobiaaDoorW.PrintLast Go.Proofs.YtkmnpnbfeiobiaaDoorW.PrintMore Go.Proofs.YtkmnpnbfeiobiaaDoor.QSa
open Go.Proofs.YtkmnpnbfeiobiaaDoor
set_option linter.unusedVariables false
set_option linter.unusedSimpArgs false
theorem step_walk {w0 w : World} {q qx j sq : Nat} {es : List En} {x : S40} (hj : j ≤ 150) (D : Dos w0 w q qx j es) (HN : -1 ≤ x.f1 ∧ x.f1 ≤ 1000000000) (H4 : x.f4 ≤ 1000000000) (HS : sq < 18446744073709551616) (HS7 : x.f7 = (sq : Int)) :
    Calls Tryd.prog 19 #[.pointer (some ⟨q, 0, none⟩), .pointer (some ⟨qx, 0, none⟩), .agg (enc40 x).toArray] w (DosQ w0 q qx j) := by
  by_cases c0 : x.f0 = 0
  · exact step0_walk hj ⟨D⟩ ⟨HN⟩ ⟨H4⟩ ⟨HS⟩ HS7 c0
  by_cases c1 : x.f0 = 1
  · exact step1_walk hj ⟨D⟩ ⟨HN⟩ ⟨H4⟩ ⟨HS⟩ HS7 c1
  by_cases c2 : x.f0 = 2
  · exact step2_walk hj ⟨D⟩ ⟨HN⟩ ⟨H4⟩ ⟨HS⟩ HS7 c2
  by_cases c3 : x.f0 = 3
  · exact step3_walk hj ⟨D⟩ ⟨HN⟩ ⟨H4⟩ ⟨HS⟩ HS7 c3
  by_cases c4 : x.f0 = 4
  · exact step4_walk hj ⟨D⟩ ⟨HN⟩ ⟨H4⟩ ⟨HS⟩ HS7 c4
  by_cases c5 : x.f0 = 5
  · exact step5_walk hj ⟨D⟩ ⟨HN⟩ ⟨H4⟩ ⟨HS⟩ HS7 c5
  exact step6_walk hj ⟨D⟩ ⟨HN⟩ ⟨H4⟩ ⟨HS⟩ HS7 ⟨c0, c1, c2, c3, c4, c5⟩
theorem same_self (l : List S27) (hl : l.length ≤ 1000) : redoubtref17_Same.f (l.length + 1) l l = some true := by
  have key : ∀ d : Nat, ∀ i : Nat, l.length ≤ i + d → redoubtref17_Same.l0 (d + 1) l l (i : Int) = some true := by
    intro d
    induction d with
    | zero =>
      intro i hi
      simp only [redoubtref17_Same.l0]
      rw [if_neg (by omega)]
    | succ d ih =>
      intro i hi
      simp only [redoubtref17_Same.l0]
      by_cases h : (i : Int) < (l.length : Int)
      · rw [if_pos h, if_pos (by omega), if_pos h, if_neg (by simp)]
        have e : wrap64 ((i : Int) + 1) = ((i + 1 : Nat) : Int) := by
          rw [IntWalk.wrap64_in _ (by omega)]
          omega
        rw [e]
        exact ih (i + 1) (by omega)
      · rw [if_neg h]
  unfold redoubtref17_Same.f
  rw [if_pos rfl]
  exact key l.length 0 (by omega)
set_option maxHeartbeats 6400000 in
set_option maxRecDepth 100000 in
theorem does_main {w : World} (hL : Laid w) (A : Option Addr) (l : List S40) (c : Nat) (hr : Kd.C k40 w A l.length l) (hm : l.length ≤ maxLen) (hz : ∀ i, i < l.length → Sized40 (l.getD i z40)) (hs : ∀ i, i < l.length → ∃ m : Nat, (l.getD i z40).f7 = (m : Int) ∧ m < 18446744073709551616) :
    Calls Tryd.prog 6 #[.slice A l.length c] w fun e w' => e = .returned (.bool true) ∧ Below w.heap.size w w' := by
  have FW := Aside0.mk (few_walk A c l w hr hm hz)
  have HR := Aside0.mk fun (W : World) (hb : Below w.heap.size w W) => Kd.C_below hr hb
  have HS := Aside0.mk hs
  have N0 := Aside0.mk fun (W : World) (hb : Below w.heap.size w W) => one_new hL hb
  have AWK := Aside0.mk fun (W : World) (hb : Below w.heap.size w W) => awake_walk (hL.below hL.pos hb)
  obtain ⟨n, hn⟩ : ∃ n, l.length = n := ⟨_, rfl⟩
  have HN := Aside0.mk hn
  rw [hn] at FW HR HS hm ⊢
  clear hr hn hz hs hL
  unfold maxLen at hm
  go_enter Tryd.func6, Tryd.ntmps6
  go_wp2_with (fail)
  refine FW.out.mono ?_
  rintro e w1 ⟨⟨b1, rfl, hfew⟩, hb⟩
  have HF := Aside0.mk hfew
  have HB1 := Aside0.mk hb
  clear hb hfew
  cases b1
  · go_wp2_with (fail)
    go_ret
    exact ⟨rfl, HB1.out⟩
  have HFW := Aside0.mk (HF.out rfl)
  have hn150 : n ≤ 150 := by have := HFW.out.1; rw [HN.out] at this; exact this
  clear HF
  go_wp2_with (fail)
  refine (N0.out w1 HB1.out).mono ?_
  rintro e w2 ⟨q, rfl, _, _, h⟩
  have S2 := Aside0.mk h
  clear h
  go_wp2_with (first | ((with_reducible refine gate_dst (N := 14) rfl ?_); refine box_event ?hg (N := 14) ?hd (cs := #[.slice none 0 0]) (t := 52) ?hr ?_; (case hd => rfl); (case hg => rfl); (case hr => first | (go_simp; done) | (go_simp; rfl)); intro qx hq w3 hbox hb; have D3 := Aside0.mk (show Dos w w3 q qx 0 [] from ⟨S2.out.sad.below hb, ⟨_, [], Tab.empty hbox (by rw [hq]; exact S2.out.below.size)⟩, ⟨fun e he => absurd he (by simp), Nat.zero_le _, List.nodup_nil⟩, S2.out.below.trans (hb.mono S2.out.below.size), S2.out.laid0⟩); clear hbox hb hq))
  go_loopw [5] (fun iv wr => ∃ (j : Nat) (es : List En), j ≤ n ∧ iv = .int .i64 j ∧ Aside0 (Dos w wr q qx j es)) (fun iv _ => n - (intOf iv).toNat)
  case atStart => exact ⟨0, [], by omega, rfl, D3⟩
  case round =>
    clear S2 D3 HB1
    obtain ⟨j, es, hjn, rfl, D⟩ := hrel
    by_cases hlt : j < n
    · have hltI : (j : Int) < (n : Int) := by omega
      have hltN : decide (j < n) = true := decide_eq_true hlt
      obtain ⟨ad, hA, LD⟩ := row40 (HR.out _ D.out.below) j hlt
      subst hA
      obtain ⟨sq, hsq, hsq2⟩ := HS.out j hlt
      have hfw := HFW.out.2 j (by rw [HN.out]; exact hlt)
      obtain ⟨x, hx⟩ : ∃ x, l.getD j z40 = x := ⟨_, rfl⟩
      rw [hx] at LD hsq hfw
      have ST := Aside0.mk fun (W : World) (h : Dos w W q qx j es) => step_walk (by omega) h hfw.2 hfw.1 hsq2 hsq
      obtain ⟨CS, hCS⟩ : ∃ CS, (enc40 x).toArray = CS := ⟨_, rfl⟩
      have H1 := Aside0.mk (show CS.all (·.oneCell') = true from by rw [← hCS]; exact one40 x)
      have HSZ := Aside0.mk (show CS.size = 20 from by rw [← hCS]; rfl)
      rw [hCS] at LD ST
      have hi1 : IntKind.i64.wrap ((j : Int) + 1) = ((j + 1 : Nat) : Int) := by rw [IntWalk.i64_in _ (by omega)]; omega
      clear hx hCS hfw hsq hsq2
      go_wp2_with (first | ((with_reducible refine gate_dst (N := 24) rfl ?_); refine Kd.event_run (v := .agg CS) (w1 := wr) ?hg (load_runA 40 (.tmp 23) (ad.add (j * 20)) CS ?ho ?hx LD) ?_; (case hg => rfl); (case ho => rfl); (case hx => rfl); clear LD) | ((with_reducible refine gate_dst (N := 6) rfl ?_); refine box_event ?hg (N := 6) ?hd (cs := #[.int .i64 0, .int .i64 0, .int .i64 0, .int .i64 0, .int .i64 0, .int .i64 0, .bool false, .int .u64 0, .int .i64 0, .string ByteArray.empty, .string ByteArray.empty, .string ByteArray.empty, .bool false, .int .i64 0, .int .i64 0, .bool false, .int .i64 0, .int .i64 0, .int .i64 0, .int .i64 0]) (t := 40) ?hr ?_; (case hd => rfl); (case hg => rfl); (case hr => first | (go_simp; done) | (go_simp; rfl)); intro q6 hq w4 hbox hb; have BK6 := Aside0.mk hbox; have HQ6 := Aside0.mk (show wr.heap.size ≤ q6 from by rw [hq]; exact Nat.le_refl _); have HC1 := Aside0.mk hb; clear hbox hb hq) | ((with_reducible refine gate_store (t := 40) (p := 6) rfl ?_); refine store_rowE ?hg 40 (.tmp 6) (.tmp 24) ?ho ?hN q6 CS ?hx ?hy 40 _ BK6.out ?hi ?hold H1.out ?_; (case hg => rfl); (case ho => rfl); (case hN => rfl); (case hx => rfl); (case hy => rfl); (case hi => rw [HSZ.out]; exact isz40); (case hold => rw [HSZ.out]; rfl); intro w5 hw; have HC2 := Aside0.mk (show Below wr.heap.size wr w5 from by rw [hw]; exact below_setRow HC1.out HQ6.out _); have BL6 := Aside0.mk (show w5.heap[q6]? = some (.cells CS 40 (0, 0)) from by rw [hw]; exact setRow_heap _ _ _ _ _ _ BK6.out); clear hw) | ((with_reducible refine gate_dst (N := 27) rfl ?_); refine Kd.event_run (v := .agg CS) (w1 := w5) ?hg (load_runA 40 (.tmp 6) ⟨q6, 0, none⟩ CS ?ho ?hx (run_loadVar_row w5 q6 40 40 CS (0, 0) _ BL6.out Tryd.underlying40 rfl (by rw [HSZ.out]; exact isz40))) ?_; (case hg => rfl); (case ho => rfl); (case hx => rfl)))
      refine (ST.out w5 (D.out.step HC2.out)).mono ?_
      rintro e w6 ⟨rfl, es', h⟩
      have D6 := Aside0.mk h
      clear h BK6 BL6 HQ6 HC1 HC2 D ST H1 HSZ
      go_wp2_with (fail)
      refine (list_call D6.out.sad D6.out.lst.le).mono ?_
      rintro e w7 ⟨⟨v7, rfl, ho⟩, hb⟩
      obtain ⟨A7, c7, rfl, hc7, hC7⟩ := Kd.R_reads ho
      have HC7 := Aside0.mk fun (W : World) (hW : Below w7.heap.size w7 W) => Kd.C_below hC7 hW
      have D7 := Aside0.mk (D6.out.step hb)
      clear hb ho hC7 D6
      go_wp2_with (fail)
      refine (rlist_call D7.out.ref D7.out.lst.le).mono ?_
      rintro e w8 ⟨⟨v8, rfl, ho⟩, hb⟩
      obtain ⟨A8, c8, rfl, hc8, hC8⟩ := Kd.R_reads ho
      have D8 := Aside0.mk (D7.out.step hb)
      have SM := Aside0.mk (redoubtref17_Same.calls ((lives es').length + 1) A7 c7 (lives es') A8 c8 (lives es') true w8 (HC7.out w8 hb) hc7 hC8 hc8 (same_self _ (by unfold lives; rw [List.length_map]; exact D7.out.lst.le)))
      clear hb ho hC8 D7 HC7
      go_wp2_with (fail)
      refine SM.out.mono ?_
      rintro e w9 ⟨rfl, hd⟩
      have D9 := Aside0.mk (D8.out.step hd.below)
      clear hd SM D8
      go_wp2_with (fail)
      go_roundw
      case rel => exact ⟨j + 1, es', by omega, by go_num, D9⟩
      case measure => simp [intOf]; omega
    · have hltI : ¬ (j : Int) < (n : Int) := by omega
      have hltN : decide (j < n) = false := decide_eq_false hlt
      go_wp2_with (fail)
      refine (AWK.out _ D.out.below).mono ?_
      rintro e w4 ⟨rfl, hb⟩
      have HB4 := Aside0.mk (D.out.step hb).below
      clear hb
      go_wp2_with (fail)
      go_ret
      exact ⟨rfl, HB4.out⟩
theorem does_law {H : Type} {enc : TypeId × Value → H} {d : DataW H} {ps : List MemPlace} (A : Option Addr) (len c : Nat) (w : World) (hL : Laid w)
    (k : DataW.Trod enc Tryd.prog w 0 (fun _ => true) true 35 (.slice A len c) d ps) (wt : ∀ n ∈ d.weights Tryd.prog 35, n ≤ 140737488351232) :
    Calls Tryd.prog 6 #[.slice A len c] w fun e w' => e = .returned (.bool true) ∧ Below w.heap.size w w' := by
  obtain ⟨l, rfl, hc, hr, hm, hz, hs⟩ := came40 k wt
  exact does_main hL A l c hr hm hz hs
end Go.Proofs.YtkmnpnbfeiobiaaDoor.Sd

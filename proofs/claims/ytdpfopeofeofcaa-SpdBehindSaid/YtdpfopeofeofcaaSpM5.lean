/- Slices of structs that came in: their reading as a list (for the walks). Rows of calls and of flows that came in; few. What stays beside a policy: boxes and rows of rules; plain laws of the calls. (Texts of this session, put together by wip/tools/merge.py.) -/
import Derived.SizedLaws
import Derived.ChangeSlices
import Derived.Carry
import Derived.Deep.Slices
import Derived.Test.YtdpfopeofeofcaaWMore
import Derived.Test.YtdpfopeofeofcaaSpM4
import Derived.Test.YtdpfopeofeofcaaReads
import Derived.Laws.CopyOwn
import Derived.Deep.DeepCutAuto
set_option linter.unusedVariables false
set_option linter.unusedSimpArgs false
namespace Go.Proofs.Ytdpfopeofeofcaa.CameRows
open Go.Deep Go.RowKit Go.ChangeShapes Go.WideShapes Go.Proofs.YtdpfopeofeofcaaW.PrintWords Go.Proofs.YtdpfopeofeofcaaW.PrintLast Go.Proofs.YtdpfopeofeofcaaW.PrintMore
theorem weightsAll_mem {H : Type} {P : Program} {e : TypeId} {n : Nat} {d : DataW H} : ∀ {l : List (DataW H)}, d ∈ l → n ∈ d.weights P e → n ∈ DataW.weightsAll P e l
  | [], h, _ => by simp at h
  | x :: l, h, hn => by
    unfold DataW.weightsAll
    rcases List.mem_cons.mp h with rfl | h
    · exact List.mem_append.mpr (Or.inl hn)
    · exact List.mem_append.mpr (Or.inr (weightsAll_mem h hn))
theorem rows {H α : Type} {enc : TypeId × Value → H} {P : Program} {W : World} {t e : TypeId} {A : Option Addr} {len cap : Nat} {d : DataW H} {ps : List MemPlace} (k : Kd α) (z : α) {B : Nat}
    (ht : P.underlying t = some (.slice e)) (hc : P.cellsOf e = k.sz) (Q : α → Prop)
    (hrd : ∀ (cs : List Value) (d' : DataW H) (ps' : List MemPlace) (m : Nat), DataW.trod enc P W 0 (fun _ => true) true m e cs = some (d', ps') → (∀ n ∈ d'.weights P e, n ≤ B) → ∃ x, k.K W x cs ∧ Q x)
    (h : DataW.Trod enc P W 0 (fun _ => true) true t (.slice A len cap) d ps) (wt : ∀ n ∈ d.weights P t, n ≤ B) :
    ∃ l : List α, len = l.length ∧ l.length ≤ cap ∧ k.C W A l.length l ∧ l.length ≤ maxLen ∧ ∀ x ∈ l, Q x := by
  obtain ⟨fuel, hf⟩ := h
  rcases open_slice ht hf with ⟨hcs, _⟩ | ⟨a, n, c, m, kk, D, Pl, hcs, _, hl, hm, hmm, hx, hel⟩
  · simp [Value.cells] at hcs
    obtain ⟨rfl, rfl, rfl⟩ := hcs
    exact ⟨[], rfl, Nat.le_refl _, Kd.C_nil k W, Nat.zero_le _, by simp⟩
  · simp [Value.cells] at hcs
    obtain ⟨rfl, rfl, rfl⟩ := hcs
    rw [hc] at hel
    have hd : d = DataW.slice ((List.range len).map D) ((List.range (m - len)).map fun j => D (len + j)) := congrArg Prod.fst hx
    haveI : Inhabited α := ⟨z⟩
    obtain ⟨f, hF⟩ := choose_lt (α := α) (n := len) (p := fun i x => (∃ cs, cs.length = k.sz ∧ k.K W x cs ∧ ∀ j u, cs[j]? = some u → W.cell? (a.add (i * k.sz + j)) = some u) ∧ Q x) (fun i hi => by
      obtain ⟨cs', h1, h2⟩ := hel i (by rw [hmm]; simp; omega)
      obtain ⟨_, hlen, hcell⟩ := World.cells?_some h1
      obtain ⟨x, hK, hQ⟩ := hrd cs' _ _ _ h2 (fun n hn => wt n (by
        rw [hd]
        unfold DataW.weights
        rw [ht]
        refine List.mem_cons.mpr (Or.inr (List.mem_append.mpr (Or.inl (weightsAll_mem (d := D i) ?_ hn))))
        exact List.mem_map.mpr ⟨i, List.mem_range.mpr hi, rfl⟩))
      refine ⟨x, ⟨cs', hlen, hK, fun j u hj => ?_⟩, hQ⟩
      have hjl := (List.getElem?_eq_some_iff.1 hj).1
      rw [← Deep.add_add, hcell j (by omega)]
      exact hj)
    have hlm : ((List.range len).map f).length = len := by simp
    refine ⟨(List.range len).map f, hlm.symm, by rw [hlm]; exact hl, ⟨rfl, by rw [hlm]; unfold maxLen at hm; omega, fun hp => ⟨a, rfl, fun j p hj => ?_⟩⟩, by rw [hlm]; omega, fun x hx => ?_⟩
    · rw [List.getElem?_map] at hj
      obtain ⟨i, hi, rfl⟩ := Option.map_eq_some_iff.1 hj
      have hil : j < len := by
        have := (List.getElem?_eq_some_iff.1 hi).1
        simpa using this
      rw [List.getElem?_range hil] at hi
      injection hi with hi
      subst hi
      exact (hF j hil).1
    · obtain ⟨i, hi, rfl⟩ := List.mem_map.mp hx
      exact (hF i (List.mem_range.mp hi)).2
end Go.Proofs.Ytdpfopeofeofcaa.CameRows
namespace Go.Proofs.Ytdpfopeofeofcaa.Sp
open Go.RowKit Go.Proofs.YtdpfopeofeofcaaW.PrintWords Go.Proofs.YtdpfopeofeofcaaW.PrintLast Go.Proofs.YtdpfopeofeofcaaW.PrintMore Go.Proofs.Ytdpfopeofeofcaa.QSp
open Go.Proofs.Ytdpfopeofeofcaa
set_option linter.unusedVariables false
set_option linter.unusedSimpArgs false
/-- The strings are no longer than memory. -/
def FitO (x : S37) : Prop := x.f2.f1.f0.f0.size ≤ 140737488351232 ∧ x.f2.f1.f0.f1.size ≤ 140737488351232
theorem came37 {H : Type} {enc : TypeId × Value → H} {W : World} {A : Option Addr} {len cap : Nat} {d : DataW H} {ps : List MemPlace}
    (h : DataW.Trod enc Try.prog W 0 (fun _ => true) true 22 (.slice A len cap) d ps) (wt : ∀ n ∈ d.weights Try.prog 22, n ≤ 140737488351232) :
    ∃ l : List S37, len = l.length ∧ l.length ≤ cap ∧ k37.C W A l.length l ∧ l.length ≤ maxLen ∧ ∀ x ∈ l, True := by
  refine CameRows.rows k37 z37 Try.underlying22 (by kernel_rfl) (fun _ => True) (fun cs d' ps' m h wt => ?_) h wt
  obtain ⟨x0, x1, x2, x3, x4, x5, x6, x7, x8, x9, x10, x11, x12, x13, x14, x15, x16, x17, x18, x19, x20, x21, x22, x23, rfl, _⟩ := Reads.rd37 h
  exact ⟨⟨x0, x1, ⟨x2, ⟨⟨x3, x4⟩, ⟨x5, x6⟩, x7, ⟨x8, x9⟩, ⟨x10, x11⟩⟩, x12, x13, x14, x15, x16, x17⟩, ⟨x18, x19, x20, x21, x22⟩, x23⟩, k37_mk _ _, trivial⟩
theorem came24 {H : Type} {enc : TypeId × Value → H} {W : World} {A : Option Addr} {len cap : Nat} {d : DataW H} {ps : List MemPlace}
    (h : DataW.Trod enc Try.prog W 0 (fun _ => true) true 48 (.slice A len cap) d ps) (wt : ∀ n ∈ d.weights Try.prog 48, n ≤ 140737488351232) :
    ∃ l : List S24, len = l.length ∧ l.length ≤ cap ∧ k24.C W A l.length l ∧ l.length ≤ maxLen ∧ ∀ x ∈ l, True := by
  refine CameRows.rows k24 z24 Try.underlying48 (by kernel_rfl) (fun _ => True) (fun cs d' ps' m h wt => ?_) h wt
  obtain ⟨x0, x1, x2, x3, x4, rfl, _⟩ := Reads.rd24 h
  exact ⟨⟨x0, x1, x2, x3, x4⟩, k24_mk _ _, trivial⟩
def enc37 (x : S37) : List Value := [.int .i64 x.f0, .int .i64 x.f1, .int .i64 x.f2.f0, .string x.f2.f1.f0.f0, .string x.f2.f1.f0.f1, .string x.f2.f1.f1.f0, .string x.f2.f1.f1.f1, .int .i64 x.f2.f1.f2, .int .i64 x.f2.f1.f3.f0, .int .i64 x.f2.f1.f3.f1, .int .i64 x.f2.f1.f4.f0, .int .i64 x.f2.f1.f4.f1, .bool x.f2.f2, .bool x.f2.f3, .int .i64 x.f2.f4, .bool x.f2.f5, .string x.f2.f6, .string x.f2.f7, .string x.f3.f0, .string x.f3.f1, .int .i64 x.f3.f2, .int .i64 x.f3.f3, .int .i64 x.f3.f4, .bool x.f4]
theorem enc37_eq (x : S37) : enc37 x = [.int .i64 x.f0, .int .i64 x.f1] ++ enc35 x.f2 ++ [.string x.f3.f0, .string x.f3.f1, .int .i64 x.f3.f2, .int .i64 x.f3.f3, .int .i64 x.f3.f4, .bool x.f4] := rfl
/-- A call in a row. -/
theorem row37 {W : World} {A : Option Addr} {n : Nat} {xs : List S37} (h : Kd.C k37 W A n xs) (i : Nat) (hi : i < n) :
    ∃ ad, A = some ad ∧ (∀ j u, (enc37 (xs.getD i z37))[j]? = some u → W.cell? (ad.add (i * 24 + j)) = some u) ∧ (loadVar 35 ⟨(ad.add (i * 24)).block, (ad.add (i * 24)).off + 2, none⟩).run Try.prog W = .ok (.agg (enc35 (xs.getD i z37).f2).toArray) W := by
  obtain ⟨ad, c, e, _, hK, hc0⟩ := Kd.C_get h z37 (i : Int) (by omega) (by omega)
  rw [Int.toNat_natCast] at hK hc0
  have hc : ∀ j u, c[j]? = some u → W.cell? (ad.add (i * 24 + j)) = some u := hc0
  obtain rfl : c = enc37 (xs.getD i z37) := k37_open hK
  refine ⟨ad, e, hc, ?_⟩
  rw [← add_field _ _ 2 (by omega)]
  have hl := run_loadCells_list (P := Try.prog) W (ad.add (i * 24 + 2)) (enc35 (xs.getD i z37).f2) (fun j v hv => by
    rw [Deep.add_add, Nat.add_assoc]
    have hj : j < 16 := (List.getElem?_eq_some_iff.1 hv).1
    refine hc (2 + j) v ?_
    rw [enc37_eq, List.append_assoc, List.getElem?_append_right (by simp), List.getElem?_append_left (by show 2 + j - 2 < 16; omega)]
    rw [show 2 + j - [Value.int .i64 (xs.getD i z37).f0, .int .i64 (xs.getD i z37).f1].length = j by simp]
    exact hv)
  have hs : (enc35 (xs.getD i z37).f2).length = 16 := rfl
  rw [hs] at hl
  have hi35 := isz35
  cases hq : Try.prog.info? 35 with
  | none => rw [hq] at hi35; cases hi35
  | some inf =>
    have hs : inf.size = 16 := by rw [hq] at hi35; simpa using hi35
    have hagg : (isAgg 35).run Try.prog W = .ok true W := by
      unfold isAgg
      rw [Sem.run_bind, run_underlying Try.underlying35 W]
      rfl
    simp only [loadVar, Sem.run_bind, hagg, sizeOf, typeInfo, hq, hs, hl, Result.andThen_ok, if_true, Sem.run_pure]
    simp [hq, hs, hl]
theorem store_rowE {P : Program} {ops : Array Oper} {Q : Exit → Act → World → Prop} {rest : List Oper} {o : Oper} {a : Act} {w : World} (hgd : o.guard = none) (ty : TypeId) (x y : Operand) (ho : o.op = .store ty x y) (hN : o.dst = none)
    (g : Nat) (cells : Array Value) (hx : a.eval x = .pointer (some ⟨g, 0, none⟩)) (hy : a.eval y = .agg cells)
    (t : TypeId) (old : Array Value) (hg : w.heap[g]? = some (.cells old t (0, 0))) (hi : (P.info? ty).map (·.size) = some cells.size)
    (hold : old.size = cells.size) (h1 : cells.all (·.oneCell') = true)
    (h : ∀ w', w' = w.setRow g cells → wpList P ops Q rest a w') : wpList P ops Q (o :: rest) a w := by
  refine wpList_store_row hgd ty x y ho g cells hx hy t old hg hi hold h1 ?_
  rw [hN]
  exact h _ rfl
theorem one35 (x : S35) : (enc35 x).toArray.all (·.oneCell') = true := by
  rw [Array.all_eq_true_iff_forall_mem]
  intro u hu
  exact enc_one x u (by simpa using hu)
set_option maxHeartbeats 3200000 in
set_option maxRecDepth 100000 in
theorem few_walk (A : Option Addr) (c : Nat) (l : List S37) (w : World) (hr : Kd.C k37 w A l.length l) (hl : l.length ≤ maxLen) :
    Calls Try.prog 7 #[.slice A l.length c] w fun e w' => (∃ b, e = .returned (.bool b) ∧ (b = true → l.length ≤ 120)) ∧ Below w.heap.size w w' := by
  have HR := Aside0.mk fun (W : World) (hb : Below w.heap.size w W) => Kd.C_below hr hb
  have HB := Aside0.mk (Below.refl w.heap.size w)
  obtain ⟨n, hn⟩ : ∃ n, l.length = n := ⟨_, rfl⟩
  rw [hn] at hl HR ⊢
  clear hr hn
  unfold maxLen at hl
  by_cases h120 : 120 < n
  · have d1 : decide ((120 : Int) < (n : Int)) = true := decide_eq_true (by omega)
    clear h120
    go_enter Try.func7, Try.ntmps7
    go_wp2_with (fail)
    go_ret
    exact ⟨⟨_, rfl, fun h => by cases h⟩, HB.out⟩
  have d1 : decide ((120 : Int) < (n : Int)) = false := decide_eq_false (by omega)
  go_enter Try.func7, Try.ntmps7
  go_wp2_with (fail)
  clear d1
  go_loopw [3] (fun iv wr => ∃ i : Nat, i ≤ n ∧ iv = .int .i64 i ∧ Aside0 (Below w.heap.size w wr)) (fun iv _ => n - (intOf iv).toNat)
  case atStart => exact ⟨0, by omega, rfl, HB⟩
  case round =>
    clear HB
    obtain ⟨i, hin, rfl, HB⟩ := hrel
    by_cases hlt : i < n
    · have hd : decide ((i : Int) < (n : Int)) = true := decide_eq_true (by omega)
      have hd' : decide (i < n) = true := decide_eq_true hlt
      obtain ⟨ad, hA, hcs, LD⟩ := row37 (HR.out _ HB.out) i hlt
      subst hA
      obtain ⟨x, hx⟩ : ∃ x, l.getD i z37 = x := ⟨_, rfl⟩
      rw [hx] at hcs LD
      clear hx
      have H1C := one35 x.f2
      obtain ⟨CS, hCS⟩ : ∃ CS, (enc35 x.f2).toArray = CS := ⟨_, rfl⟩
      rw [hCS] at LD H1C
      have HCS2 := Aside0.mk hCS
      have H1 := Aside0.mk H1C
      have HSZ := Aside0.mk (show CS.size = 16 from by rw [← hCS]; rfl)
      clear hCS H1C
      have HCS := Aside0.mk fun (W : World) (hb : Below wr.heap.size wr W) j u (h : (enc37 x)[j]? = some u) => pw_cell_below hb (hcs j u h)
      clear hcs
      have HBR := Aside0.mk (Below.refl wr.heap.size wr)
      have hi1 : IntKind.i64.wrap ((i : Int) + 1) = ((i + 1 : Nat) : Int) := by rw [IntWalk.i64_in _ (by omega)]; omega
      have hinI : (i : Int) < (n : Int) := by omega
      go_upto_region 7 with (first | ((with_reducible refine gate_dst (N := 19) rfl ?_); refine Kd.event_run (v := .agg CS) (w1 := wr) ?hg (load_runA 35 (.tmp 18) ⟨(ad.add (i * 24)).block, (ad.add (i * 24)).off + 2, none⟩ CS ?ho ?hx LD) ?_; (case hg => rfl); (case ho => rfl); (case hx => rfl); clear LD) | ((with_reducible refine gate_dst (N := 4) rfl ?_); refine box_event ?hg (N := 4) ?hd (cs := #[.int .i64 0, .string ByteArray.empty, .string ByteArray.empty, .string ByteArray.empty, .string ByteArray.empty, .int .i64 0, .int .i64 0, .int .i64 0, .int .i64 0, .int .i64 0, .bool false, .bool false, .int .i64 0, .bool false, .string ByteArray.empty, .string ByteArray.empty]) (t := 35) ?hr ?_; (case hd => rfl); (case hg => rfl); (case hr => first | (go_simp; done) | (go_simp; rfl)); intro q4 hq w1 hbox hb; have BKq4 := Aside0.mk hbox; have HQq4 := Aside0.mk (show w.heap.size ≤ q4 from by rw [hq]; exact HB.out.size); have HB1 := Aside0.mk (HB.out.trans (hb.mono HB.out.size)); have HC1 := Aside0.mk (show Below wr.heap.size wr w1 from hb); have HY4 := Aside0.mk (show wr.heap.size ≤ q4 from by rw [hq]; exact Nat.le_refl _); clear hbox hb hq) | ((with_reducible refine gate_store (t := 35) (p := 4) rfl ?_); refine store_rowE ?hg 35 (.tmp 4) (.tmp 19) ?ho ?hN q4 CS ?hx ?hy 35 _ BKq4.out ?hi ?hold H1.out ?_; (case hg => rfl); (case ho => rfl); (case hN => rfl); (case hx => rfl); (case hy => rfl); (case hi => rw [HSZ.out]; exact isz35); (case hold => rw [HSZ.out]; rfl); intro w2 hw; have HC2 := Aside0.mk (show Below wr.heap.size wr w2 from by rw [hw]; exact below_setRow HC1.out HY4.out _); have HB2 := Aside0.mk (show Below w.heap.size w w2 from by rw [hw]; exact below_setRow HB1.out HQq4.out _); have BKq4 := Aside0.mk (show w2.heap[q4]? = some (.cells CS 35 (0, 0)) from by rw [hw]; exact setRow_heap _ _ _ _ _ _ BKq4.out); clear hw))
      have z1 : w2.cell? ⟨q4, 1, none⟩ = some (.string x.f2.f1.f0.f0) := (blk_cell BKq4.out 1).trans (by rw [← HCS2.out]; rfl)
      have z2 : w2.cell? ⟨q4, 2, none⟩ = some (.string x.f2.f1.f0.f1) := (blk_cell BKq4.out 2).trans (by rw [← HCS2.out]; rfl)
      have z3 : w2.cell? ⟨q4, 3, none⟩ = some (.string x.f2.f1.f1.f0) := (blk_cell BKq4.out 3).trans (by rw [← HCS2.out]; rfl)
      have z4 : w2.cell? ⟨q4, 4, none⟩ = some (.string x.f2.f1.f1.f1) := (blk_cell BKq4.out 4).trans (by rw [← HCS2.out]; rfl)
      have z14 : w2.cell? ⟨q4, 14, none⟩ = some (.string x.f2.f6) := (blk_cell BKq4.out 14).trans (by rw [← HCS2.out]; rfl)
      have z15 : w2.cell? ⟨q4, 15, none⟩ = some (.string x.f2.f7) := (blk_cell BKq4.out 15).trans (by rw [← HCS2.out]; rfl)
      have k18 : w2.cell? ⟨(ad.add (i * 24)).block, (ad.add (i * 24)).off + 18, none⟩ = some (.string x.f3.f0) := by rw [← add_field _ _ 18 (by omega)]; exact HCS.out w2 HC2.out 18 _ rfl
      have k19 : w2.cell? ⟨(ad.add (i * 24)).block, (ad.add (i * 24)).off + 19, none⟩ = some (.string x.f3.f1) := by rw [← add_field _ _ 19 (by omega)]; exact HCS.out w2 HC2.out 19 _ rfl
      (try simp only [Act.put, List.setIfInBounds_toArray, List.set_cons_zero, List.set_cons_succ])
      go_cut [5] (fun v5 wc => Aside0 (∃ s : Int, v5 = .int .i64 s) ∧ Aside0 (Below w.heap.size w wc))
      case first =>
        go_quiet (fail)

        go_wp2
        go_meet
        case rel => exact ⟨⟨_, rfl⟩, ⟨by first | exact HB2.out | exact below_drew HB2.out | exact pw_below_drewN HB2.out _⟩⟩
      case rest =>
        obtain ⟨hs, HB3⟩ := hcut
        obtain ⟨s5, rfl⟩ := hs.out
        clear hs
        by_cases h6 : 600 < s5
        · have d6 : decide (600 < s5) = true := decide_eq_true h6
          go_wp2_with (fail)
          go_ret
          exact ⟨⟨_, rfl, fun h => by cases h⟩, HB3.out⟩
        · have d6 : decide (600 < s5) = false := decide_eq_false h6
          go_wp2_with (fail)
          go_roundw
          case rel => exact ⟨i + 1, by omega, by go_num, HB3⟩
          case measure => simp [intOf]; omega
    · have hd : decide ((i : Int) < (n : Int)) = false := decide_eq_false (by omega)
      have hd' : decide (i < n) = false := decide_eq_false hlt
      go_wp2_with (fail)
      go_ret
      exact ⟨⟨_, rfl, fun _ => by omega⟩, HB.out⟩
end Go.Proofs.Ytdpfopeofeofcaa.Sp
namespace Go.Proofs.Ytdpfopeofeofcaa.Sp
open Go.RowKit Go.Proofs.YtdpfopeofeofcaaW.PrintWords Go.Proofs.YtdpfopeofeofcaaW.PrintLast Go.Proofs.YtdpfopeofeofcaaW.PrintMore Go.Proofs.Ytdpfopeofeofcaa.QSp
open Go.Proofs.Ytdpfopeofeofcaa
set_option linter.unusedVariables false
set_option linter.unusedSimpArgs false
/-- Two rows lie apart. -/
def Apart (v v' : Value) : Prop := ∀ k, v.ownBlock = some k → v'.ownBlock ≠ some k
/-- A box of a rule beside a policy. -/
structure Bx (w : World) (v : Value) (g : Nat) (cs : Array Value) : Prop where
  blk : w.heap[g]? = some (.cells cs 35 (0, 0))
  off : some g ≠ v.ownBlock
theorem Bx.step {w w' : World} {g : Nat} {v : Value} {cs : Array Value} (h : Bx w v g cs) (hb : Below w.heap.size w w') : Bx w' v g cs := ⟨blk_below h.blk hb, h.off⟩
theorem Bx.turn {w w' : World} {base q m g : Nat} {v v' : Value} {cs : Array Value} {L : List S35} (h : Bx w v g cs) (ht : SpdO w base q m v L) (hu : Turn w w' q m v v') : Bx w' v' g cs := by
  obtain ⟨es, c, hm, _⟩ := ht.map
  exact ⟨(hu.block g (blk_lt h.blk) (blk_ne h.blk ht.blk (by decide)) (blk_neM h.blk hm) h.off).trans h.blk, fun e => (hu.row g e.symm).elim (fun h1 => h.off h1.symm) (fun h1 => by have := blk_lt h.blk; omega)⟩
/-- A row beside a policy. -/
structure Rw (w : World) (v u : Value) (l : List S35) : Prop where
  own : OwnT w 0 u l
  apart : Apart v u
theorem Rw.step {w w' : World} {v u : Value} {l : List S35} (h : Rw w v u l) (hb : Below w.heap.size w w') : Rw w' v u l := ⟨pw_own_below h.own hb, h.apart⟩
theorem Rw.turn {w w' : World} {base q m : Nat} {v v' u : Value} {l L : List S35} (h : Rw w v u l) (ht : SpdO w base q m v L) (hu : Turn w w' q m v v') : Rw w' v' u l := by
  obtain ⟨es, c, hm, _⟩ := ht.map
  exact ⟨own_move h.own fun k hk => hu.block k (own_lt h.own k hk) (fun e => own_neT h.own ht.blk (by decide) (by rw [← e, hk])) (fun e => own_neM h.own hm (by rw [← e, hk])) (fun e => h.apart k e.symm hk),
    fun k hk hk' => (hu.row k hk).elim (fun h1 => h.apart k h1 hk') (fun h1 => by have := own_lt h.own k hk'; omega)⟩
theorem Rw.new {w w' : World} {base q m : Nat} {v u : Value} {l L : List S35} (ht : SpdO w base q m v L) (h : k35.R 35 w' w.heap.size (fun _ => True) u l) : Rw w' v u l :=
  ⟨own_less (own_of_R h) (Nat.zero_le _), fun k hk hk' => by have h1 := own_lt ht.own k hk; have h2 := own_base (own_of_R h) k hk'; omega⟩
theorem Rw.read {w : World} {n c : Nat} {A : Option Addr} {v : Value} {l : List S35} (h : Rw w v (.slice A n c) l) : k35.C w A l.length l := (Kd.R_reads' (R_of_own h.own)).2.2
theorem ins_getD (L : List S35) (x : S35) (i j : Nat) (hi : i ≤ L.length) : (L.take i ++ x :: L.drop i).getD j z35 = if j < i then L.getD j z35 else if j = i then x else L.getD (j - 1) z35 := by
  have hl : (L.take i).length = i := by rw [List.length_take]; omega
  simp only [List.getD_eq_getElem?_getD]
  by_cases h1 : j < i
  · rw [if_pos h1, List.getElem?_append_left (by omega), List.getElem?_take, if_pos h1]
  · rw [if_neg h1, List.getElem?_append_right (by omega), hl]
    by_cases h2 : j = i
    · rw [if_pos h2, h2, Nat.sub_self]
      rfl
    · rw [if_neg h2]
      obtain ⟨k, rfl⟩ : ∃ k, j = i + k + 1 := ⟨j - i - 1, by omega⟩
      rw [show i + k + 1 - i = k + 1 by omega, List.getElem?_cons_succ, List.getElem?_drop, show i + k + 1 - 1 = i + k by omega]
theorem erase_ins (L : List S35) (x : S35) (i : Nat) (hi : i ≤ L.length) : (L.take i ++ x :: L.drop i).eraseIdx i = L := by
  rw [List.eraseIdx_eq_take_drop_succ]
  have hl : (L.take i).length = i := by rw [List.length_take]; omega
  rw [show (L.take i ++ x :: L.drop i).take i = L.take i from List.take_left' hl, show i + 1 = (L.take i ++ [x]).length by rw [List.length_append, hl]; rfl, show L.take i ++ x :: L.drop i = (L.take i ++ [x]) ++ L.drop i by simp, List.drop_left, List.take_append_drop]
theorem ins_len (L : List S35) (x : S35) (i : Nat) (hi : i ≤ L.length) : (L.take i ++ x :: L.drop i).length = L.length + 1 := by simp only [List.length_append, List.length_take, List.length_cons, List.length_drop]; omega
/-- Add: it is refused and nothing turns, or the rule lies at its place. -/
theorem addF_cases (L : List S35) (i : Int) (r : S35) : ((addF L i r).2 ≠ 0 ∧ (addF L i r).1 = L) ∨ (∃ j : Nat, i = (j : Int) ∧ j ≤ L.length ∧ L.length < 64 ∧ addF L i r = (L.take j ++ r :: L.drop j, 0)) := by
  unfold addF
  by_cases h1 : checkE r = 0
  · rw [if_pos h1]
    by_cases h2 : i < 0
    · rw [if_pos h2]; exact .inl ⟨by simp, rfl⟩
    · rw [if_neg h2]
      by_cases h3 : (L.length : Int) < i
      · rw [if_pos h3]; exact .inl ⟨by simp, rfl⟩
      · rw [if_neg h3]
        by_cases h4 : (64 : Int) ≤ (L.length : Int)
        · rw [if_pos h4]; exact .inl ⟨by simp, rfl⟩
        · rw [if_neg h4]
          obtain ⟨j, rfl⟩ : ∃ j : Nat, i = (j : Int) := ⟨i.toNat, by omega⟩
          exact .inr ⟨j, rfl, by omega, by omega, rfl⟩
  · rw [if_neg h1]; exact .inl ⟨by simp, rfl⟩
theorem addF_len {L : List S35} (h : L.length ≤ 64) (i : Int) (r : S35) : (addF L i r).1.length ≤ 64 := by
  rcases addF_cases L i r with ⟨_, e⟩ | ⟨j, rfl, hj, hl, e⟩
  · rw [e]; exact h
  · rw [e]; show (L.take j ++ r :: L.drop j).length ≤ 64; rw [ins_len _ _ _ hj]; omega
theorem remF_len {L : List S35} (h : L.length ≤ 64) (i : Int) : (remF L i).1.length ≤ 64 := by
  unfold remF
  split
  · exact h
  · split
    · exact h
    · exact Nat.le_trans (List.length_eraseIdx_le _ _) h
theorem rem_add (L : List S35) (r : S35) (j : Nat) (hj : j ≤ L.length) : remF (L.take j ++ r :: L.drop j) (j : Int) = (L, 0) := by
  unfold remF
  rw [if_neg (by omega), ins_len _ _ _ hj, if_neg (by omega), Int.toNat_natCast, erase_ins _ _ _ hj]
theorem eq_self (r : S35) (W : World) : (Op.equal 35 (.agg (enc35 r).toArray) (.agg (enc35 r).toArray)).run Try.prog W = .ok true W := by
  refine (eqA35 _ W r.f0 r.f0 r.f1.f0.f0 r.f1.f0.f0 r.f1.f0.f1 r.f1.f0.f1 r.f1.f1.f0 r.f1.f1.f0 r.f1.f1.f1 r.f1.f1.f1 r.f1.f2 r.f1.f2 r.f1.f3.f0 r.f1.f3.f0 r.f1.f3.f1 r.f1.f3.f1 r.f1.f4.f0 r.f1.f4.f0 r.f1.f4.f1 r.f1.f4.f1 r.f2 r.f2 r.f3 r.f3 r.f4 r.f4 r.f5 r.f5 r.f6 r.f6 r.f7 r.f7).trans ?_
  simp only [beq_self_eq_true, Bool.and_self]
/-- A call of its own with a rule. -/
def opOf (r : S35) : S37 := ⟨0, 0, r, z24, false⟩
theorem one37 {w : World} {vb : Nat} {x : S37} (h : w.heap[vb]? = some (.cells (enc37 x).toArray 37 (0, 0))) : Kd.C k37 w (some ⟨vb, 0, none⟩) 1 [x] :=
  ⟨rfl, by omega, fun _ => ⟨_, rfl, fun j p hj => by
    obtain ⟨rfl, rfl⟩ : j = 0 ∧ x = p := by
      cases j with
      | zero => exact ⟨rfl, by simpa using hj⟩
      | succ j => simp at hj
    refine ⟨enc37 x, rfl, k37_mk _ _, fun i u hu => ?_⟩
    rw [Nat.zero_mul, Nat.zero_add, add_plain, blk_cell h]
    simpa using hu⟩⟩
end Go.Proofs.Ytdpfopeofeofcaa.Sp

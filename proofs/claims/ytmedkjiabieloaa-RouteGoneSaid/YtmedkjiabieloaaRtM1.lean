/- copy and append(s, make(..)...) over rows whose elements are several cells. Cells of a block stored one behind the other. Operations of a drawn region that make memory or call, in whatever order they come up: each is shown once. addr.Mask. route.prefix. redoubtref02.Mask, redoubtref18.prefix. redoubtref02.Mask: the walk. redoubtref02.Mask refusing; redoubtref18.prefix. route.New; rising as a plain order. (Texts of this session, put together by wip/tools/merge.py.) -/
import Derived.Test.YtmedkjiabieloaaWWords
import Derived.Laws.CopyRow
import Derived.Test.YtmedkjiabieloaaWLast
import Derived.Below
import Derived.Test.YtmedkjiabieloaaQRdx8
import Derived.Test.YtmedkjiabieloaaQRdx29
import Derived.BigQuiet
import Derived.WalkLawsBesides
import Derived.Test.YtmedkjiabieloaaQRdx25
namespace Go.Proofs.Ytmedkjiabieloaa.CopyRows
open Go.RowKit Go.Proofs.YtmedkjiabieloaaW.PrintWords
variable {P : Program}
theorem run_copy_rowZ (w : World) (dT sT ty elem : TypeId) (g o dLen dCap : Nat) (a : Addr) (sLen sCap : Nat) (cur : Array Value) (t : TypeId) (cs : List Value) (z : Nat)
    (hu : P.underlying dT = some (.slice elem)) (hs : (P.info? elem).map (·.size) = some z)
    (hg : w.heap[g]? = some (.cells cur t (0, 0))) (hn : cs.length = Nat.min sLen dLen * z)
    (hsrc : ∀ j v, cs[j]? = some v → w.cell? (a.add j) = some v) (hfit : o + cs.length ≤ cur.size) (h1 : ∀ v ∈ cs, v.oneCell' = true) :
    (Builtin.copy_ #[dT, sT] ty #[.slice (some ⟨g, o, none⟩) dLen dCap, .slice (some a) sLen sCap]).run P w =
      .ok (goInt (Nat.min sLen dLen)) (w.setRow g (cur.toList.take o ++ cs ++ cur.toList.drop (o + cs.length)).toArray) := by
  have hl := run_loadCells_list (P := P) w a cs hsrc
  have hst := run_storeCells_at P g o t cs 0 cur w hg (by simpa using hfit) h1
  cases hq : P.info? elem with
  | none => simp [hq] at hs
  | some i =>
    have hi : i.size = z := by simpa [hq] using hs
    simp [Builtin.copy_, run_underlying hu, Builtin.lenOf, Builtin.firstCells, sizeOf, typeInfo, hq, hi, ← hn, hl, hst]
end Go.Proofs.Ytmedkjiabieloaa.CopyRows
namespace Go.Proofs.Ytmedkjiabieloaa.Cells
open Go.RowKit Go.Proofs.YtmedkjiabieloaaW.PrintWords
def setAll (w : World) (q : Nat) : Nat → List Value → World
  | _, [] => w
  | i, v :: l => setAll (w.setCell ⟨q, i, none⟩ v) q (i + 1) l
def setA (cs : Array Value) : Nat → List Value → Array Value
  | _, [] => cs
  | i, v :: l => setA (cs.setIfInBounds i v) (i + 1) l
theorem setAll_far {g q : Nat} (h : g ≠ q) : ∀ (l : List Value) (i : Nat) (w : World), (setAll w q i l).heap[g]? = w.heap[g]?
  | [], _, _ => rfl
  | v :: l, i, w => by rw [setAll, setAll_far h l]; exact Below.heap_setCell w _ v g h
theorem setAll_blk {q : Nat} {t : TypeId} : ∀ (l : List Value) (i : Nat) (w : World) (cs : Array Value), w.heap[q]? = some (.cells cs t (0, 0)) → (setAll w q i l).heap[q]? = some (.cells (setA cs i l) t (0, 0))
  | [], _, _, _, h => h
  | v :: l, i, w, cs, h => by rw [setAll, setA]; exact setAll_blk l _ _ _ (blk_set h i v)
theorem setAll_below {B q : Nat} {w0 : World} (hq : B ≤ q) : ∀ (l : List Value) (i : Nat) (w : World), Below B w0 w → Below B w0 (setAll w q i l)
  | [], _, _, h => h
  | v :: l, i, w, h => by rw [setAll]; exact setAll_below hq l _ _ (Below.setCell h hq v)
theorem setAll_R {α : Type} {d : Kd α} {e : TypeId} {base q : Nat} {ok : Nat → Prop} {v : Value} {xs : List α} {t : TypeId} (ht : ∀ k, k ∈ e :: d.E → k ≠ t) : ∀ (l : List Value) (i : Nat) (w : World) (cs : Array Value), w.heap[q]? = some (.cells cs t (0, 0)) → d.R e w base ok v xs → d.R e (setAll w q i l) base ok v xs
  | [], _, _, _, _, h => h
  | u :: l, i, w, cs, hb, h => by rw [setAll]; exact setAll_R ht l _ _ _ (blk_set hb i u) (Kd.R_set h hb ht i u)
theorem setAll_size (q : Nat) : ∀ (l : List Value) (i : Nat) (w : World), (setAll w q i l).heap.size = w.heap.size
  | [], _, _ => rfl
  | v :: l, i, w => by rw [setAll, setAll_size q l]; simp [World.setCell]
theorem stored2 {w : World} {q : Nat} {t : TypeId} {z0 z1 v0 v1 : Value} (h : w.heap[q]? = some (.cells #[z0, z1] t (0, 0))) : (setAll w q 0 [v0, v1]).heap[q]? = some (.cells #[v0, v1] t (0, 0)) := by
  have := setAll_blk [v0, v1] 0 w _ h
  simpa [setA] using this
theorem stored3 {w : World} {q : Nat} {t : TypeId} {z0 z1 z2 v0 v1 v2 : Value} (h : w.heap[q]? = some (.cells #[z0, z1, z2] t (0, 0))) : (setAll w q 0 [v0, v1, v2]).heap[q]? = some (.cells #[v0, v1, v2] t (0, 0)) := by
  have := setAll_blk [v0, v1, v2] 0 w _ h
  simpa [setA] using this
theorem stored4 {w : World} {q : Nat} {t : TypeId} {z0 z1 z2 z3 v0 v1 v2 v3 : Value} (h : w.heap[q]? = some (.cells #[z0, z1, z2, z3] t (0, 0))) : (setAll w q 0 [v0, v1, v2, v3]).heap[q]? = some (.cells #[v0, v1, v2, v3] t (0, 0)) := by
  have := setAll_blk [v0, v1, v2, v3] 0 w _ h
  simpa [setA] using this
theorem stored5 {w : World} {q : Nat} {t : TypeId} {z0 z1 z2 z3 z4 v0 v1 v2 v3 v4 : Value} (h : w.heap[q]? = some (.cells #[z0, z1, z2, z3, z4] t (0, 0))) : (setAll w q 0 [v0, v1, v2, v3, v4]).heap[q]? = some (.cells #[v0, v1, v2, v3, v4] t (0, 0)) := by
  have := setAll_blk [v0, v1, v2, v3, v4] 0 w _ h
  simpa [setA] using this
theorem stored6 {w : World} {q : Nat} {t : TypeId} {z0 z1 z2 z3 z4 z5 v0 v1 v2 v3 v4 v5 : Value} (h : w.heap[q]? = some (.cells #[z0, z1, z2, z3, z4, z5] t (0, 0))) : (setAll w q 0 [v0, v1, v2, v3, v4, v5]).heap[q]? = some (.cells #[v0, v1, v2, v3, v4, v5] t (0, 0)) := by
  have := setAll_blk [v0, v1, v2, v3, v4, v5] 0 w _ h
  simpa [setA] using this
theorem stored8 {w : World} {q : Nat} {t : TypeId} {z0 z1 z2 z3 z4 z5 z6 z7 v0 v1 v2 v3 v4 v5 v6 v7 : Value} (h : w.heap[q]? = some (.cells #[z0, z1, z2, z3, z4, z5, z6, z7] t (0, 0))) : (setAll w q 0 [v0, v1, v2, v3, v4, v5, v6, v7]).heap[q]? = some (.cells #[v0, v1, v2, v3, v4, v5, v6, v7] t (0, 0)) := by
  have := setAll_blk [v0, v1, v2, v3, v4, v5, v6, v7] 0 w _ h
  simpa [setA] using this
/-- What lies below stays: a kept reading. -/
theorem setAll_C {α : Type} {d : Kd α} {q n : Nat} {A : Option Addr} {xs : List α} {w0 w : World} (h : d.C w0 A n xs) (hb : Below w0.heap.size w0 w) (hq : w0.heap.size ≤ q) (l : List Value) (i : Nat) : d.C (setAll w q i l) A n xs :=
  Kd.C_below h (setAll_below hq l i w hb)
theorem results_c {P : Program} {fn : Func} {p : Tmp} {ty : TypeId} (h : fn.results = #[.cell p ty]) (tmps : Array Value) (w : World) (g : Nat) (t : TypeId) (cs : Array Value) (fr : Nat × Nat) (d : TypeDesc)
    (hp : tmps.getD p undef = .pointer (some ⟨g, 0, none⟩)) (hg : w.heap[g]? = some (.cells cs t fr))
    (hu : P.underlying ty = some d) (hd : (match d with | .struct _ | .array _ _ => true | _ => false) = true) (hi : (P.info? ty).map (·.size) = some cs.size) :
    (results fn tmps).run P w = .ok (.agg cs) w := by
  have hp' : tmps[p]?.getD undef = .pointer (some ⟨g, 0, none⟩) := by simpa using hp
  simp [results, h, hp', asAddr, run_loadVar_row w g t ty cs fr d hg hu hd hi]
end Go.Proofs.Ytmedkjiabieloaa.Cells
namespace Go.Proofs.Ytmedkjiabieloaa.Events
open Go Go.RowKit Go.Proofs.YtmedkjiabieloaaW.PrintLast
section
variable {P : Program} {ops : Array Oper} {Q : Exit → Act → World → Prop} {md : Region.Mode} {S : World → Prop} {ds : List Nat}
theorem putAll_size : ∀ (l : List (Tmp × Value)) (a : Act), (putAll a l).tmps.size = a.tmps.size
  | [], a => rfl
  | (n, v) :: l, a => by rw [putAll, putAll_size l]; simp [Act.put]
theorem putAll_defers : ∀ (l : List (Tmp × Value)) (a : Act), (putAll a l).defers = a.defers
  | [], a => rfl
  | (n, v) :: l, a => by rw [putAll, putAll_defers l]; simp [Act.put]
theorem put_getD_ne {a : Act} {n t : Nat} {v : Value} (h : n ≠ t) : (a.put (some n) v).tmps.getD t undef = a.tmps.getD t undef := by
  simp only [Act.put, Array.getD_eq_getD_getElem?, Array.getElem?_setIfInBounds]
  rw [if_neg h]
theorem put_getD_eq {a : Act} {n : Nat} {v : Value} (h : n < a.tmps.size) : (a.put (some n) v).tmps.getD n undef = v := by
  simp [Act.put, Array.getD_eq_getD_getElem?, h]
theorem putAll_out : ∀ (E : List (Nat × Nat)) (vs : Nat → Value) (a : Act) (t : Nat), (∀ p ∈ E, p.2 ≠ t) → (putAll a (E.map fun p => (p.2, vs p.2))).tmps.getD t undef = a.tmps.getD t undef
  | [], _, _, _, _ => rfl
  | p :: E, vs, a, t, h => by
    rw [List.map_cons, putAll, putAll_out E vs _ t (fun q hq => h q (List.mem_cons_of_mem _ hq)), put_getD_ne (h p (List.mem_cons_self ..))]
theorem putAll_in : ∀ (E : List (Nat × Nat)) (vs : Nat → Value) (a : Act) (t : Nat), (∃ p ∈ E, p.2 = t) → t < a.tmps.size → (putAll a (E.map fun p => (p.2, vs p.2))).tmps.getD t undef = vs t
  | [], _, _, _, h, _ => by obtain ⟨p, hp, _⟩ := h; cases hp
  | p :: E, vs, a, t, h, ht => by
    rw [List.map_cons, putAll]
    by_cases hE : ∃ q ∈ E, q.2 = t
    · exact putAll_in E vs _ t hE (by simpa [Act.put] using ht)
    · have hp : p.2 = t := by
        obtain ⟨q, hq, e⟩ := h
        rcases List.mem_cons.mp hq with rfl | hq
        · exact e
        · exact absurd ⟨q, hq, e⟩ hE
      rw [putAll_out E vs _ t (fun q hq e => hE ⟨q, hq, e⟩)]
      subst hp
      exact put_getD_eq ht
theorem act_eq {a b : Act} (hd : a.defers = b.defers) (hs : a.tmps.size = b.tmps.size) (h : ∀ t, a.tmps.getD t undef = b.tmps.getD t undef) : a = b := by
  obtain ⟨at_, ad⟩ := a
  obtain ⟨bt, bd⟩ := b
  simp only at hd hs h
  subst hd
  have : at_ = bt := Array.ext hs fun i h1 h2 => by
    have := h i
    simpa [Array.getD_eq_getD_getElem?, h1, h2] using this
  rw [this]
/-- What is known between the events. -/
structure Mid (a0 : Act) (w0 : World) (l0 : Array Bool) (E : List (Nat × Nat)) (V : Nat → Value → World → Prop) (l : Array Bool) (a : Act) (w : World) : Prop where
  defers : a.defers = a0.defers
  size : a.tmps.size = a0.tmps.size
  same : ∀ t, (∀ p ∈ E, p.2 ≠ t) → a.tmps.getD t undef = a0.tmps.getD t undef
  vals : ∀ p ∈ E, l.getD p.1 true = true → V p.1 (a.tmps.getD p.2 undef) w
  below : Below w0.heap.size w0 w
  lsame : ∀ j, (∀ p ∈ E, p.1 ≠ j) → l.getD j true = l0.getD j true
def depB (md : Region.Mode) (o : Oper) (j : Nat) : Bool := o.after.any fun e => Region.binds md e && e.on == j
def slotsOk (E : List (Nat × Nat)) (l0 : Array Bool) (n : Nat) : Bool :=
  E.all (fun p => !l0.getD p.1 true && decide (p.2 < n) && E.all fun q => (p.1 == q.1) == (p.2 == q.2)) && (List.range l0.size).all fun j => l0.getD j true || E.any fun p => p.1 == j
def backB (ops : Array Oper) : Bool := (List.range ops.size).all fun j => match ops[j]? with | some o => o.after.all fun e => decide (e.on < j) | none => true
/-- One event. -/
def Step (P : Program) (md : Region.Mode) (ops : Array Oper) (Q : Exit → Act → World → Prop) (S : World → Prop) (a0 : Act) (w0 : World) (E : List (Nat × Nat)) (V : Nat → Value → World → Prop) (i n : Nat) : Prop :=
  ∃ o, ops[i]? = some o ∧ o.dst = some n ∧ ∀ (a : Act) (w : World), a.defers = a0.defers → (∀ t, (∀ p ∈ E, p.2 ≠ t) → a.tmps.getD t undef = a0.tmps.getD t undef) → (∀ q ∈ E, depB md o q.1 = true → V q.1 (a.tmps.getD q.2 undef) w) → Below w0.heap.size w0 w → S w →
    ∀ K : Act → World → Prop, (∀ v w', V i v w' → Below w.heap.size w w' → K (a.put (some n) v) w') → if Region.wanted o (yielded ops a.tmps) = true then Oper.wp P o a w K Q else K (a.put o.dst undef) w
theorem count_lt {E : List (Nat × Nat)} {f g : Nat × Nat → Bool} (h : ∀ p, g p = true → f p = true) {q : Nat × Nat} (hq : q ∈ E) (hf : f q = true) (hg : g q = false) : E.countP g < E.countP f := by
  have hle : ∀ l : List (Nat × Nat), l.countP g ≤ l.countP f := fun l => by
    induction l with
    | nil => simp
    | cons p l ih =>
      rw [List.countP_cons, List.countP_cons]
      by_cases hp : g p = true
      · rw [if_pos hp, if_pos (h p hp)]; omega
      · rw [if_neg hp]; split <;> omega
  induction E with
  | nil => cases hq
  | cons p l ih =>
    rw [List.countP_cons, List.countP_cons]
    rcases List.mem_cons.mp hq with rfl | hq
    · rw [hf, hg]
      have := hle l
      simp
      omega
    · have := ih hq
      by_cases hp : g p = true
      · rw [if_pos hp, if_pos (h p hp)]; omega
      · rw [if_neg hp]; split <;> omega
theorem events_ {fuel : Nat} {l0 : Array Bool} {a0 : Act} {w0 : World} (E : List (Nat × Nat)) (V : Nat → Value → World → Prop) (n : Nat) (hn : a0.tmps.size = n) (hf : E.length ≤ fuel)
    (hok : slotsOk E l0 n = true) (hback : backB ops = true) (hV : ∀ i v w w', Below w.heap.size w w' → V i v w → V i v w') (hS : ∀ w w', Below w.heap.size w w' → S w → S w') (hS0 : S w0)
    (step : ∀ p ∈ E, Step P md ops Q S a0 w0 E V p.1 p.2)
    (cont : ∀ (vs : Nat → Value) (w : World), (∀ p ∈ E, V p.1 (vs p.2) w) → Below w0.heap.size w0 w → S w → Q .normal (putAll a0 (E.map fun p => (p.2, vs p.2))) w) :
    wpAnyLast P md ops Q S ds fuel l0 a0 w0 := by
  unfold slotsOk at hok
  rw [Bool.and_eq_true, List.all_eq_true, List.all_eq_true] at hok
  obtain ⟨hE, hcov⟩ := hok
  have hE1 : ∀ p ∈ E, l0.getD p.1 true = false ∧ p.2 < n := fun p hp => by
    have := hE p hp
    simp only [Bool.and_eq_true, Bool.not_eq_true', decide_eq_true_eq] at this
    exact ⟨this.1.1, this.1.2⟩
  have hE2 : ∀ p ∈ E, ∀ q ∈ E, (p.1 = q.1 ↔ p.2 = q.2) := fun p hp q hq => by
    have := hE p hp
    simp only [Bool.and_eq_true, List.all_eq_true] at this
    have := this.2 q hq
    rw [beq_iff_eq, Bool.eq_iff_iff, beq_iff_eq, beq_iff_eq] at this
    exact this
  have hE3 : ∀ j, l0.getD j true = false → ∃ p ∈ E, p.1 = j := fun j hj => by
    have hlt : j < l0.size := by
      rcases Nat.lt_or_ge j l0.size with h | h
      · exact h
      · simp [Array.getD_eq_getD_getElem?, Array.getElem?_eq_none h] at hj
    have := hcov j (List.mem_range.mpr hlt)
    rw [hj, Bool.false_or, List.any_eq_true] at this
    obtain ⟨p, hp, e⟩ := this
    exact ⟨p, hp, by simpa using e⟩
  have main : ∀ (fuel : Nat) (l : Array Bool) (a : Act) (w : World), Mid a0 w0 l0 E V l a w → S w → E.countP (fun p => !l.getD p.1 true) ≤ fuel → wpAnyLast P md ops Q S ds fuel l a w := by
    have fin : ∀ (l : Array Bool) (a : Act) (w : World), Mid a0 w0 l0 E V l a w → S w → (∀ p ∈ E, l.getD p.1 true = true) → Q .normal a w := fun l a w M hs hall => by
      have e : a = putAll a0 (E.map fun p => (p.2, (fun t => a.tmps.getD t undef) p.2)) := by
        refine act_eq (by rw [putAll_defers]; exact M.defers) (by rw [putAll_size]; exact M.size) fun t => ?_
        by_cases ht : ∃ p ∈ E, p.2 = t
        · obtain ⟨p, hp, rfl⟩ := ht
          rw [putAll_in E (fun t => a.tmps.getD t undef) a0 p.2 ⟨p, hp, rfl⟩ (by rw [hn]; exact (hE1 p hp).2)]
        · rw [putAll_out E (fun t => a.tmps.getD t undef) a0 t (fun p hp e => ht ⟨p, hp, e⟩)]
          exact M.same t fun p hp e => ht ⟨p, hp, e⟩
      rw [e]
      exact cont (fun t => a.tmps.getD t undef) w (fun p hp => M.vals p hp (hall p hp)) M.below hs
    have unl : ∀ (l : Array Bool) (a : Act) (w : World), Mid a0 w0 l0 E V l a w → ∀ j, l.getD j true = false → ∃ p ∈ E, p.1 = j := fun l a w M j hj => by
      by_cases h : ∃ p ∈ E, p.1 = j
      · exact h
      · rw [M.lsame j fun p hp e => h ⟨p, hp, e⟩] at hj
        exact hE3 j hj
    intro fuel
    induction fuel with
    | zero =>
      intro l a w M hs hc
      have hall : ∀ p ∈ E, l.getD p.1 true = true := fun p hp => by
        have := List.countP_eq_zero.mp (Nat.le_zero.mp hc) p hp
        simpa using this
      refine ⟨?_, fin l a w M hs hall⟩
      rw [List.eq_nil_iff_forall_not_mem]
      intro j hj
      obtain ⟨hun, _⟩ := mem_ready.1 hj
      obtain ⟨p, hp, rfl⟩ := unl l a w M j hun
      rw [hall p hp] at hun
      cases hun
    | succ fuel ih =>
      intro l a w M hs hc
      refine ⟨fun h0 => fin l a w M hs fun p hp => ?_, fun i hi => ?_⟩
      · cases hl : l.getD p.1 true with
        | true => rfl
        | false =>
          exfalso
          have key : ∀ m j, j ≤ m → l.getD j true = false → False := by
            intro m
            induction m with
            | zero =>
              intro j hj hun
              obtain ⟨q, hq, rfl⟩ := unl l a w M j hun
              obtain ⟨o, ho, _⟩ := step q hq
              have hb := hback
              unfold backB at hb
              have hlt : q.1 < ops.size := (Array.getElem?_eq_some_iff.1 ho).1
              have h1 := List.all_eq_true.1 hb q.1 (List.mem_range.2 hlt)
              rw [ho] at h1
              have : q.1 ∈ Region.ready md ops l := mem_ready.2 ⟨hun, o, ho, fun e he _ => by
                have := Array.all_eq_true_iff_forall_mem.1 h1 e he
                have := of_decide_eq_true this
                omega⟩
              rw [h0] at this
              cases this
            | succ m ihm =>
              intro j hj hun
              obtain ⟨q, hq, rfl⟩ := unl l a w M j hun
              obtain ⟨o, ho, _⟩ := step q hq
              have hb := hback
              unfold backB at hb
              have hlt : q.1 < ops.size := (Array.getElem?_eq_some_iff.1 ho).1
              have h1 := List.all_eq_true.1 hb q.1 (List.mem_range.2 hlt)
              rw [ho] at h1
              have hls : q.1 < l.size := by
                rcases Nat.lt_or_ge q.1 l.size with h | h
                · exact h
                · simp [Array.getD_eq_getD_getElem?, Array.getElem?_eq_none h] at hun
              have : q.1 ∈ Region.ready md ops l := mem_ready.2 ⟨hun, o, ho, fun e he _ => by
                have := Array.all_eq_true_iff_forall_mem.1 h1 e he
                have hlt2 := of_decide_eq_true this
                cases hle : l.getD e.on true with
                | true =>
                  have h3 : e.on < l.size := by omega
                  simpa [Array.getD_eq_getD_getElem?, h3] using hle
                | false => exact (ihm e.on (by omega) hle).elim⟩
              rw [h0] at this
              cases this
          exact key p.1 p.1 (Nat.le_refl _) hl
      · obtain ⟨hun, o', ho', hall⟩ := mem_ready.1 hi
        obtain ⟨p, hp, rfl⟩ := unl l a w M i hun
        obtain ⟨o, ho, hdst, hst⟩ := step p hp
        obtain rfl : o' = o := Option.some.inj (ho'.symm.trans ho)
        refine wpOp_step ho fun K' hK => ?_
        refine hst a w M.defers M.same (fun q hq hd => M.vals q hq ?_) M.below hs K' fun v w' hv hb => hK _ _ ⟨fun _ hs => hS w w' hb hs, ih _ _ _ ?_ (hS w w' hb hs) ?_⟩
        · obtain ⟨e, he, h1⟩ := Array.any_eq_true'.1 hd
          simp only [Bool.and_eq_true, beq_iff_eq] at h1
          have := hall e he h1.1
          rw [h1.2] at this
          rcases Nat.lt_or_ge q.1 l.size with h | h
          · simpa [Array.getD_eq_getD_getElem?, h] using this
          · simp [Array.getD_eq_getD_getElem?, Array.getElem?_eq_none h]
        · refine ⟨by simpa [Act.put] using M.defers, by simpa [Act.put] using M.size, fun t ht => by rw [put_getD_ne (ht p hp)]; exact M.same t ht, fun q hq hl => ?_, M.below.trans (hb.mono M.below.size), fun j hj => ?_⟩
          · by_cases hpq : p.1 = q.1
            · rw [← (hE2 p hp q hq).mp hpq, put_getD_eq (by rw [M.size, hn]; exact (hE1 p hp).2), ← hpq]
              exact hv
            · have hne : p.2 ≠ q.2 := fun e => hpq ((hE2 p hp q hq).mpr e)
              rw [put_getD_ne hne]
              refine hV _ _ w w' hb (M.vals q hq ?_)
              rwa [getD_set_ne true hpq] at hl
          · rw [getD_set_ne true (hj p hp)]
            exact M.lsame j hj
        · have := count_lt (E := E) (f := fun p => !l.getD p.1 true) (g := fun q => !(l.setIfInBounds p.1 true).getD q.1 true) (fun q h => by
            simp only [Bool.not_eq_true'] at h ⊢
            by_cases hpq : p.1 = q.1
            · rw [← hpq]; exact hun
            · rwa [getD_set_ne true hpq] at h) hp (by simp only [Bool.not_eq_true']; exact hun) (by
              have hls : p.1 < l.size := by
                rcases Nat.lt_or_ge p.1 l.size with h | h
                · exact h
                · simp [Array.getD_eq_getD_getElem?, Array.getElem?_eq_none h] at hun
              simp [Array.getD_eq_getD_getElem?, hls])
          omega
  refine main fuel l0 a0 w0 ⟨rfl, rfl, fun _ _ => rfl, (fun p hp h => by rw [(hE1 p hp).1] at h; cases h), Below.refl _ _, fun _ _ => rfl⟩ hS0 ?_
  exact Nat.le_trans (List.countP_le_length) hf
end
end Go.Proofs.Ytmedkjiabieloaa.Events
namespace Go.Proofs.Ytmedkjiabieloaa.Rt
open Go.RowKit Go.Proofs.YtmedkjiabieloaaW.PrintWords Go.Proofs.YtmedkjiabieloaaW.PrintLast Go.Proofs.YtmedkjiabieloaaW.PrintMore Go.Proofs.Ytmedkjiabieloaa.QRd
open Go.Proofs.Ytmedkjiabieloaa
attribute [local go_sem] max2_int min2_int max_two min_two
set_option linter.unusedVariables false
set_option linter.unusedSimpArgs false
/-- A row of bytes that a conversion made. -/
structure BRow (w : World) (g : Nat) (xs : List Int) : Prop where
  cell : ∀ j, j < xs.length → w.cell? ⟨g, j, none⟩ = some (.int .u8 (xs.getD j 0))
  free : ∀ j, j < xs.length → w.frozen? ⟨g, j, none⟩ = false
  lt : g < w.heap.size
theorem BRow.set {w : World} {g : Nat} {xs : List Int} (h : BRow w g xs) (j : Nat) (hj : j < xs.length) (v : Int) : BRow (w.setCell ⟨g, j, none⟩ (.int .u8 v)) g (xs.set j v) := by
  refine ⟨fun i hi => ?_, fun i hi => ?_, by simpa [World.setCell] using h.lt⟩
  · rw [List.length_set] at hi
    by_cases hij : j = i
    · subst hij
      rw [World.cell?_setCell_same _ _ _ (h.cell j hj)]
      simp [List.getD_eq_getElem?_getD, hj]
    · rw [World.cell?_setCell_other _ _ _ _ (by simp [hij]), h.cell i hi]
      simp [List.getD_eq_getElem?_getD, List.getElem?_set, hij]
  · rw [List.length_set] at hi
    rw [World.frozen?_setCell]
    exact h.free i hi
theorem BRow.below {w w1 : World} {g : Nat} {xs : List Int} (h : BRow w g xs) (hb : Below w.heap.size w w1) : BRow w1 g xs :=
  ⟨fun j hj => by rw [hb.cell (p := ⟨g, j, none⟩) h.lt]; exact h.cell j hj, fun j hj => by rw [hb.frozen (p := ⟨g, j, none⟩) h.lt]; exact h.free j hj, Nat.lt_of_lt_of_le h.lt hb.size⟩
theorem BRow.reads {w : World} {g : Nat} {xs : List Int} (h : BRow w g xs) (hl : xs.length ≤ 9223372036854775807) : ReadsInt w .u8 (some ⟨g, 0, none⟩) xs.length xs :=
  ⟨rfl, hl, fun _ => ⟨_, rfl, fun j hj => by rw [add_plain]; exact h.cell j hj⟩⟩
/-- A string turned to bytes, as one event. -/
theorem conv_event {ops : Array Oper} {rest : List Oper} {o : Oper} {a : Act} {Q : Exit → Act → World → Prop} {W : World} (hgd : o.guard = none) {N : Tmp} (_hd : o.dst = some N) {x : Operand} (s : ByteArray) (ho : o.op = .convert 9 55 x) (hx : a.eval x = .string s)
    (h : ∀ g c w1, g = W.heap.size → BRow w1 g (bytesOf s) → Below W.heap.size W w1 → wpList Try.prog ops Q rest (a.put o.dst (.slice (some ⟨g, 0, none⟩) s.size c)) w1) : wpList Try.prog ops Q (o :: rest) a W := by
  refine Kd.event_run hgd (v := .slice (some ⟨W.heap.size, 0, none⟩) s.size (grownCap W s.size 0 5)) (w1 := Lib.bytesWorld W 5 s) ?_ (h _ _ _ rfl ⟨fun j hj => ?_, fun j hj => ?_, by rw [Lib.bytesWorld_size]; omega⟩ (bytes_below (Below.refl _ _) (Nat.le_refl _) 5 s))
  · have := print_bytes (P := Try.prog) 9 55 5 Try.underlying9 Try.underlying55 Try.underlying5 s W
    simp [execOp, ho, hx, this]
  · rw [bytesOf_length] at hj
    rw [Lib.bytesWorld_cell W 5 s j hj]
    have h' : j < s.data.toList.length := by rw [data_length]; exact hj
    simp [bytesOf, List.getD_eq_getElem?_getD, List.getElem?_eq_getElem h']
  · rw [bytesOf_length] at hj
    have := Lib.bytesWorld_at_new W 5 s
    have hsz : s.size ≤ (Lib.bytesCells W 5 s).size := by unfold Lib.bytesCells; simp
    simp only [World.frozen?, this]
    simp
    omega
/-- A byte's first bits. -/
def mb (bits : Int) (i : Nat) (x : Int) : Int := bits_and x (max (min (bits - 8 * (i : Int)) 8) 0)
where bits_and (x k : Int) : Int := x / 2 ^ (8 - k).toNat * 2 ^ (8 - k).toNat
def mkTo (bits : Int) (i : Nat) (xs : List Int) : List Int := xs.mapIdx fun j x => if j < i then mb bits j x else x
theorem mkTo_zero (bits : Int) (xs : List Int) : mkTo bits 0 xs = xs := by
  unfold mkTo
  simp only [Nat.not_lt_zero, if_false]
  exact List.mapIdx_eq_iff.mpr (fun i => by simp)
theorem mkTo_len (bits : Int) (i : Nat) (xs : List Int) : (mkTo bits i xs).length = xs.length := by unfold mkTo; simp
theorem mkTo_getD (bits : Int) (i j : Nat) (xs : List Int) (hj : j < xs.length) : (mkTo bits i xs).getD j 0 = if j < i then mb bits j (xs.getD j 0) else xs.getD j 0 := by
  unfold mkTo
  simp [List.getD_eq_getElem?_getD, List.getElem?_mapIdx, List.getElem?_eq_getElem hj]
theorem byte_of (s : ByteArray) (i : Nat) (h : i < (bytesOf s).length) : 0 ≤ (bytesOf s).getD i 0 ∧ (bytesOf s).getD i 0 ≤ 255 := by
  have h1 := rd_bytesOf s (i : Int)
  have h2 := bt_range s (i : Int)
  unfold rd at h1
  rw [Int.toNat_natCast] at h1
  rw [h1]
  exact h2
theorem and_fin : ∀ k : Fin 9, ∀ x : Fin 256, bits .and .u8 (x.val : Int) (IntKind.u8.wrap (65280 / 2 ^ (k.val : Int).toNat)) = (x.val : Int) / 2 ^ (8 - (k.val : Int)).toNat * 2 ^ (8 - (k.val : Int)).toNat := by decide +kernel
theorem and_mb (kk x : Int) (hk : 0 ≤ kk ∧ kk ≤ 8) (hx : 0 ≤ x ∧ x ≤ 255) : bits .and .u8 x (IntKind.u8.wrap (65280 / 2 ^ kk.toNat)) = x / 2 ^ (8 - kk).toNat * 2 ^ (8 - kk).toNat := by
  obtain ⟨k, rfl⟩ := Int.eq_ofNat_of_zero_le hk.1
  obtain ⟨y, rfl⟩ := Int.eq_ofNat_of_zero_le hx.1
  exact and_fin ⟨k, by omega⟩ ⟨y, by omega⟩
theorem mkTo_succ (bits : Int) (i : Nat) (xs : List Int) (hi : i < xs.length) : (mkTo bits i xs).set i (mb bits i ((mkTo bits i xs).getD i 0)) = mkTo bits (i + 1) xs := by
  rw [mkTo_getD _ _ _ _ hi, if_neg (by omega)]
  apply List.ext_getElem
  · simp [mkTo_len]
  · intro j h1 h2
    have hj : j < xs.length := by simpa [mkTo_len] using h2
    rw [List.getElem_set]
    have e1 := mkTo_getD bits (i + 1) j xs hj
    rw [List.getD_eq_getElem?_getD, List.getElem?_eq_getElem h2] at e1
    simp only [Option.getD_some] at e1
    rw [e1]
    by_cases hij : i = j
    · subst hij
      rw [if_pos rfl, if_pos (by omega)]
    · have h3 : j < (mkTo bits i xs).length := by rw [mkTo_len]; exact hj
      have e0 := mkTo_getD bits i j xs hj
      rw [List.getD_eq_getElem?_getD, List.getElem?_eq_getElem h3] at e0
      simp only [Option.getD_some] at e0
      rw [if_neg hij, e0]
      by_cases hlt : j < i
      · rw [if_pos hlt, if_pos (by omega)]
      · rw [if_neg hlt, if_neg (by omega)]
def maskBad (s : ByteArray) (bits : Int) : Prop := (s.size ≠ 4 ∧ s.size ≠ 16) ∨ bits < 0 ∨ 8 * (s.size : Int) < bits
set_option maxHeartbeats 4000000 in
set_option maxRecDepth 100000 in
theorem mask_walk (s : ByteArray) (nb : Int) (w : World) (hok : ¬ maskBad s nb) (hs : s.size ≤ 140737488351232) :
    Calls Try.prog 9 #[.string s, .int .i64 nb] w fun e w' => e = .returned (.tuple #[.string (strOfNums (mkTo nb s.size (bytesOf s))), .int .i64 0]) ∧ Below w.heap.size w w' := by
  unfold maskBad at hok
  obtain ⟨n, hn⟩ : ∃ n, s.size = n := ⟨_, rfl⟩
  have HN := Aside0.mk hn
  have hx1 : n = 4 ∨ n = 16 := by omega
  have hx2 : ¬ (nb < 0) := by omega
  have hx3 : ¬ (8 * (n : Int) < nb) := by rw [← hn]; omega
  have b1 : ((n : Int) != 4) = false ∨ (((n : Int) != 4) = true ∧ ((n : Int) != 16) = false) := by rcases hx1 with rfl | rfl <;> simp
  have b2 : decide (nb < 0) = false := decide_eq_false hx2
  have b3 : decide (8 * (n : Int) < nb) = false := decide_eq_false hx3
  rw [hn]
  have eN : (s.size : Int) = (n : Int) := by rw [hn]
  have hnb0 : 0 ≤ nb := by omega
  have hnb1 : nb ≤ 128 := by omega
  have hn16 : n ≤ 16 := by omega
  clear hok hn hs hx1 hx2 hx3
  go_enter Try.func9, Try.ntmps9
  rcases b1 with b1 | ⟨b1, b1'⟩
  all_goals
    go_wp2_with (first | ((with_reducible refine gate_dst (N := 29) rfl ?_); refine conv_event rfl (N := 29) rfl s rfl ?hx ?_; (case hx => first | rfl | (go_simp; done)); intro g c w1 hg hrow hb; have HG := Aside0.mk (show w.heap.size ≤ g from by rw [hg]; exact Nat.le_refl _); have HRW := Aside0.mk hrow; have HB1 := Aside0.mk hb; clear hg hrow hb))
    go_loopw [32] (fun iv wr => ∃ i : Nat, i ≤ n ∧ iv = .int .i64 i ∧ Aside0 (BRow wr g (mkTo nb i (bytesOf s))) ∧ Aside0 (Below w.heap.size w wr)) (fun iv _ => n - (intOf iv).toNat)
    case atStart => exact ⟨0, by omega, rfl, Aside0.mk (by rw [mkTo_zero]; exact HRW.out), HB1⟩
    case round =>
      clear HRW HB1
      obtain ⟨i, hi, rfl, HR, HB⟩ := hrel
      by_cases hlt : i < n
      · have hd : decide ((i : Int) < (n : Int)) = true := decide_eq_true (by omega)
        have hlen : (mkTo nb i (bytesOf s)).length = n := by rw [mkTo_len, bytesOf_length, HN.out]
        have hc := HR.out.cell i (by omega)
        have hf := HR.out.free i (by omega)
        obtain ⟨x, hx⟩ : ∃ x, (mkTo nb i (bytesOf s)).getD i 0 = x := ⟨_, rfl⟩
        rw [hx] at hc
        have hxr : 0 ≤ x ∧ x ≤ 255 := by rw [← hx, mkTo_getD _ _ _ _ (by rw [bytesOf_length, HN.out]; exact hlt), if_neg (by omega)]; exact byte_of _ _ (by rw [bytesOf_length, HN.out]; exact hlt)
        have HX := Aside0.mk hx
        have hil : (i : Int) < (n : Int) := by omega
        clear hx
        obtain ⟨k1, m1⟩ : ∃ k, (if (8 : Int) < nb - 8 * (i : Int) then (8 : Int) else nb - 8 * (i : Int)) = k := ⟨_, rfl⟩
        obtain ⟨kk, m2⟩ : ∃ k, (if k1 < 0 then (0 : Int) else k1) = k := ⟨_, rfl⟩
        have hkr : 0 ≤ kk ∧ kk ≤ 8 := by rw [← m2, ← m1]; split <;> split <;> omega
        have HKK := Aside0.mk (show kk = max (min (nb - 8 * (i : Int)) 8) 0 from by rw [← m2, ← m1]; split <;> split <;> omega)
        obtain ⟨V, hV⟩ : ∃ v, bits .and .u8 x (IntKind.u8.wrap (65280 / 2 ^ kk.toNat)) = v := ⟨_, rfl⟩
        have HV := Aside0.mk (show V = mb nb i x from by rw [← hV, and_mb kk x hkr hxr]; unfold mb; rw [← HKK.out]; rfl)
        have hVs := Aside0.mk hV
        clear hV
        go_wp2_with (fail)
        have hV := hVs.out
        clear m1 m2
        refine start_ (n := 10) (S := fun W => W.cell? ⟨g, i, none⟩ = some (.int .u8 x) ∧ W.frozen? ⟨g, i, none⟩ = false) (ds := [9]) #[false, false, false, false, false, false, false, false, false, false] (by kernel_rfl) rfl rfl ⟨hc, hf⟩ (fun hHeld => ?_)
        refine pure_ (i := 0) (N := some 41) (v := ?_) (a' := ?_) #[true, false, false, false, false, false, false, false, false, false] rfl rfl (by kernel_rfl) (fun _ _ _ h => h) (Or.inl ⟨by rfl, ?_⟩) ?_ ?_
        rotate_left
        · intro w'
          go_simp
          with_reducible rfl
        rotate_left
        · simp only [Act.put, List.setIfInBounds_toArray, List.set_cons_zero, List.set_cons_succ]
          rfl
        refine pure_ (i := 1) (N := some 42) (v := ?_) (a' := ?_) #[true, true, false, false, false, false, false, false, false, false] rfl rfl (by kernel_rfl) (fun _ _ _ h => h) (Or.inl ⟨by rfl, ?_⟩) ?_ ?_
        rotate_left
        · intro w'
          go_simp
          with_reducible rfl
        rotate_left
        · simp only [Act.put, List.setIfInBounds_toArray, List.set_cons_zero, List.set_cons_succ]
          rfl
        refine pure_ (i := 2) (N := some 43) (v := ?_) (a' := ?_) #[true, true, true, false, false, false, false, false, false, false] rfl rfl (by kernel_rfl) (fun _ _ _ h => h) (Or.inl ⟨by rfl, ?_⟩) ?_ ?_
        rotate_left
        · intro w'
          go_simp
          with_reducible rfl
        rotate_left
        · simp only [Act.put, List.setIfInBounds_toArray, List.set_cons_zero, List.set_cons_succ]
          rfl
        refine take_ (i := 3) (N := some 44) (v := ?_) (a' := ?_) #[true, true, true, true, false, false, false, false, false, false] rfl rfl (by kernel_rfl) (fun _ _ _ h => h) (Or.inl ⟨by rfl, ?_⟩) hHeld ?_ ?_
        rotate_left
        · intro w' s0
          obtain ⟨s1, s2⟩ := s0
          go_simp
          with_reducible rfl
        rotate_left
        · simp only [Act.put, List.setIfInBounds_toArray, List.set_cons_zero, List.set_cons_succ]
          rfl
        refine pure_ (i := 4) (N := some 45) (v := ?_) (a' := ?_) #[true, true, true, true, true, false, false, false, false, false] rfl rfl (by kernel_rfl) (fun _ _ _ h => h) (Or.inl ⟨by rfl, ?_⟩) ?_ ?_
        rotate_left
        · intro w'
          go_simp
          with_reducible rfl
        rotate_left
        · simp only [Act.put, List.setIfInBounds_toArray, List.set_cons_zero, List.set_cons_succ]
          rfl
        refine pure_ (i := 5) (N := some 46) (v := ?_) (a' := ?_) #[true, true, true, true, true, true, false, false, false, false] rfl rfl (by kernel_rfl) (fun _ _ _ h => h) (Or.inl ⟨by rfl, ?_⟩) ?_ ?_
        rotate_left
        · intro w'
          go_simp
          with_reducible rfl
        rotate_left
        · simp only [Act.put, List.setIfInBounds_toArray, List.set_cons_zero, List.set_cons_succ]
          rfl
        refine pure_ (i := 6) (N := some 47) (v := ?_) (a' := ?_) #[true, true, true, true, true, true, true, false, false, false] rfl rfl (by kernel_rfl) (fun _ _ _ h => h) (Or.inl ⟨by rfl, ?_⟩) ?_ ?_
        rotate_left
        · intro w'
          go_simp
          with_reducible rfl
        rotate_left
        · simp only [Act.put, List.setIfInBounds_toArray, List.set_cons_zero, List.set_cons_succ]
          rfl
        refine pure_ (i := 7) (N := some 48) (v := ?_) (a' := ?_) #[true, true, true, true, true, true, true, true, false, false] rfl rfl (by kernel_rfl) (fun _ _ _ h => h) (Or.inl ⟨by rfl, ?_⟩) ?_ ?_
        rotate_left
        · intro w'
          go_simp
          with_reducible rfl
        rotate_left
        · simp only [Act.put, List.setIfInBounds_toArray, List.set_cons_zero, List.set_cons_succ]
          rfl
        refine pure_ (i := 8) (N := some 49) (v := ?_) (a' := ?_) #[true, true, true, true, true, true, true, true, true, false] rfl rfl (by kernel_rfl) (fun _ _ _ h => h) (Or.inl ⟨by rfl, ?_⟩) ?_ ?_
        rotate_left
        · intro w'
          go_simp
          with_reducible rfl
        rotate_left
        · simp only [Act.put, List.setIfInBounds_toArray, List.set_cons_zero, List.set_cons_succ]
          rfl
        refine last_ (i := 9) (N := none) #[true, true, true, true, true, true, true, true, true, true] rfl rfl (by kernel_rfl) (by decide) (fun K hK => ?_)
        obtain ⟨s1, s2⟩ := hHeld
        refine skip_ (by rfl) rfl (w1 := (wr.drew).setCell ⟨g, i, none⟩ (.int .u8 V)) ?_ ?_
        · first | (go_simp; done) | (go_simp; rfl)
        refine hK.out _ _ ?_
        clear hK K s1 s2
        refine done_ (by kernel_rfl) ?_
        have BR := Aside0.mk (show BRow ((wr.drew).setCell ⟨g, i, none⟩ (.int .u8 V)) g (mkTo nb (i + 1) (bytesOf s)) from by
          have h1 := (HR.out.below (below_drew (Below.refl wr.heap.size wr))).set i (by omega) V
          rw [HV.out, ← HX.out, mkTo_succ nb i (bytesOf s) (by rw [bytesOf_length, HN.out]; exact hlt)] at h1
          rw [HV.out, ← HX.out]
          exact h1)
        have HB2 := Aside0.mk (show Below w.heap.size w ((wr.drew).setCell ⟨g, i, none⟩ (.int .u8 V)) from Below.setCell (below_drew HB.out) HG.out _)
        generalize (wr.drew).setCell ⟨g, i, none⟩ (.int .u8 V) = w9 at BR HB2 ⊢
        clear hV hVs hc hf
        go_wp2_with (fail)
        go_roundw
        case rel => exact ⟨i + 1, by omega, by go_num, BR, HB2⟩
        case measure => simp [intOf]; omega
      · have hd : decide ((i : Int) < (n : Int)) = false := decide_eq_false (by omega)
        obtain rfl : i = n := by omega
        have hrd := HR.out.reads (by rw [mkTo_len, bytesOf_length, HN.out]; omega)
        have hcv := string_of_reads (P := Try.prog) (c := c) Try.underlying55 Try.underlying5 Try.underlying9 hrd
        rw [mkTo_len, bytesOf_length] at hcv
        clear hrd
        go_wp2_with (fail)
        go_ret2
        rw [HN.out]
        exact ⟨rfl, HB.out⟩
set_option maxHeartbeats 4000000 in
set_option maxRecDepth 100000 in
theorem mask_bad (s : ByteArray) (nb : Int) (w : World) (hbad : maskBad s nb) (hs : s.size ≤ 140737488351232) :
    Calls Try.prog 9 #[.string s, .int .i64 nb] w fun e w' => e = .returned (.tuple #[.string ByteArray.empty, .int .i64 1]) ∧ w' = w := by
  obtain ⟨n, hn⟩ : ∃ n, s.size = n := ⟨_, rfl⟩
  unfold maskBad at hbad
  rw [hn] at hbad hs
  have eN : (s.size : Int) = (n : Int) := by rw [hn]
  clear hn
  by_cases h1 : n = 4
  · have b1 : ((n : Int) != 4) = false := by rw [h1]; rfl
    by_cases h2 : nb < 0
    · have b2 : decide (nb < 0) = true := decide_eq_true h2
      clear hbad h1 h2
      go_enter Try.func9, Try.ntmps9
      go_wp2_with (fail)
      go_ret2
      exact ⟨rfl, rfl⟩
    · have b2 : decide (nb < 0) = false := decide_eq_false h2
      have b3 : decide (8 * (n : Int) < nb) = true := decide_eq_true (by omega)
      clear hbad h1
      go_enter Try.func9, Try.ntmps9
      go_wp2_with (fail)
      go_ret2
      exact ⟨rfl, rfl⟩
  · have b1 : ((n : Int) != 4) = true := bne_iff_ne.mpr (by omega)
    by_cases h16 : n = 16
    · have b1' : ((n : Int) != 16) = false := by rw [h16]; rfl
      by_cases h2 : nb < 0
      · have b2 : decide (nb < 0) = true := decide_eq_true h2
        clear hbad h1 h2 h16
        go_enter Try.func9, Try.ntmps9
        go_wp2_with (fail)
        go_ret2
        exact ⟨rfl, rfl⟩
      · have b2 : decide (nb < 0) = false := decide_eq_false h2
        have b3 : decide (8 * (n : Int) < nb) = true := decide_eq_true (by omega)
        clear hbad h1 h16
        go_enter Try.func9, Try.ntmps9
        go_wp2_with (fail)
        go_ret2
        exact ⟨rfl, rfl⟩
    · have b1' : ((n : Int) != 16) = true := bne_iff_ne.mpr (by omega)
      clear hbad h1 h16
      go_enter Try.func9, Try.ntmps9
      go_wp2_with (fail)
      go_ret2
      exact ⟨rfl, rfl⟩
end Go.Proofs.Ytmedkjiabieloaa.Rt
namespace Go.Proofs.Ytmedkjiabieloaa.Rt
open Go.RowKit Go.Proofs.YtmedkjiabieloaaW.PrintWords Go.Proofs.YtmedkjiabieloaaW.PrintLast Go.Proofs.YtmedkjiabieloaaW.PrintMore Go.Proofs.Ytmedkjiabieloaa.QRd
open Go.Proofs.Ytmedkjiabieloaa
set_option linter.unusedVariables false
set_option linter.unusedSimpArgs false
instance (s : ByteArray) (nb : Int) : Decidable (maskBad s nb) := by unfold maskBad; infer_instance
/-- What Mask answers. -/
def maskE (s : ByteArray) (nb : Int) : ByteArray × Int := if maskBad s nb then (ByteArray.empty, 1) else (strOfNums (mkTo nb s.size (bytesOf s)), 0)
theorem mask_any (s : ByteArray) (nb : Int) (w : World) (hs : s.size ≤ 140737488351232) :
    Calls Try.prog 9 #[.string s, .int .i64 nb] w fun e w' => e = .returned (.tuple #[.string (maskE s nb).1, .int .i64 (maskE s nb).2]) ∧ Below w.heap.size w w' := by
  unfold maskE
  by_cases h : maskBad s nb
  · rw [if_pos h]
    exact (mask_bad s nb w h hs).mono fun e w' hh => ⟨hh.1, by rw [hh.2]; exact Below.refl _ _⟩
  · rw [if_neg h]
    exact mask_walk s nb w h hs
theorem info26 : (Try.prog.info? 26).map (·.size) = some 2 := by kernel_rfl
set_option maxHeartbeats 4000000 in
set_option maxRecDepth 100000 in
theorem prefix_walk (a : ByteArray) (nb : Int) (w : World) (hs : a.size ≤ 140737488351232) :
    Calls Try.prog 23 #[.agg #[.string a, .int .i64 nb]] w fun e w' => e = .returned (.tuple #[.agg #[.string (maskE a nb).1, .int .i64 nb], .int .i64 (maskE a nb).2]) ∧ Below w.heap.size w w' := by
  have MW := Aside0.mk fun (W : World) => mask_any a nb W hs
  obtain ⟨⟨m, er⟩, hm⟩ : ∃ x, maskE a nb = x := ⟨_, rfl⟩
  rw [hm] at MW ⊢
  simp only at MW ⊢
  clear hs hm
  go_enter Try.func23, Try.ntmps23
  go_wp2_with (first | ((with_reducible refine gate_dst (N := 1) rfl ?_); refine box_event ?hg (N := 1) ?hd (cs := #[.string a, .int .i64 nb]) (t := 26) ?hr ?_; (case hd => rfl); (case hg => rfl); (case hr => first | (go_simp; done) | (go_simp; rfl)); intro q1 hq w1 hbox hb; have BKq1 := Aside0.mk hbox; have HQq1 := Aside0.mk (show w.heap.size ≤ q1 from by rw [hq]; exact Nat.le_refl _); have HB1 := Aside0.mk hb; clear hbox hb hq) | ((with_reducible refine gate_dst (N := 2) rfl ?_); refine box_event ?hg (N := 2) ?hd (cs := #[.string ByteArray.empty, .int .i64 0]) (t := 26) ?hr ?_; (case hd => rfl); (case hg => rfl); (case hr => first | (go_simp; done) | (go_simp; rfl)); intro q2 hq w2 hbox hb; have HNq1q2 := Aside0.mk (show q1 ≠ q2 from by have := blk_lt BKq1.out; omega); have BKq1 := Aside0.mk (blk_below BKq1.out hb); have BKq2 := Aside0.mk hbox; have HQq2 := Aside0.mk (show w.heap.size ≤ q2 from by rw [hq]; exact HB1.out.size); have HB2 := Aside0.mk (HB1.out.trans (hb.mono HB1.out.size)); clear hbox hb hq; have z0 : w2.cell? ⟨q1, 0, none⟩ = some (.string a) := (blk_cell BKq1.out 0).trans rfl; have z1 : w2.cell? ⟨q1, 1, none⟩ = some (.int .i64 nb) := (blk_cell BKq1.out 1).trans rfl))
  refine (MW.out _).mono ?_
  rintro e w3 ⟨rfl, hb⟩
  have BKq1 := Aside0.mk (blk_below BKq1.out hb)
  have BKq2 := Aside0.mk (blk_below BKq2.out hb)
  have HB3 := Aside0.mk (HB2.out.trans (hb.mono HB2.out.size))
  clear hb z0 z1
  have z1 : w3.cell? ⟨q1, 1, none⟩ = some (.int .i64 nb) := (blk_cell BKq1.out 1).trans rfl
  go_wp2_with (first | ((with_reducible refine gate_store (t := 26) (p := 2) rfl ?_); have ca0 : w3.cell? ⟨q2, 0, none⟩ = some (.string ByteArray.empty) := (blk_cell BKq2.out 0).trans rfl; have ca1 : w3.cell? ⟨q2, 1, none⟩ = some (.int .i64 0) := (blk_cell BKq2.out 1).trans rfl; have fa0 : w3.frozen? ⟨q2, 0, none⟩ = false := blk_frozen BKq2.out 0; have fa1 : w3.frozen? ⟨q2, 1, none⟩ = false := blk_frozen BKq2.out 1; refine store_event (t := 26) (p := 2) (v := ?vo2_4_1) (w1 := Cells.setAll w3 q2 0 [.string m, .int .i64 nb]) ?hg ?ho ?hn ?hr ?_; (case ho => rfl); (case hg => rfl); (case hn => rfl); (case hr => first | (go_simp; done) | (go_simp; rfl)); intro w4 hw; have HB4 := Aside0.mk (show Below w.heap.size w w4 from by rw [hw]; exact Cells.setAll_below HQq2.out _ _ _ HB3.out); have BKq2 := Aside0.mk (show w4.heap[q2]? = some (.cells #[.string m, .int .i64 nb] 26 (0, 0)) from by rw [hw]; exact Cells.stored2 BKq2.out); clear ca0 ca1 fa0 fa1; clear hw))
  (try simp only [Exit.inBlock, Exit.then])
  refine bodyPost_ret (results_ct rfl _ _ q2 26 _ (0, 0) _ rfl BKq2.out Try.underlying26 rfl info26) rfl ?_
  exact ⟨rfl, HB4.out⟩
end Go.Proofs.Ytmedkjiabieloaa.Rt
namespace Go.Proofs.Ytmedkjiabieloaa.Rt
open Go.RowKit Go.Proofs.YtmedkjiabieloaaW.PrintWords Go.Proofs.YtmedkjiabieloaaW.PrintLast Go.Proofs.YtmedkjiabieloaaW.PrintMore Go.Proofs.Ytmedkjiabieloaa.QRd
open Go.Proofs.Ytmedkjiabieloaa
set_option linter.unusedVariables false
set_option linter.unusedSimpArgs false
def kOf (bits : Int) (j : Nat) : Nat := (max (min (bits - 8 * (j : Int)) 8) 0).toNat
def clb (k r : Nat) (x : Int) : Int := x / 2 ^ (8 - k) * 2 ^ (8 - k) + x % 2 ^ (8 - r)
def cl (bits : Int) (i j : Nat) (x : Int) : Int := clb (kOf bits j) (max (kOf bits j) (kOf (i : Int) j)) x
def rlTo (bits : Int) (i : Nat) (xs : List Int) : List Int := xs.mapIdx fun j x => cl bits i j x
theorem rlTo_len (bits : Int) (i : Nat) (xs : List Int) : (rlTo bits i xs).length = xs.length := by unfold rlTo; simp
theorem rlTo_getD (bits : Int) (i j : Nat) (xs : List Int) (hj : j < xs.length) : (rlTo bits i xs).getD j 0 = cl bits i j (xs.getD j 0) := by
  unfold rlTo
  simp [List.getD_eq_getElem?_getD, List.getElem?_mapIdx, List.getElem?_eq_getElem hj]
theorem ext_getD {l m : List Int} (h : l.length = m.length) (hg : ∀ j, j < l.length → l.getD j 0 = m.getD j 0) : l = m := by
  apply List.ext_getElem h
  intro j h1 h2
  have := hg j h1
  simpa [List.getD_eq_getElem?_getD, List.getElem?_eq_getElem h1, List.getElem?_eq_getElem h2] using this
theorem rlTo_start (b : Nat) (xs : List Int) : rlTo (b : Int) b xs = xs := by
  apply ext_getD (rlTo_len _ _ _)
  intro j hj
  rw [rlTo_len] at hj
  rw [rlTo_getD _ _ _ _ hj]
  unfold cl clb
  rw [Nat.max_self]
  exact Int.ediv_mul_add_emod _ _
theorem rlTo_end (bits : Int) (n : Nat) (xs : List Int) (hn : xs.length = n) : rlTo bits (8 * n) xs = mkTo bits n xs := by
  apply ext_getD (by rw [rlTo_len, mkTo_len])
  intro j hj
  rw [rlTo_len] at hj
  rw [rlTo_getD _ _ _ _ hj, mkTo_getD _ _ _ _ hj, if_pos (by omega)]
  unfold cl clb mb mb.bits_and
  have h8 : kOf ((8 * n : Nat) : Int) j = 8 := by unfold kOf; omega
  have hk : (8 - max (min (bits - 8 * (j : Int)) 8) 0).toNat = 8 - kOf bits j := by unfold kOf; omega
  have hk8 : kOf bits j ≤ 8 := by unfold kOf; omega
  rw [h8, hk, Nat.max_eq_right hk8]
  simp
theorem clb_fin : ∀ k : Fin 8, ∀ r : Fin 8, ∀ x : Fin 256, k.val ≤ r.val → (0 ≤ clb k.val r.val (x.val : Int) ∧ clb k.val r.val (x.val : Int) ≤ 255) ∧
    (clb k.val r.val (x.val : Int) / 2 ^ (7 - r.val) % 2 = 1 → 2 ^ (7 - r.val) ≤ clb k.val r.val (x.val : Int) ∧ clb k.val (r.val + 1) (x.val : Int) = clb k.val r.val (x.val : Int) - 2 ^ (7 - r.val)) ∧
    (clb k.val r.val (x.val : Int) / 2 ^ (7 - r.val) % 2 ≠ 1 → clb k.val (r.val + 1) (x.val : Int) = clb k.val r.val (x.val : Int)) := by decide +kernel
theorem rl_step (bits : Int) (i q r : Nat) (xs : List Int) (hb : 0 ≤ bits) (hi : bits ≤ i) (hq : i / 8 = q) (hr : i % 8 = r) (hl : q < xs.length) (hx : 0 ≤ xs.getD q 0 ∧ xs.getD q 0 ≤ 255) :
    (0 ≤ (rlTo bits i xs).getD q 0 ∧ (rlTo bits i xs).getD q 0 ≤ 255) ∧
    ((rlTo bits i xs).getD q 0 / 2 ^ (7 - r) % 2 = 1 → 2 ^ (7 - r) ≤ (rlTo bits i xs).getD q 0 ∧ rlTo bits (i + 1) xs = (rlTo bits i xs).set q ((rlTo bits i xs).getD q 0 - 2 ^ (7 - r))) ∧
    ((rlTo bits i xs).getD q 0 / 2 ^ (7 - r) % 2 ≠ 1 → rlTo bits (i + 1) xs = rlTo bits i xs) := by
  obtain ⟨y, hy⟩ := Int.eq_ofNat_of_zero_le hx.1
  have hkr : kOf bits q ≤ r := by unfold kOf; omega
  have hk8 : kOf bits q < 8 := by omega
  have hr8 : r < 8 := by omega
  have e0 : (rlTo bits i xs).getD q 0 = clb (kOf bits q) r (y : Int) := by
    rw [rlTo_getD _ _ _ _ hl, hy]
    unfold cl
    have : kOf (i : Int) q = r := by unfold kOf; omega
    rw [this, Nat.max_eq_right hkr]
  have e1 : (rlTo bits (i + 1) xs).getD q 0 = clb (kOf bits q) (r + 1) (y : Int) := by
    rw [rlTo_getD _ _ _ _ hl, hy]
    unfold cl
    have : kOf ((i + 1 : Nat) : Int) q = r + 1 := by unfold kOf; omega
    rw [this, Nat.max_eq_right (by omega)]
  have eo : ∀ j, j < xs.length → j ≠ q → (rlTo bits (i + 1) xs).getD j 0 = (rlTo bits i xs).getD j 0 := fun j hj hne => by
    rw [rlTo_getD _ _ _ _ hj, rlTo_getD _ _ _ _ hj]
    unfold cl
    have : kOf ((i + 1 : Nat) : Int) j = kOf (i : Int) j := by unfold kOf; omega
    rw [this]
  obtain ⟨f1, f2, f3⟩ := clb_fin ⟨kOf bits q, hk8⟩ ⟨r, hr8⟩ ⟨y, by omega⟩ hkr
  simp only at f1 f2 f3
  rw [e0]
  refine ⟨f1, fun h => ⟨(f2 h).1, ?_⟩, fun h => ?_⟩
  · apply ext_getD (by rw [List.length_set, rlTo_len, rlTo_len])
    intro j hj
    rw [rlTo_len] at hj
    by_cases hjq : j = q
    · subst hjq
      rw [e1, (f2 h).2]
      simp [List.getD_eq_getElem?_getD, rlTo_len, hj]
    · rw [eo j hj hjq]
      simp only [List.getD_eq_getElem?_getD]
      rw [List.getElem?_set_ne (fun e => hjq e.symm)]
  · apply ext_getD (by rw [rlTo_len, rlTo_len])
    intro j hj
    rw [rlTo_len] at hj
    by_cases hjq : j = q
    · subst hjq
      rw [e1, e0, f3 h]
    · exact eo j hj hjq
end Go.Proofs.Ytmedkjiabieloaa.Rt
namespace Go.Proofs.Ytmedkjiabieloaa.Rt
open Go.RowKit Go.Proofs.YtmedkjiabieloaaW.PrintWords Go.Proofs.YtmedkjiabieloaaW.PrintLast Go.Proofs.YtmedkjiabieloaaW.PrintMore Go.Proofs.Ytmedkjiabieloaa.QRd
open Go.Proofs.Ytmedkjiabieloaa
set_option linter.unusedVariables false
set_option linter.unusedSimpArgs false
theorem is_f (s : ByteArray) : redoubtref02_Is.f s = some (decide (s.size = 4 ∨ s.size = 16)) := by
  unfold redoubtref02_Is.f
  by_cases h4 : s.size = 4
  · rw [if_pos (by omega)]
    simp [h4]
  · rw [if_neg (by omega)]
    congr 1
    by_cases h16 : s.size = 16
    · simp [h16]
    · have : ((s.size : Int) == 16) = false := by rw [beq_eq_false_iff_ne]; omega
      rw [this]
      simp [h4, h16]
theorem is_walk (s : ByteArray) (w : World) : Calls Try.prog 33 #[.string s] w fun e w' => e = .returned (.bool (decide (s.size = 4 ∨ s.size = 16))) ∧ ∃ m, w' = w.drewN m :=
  (redoubtref02_Is.calls s _ w (is_f s)).mono fun _ _ h => ⟨h.1, h.2.out⟩
theorem pow_pos' (k : Nat) (hk : k ≤ 7) : (1 : Int) ≤ 2 ^ k ∧ (2 : Int) ^ k ≤ 128 := by
  rcases (show k = 0 ∨ k = 1 ∨ k = 2 ∨ k = 3 ∨ k = 4 ∨ k = 5 ∨ k = 6 ∨ k = 7 from by omega) with rfl | rfl | rfl | rfl | rfl | rfl | rfl | rfl <;> decide
set_option maxHeartbeats 1600000 in
set_option maxRecDepth 100000 in
theorem rmask_walk (s : ByteArray) (nb : Int) (w : World) (hok : ¬ maskBad s nb) :
    Calls Try.prog 39 #[.string s, .int .i64 nb] w fun e w' => e = .returned (.tuple #[.string (strOfNums (mkTo nb s.size (bytesOf s))), .int .i64 0]) ∧ Below w.heap.size w w' := by
  unfold maskBad at hok
  have IS := Aside0.mk fun (W : World) => is_walk s W
  obtain ⟨n, hn⟩ : ∃ n, s.size = n := ⟨_, rfl⟩
  have HN := Aside0.mk hn
  have hx1 : n = 4 ∨ n = 16 := by omega
  have hx2 : ¬ (nb < 0) := by omega
  have hx3 : ¬ (8 * (n : Int) < nb) := by rw [← hn]; omega
  have b0 : decide (n = 4 ∨ n = 16) = true := decide_eq_true hx1
  have b2 : decide (nb < 0) = false := decide_eq_false hx2
  have b3 : decide (8 * (n : Int) < nb) = false := decide_eq_false hx3
  rw [hn, b0] at IS
  rw [hn]
  have eN : (s.size : Int) = (n : Int) := by rw [hn]
  have hnb0 : 0 ≤ nb := by omega
  have hnb1 : nb ≤ 128 := by omega
  have hn16 : n ≤ 16 := by omega
  obtain ⟨b, rfl⟩ := Int.eq_ofNat_of_zero_le hnb0
  have hbn : b ≤ 8 * n := by omega
  clear hok hn hx1 hx2 hx3 hnb0
  go_enter Try.func39, Try.ntmps39
  go_wp2_with (first | (go_at_call 33; refine (IS.out _).mono ?_; rintro e w5 ⟨rfl, m1, rfl⟩; have HB0 := Aside0.mk (pw_below_drewN (Below.refl w.heap.size w) m1); generalize w.drewN m1 = w0 at HB0 ⊢) | ((with_reducible refine gate_dst (N := 25) rfl ?_); refine conv_event rfl (N := 25) rfl s rfl ?hx ?_; (case hx => first | rfl | (go_simp; done)); intro g c w1 hg hrow hb; have HG := Aside0.mk (show w.heap.size ≤ g from by rw [hg]; exact HB0.out.size); have HRW := Aside0.mk hrow; have HB1 := Aside0.mk (HB0.out.trans (hb.mono HB0.out.size)); clear hg hrow hb))
  go_loopw [7] (fun iv wr => ∃ i : Nat, b ≤ i ∧ i ≤ 8 * n ∧ iv = .int .i64 i ∧ Aside0 (BRow wr g (rlTo b i (bytesOf s))) ∧ Aside0 (Below w.heap.size w wr)) (fun iv _ => 8 * n - (intOf iv).toNat)
  case atStart => exact ⟨b, Nat.le_refl _, hbn, rfl, Aside0.mk (by rw [rlTo_start]; exact HRW.out), HB1⟩
  case round =>
    clear HRW HB1
    obtain ⟨i, hbi, hi, rfl, HR, HB⟩ := hrel
    obtain ⟨wo, rfl⟩ : ∃ wo : World, wo = wr := ⟨_, rfl⟩
    by_cases hlt : i < 8 * n
    · have hd : decide ((i : Int) < 8 * (n : Int)) = true := decide_eq_true (by omega)
      have hd' : decide (i < 8 * n) = true := decide_eq_true hlt
      obtain ⟨q, hq⟩ : ∃ q, i / 8 = q := ⟨_, rfl⟩
      obtain ⟨r, hr⟩ : ∃ r, i % 8 = r := ⟨_, rfl⟩
      have hqn : q < (bytesOf s).length := by rw [bytesOf_length, HN.out]; omega
      obtain ⟨f1, f2, f3⟩ := rl_step b i q r (bytesOf s) (by omega) (by omega) hq hr hqn (byte_of s q hqn)
      have hc := HR.out.cell q (by rw [rlTo_len]; exact hqn)
      have hf := HR.out.free q (by rw [rlTo_len]; exact hqn)
      obtain ⟨x, hx⟩ : ∃ x, (rlTo b i (bytesOf s)).getD q 0 = x := ⟨_, rfl⟩
      rw [hx] at hc f1 f2 f3
      have F2 := Aside0.mk f2
      have F3 := Aside0.mk f3
      have hqN : q < n := by omega
      have hqI : (q : Int) < (n : Int) := by omega
      have er : (i : Int) % 8 = (r : Int) := by omega
      have eq_ : (i : Int) / 8 = (q : Int) := by omega
      have hr8 : r ≤ 7 := by omega
      have hp := pow_pos' (7 - r) (by omega)
      obtain ⟨on, hon⟩ : ∃ on : Int, 2 ^ (7 - r) = on := ⟨_, rfl⟩
      have HON := Aside0.mk hon
      rw [hon] at hp
      have hq1 : 8 * q ≤ i ∧ i < 8 * q + 8 := by omega
      have ER := Aside0.mk er
      have HQB := Aside0.mk hqn
      clear f2 f3 hx hq hr hon hqn
      go_wp2_with (fail)
      clear er eq_
      go_loop [8, 9] (fun ov kv => ∃ k : Nat, r ≤ k ∧ k ≤ 7 ∧ kv = .int .i64 k ∧ ov = .int .i64 (2 ^ (k - r))) (fun _ kv => 7 - (intOf kv).toNat)
      case atStart => exact ⟨r, Nat.le_refl _, hr8, by rw [ER.out], by simp⟩
      case round =>
        obtain ⟨k, hk1, hk2, rfl, rfl⟩ := hrel
        by_cases hk : k < 7
        · have hd2 : decide ((k : Int) < 7) = true := decide_eq_true (by omega)
          have hp2 := pow_pos' (k - r) (by omega)
          obtain ⟨o1, ho1⟩ : ∃ o : Int, 2 ^ (k - r) = o := ⟨_, rfl⟩
          have HO1 := Aside0.mk ho1
          rw [ho1] at hp2
          rw [ho1]
          clear ho1
          go_wp2_with (fail)
          go_round
          case rel => exact ⟨k + 1, by omega, by omega, by go_num, by rw [show k + 1 - r = (k - r) + 1 from by omega, Int.pow_succ, HO1.out, Int.mul_comm]⟩
          case measure => simp [intOf]; omega
        · have hd2 : decide ((k : Int) < 7) = false := decide_eq_false (by omega)
          obtain rfl : k = 7 := by omega
          rw [HON.out]
          have eq_ : (i : Int) / 8 = (q : Int) := by omega
          have hxo : 0 ≤ x / on := Int.ediv_nonneg (by omega) (by omega)
          by_cases hbit : x / on % 2 = 1
          · have d1 : ((x / on).tmod 2 == 1) = true := by rw [Int.tmod_eq_emod_of_nonneg hxo]; exact beq_iff_eq.mpr hbit
            have d1' : (x / on % 2 == 1) = true := beq_iff_eq.mpr hbit
            have G := Aside0.mk (by have := F2.out; rw [HON.out] at this; exact this hbit)
            have g1 : on ≤ x := G.out.1
            have ew : IntKind.u8.wrap (x - on) = x - on := by rw [wraps_u8 _ (by omega) (by omega)]
            have ew' : (x - on) % 256 = x - on := by omega
            clear hbit
            go_wp2_with (fail)
            have BR := Aside0.mk (show BRow (wo.setCell ⟨g, q, none⟩ (.int .u8 (x - on))) g (rlTo b (i + 1) (bytesOf s)) from by
              rw [G.out.2]
              exact HR.out.set q (by rw [rlTo_len]; exact HQB.out) _)
            exact ⟨⟨i + 1, by omega, by omega, by go_num, BR, Aside0.mk (Below.setCell HB.out HG.out _)⟩, by simp [intOf]; omega⟩
          · have d1 : ((x / on).tmod 2 == 1) = false := by rw [Int.tmod_eq_emod_of_nonneg hxo]; exact beq_eq_false_iff_ne.mpr hbit
            have d1' : (x / on % 2 == 1) = false := beq_eq_false_iff_ne.mpr hbit
            have G := Aside0.mk (by have := F3.out; rw [HON.out] at this; exact this hbit)
            clear hbit
            go_wp2_with (fail)
            exact ⟨⟨i + 1, by omega, by omega, by go_num, Aside0.mk (by rw [G.out]; exact HR.out), HB⟩, by simp [intOf]; omega⟩
    · have hd : decide ((i : Int) < 8 * (n : Int)) = false := decide_eq_false (by omega)
      have hd' : decide (i < 8 * n) = false := decide_eq_false hlt
      obtain rfl : i = 8 * n := by omega
      have hrd := HR.out.reads (by rw [rlTo_len, bytesOf_length, HN.out]; omega)
      have hcv := string_of_reads (P := Try.prog) (c := c) Try.underlying55 Try.underlying5 Try.underlying9 hrd
      rw [rlTo_len, bytesOf_length, rlTo_end _ _ _ (by rw [bytesOf_length, HN.out])] at hcv
      clear hrd
      go_wp2_with (fail)
      go_ret2
      exact ⟨rfl, HB.out⟩
end Go.Proofs.Ytmedkjiabieloaa.Rt
namespace Go.Proofs.Ytmedkjiabieloaa.Rt
open Go.RowKit Go.Proofs.YtmedkjiabieloaaW.PrintWords Go.Proofs.YtmedkjiabieloaaW.PrintLast Go.Proofs.YtmedkjiabieloaaW.PrintMore Go.Proofs.Ytmedkjiabieloaa.QRd
open Go.Proofs.Ytmedkjiabieloaa
set_option linter.unusedVariables false
set_option linter.unusedSimpArgs false
set_option maxHeartbeats 4000000 in
set_option maxRecDepth 100000 in
theorem rmask_bad (s : ByteArray) (nb : Int) (w : World) (hbad : maskBad s nb) (hs : s.size ≤ 140737488351232) :
    Calls Try.prog 39 #[.string s, .int .i64 nb] w fun e w' => e = .returned (.tuple #[.string ByteArray.empty, .int .i64 1]) ∧ Below w.heap.size w w' := by
  have IS := Aside0.mk fun (W : World) => is_walk s W
  obtain ⟨n, hn⟩ : ∃ n, s.size = n := ⟨_, rfl⟩
  unfold maskBad at hbad
  rw [hn] at hbad hs IS
  have eN : (s.size : Int) = (n : Int) := by rw [hn]
  clear hn
  by_cases h1 : n = 4 ∨ n = 16
  · rw [decide_eq_true h1] at IS
    by_cases h2 : nb < 0
    · have b2 : decide (nb < 0) = true := decide_eq_true h2
      clear hbad h1 h2
      go_enter Try.func39, Try.ntmps39
      go_wp2_with (first | (go_at_call 33; refine (IS.out _).mono ?_; rintro e w5 ⟨rfl, m1, rfl⟩; have HB0 := Aside0.mk (pw_below_drewN (Below.refl w.heap.size w) m1); generalize w.drewN m1 = w0 at HB0 ⊢))
      go_ret2
      exact ⟨rfl, HB0.out⟩
    · have b2 : decide (nb < 0) = false := decide_eq_false h2
      have b3 : decide (8 * (n : Int) < nb) = true := decide_eq_true (by omega)
      clear hbad h1
      go_enter Try.func39, Try.ntmps39
      go_wp2_with (first | (go_at_call 33; refine (IS.out _).mono ?_; rintro e w5 ⟨rfl, m1, rfl⟩; have HB0 := Aside0.mk (pw_below_drewN (Below.refl w.heap.size w) m1); generalize w.drewN m1 = w0 at HB0 ⊢))
      go_ret2
      exact ⟨rfl, HB0.out⟩
  · rw [decide_eq_false h1] at IS
    clear hbad h1
    go_enter Try.func39, Try.ntmps39
    go_wp2_with (first | (go_at_call 33; refine (IS.out _).mono ?_; rintro e w5 ⟨rfl, m1, rfl⟩; have HB0 := Aside0.mk (pw_below_drewN (Below.refl w.heap.size w) m1); generalize w.drewN m1 = w0 at HB0 ⊢))
    go_ret2
    exact ⟨rfl, HB0.out⟩
theorem rmask_any (s : ByteArray) (nb : Int) (w : World) (hs : s.size ≤ 140737488351232) :
    Calls Try.prog 39 #[.string s, .int .i64 nb] w fun e w' => e = .returned (.tuple #[.string (maskE s nb).1, .int .i64 (maskE s nb).2]) ∧ Below w.heap.size w w' := by
  unfold maskE
  by_cases h : maskBad s nb
  · rw [if_pos h]
    exact rmask_bad s nb w h hs
  · rw [if_neg h]
    exact rmask_walk s nb w h
set_option maxHeartbeats 4000000 in
set_option maxRecDepth 100000 in
theorem rprefix_walk (a : ByteArray) (nb : Int) (w : World) (hs : a.size ≤ 140737488351232) :
    Calls Try.prog 30 #[.agg #[.string a, .int .i64 nb]] w fun e w' => e = .returned (.tuple #[.agg #[.string (maskE a nb).1, .int .i64 nb], .bool ((maskE a nb).2 == 0)]) ∧ Below w.heap.size w w' := by
  have MW := Aside0.mk fun (W : World) => rmask_any a nb W hs
  obtain ⟨⟨m, er⟩, hm⟩ : ∃ x, maskE a nb = x := ⟨_, rfl⟩
  rw [hm] at MW ⊢
  simp only at MW ⊢
  clear hs hm
  go_enter Try.func30, Try.ntmps30
  go_wp2_with (first | ((with_reducible refine gate_dst (N := 1) rfl ?_); refine box_event ?hg (N := 1) ?hd (cs := #[.string a, .int .i64 nb]) (t := 26) ?hr ?_; (case hd => rfl); (case hg => rfl); (case hr => first | (go_simp; done) | (go_simp; rfl)); intro q1 hq w1 hbox hb; have BKq1 := Aside0.mk hbox; have HQq1 := Aside0.mk (show w.heap.size ≤ q1 from by rw [hq]; exact Nat.le_refl _); have HB1 := Aside0.mk hb; clear hbox hb hq) | ((with_reducible refine gate_dst (N := 2) rfl ?_); refine box_event ?hg (N := 2) ?hd (cs := #[.string ByteArray.empty, .int .i64 0]) (t := 26) ?hr ?_; (case hd => rfl); (case hg => rfl); (case hr => first | (go_simp; done) | (go_simp; rfl)); intro q2 hq w2 hbox hb; have HNq1q2 := Aside0.mk (show q1 ≠ q2 from by have := blk_lt BKq1.out; omega); have BKq1 := Aside0.mk (blk_below BKq1.out hb); have BKq2 := Aside0.mk hbox; have HQq2 := Aside0.mk (show w.heap.size ≤ q2 from by rw [hq]; exact HB1.out.size); have HB2 := Aside0.mk (HB1.out.trans (hb.mono HB1.out.size)); clear hbox hb hq; have z0 : w2.cell? ⟨q1, 0, none⟩ = some (.string a) := (blk_cell BKq1.out 0).trans rfl; have z1 : w2.cell? ⟨q1, 1, none⟩ = some (.int .i64 nb) := (blk_cell BKq1.out 1).trans rfl))
  refine (MW.out _).mono ?_
  rintro e w3 ⟨rfl, hb⟩
  have BKq1 := Aside0.mk (blk_below BKq1.out hb)
  have BKq2 := Aside0.mk (blk_below BKq2.out hb)
  have HB3 := Aside0.mk (HB2.out.trans (hb.mono HB2.out.size))
  clear hb z0 z1
  have z1 : w3.cell? ⟨q1, 1, none⟩ = some (.int .i64 nb) := (blk_cell BKq1.out 1).trans rfl
  go_wp2_with (first | ((with_reducible refine gate_store (t := 26) (p := 2) rfl ?_); have ca0 : w3.cell? ⟨q2, 0, none⟩ = some (.string ByteArray.empty) := (blk_cell BKq2.out 0).trans rfl; have ca1 : w3.cell? ⟨q2, 1, none⟩ = some (.int .i64 0) := (blk_cell BKq2.out 1).trans rfl; have fa0 : w3.frozen? ⟨q2, 0, none⟩ = false := blk_frozen BKq2.out 0; have fa1 : w3.frozen? ⟨q2, 1, none⟩ = false := blk_frozen BKq2.out 1; refine store_event (t := 26) (p := 2) (v := ?vo2_4_1) (w1 := Cells.setAll w3 q2 0 [.string m, .int .i64 nb]) ?hg ?ho ?hn ?hr ?_; (case ho => rfl); (case hg => rfl); (case hn => rfl); (case hr => first | (go_simp; done) | (go_simp; rfl)); intro w4 hw; have HB4 := Aside0.mk (show Below w.heap.size w w4 from by rw [hw]; exact Cells.setAll_below HQq2.out _ _ _ HB3.out); have BKq2 := Aside0.mk (show w4.heap[q2]? = some (.cells #[.string m, .int .i64 nb] 26 (0, 0)) from by rw [hw]; exact Cells.stored2 BKq2.out); clear ca0 ca1 fa0 fa1; clear hw))
  (try simp only [Exit.inBlock, Exit.then])
  refine bodyPost_ret (results_ct rfl _ _ q2 26 _ (0, 0) _ rfl BKq2.out Try.underlying26 rfl info26) rfl ?_
  exact ⟨rfl, HB4.out⟩
end Go.Proofs.Ytmedkjiabieloaa.Rt
namespace Go.Proofs.Ytmedkjiabieloaa.Rt
open Go.RowKit Go.Proofs.YtmedkjiabieloaaW.PrintWords Go.Proofs.YtmedkjiabieloaaW.PrintLast Go.Proofs.YtmedkjiabieloaaW.PrintMore Go.Proofs.Ytmedkjiabieloaa.QRd
open Go.Proofs.Ytmedkjiabieloaa
set_option linter.unusedVariables false
set_option linter.unusedSimpArgs false
/-- The order of routes, as a value. -/
def fnV : Value := .func (.func 22) #[] #[]
set_option maxHeartbeats 4000000 in
set_option maxRecDepth 100000 in
theorem new_walk (w : World) : Calls Try.prog 8 #[] w fun e w' => (∃ q, e = .returned (.pointer (some ⟨q, 0, none⟩)) ∧ q = w.heap.size ∧ w'.heap[q]? = some (.cells #[.slice none 0 0, fnV] 54 (0, 0))) ∧ Below w.heap.size w w' := by
  go_enter Try.func8, Try.ntmps8
  go_wp2_with (first | ((with_reducible refine gate_dst (N := 2) rfl ?_); refine box_event ?hg (N := 2) ?hd (cs := #[.slice none 0 0, fnV]) (t := 54) ?hr ?_; (case hd => rfl); (case hg => rfl); (case hr => first | (go_simp; done) | (go_simp; rfl)); intro q1 hq w1 hbox hb; have BKq1 := Aside0.mk hbox; have HQq1 := Aside0.mk (show w.heap.size ≤ q1 from by rw [hq]; exact Nat.le_refl _); have HB1 := Aside0.mk hb; have HE := Aside0.mk hq; clear hbox hb hq))
  go_ret
  exact ⟨⟨q1, rfl, HE.out, BKq1.out⟩, HB1.out⟩
def cmpI (a b : Int) : Int := if a < b then -1 else if b < a then 1 else 0
def cmpS (a b : ByteArray) : Int := if Op.bytesLess a.toList b.toList = true then -1 else if Op.bytesLess b.toList a.toList = true then 1 else 0
def orI (x y : Int) : Int := if x = 0 then y else x
def cmpA (a b : ByteArray) : Int := orI (cmpI a.size b.size) (cmpS a b)
def riseE (x p : S26) : Int := orI (cmpA x.f0 p.f0) (cmpI x.f1 p.f1)
theorem or_f (x y : Int) (k : Nat) : cmp_Or_int.f (k + 3) [x, y] = some (orI x y) := by
  unfold cmp_Or_int.f orI
  have w1 : wrap64 (0 + 1) = 1 := IntWalk.wrap64_in _ (by omega)
  have w2 : wrap64 (1 + 1) = 2 := IntWalk.wrap64_in _ (by omega)
  simp only [List.length_cons, List.length_nil]
  rw [cmp_Or_int.l0, if_pos (by decide), if_pos (by decide), if_pos (by simp)]
  by_cases hx : x = 0
  · rw [if_pos (by rw [hx]; rfl), w1, cmp_Or_int.l0, if_pos (by decide), if_pos (by decide), if_pos (by simp), if_pos hx]
    by_cases hy : y = 0
    · rw [if_pos (by rw [hy]; rfl), w2, cmp_Or_int.l0, if_neg (by decide), hy]
    · rw [if_neg (by intro h; exact hy h)]
      rfl
  · rw [if_neg (by intro h; exact hx h), if_neg hx]
    rfl
theorem cmpI_f (a b : Int) : cmp_Compare_int.f a b = some (cmpI a b) := by
  unfold cmp_Compare_int.f cmp_isNaN_int.f cmpI
  simp only [Option.bind_some, bne_self_eq_false]
  by_cases h : a < b
  · simp [h]
  · by_cases h' : b < a
    · simp [h, h']
    · simp [h, h']
theorem cmpS_f (a b : ByteArray) : cmp_Compare_string.f a b = some (cmpS a b) := by
  unfold cmp_Compare_string.f cmp_isNaN_string.f cmpS
  simp only [Option.bind_some, bne_self_eq_false]
  by_cases h : Op.bytesLess a.toList b.toList = true
  · simp [h]
  · by_cases h' : Op.bytesLess b.toList a.toList = true
    · simp [h, h']
    · simp [h, h']
theorem cmpA_f (a b : ByteArray) (k : Nat) : addr_Compare.f (k + 3) a b = some (cmpA a b) := by
  unfold addr_Compare.f
  rw [cmpI_f, Option.bind_some, cmpS_f, Option.bind_some, or_f, Option.bind_some]
  rfl
theorem rise_f (x : S28) (p : S26) : route_rising.f 3 x.f0.f0 x.f0.f1 x.f1 x.f2 p.f0 p.f1 = some (riseE x.f0 p) := by
  unfold route_rising.f
  rw [cmpA_f _ _ 0, Option.bind_some, cmpI_f, Option.bind_some, or_f _ _ 0, Option.bind_some]
  rfl
theorem rise_walk (x : S28) (p : S26) (w : World) : Calls Try.prog 22 #[.agg #[.string x.f0.f0, .int .i64 x.f0.f1, .string x.f1, .int .i64 x.f2], .agg #[.string p.f0, .int .i64 p.f1]] w fun e w' => e = .returned (.int .i64 (riseE x.f0 p)) ∧ Below w.heap.size w w' :=
  route_rising.calls 3 _ _ _ _ _ _ _ w (rise_f x p)
theorem addrCompare_walk (a b : ByteArray) (w : World) : Calls Try.prog 12 #[.string a, .string b] w fun e w' => e = .returned (.int .i64 (cmpA a b)) ∧ Below w.heap.size w w' :=
  addr_Compare.calls 3 a b _ w (cmpA_f a b 0)
theorem rcompare_f (a b : ByteArray) : redoubtref02_Compare.f a b = some (cmpA a b) := by
  unfold redoubtref02_Compare.f cmpA orI
  by_cases h : (a.size : Int) = (b.size : Int)
  · have e : cmpI a.size b.size = 0 := by unfold cmpI; rw [if_neg (by omega), if_neg (by omega)]
    rw [if_pos h, e, if_pos rfl]
    unfold cmpS
    split
    · rfl
    · split <;> rfl
  · rw [if_neg h]
    by_cases hl : (a.size : Int) < (b.size : Int)
    · have e : cmpI a.size b.size = -1 := by unfold cmpI; rw [if_pos hl]
      rw [if_pos hl, e]
      rfl
    · have e : cmpI a.size b.size = 1 := by unfold cmpI; rw [if_neg hl, if_pos (by omega)]
      rw [if_neg hl, e]
      rfl
theorem ahead_f (a : ByteArray) (i : Int) (b : ByteArray) (j : Int) : redoubtref18_ahead.f a i b j = some (decide (riseE ⟨a, i⟩ ⟨b, j⟩ < 0)) := by
  unfold redoubtref18_ahead.f
  rw [rcompare_f, Option.bind_some]
  unfold riseE orI
  simp only
  by_cases h0 : cmpA a b = 0
  · rw [if_neg (by omega), if_pos h0, if_pos h0]
    unfold cmpI
    congr 1
    by_cases hl : i < j
    · simp [hl]
    · by_cases hl' : j < i
      · simp [hl, hl']
      · simp [hl, hl']
  · by_cases hl : cmpA a b < 0
    · rw [if_pos hl, if_neg h0]
      simp [hl]
    · rw [if_neg hl, if_neg h0, if_neg h0]
      simp [hl]
theorem ahead_walk (x p : S26) (w : World) : Calls Try.prog 40 #[.agg #[.string x.f0, .int .i64 x.f1], .agg #[.string p.f0, .int .i64 p.f1]] w fun e w' => e = .returned (.bool (decide (riseE x p < 0))) ∧ Below w.heap.size w w' :=
  redoubtref18_ahead.calls x.f0 x.f1 p.f0 p.f1 _ w (ahead_f _ _ _ _)
end Go.Proofs.Ytmedkjiabieloaa.Rt

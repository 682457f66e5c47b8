/- Operations of a drawn region that make memory or call, in whatever order they come up: each is shown once. -/
import Derived.Test.YtpodidgdlcfaeaaWLast
import Derived.Below
namespace Go.Proofs.Ytpodidgdlcfaeaa.Events
open Go Go.RowKit Go.Proofs.YtpodidgdlcfaeaaW.PrintLast
section
variable {P : Program} {ops : Array Oper} {Q : Exit → Act → World → Prop} {md : Region.Mode} {S : World → Prop} {ds : List Nat}
theorem putAll_size : ∀ (l : List (Tmp × Value)) (a : Act), (putAll a l).tmps.size = a.tmps.size
  | [], a => rfl
  | (n, v) :: l, a => by rw [putAll, putAll_size l]; simp [Act.put]
theorem putAll_defers : ∀ (l : List (Tmp × Value)) (a : Act), (putAll a l).defers = a.defers
  | [], a => rfl
  | (n, v) :: l, a => by rw [putAll, putAll_defers l]; simp [Act.put]
theorem put_getD_ne {a : Act} {n t : Nat} {v : Value} (h : n ≠ t) : (a.put (some n) v).tmps.getD t undef = a.tmps.getD t undef := by
  simp only [Act.put, Array.getD_eq_getD_getElem?, Array.getElem?_setIfInBounds]
  rw [if_neg h]
theorem put_getD_eq {a : Act} {n : Nat} {v : Value} (h : n < a.tmps.size) : (a.put (some n) v).tmps.getD n undef = v := by
  simp [Act.put, Array.getD_eq_getD_getElem?, h]
theorem putAll_out : ∀ (E : List (Nat × Nat)) (vs : Nat → Value) (a : Act) (t : Nat), (∀ p ∈ E, p.2 ≠ t) → (putAll a (E.map fun p => (p.2, vs p.2))).tmps.getD t undef = a.tmps.getD t undef
  | [], _, _, _, _ => rfl
  | p :: E, vs, a, t, h => by
    rw [List.map_cons, putAll, putAll_out E vs _ t (fun q hq => h q (List.mem_cons_of_mem _ hq)), put_getD_ne (h p (List.mem_cons_self ..))]
theorem putAll_in : ∀ (E : List (Nat × Nat)) (vs : Nat → Value) (a : Act) (t : Nat), (∃ p ∈ E, p.2 = t) → t < a.tmps.size → (putAll a (E.map fun p => (p.2, vs p.2))).tmps.getD t undef = vs t
  | [], _, _, _, h, _ => by obtain ⟨p, hp, _⟩ := h; cases hp
  | p :: E, vs, a, t, h, ht => by
    rw [List.map_cons, putAll]
    by_cases hE : ∃ q ∈ E, q.2 = t
    · exact putAll_in E vs _ t hE (by simpa [Act.put] using ht)
    · have hp : p.2 = t := by
        obtain ⟨q, hq, e⟩ := h
        rcases List.mem_cons.mp hq with rfl | hq
        · exact e
        · exact absurd ⟨q, hq, e⟩ hE
      rw [putAll_out E vs _ t (fun q hq e => hE ⟨q, hq, e⟩)]
      subst hp
      exact put_getD_eq ht
theorem act_eq {a b : Act} (hd : a.defers = b.defers) (hs : a.tmps.size = b.tmps.size) (h : ∀ t, a.tmps.getD t undef = b.tmps.getD t undef) : a = b := by
  obtain ⟨at_, ad⟩ := a
  obtain ⟨bt, bd⟩ := b
  simp only at hd hs h
  subst hd
  have : at_ = bt := Array.ext hs fun i h1 h2 => by
    have := h i
    simpa [Array.getD_eq_getD_getElem?, h1, h2] using this
  rw [this]
/-- What is known between the events. -/
structure Mid (a0 : Act) (w0 : World) (l0 : Array Bool) (E : List (Nat × Nat)) (V : Nat → Value → World → Prop) (l : Array Bool) (a : Act) (w : World) : Prop where
  defers : a.defers = a0.defers
  size : a.tmps.size = a0.tmps.size
  same : ∀ t, (∀ p ∈ E, p.2 ≠ t) → a.tmps.getD t undef = a0.tmps.getD t undef
  vals : ∀ p ∈ E, l.getD p.1 true = true → V p.1 (a.tmps.getD p.2 undef) w
  below : Below w0.heap.size w0 w
  lsame : ∀ j, (∀ p ∈ E, p.1 ≠ j) → l.getD j true = l0.getD j true
def depB (md : Region.Mode) (o : Oper) (j : Nat) : Bool := o.after.any fun e => Region.binds md e && e.on == j
def slotsOk (E : List (Nat × Nat)) (l0 : Array Bool) (n : Nat) : Bool :=
  E.all (fun p => !l0.getD p.1 true && decide (p.2 < n) && E.all fun q => (p.1 == q.1) == (p.2 == q.2)) && (List.range l0.size).all fun j => l0.getD j true || E.any fun p => p.1 == j
def backB (ops : Array Oper) : Bool := (List.range ops.size).all fun j => match ops[j]? with | some o => o.after.all fun e => decide (e.on < j) | none => true
/-- One event. -/
def Step (P : Program) (md : Region.Mode) (ops : Array Oper) (Q : Exit → Act → World → Prop) (S : World → Prop) (a0 : Act) (w0 : World) (E : List (Nat × Nat)) (V : Nat → Value → World → Prop) (i n : Nat) : Prop :=
  ∃ o, ops[i]? = some o ∧ o.dst = some n ∧ ∀ (a : Act) (w : World), a.defers = a0.defers → (∀ t, (∀ p ∈ E, p.2 ≠ t) → a.tmps.getD t undef = a0.tmps.getD t undef) → (∀ q ∈ E, depB md o q.1 = true → V q.1 (a.tmps.getD q.2 undef) w) → Below w0.heap.size w0 w → S w →
    ∀ K : Act → World → Prop, (∀ v w', V i v w' → Below w.heap.size w w' → K (a.put (some n) v) w') → if Region.wanted o (yielded ops a.tmps) = true then Oper.wp P o a w K Q else K (a.put o.dst undef) w
theorem count_lt {E : List (Nat × Nat)} {f g : Nat × Nat → Bool} (h : ∀ p, g p = true → f p = true) {q : Nat × Nat} (hq : q ∈ E) (hf : f q = true) (hg : g q = false) : E.countP g < E.countP f := by
  have hle : ∀ l : List (Nat × Nat), l.countP g ≤ l.countP f := fun l => by
    induction l with
    | nil => simp
    | cons p l ih =>
      rw [List.countP_cons, List.countP_cons]
      by_cases hp : g p = true
      · rw [if_pos hp, if_pos (h p hp)]; omega
      · rw [if_neg hp]; split <;> omega
  induction E with
  | nil => cases hq
  | cons p l ih =>
    rw [List.countP_cons, List.countP_cons]
    rcases List.mem_cons.mp hq with rfl | hq
    · rw [hf, hg]
      have := hle l
      simp
      omega
    · have := ih hq
      by_cases hp : g p = true
      · rw [if_pos hp, if_pos (h p hp)]; omega
      · rw [if_neg hp]; split <;> omega
theorem events_ {fuel : Nat} {l0 : Array Bool} {a0 : Act} {w0 : World} (E : List (Nat × Nat)) (V : Nat → Value → World → Prop) (n : Nat) (hn : a0.tmps.size = n) (hf : E.length ≤ fuel)
    (hok : slotsOk E l0 n = true) (hback : backB ops = true) (hV : ∀ i v w w', Below w.heap.size w w' → V i v w → V i v w') (hS : ∀ w w', Below w.heap.size w w' → S w → S w') (hS0 : S w0)
    (step : ∀ p ∈ E, Step P md ops Q S a0 w0 E V p.1 p.2)
    (cont : ∀ (vs : Nat → Value) (w : World), (∀ p ∈ E, V p.1 (vs p.2) w) → Below w0.heap.size w0 w → S w → Q .normal (putAll a0 (E.map fun p => (p.2, vs p.2))) w) :
    wpAnyLast P md ops Q S ds fuel l0 a0 w0 := by
  unfold slotsOk at hok
  rw [Bool.and_eq_true, List.all_eq_true, List.all_eq_true] at hok
  obtain ⟨hE, hcov⟩ := hok
  have hE1 : ∀ p ∈ E, l0.getD p.1 true = false ∧ p.2 < n := fun p hp => by
    have := hE p hp
    simp only [Bool.and_eq_true, Bool.not_eq_true', decide_eq_true_eq] at this
    exact ⟨this.1.1, this.1.2⟩
  have hE2 : ∀ p ∈ E, ∀ q ∈ E, (p.1 = q.1 ↔ p.2 = q.2) := fun p hp q hq => by
    have := hE p hp
    simp only [Bool.and_eq_true, List.all_eq_true] at this
    have := this.2 q hq
    rw [beq_iff_eq, Bool.eq_iff_iff, beq_iff_eq, beq_iff_eq] at this
    exact this
  have hE3 : ∀ j, l0.getD j true = false → ∃ p ∈ E, p.1 = j := fun j hj => by
    have hlt : j < l0.size := by
      rcases Nat.lt_or_ge j l0.size with h | h
      · exact h
      · simp [Array.getD_eq_getD_getElem?, Array.getElem?_eq_none h] at hj
    have := hcov j (List.mem_range.mpr hlt)
    rw [hj, Bool.false_or, List.any_eq_true] at this
    obtain ⟨p, hp, e⟩ := this
    exact ⟨p, hp, by simpa using e⟩
  have main : ∀ (fuel : Nat) (l : Array Bool) (a : Act) (w : World), Mid a0 w0 l0 E V l a w → S w → E.countP (fun p => !l.getD p.1 true) ≤ fuel → wpAnyLast P md ops Q S ds fuel l a w := by
    have fin : ∀ (l : Array Bool) (a : Act) (w : World), Mid a0 w0 l0 E V l a w → S w → (∀ p ∈ E, l.getD p.1 true = true) → Q .normal a w := fun l a w M hs hall => by
      have e : a = putAll a0 (E.map fun p => (p.2, (fun t => a.tmps.getD t undef) p.2)) := by
        refine act_eq (by rw [putAll_defers]; exact M.defers) (by rw [putAll_size]; exact M.size) fun t => ?_
        by_cases ht : ∃ p ∈ E, p.2 = t
        · obtain ⟨p, hp, rfl⟩ := ht
          rw [putAll_in E (fun t => a.tmps.getD t undef) a0 p.2 ⟨p, hp, rfl⟩ (by rw [hn]; exact (hE1 p hp).2)]
        · rw [putAll_out E (fun t => a.tmps.getD t undef) a0 t (fun p hp e => ht ⟨p, hp, e⟩)]
          exact M.same t fun p hp e => ht ⟨p, hp, e⟩
      rw [e]
      exact cont (fun t => a.tmps.getD t undef) w (fun p hp => M.vals p hp (hall p hp)) M.below hs
    have unl : ∀ (l : Array Bool) (a : Act) (w : World), Mid a0 w0 l0 E V l a w → ∀ j, l.getD j true = false → ∃ p ∈ E, p.1 = j := fun l a w M j hj => by
      by_cases h : ∃ p ∈ E, p.1 = j
      · exact h
      · rw [M.lsame j fun p hp e => h ⟨p, hp, e⟩] at hj
        exact hE3 j hj
    intro fuel
    induction fuel with
    | zero =>
      intro l a w M hs hc
      have hall : ∀ p ∈ E, l.getD p.1 true = true := fun p hp => by
        have := List.countP_eq_zero.mp (Nat.le_zero.mp hc) p hp
        simpa using this
      refine ⟨?_, fin l a w M hs hall⟩
      rw [List.eq_nil_iff_forall_not_mem]
      intro j hj
      obtain ⟨hun, _⟩ := mem_ready.1 hj
      obtain ⟨p, hp, rfl⟩ := unl l a w M j hun
      rw [hall p hp] at hun
      cases hun
    | succ fuel ih =>
      intro l a w M hs hc
      refine ⟨fun h0 => fin l a w M hs fun p hp => ?_, fun i hi => ?_⟩
      · cases hl : l.getD p.1 true with
        | true => rfl
        | false =>
          exfalso
          have key : ∀ m j, j ≤ m → l.getD j true = false → False := by
            intro m
            induction m with
            | zero =>
              intro j hj hun
              obtain ⟨q, hq, rfl⟩ := unl l a w M j hun
              obtain ⟨o, ho, _⟩ := step q hq
              have hb := hback
              unfold backB at hb
              have hlt : q.1 < ops.size := (Array.getElem?_eq_some_iff.1 ho).1
              have h1 := List.all_eq_true.1 hb q.1 (List.mem_range.2 hlt)
              rw [ho] at h1
              have : q.1 ∈ Region.ready md ops l := mem_ready.2 ⟨hun, o, ho, fun e he _ => by
                have := Array.all_eq_true_iff_forall_mem.1 h1 e he
                have := of_decide_eq_true this
                omega⟩
              rw [h0] at this
              cases this
            | succ m ihm =>
              intro j hj hun
              obtain ⟨q, hq, rfl⟩ := unl l a w M j hun
              obtain ⟨o, ho, _⟩ := step q hq
              have hb := hback
              unfold backB at hb
              have hlt : q.1 < ops.size := (Array.getElem?_eq_some_iff.1 ho).1
              have h1 := List.all_eq_true.1 hb q.1 (List.mem_range.2 hlt)
              rw [ho] at h1
              have hls : q.1 < l.size := by
                rcases Nat.lt_or_ge q.1 l.size with h | h
                · exact h
                · simp [Array.getD_eq_getD_getElem?, Array.getElem?_eq_none h] at hun
              have : q.1 ∈ Region.ready md ops l := mem_ready.2 ⟨hun, o, ho, fun e he _ => by
                have := Array.all_eq_true_iff_forall_mem.1 h1 e he
                have hlt2 := of_decide_eq_true this
                cases hle : l.getD e.on true with
                | true =>
                  have h3 : e.on < l.size := by omega
                  simpa [Array.getD_eq_getD_getElem?, h3] using hle
                | false => exact (ihm e.on (by omega) hle).elim⟩
              rw [h0] at this
              cases this
          exact key p.1 p.1 (Nat.le_refl _) hl
      · obtain ⟨hun, o', ho', hall⟩ := mem_ready.1 hi
        obtain ⟨p, hp, rfl⟩ := unl l a w M i hun
        obtain ⟨o, ho, hdst, hst⟩ := step p hp
        obtain rfl : o' = o := Option.some.inj (ho'.symm.trans ho)
        refine wpOp_step ho fun K' hK => ?_
        refine hst a w M.defers M.same (fun q hq hd => M.vals q hq ?_) M.below hs K' fun v w' hv hb => hK _ _ ⟨fun _ hs => hS w w' hb hs, ih _ _ _ ?_ (hS w w' hb hs) ?_⟩
        · obtain ⟨e, he, h1⟩ := Array.any_eq_true'.1 hd
          simp only [Bool.and_eq_true, beq_iff_eq] at h1
          have := hall e he h1.1
          rw [h1.2] at this
          rcases Nat.lt_or_ge q.1 l.size with h | h
          · simpa [Array.getD_eq_getD_getElem?, h] using this
          · simp [Array.getD_eq_getD_getElem?, Array.getElem?_eq_none h]
        · refine ⟨by simpa [Act.put] using M.defers, by simpa [Act.put] using M.size, fun t ht => by rw [put_getD_ne (ht p hp)]; exact M.same t ht, fun q hq hl => ?_, M.below.trans (hb.mono M.below.size), fun j hj => ?_⟩
          · by_cases hpq : p.1 = q.1
            · rw [← (hE2 p hp q hq).mp hpq, put_getD_eq (by rw [M.size, hn]; exact (hE1 p hp).2), ← hpq]
              exact hv
            · have hne : p.2 ≠ q.2 := fun e => hpq ((hE2 p hp q hq).mpr e)
              rw [put_getD_ne hne]
              refine hV _ _ w w' hb (M.vals q hq ?_)
              rwa [getD_set_ne true hpq] at hl
          · rw [getD_set_ne true (hj p hp)]
            exact M.lsame j hj
        · have := count_lt (E := E) (f := fun p => !l.getD p.1 true) (g := fun q => !(l.setIfInBounds p.1 true).getD q.1 true) (fun q h => by
            simp only [Bool.not_eq_true'] at h ⊢
            by_cases hpq : p.1 = q.1
            · rw [← hpq]; exact hun
            · rwa [getD_set_ne true hpq] at h) hp (by simp only [Bool.not_eq_true']; exact hun) (by
              have hls : p.1 < l.size := by
                rcases Nat.lt_or_ge p.1 l.size with h | h
                · exact h
                · simp [Array.getD_eq_getD_getElem?, Array.getElem?_eq_none h] at hun
              simp [Array.getD_eq_getD_getElem?, hls])
          omega
  refine main fuel l0 a0 w0 ⟨rfl, rfl, fun _ _ => rfl, (fun p hp h => by rw [(hE1 p hp).1] at h; cases h), Below.refl _ _, fun _ _ => rfl⟩ hS0 ?_
  exact Nat.le_trans (List.countP_le_length) hf
end
end Go.Proofs.Ytpodidgdlcfaeaa.Events

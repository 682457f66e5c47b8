/- A script of calls that came in: its reading as a list; the walk of few. -/
import Derived.Test.YticaejoaoblcmaaDoorReads
import Derived.Test.YticaejoaoblcmaaDoorPmtF
import Derived.Deep.Slices
import Derived.SizedLaws
namespace Go.Proofs.YticaejoaoblcmaaDoor.Pmt
open Go.Deep Go.RowKit Go.Maps Go.Proofs.YticaejoaoblcmaaDoorW.PrintWords Go.Proofs.YticaejoaoblcmaaDoorW.PrintLast Go.Proofs.YticaejoaoblcmaaDoorW.PrintMore Go.Proofs.YticaejoaoblcmaaDoor.PPmtuInner
set_option linter.unusedVariables false
set_option linter.unusedSimpArgs false
attribute [local go_sem] max2_int min2_int max_two min_two max_three min_three max_four min_four
structure Op where
  now : Int
  n : Int
  dst : ByteArray
  get : Bool
instance : Inhabited Op := ⟨⟨0, 0, ByteArray.empty, false⟩⟩
def Op.cells (o : Op) : List Value := [.int .i64 o.now, .int .i64 o.n, .string o.dst, .bool o.get]
/-- An op's four cells at p. -/
structure OpAt (w : World) (p : Addr) (o : Op) : Prop where
  c0 : w.cell? p = some (.int .i64 o.now)
  c1 : w.cell? { block := p.block, off := p.off + 1 } = some (.int .i64 o.n)
  c2 : w.cell? { block := p.block, off := p.off + 2 } = some (.string o.dst)
  c3 : w.cell? { block := p.block, off := p.off + 3 } = some (.bool o.get)
theorem OpAt.below {w w' : World} {p : Addr} {o : Op} (h : OpAt w p o) (hb : Below w.heap.size w w') : OpAt w' p o :=
  ⟨pw_cell_below hb h.c0, pw_cell_below hb h.c1, pw_cell_below hb h.c2, pw_cell_below hb h.c3⟩
def ReadsOps (w : World) (A : Option Addr) (l : List Op) : Prop := ∀ j, j < l.length → ∃ ad, A = some ad ∧ OpAt w (ad.add (j * 4)) (l.getD j default)
theorem weightsAll_mem {H : Type} {P : Program} {e : TypeId} {n : Nat} {d : DataW H} : ∀ {l : List (DataW H)}, d ∈ l → n ∈ d.weights P e → n ∈ DataW.weightsAll P e l
  | [], h, _ => by simp at h
  | x :: l, h, hn => by
    unfold DataW.weightsAll
    rcases List.mem_cons.mp h with rfl | h
    · exact List.mem_append.mpr (Or.inl hn)
    · exact List.mem_append.mpr (Or.inr (weightsAll_mem h hn))
theorem came {H : Type} {enc : TypeId × Value → H} {W : World} {A : Option Addr} {len cap : Nat} {d : DataW H} {ps : List MemPlace}
    (h : DataW.Trod enc Tryd.prog W 0 (fun _ => true) true 22 (.slice A len cap) d ps) (wt : ∀ n ∈ d.weights Tryd.prog 22, n ≤ 140737488351232) :
    ∃ l : List Op, len = l.length ∧ ReadsOps W A l ∧ ∀ o ∈ l, (Lit.int .i64 o.now).wf = true ∧ (Lit.int .i64 o.n).wf = true ∧ o.dst.size ≤ 140737488351232 := by
  obtain ⟨fuel, hf⟩ := h
  rcases open_slice Tryd.underlying22 hf with ⟨hcs, _⟩ | ⟨a, n, c, m, k, D, Pl, hcs, _, hl, hm, hmm, hx, hel⟩
  · simp [Value.cells] at hcs
    obtain ⟨rfl, rfl, rfl⟩ := hcs
    exact ⟨[], rfl, fun j hj => absurd hj (by simp), by simp⟩
  · simp [Value.cells] at hcs
    obtain ⟨rfl, rfl, rfl⟩ := hcs
    have hC : Tryd.prog.cellsOf 27 = 4 := by kernel_rfl
    rw [hC] at hel
    have hd : d = DataW.slice ((List.range len).map D) ((List.range (m - len)).map fun j => D (len + j)) := congrArg Prod.fst hx
    obtain ⟨f, hF⟩ := choose_lt (α := Op) (n := len) (p := fun i o => OpAt W (a.add (i * 4)) o ∧ (Lit.int .i64 o.now).wf = true ∧ (Lit.int .i64 o.n).wf = true ∧ o.dst.size ≤ 140737488351232) (fun i hi => by
      obtain ⟨cs', h1, h2⟩ := hel i (by rw [hmm]; simp; omega)
      obtain ⟨x0, x1, x2, x3, rfl, w0, w1, ws⟩ := Reads.rd27 h2
      obtain ⟨_, _, hc⟩ := World.cells?_some h1
      refine ⟨⟨x0, x1, x2, x3⟩, ⟨?_, hc 1 (by omega), hc 2 (by omega), hc 3 (by omega)⟩, w0, w1, ws _ (fun n hn => wt n ?_)⟩
      · have := hc 0 (by omega)
        simpa [Addr.add] using this
      · rw [hd]
        unfold DataW.weights
        rw [Tryd.underlying22]
        refine List.mem_cons.mpr (Or.inr (List.mem_append.mpr (Or.inl (weightsAll_mem (d := D i) ?_ hn))))
        exact List.mem_map.mpr ⟨i, List.mem_range.mpr hi, rfl⟩)
    refine ⟨(List.range len).map f, by simp, ?_, ?_⟩
    · intro j hj
      have hj' : j < len := by simpa using hj
      refine ⟨a, rfl, ?_⟩
      have : ((List.range len).map f).getD j default = f j := by simp [List.getD_eq_getElem?_getD, hj']
      rw [this]
      exact (hF j hj').1
    · intro o ho
      obtain ⟨i, hi, rfl⟩ := List.mem_map.mp ho
      exact (hF i (List.mem_range.mp hi)).2
/-- What few answers. -/
def okOp (o : Op) : Bool := !(decide (300 < o.dst.size) || decide (o.now < -1000000000) || decide (1000000000 < o.now))
def fewE (l : List Op) : Bool := decide (l.length ≤ 150) && l.all okOp
theorem all_not (l : List Op) (j : Nat) (hj : j < l.length) (h : okOp (l.getD j default) = false) : l.all okOp = false := by
  rw [List.all_eq_false]
  refine ⟨l[j], List.getElem_mem hj, ?_⟩
  rw [List.getD_eq_getElem?_getD, List.getElem?_eq_getElem hj] at h
  simpa using h
theorem all_yes (l : List Op) (h : ∀ k, k < l.length → okOp (l.getD k default) = true) : l.all okOp = true := by
  rw [List.all_eq_true]
  intro o ho
  obtain ⟨k, hk, rfl⟩ := List.getElem_of_mem ho
  have := h k hk
  rw [List.getD_eq_getElem?_getD, List.getElem?_eq_getElem hk] at this
  exact this
set_option maxHeartbeats 4000000 in
theorem few_walk (A : Option Addr) (l : List Op) (c : Nat) (w : World) (hr : ReadsOps w A l) :
    Calls Tryd.prog 7 #[.slice A l.length c] w fun e w' => e = .returned (.bool (fewE l)) ∧ ∃ m, w' = w.drewN m := by
  by_cases h150 : l.length ≤ 150
  · have c1 : decide ((150 : Int) < (l.length : Int)) = false := by simp; omega
    have HF := Aside0.mk (show fewE l = l.all okOp by unfold fewE; rw [decide_eq_true h150]; rfl)
    obtain ⟨N, hN⟩ : ∃ N, l.length = N := ⟨_, rfl⟩
    have HN := Aside0.mk hN
    have R := Aside0.mk hr
    rw [hN] at c1 h150 ⊢
    clear hr hN
    go_enter Tryd.func7, Tryd.ntmps7
    go_wp2
    go_loop [3] (fun i => ∃ j : Nat, j ≤ N ∧ i = .int .i64 j ∧ Aside0 (∀ k, k < j → okOp (l.getD k default) = true)) (fun i => N - (intOf i).toNat)
    case atStart => exact ⟨0, by omega, rfl, Aside0.mk (fun k hk => absurd hk (by omega))⟩
    case round =>
      obtain ⟨j, hj, rfl, HP⟩ := hrel
      by_cases hjl : j < N
      · have hd : decide ((j : Int) < (N : Int)) = true := by simp; omega
        obtain ⟨ad, rfl, hc⟩ := R.out j (by rw [HN.out]; exact hjl)
        obtain ⟨o, ho⟩ : ∃ o, l.getD j default = o := ⟨_, rfl⟩
        have HO := Aside0.mk ho
        rw [ho] at hc
        have h0 := hc.c0
        have h2 := hc.c2
        clear hc ho
        have hok : okOp o = (!(decide (300 < o.dst.size) || decide (o.now < -1000000000) || decide (1000000000 < o.now))) := rfl
        obtain ⟨S, hS⟩ : ∃ S, o.dst.size = S := ⟨_, rfl⟩
        obtain ⟨t, ht⟩ : ∃ t, o.now = t := ⟨_, rfl⟩
        rw [hS, ht] at hok
        rw [ht] at h0
        have NO := Aside0.mk (show okOp o = false → l.all okOp = false from fun h => all_not l j (by rw [HN.out]; exact hjl) (by rw [HO.out]; exact h))
        by_cases a1 : 300 < S
        · have d1 : decide ((300 : Int) < (S : Int)) = true := by simp; omega
          have HNO := Aside0.mk (NO.out (by rw [hok]; simp [a1]))
          clear NO hok a1
          go_wp2
          go_ret
          exact ⟨by rw [HF.out, HNO.out]; rfl, 0, rfl⟩
        · have d1 : decide ((300 : Int) < (S : Int)) = false := by simp; omega
          by_cases a2 : t < -1000000000
          · have d2 : decide (t < -1000000000) = true := decide_eq_true a2
            have HNO := Aside0.mk (NO.out (by rw [hok]; simp [a2]))
            clear NO hok a1 a2
            go_wp2
            go_ret
            exact ⟨by rw [HF.out, HNO.out]; rfl, 0, rfl⟩
          · have d2 : decide (t < -1000000000) = false := decide_eq_false a2
            by_cases a3 : 1000000000 < t
            · have d3 : decide (1000000000 < t) = true := decide_eq_true a3
              have HNO := Aside0.mk (NO.out (by rw [hok]; simp [a3]))
              clear NO hok a1 a2 a3
              go_wp2
              go_ret
              exact ⟨by rw [HF.out, HNO.out]; rfl, 0, rfl⟩
            · have d3 : decide (1000000000 < t) = false := decide_eq_false a3
              rw [decide_eq_false a1, d2, d3] at hok
              have HOK := Aside0.mk hok
              clear a1 a2 a3 hok NO
              go_wp2
              go_round
              case rel => exact ⟨j + 1, hjl, by go_num, Aside0.mk (fun k hk => by
                rcases Nat.lt_succ_iff_lt_or_eq.mp hk with hk | rfl
                · exact HP.out k hk
                · rw [HO.out, HOK.out]; rfl)⟩
              case measure => simp [intOf]; omega
      · have hd : decide ((j : Int) < (N : Int)) = false := by simp; omega
        have HA := Aside0.mk (show l.all okOp = true from all_yes l (fun k hk => HP.out k (by have := HN.out; omega)))
        go_wp2
        go_ret
        exact ⟨by rw [HF.out, HA.out]; rfl, 0, rfl⟩
  · have c1 : decide ((150 : Int) < (l.length : Int)) = true := by simp; omega
    have HF := Aside0.mk (show fewE l = false by unfold fewE; rw [decide_eq_false h150]; rfl)
    clear h150 hr
    go_enter Tryd.func7, Tryd.ntmps7
    go_wp2
    go_ret
    exact ⟨by rw [HF.out]; rfl, 0, rfl⟩
end Go.Proofs.YticaejoaoblcmaaDoor.Pmt

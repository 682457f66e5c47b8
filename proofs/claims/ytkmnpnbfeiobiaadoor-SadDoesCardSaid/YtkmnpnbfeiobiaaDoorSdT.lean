/- Tables of associations in memory: the program's and the document's, in one word. -/
import Derived.Test.YtkmnpnbfeiobiaaDoorSdW3
import Derived.Test.YtkmnpnbfeiobiaaDoorQSax0
namespace Go.Proofs.YtkmnpnbfeiobiaaDoor.Sd
open Go.RowKit Go.Proofs.YtkmnpnbfeiobiaaDoorW.PrintWords Go.Proofs.YtkmnpnbfeiobiaaDoorW.PrintLast Go.Proofs.YtkmnpnbfeiobiaaDoorW.PrintMore Go.Proofs.YtkmnpnbfeiobiaaDoor.QSa
open Go.Proofs.YtkmnpnbfeiobiaaDoor
set_option linter.unusedVariables false
set_option linter.unusedSimpArgs false
def enc25 (x : S25) : List Value := [.int .i64 x.f0, .string x.f1, .string x.f2, .string x.f3, .bool x.f4, .int .i64 x.f5]
def enc27 (x : S27) : List Value := [.int .i64 x.f0.f0, .string x.f0.f1, .string x.f0.f2, .string x.f0.f3, .bool x.f0.f4, .int .i64 x.f0.f5, .int .i64 x.f1, .bool x.f2, .int .i64 x.f3, .int .i64 x.f4, .int .i64 x.f5, .int .i64 x.f6]
/-- An association: its life, its birth, its bytes, the last number sent; its window as the program has it and as the document has it. -/
structure En where
  life : S27
  born : Int
  bytes : Int
  sent : Nat
  st : Nat × List Bool
  ns : List Nat
def en0 : En := ⟨z27, 0, 0, 0, (0, []), []⟩
def encE (e : En) (g : Nat) : List Value := [.int .i64 e.life.f0.f0, .string e.life.f0.f1, .string e.life.f0.f2, .string e.life.f0.f3, .bool e.life.f0.f4, .int .i64 e.life.f0.f5, .int .i64 e.life.f1, .bool e.life.f2, .int .i64 e.life.f3, .int .i64 e.life.f4, .int .i64 e.life.f5, .int .i64 e.life.f6, .int .i64 e.born, .int .i64 e.bytes, .int .u64 e.sent, .pointer (some ⟨g, 0, none⟩)]
/-- Where an association lies: its block, its window's block, its window's row. -/
structure Pl where
  p : Nat
  g : Nat
  u : Value
def pl0 : Pl := ⟨0, 0, .slice none 0 0⟩
def Pl.ptr (x : Pl) : Value := .pointer (some ⟨x.p, 0, none⟩)
structure Pl.Apart (x y : Pl) : Prop where
  p : x.p ≠ y.p
  g : x.g ≠ y.g
  u : ∀ k, x.u.ownBlock = some k → y.u.ownBlock ≠ some k
theorem Pl.Apart.symm {x y : Pl} (h : x.Apart y) : y.Apart x := ⟨Ne.symm h.p, Ne.symm h.g, fun k hk hk' => h.u k hk' hk⟩
/-- The blocks' types: the table, its row, an association, a window, a window's row. -/
structure Ty where
  s : TypeId
  p : TypeId
  e : TypeId
  w : TypeId
  r : TypeId
def Ty.has (T : Ty) (t : TypeId) : Prop := t = T.s ∨ t = T.p ∨ t = T.e ∨ t = T.w ∨ t = T.r
structure Ty.Ok (T : Ty) : Prop where
  sp : T.s ≠ T.p
  se : T.s ≠ T.e
  sw : T.s ≠ T.w
  sr : T.s ≠ T.r
  pe : T.p ≠ T.e
  pw : T.p ≠ T.w
  pr : T.p ≠ T.r
  ew : T.e ≠ T.w
  er : T.e ≠ T.r
  wr : T.w ≠ T.r
abbrev WnP := World → Nat → Value → En → Prop
structure WnOk (T : Ty) (Wn : WnP) : Prop where
  move : ∀ {w w' : World} {g : Nat} {u : Value} {e : En}, Wn w g u e → w'.heap[g]? = w.heap[g]? → (∀ k, u.ownBlock = some k → w'.heap[k]? = w.heap[k]?) → Wn w' g u e
  blkg : ∀ {w : World} {g : Nat} {u : Value} {e : En}, Wn w g u e → ∃ cs, w.heap[g]? = some (.cells cs T.w (0, 0))
  blku : ∀ {w : World} {g k : Nat} {u : Value} {e : En}, Wn w g u e → u.ownBlock = some k → ∃ cs, w.heap[k]? = some (.cells cs T.r (0, 0))
/-- An association in memory. -/
structure EntAt (T : Ty) (Wn : WnP) (w : World) (base : Nat) (x : Pl) (e : En) : Prop where
  blk : w.heap[x.p]? = some (.cells (encE e x.g).toArray T.e (0, 0))
  win : Wn w x.g x.u e
  lp : base ≤ x.p
  lg : base ≤ x.g
  lu : ∀ k, x.u.ownBlock = some k → base ≤ k
/-- A table in memory. -/
structure Tab (T : Ty) (Wn : WnP) (w : World) (base q : Nat) (v : Value) (ps : List Pl) (es : List En) : Prop where
  blk : w.heap[q]? = some (.cells #[v] T.s (0, 0))
  row : w.ownsRow base T.p 1 v ps.length (ps.map Pl.ptr)
  len : ps.length = es.length
  ent : ∀ i, i < ps.length → EntAt T Wn w base (ps.getD i pl0) (es.getD i en0)
  apart : ∀ i j, i < ps.length → j < ps.length → i ≠ j → (ps.getD i pl0).Apart (ps.getD j pl0)
  low : base ≤ q
/-- What a call over a table may turn: blocks from base on of its types; what is new. -/
structure Turn (T : Ty) (base : Nat) (w w' : World) : Prop where
  os : w'.os = w.os
  tape : w'.tape = w.tape
  output : w'.output = w.output
  size : w.heap.size ≤ w'.heap.size
  block : ∀ k, k < w.heap.size → (k < base ∨ ∀ cs t, w.heap[k]? = some (.cells cs t (0, 0)) → ¬ T.has t) → w'.heap[k]? = w.heap[k]?
variable {T T' : Ty} {Wn : WnP} {w w' w'' : World} {base b' q : Nat} {v v' : Value} {ps : List Pl} {es : List En}
theorem Turn.of_below (h : Below w.heap.size w w') : Turn T base w w' := ⟨h.os, h.tape, h.output, h.size, fun k hk _ => h.block k hk⟩
theorem Turn.refl : Turn T base w w := Turn.of_below (Below.refl _ _)
theorem Turn.trans (h : Turn T base w w') (h' : Turn T base w' w'') : Turn T base w w'' :=
  ⟨h'.os.trans h.os, h'.tape.trans h.tape, h'.output.trans h.output, Nat.le_trans h.size h'.size, fun k hk hc => by
    have e := h.block k hk hc
    rw [← e]
    refine h'.block k (Nat.lt_of_lt_of_le hk h.size) ?_
    rcases hc with hc | hc
    · exact .inl hc
    · exact .inr (by rw [e]; exact hc)⟩
theorem Turn.then (h : Turn T base w w') (h' : Below w'.heap.size w' w'') : Turn T base w w'' := h.trans (.of_below h')
theorem Turn.below {w0 : World} (hb : Below base w0 w) (hs : base ≤ w.heap.size) (h : Turn T base w w') : Below base w0 w' :=
  hb.trans ⟨h.os, h.tape, h.output, h.size, fun k hk => h.block k (by omega) (.inl hk)⟩
theorem Tab.move (h : Tab T Wn w base q v ps es) (hW : WnOk T Wn) (hk : ∀ k cs t, base ≤ k → w.heap[k]? = some (.cells cs t (0, 0)) → T.has t → w'.heap[k]? = w.heap[k]?) : Tab T Wn w' base q v ps es := by
  refine ⟨(hk q _ _ h.low h.blk (.inl rfl)).trans h.blk, own_move h.row fun k hk' => ?_, h.len, fun i hi => ?_, h.apart, h.low⟩
  · obtain ⟨cs, hc⟩ := own_typed h.row k hk'
    exact hk k _ _ (own_base h.row k hk') hc (.inr (.inl rfl))
  · obtain ⟨h1, h2, h3, h4, h5⟩ := h.ent i hi
    refine ⟨(hk _ _ _ h3 h1 (.inr (.inr (.inl rfl)))).trans h1, hW.move h2 ?_ fun k hk' => ?_, h3, h4, h5⟩
    · obtain ⟨cs, hc⟩ := hW.blkg h2
      exact hk _ _ _ h4 hc (.inr (.inr (.inr (.inl rfl))))
    · obtain ⟨cs, hc⟩ := hW.blku h2 hk'
      exact hk _ _ _ (h5 k hk') hc (.inr (.inr (.inr (.inr rfl))))
theorem Tab.below (h : Tab T Wn w base q v ps es) (hW : WnOk T Wn) (hb : Below w.heap.size w w') : Tab T Wn w' base q v ps es :=
  h.move hW fun k _ _ _ hc _ => hb.block k (blk_lt hc)
theorem Tab.other (h : Tab T Wn w base q v ps es) (hW : WnOk T Wn) (ht : Turn T' b' w w') (hd : ∀ t, T.has t → ¬ T'.has t) : Tab T Wn w' base q v ps es :=
  h.move hW fun k cs t _ hc hh => ht.block k (blk_lt hc) (.inr fun cs' t' hc' => by
    rw [hc] at hc'
    injection hc' with hc'
    injection hc' with _ e _
    subst e
    exact hd t hh)
theorem Tab.base_le (h : Tab T Wn w base q v ps es) : base ≤ w.heap.size := Nat.le_trans h.low (Nat.le_of_lt (blk_lt h.blk))
theorem Tab.slice (h : Tab T Wn w base q v ps es) : ∃ A c, v = .slice A es.length c ∧ es.length ≤ c := by
  obtain ⟨A, c, rfl⟩ := own_slice h.row
  rw [← h.len]
  exact ⟨A, c, rfl, own_le h.row⟩
/-- The pointer at a place of the row. -/
theorem Tab.cell (h : Tab T Wn w base q v ps es) (i : Nat) (hi : i < es.length) : ∃ b c, v = .slice (some ⟨b, 0, none⟩) es.length c ∧ w.cell? ⟨b, i, none⟩ = some (.pointer (some ⟨(ps.getD i pl0).p, 0, none⟩)) := by
  have hl := h.len
  rcases h.row.2 with ⟨rfl, h0⟩ | ⟨b, cap, cur, rfl, _, hh, _⟩
  · omega
  · refine ⟨b, cap, by rw [h.len], ?_⟩
    have hc := h.row.cells (g := b) rfl i (.pointer (some ⟨(ps.getD i pl0).p, 0, none⟩)) (by
      rw [List.getElem?_map, List.getElem?_eq_getElem (by omega), List.getD_eq_getElem?_getD, List.getElem?_eq_getElem (by omega)]
      rfl)
    rw [add_plain] at hc
    exact hc
theorem Tab.at (h : Tab T Wn w base q v ps es) (i : Nat) (hi : i < es.length) : EntAt T Wn w base (ps.getD i pl0) (es.getD i en0) := h.ent i (by rw [h.len]; exact hi)
theorem getD_set {α : Type} (l : List α) (i j : Nat) (x d : α) (hi : i < l.length) : (l.set i x).getD j d = if i = j then x else l.getD j d := by
  simp only [List.getD_eq_getElem?_getD]
  by_cases e : i = j
  · subst e; rw [if_pos rfl, List.getElem?_set_self hi]; rfl
  · rw [if_neg e, List.getElem?_set_ne e]
/-- One association turned. -/
theorem Tab.upd (h : Tab T Wn w base q v ps es) (hT : T.Ok) (hW : WnOk T Wn) (i : Nat) (hi : i < es.length) (u' : Value) (e' : En)
    (hn : EntAt T Wn w' base ⟨(ps.getD i pl0).p, (ps.getD i pl0).g, u'⟩ e') (hu : ∀ k, u'.ownBlock = some k → (ps.getD i pl0).u.ownBlock = some k ∨ w.heap.size ≤ k)
    (hos : w'.os = w.os) (htape : w'.tape = w.tape) (hout : w'.output = w.output) (hsize : w.heap.size ≤ w'.heap.size)
    (hk : ∀ k, k < w.heap.size → k ≠ (ps.getD i pl0).p → k ≠ (ps.getD i pl0).g → (ps.getD i pl0).u.ownBlock ≠ some k → w'.heap[k]? = w.heap[k]?) :
    Tab T Wn w' base q v (ps.set i ⟨(ps.getD i pl0).p, (ps.getD i pl0).g, u'⟩) (es.set i e') ∧ Turn T base w w' := by
  have hip : i < ps.length := by rw [h.len]; exact hi
  obtain ⟨k1, k2, k3, k4, k5⟩ := h.ent i hip
  obtain ⟨csg, kg⟩ := hW.blkg k2
  have ku := fun k hk => hW.blku (k := k) k2 hk
  obtain ⟨x, hx⟩ : ∃ x, ps.getD i pl0 = x := ⟨_, rfl⟩
  rw [hx] at hn hu hk k1 k2 k3 k4 k5 kg ku ⊢
  -- what is of another type stays
  have far : ∀ (k : Nat) (cs : Array Value) (t : TypeId), w.heap[k]? = some (.cells cs t (0, 0)) → t ≠ T.e → t ≠ T.w → t ≠ T.r → w'.heap[k]? = w.heap[k]? := fun k cs t hc h1 h2 h3 =>
    hk k (blk_lt hc) (blk_ne hc k1 h1) (blk_ne hc kg h2) (fun e => by
      obtain ⟨cs', hc'⟩ := ku k e
      exact blk_ne hc hc' h3 rfl)
  refine ⟨⟨(far q _ _ h.blk hT.se hT.sw hT.sr).trans h.blk, ?_, by rw [List.length_set, List.length_set]; exact h.len, fun j hj => ?_, fun j1 j2 h1 h2 hne => ?_, h.low⟩, hos, htape, hout, hsize, fun k hk' hc => ?_⟩
  · have e : (ps.set i (⟨x.p, x.g, u'⟩ : Pl)).map Pl.ptr = ps.map Pl.ptr := by
      apply List.ext_getElem?
      intro j
      rw [List.getElem?_map, List.getElem?_map]
      by_cases ej : i = j
      · subst ej
        rw [List.getElem?_set_self hip, List.getElem?_eq_getElem hip]
        have : ps[i] = x := by rw [← hx, List.getD_eq_getElem?_getD, List.getElem?_eq_getElem hip]; rfl
        rw [this]
        rfl
      · rw [List.getElem?_set_ne ej]
    rw [e, List.length_set]
    refine own_move h.row fun k hk' => ?_
    obtain ⟨cs, hc⟩ := own_typed h.row k hk'
    exact far k cs _ hc hT.pe hT.pw hT.pr
  · rw [List.length_set] at hj
    rw [getD_set _ _ _ _ _ hip, getD_set _ _ _ _ _ hi]
    by_cases ej : i = j
    · rw [if_pos ej, if_pos ej]; exact hn
    · rw [if_neg ej, if_neg ej]
      have ha := h.apart i j hip hj ej
      rw [hx] at ha
      obtain ⟨m1, m2, m3, m4, m5⟩ := h.ent j hj
      obtain ⟨csg', kg'⟩ := hW.blkg m2
      refine ⟨(hk _ (blk_lt m1) (Ne.symm ha.p) (blk_ne m1 kg hT.ew) (fun e => by obtain ⟨cs', hc'⟩ := ku _ e; exact blk_ne m1 hc' hT.er rfl)).trans m1, hW.move m2 (hk _ (blk_lt kg') (blk_ne kg' k1 (Ne.symm hT.ew)) (Ne.symm ha.g) (fun e => by obtain ⟨cs', hc'⟩ := ku _ e; exact blk_ne kg' hc' hT.wr rfl)) fun k hk' => ?_, m3, m4, m5⟩
      obtain ⟨cs', hc'⟩ := hW.blku m2 hk'
      exact hk k (blk_lt hc') (blk_ne hc' k1 (Ne.symm hT.er)) (blk_ne hc' kg (Ne.symm hT.wr)) (fun e => ha.u k e hk')
  · rw [List.length_set] at h1 h2
    rw [getD_set _ _ _ _ _ hip, getD_set _ _ _ _ _ hip]
    have key : ∀ j, j < ps.length → i ≠ j → (⟨x.p, x.g, u'⟩ : Pl).Apart (ps.getD j pl0) := fun j hj ej => by
      have ha := h.apart i j hip hj ej
      rw [hx] at ha
      refine ⟨ha.p, ha.g, fun k hk' hk'' => ?_⟩
      rcases hu k hk' with h3 | h3
      · exact ha.u k h3 hk''
      · obtain ⟨cs', hc'⟩ := hW.blku (h.ent j hj).win hk''
        have := blk_lt hc'
        omega
    by_cases e1 : i = j1
    · rw [if_pos e1, if_neg (by omega)]
      exact key j2 h2 (by omega)
    · rw [if_neg e1]
      by_cases e2 : i = j2
      · rw [if_pos e2]
        exact (key j1 h1 e1).symm
      · rw [if_neg e2]
        exact h.apart j1 j2 h1 h2 hne
  · refine hk k hk' ?_ ?_ ?_
    · rintro rfl
      rcases hc with hc | hc
      · omega
      · exact hc _ _ k1 (.inr (.inr (.inl rfl)))
    · rintro rfl
      rcases hc with hc | hc
      · omega
      · exact hc _ _ kg (.inr (.inr (.inr (.inl rfl))))
    · intro e
      obtain ⟨cs', hc'⟩ := ku k e
      rcases hc with hc | hc
      · have := k5 k e; omega
      · exact hc _ _ hc' (.inr (.inr (.inr (.inr rfl))))
theorem getD_snoc {α : Type} (l : List α) (x d : α) (j : Nat) (hj : j < l.length + 1) : (l ++ [x]).getD j d = if j = l.length then x else l.getD j d := by
  simp only [List.getD_eq_getElem?_getD]
  by_cases e : j = l.length
  · subst e; rw [if_pos rfl]; simp
  · rw [if_neg e, List.getElem?_append_left (by omega)]
/-- What stays of a row and a table's block that turn. -/
theorem Tab.turn_of (h : Tab T Wn w base q v ps es) (hos : w'.os = w.os) (htape : w'.tape = w.tape) (hout : w'.output = w.output) (hsize : w.heap.size ≤ w'.heap.size)
    (hk : ∀ k, k < w.heap.size → k ≠ q → v.ownBlock ≠ some k → w'.heap[k]? = w.heap[k]?) : Turn T base w w' := by
  refine ⟨hos, htape, hout, hsize, fun k hk' hc => hk k hk' ?_ ?_⟩
  · rintro rfl
    rcases hc with hc | hc
    · have := h.low; omega
    · exact hc _ _ h.blk (.inl rfl)
  · intro e
    obtain ⟨cs', hc'⟩ := own_typed h.row k e
    rcases hc with hc | hc
    · have := own_base h.row k e; omega
    · exact hc _ _ hc' (.inr (.inl rfl))
theorem Tab.ent_of (h : Tab T Wn w base q v ps es) (hT : T.Ok) (hW : WnOk T Wn) (hk : ∀ k, k < w.heap.size → k ≠ q → v.ownBlock ≠ some k → w'.heap[k]? = w.heap[k]?) (i : Nat) (hi : i < ps.length) : EntAt T Wn w' base (ps.getD i pl0) (es.getD i en0) := by
  have far : ∀ (k : Nat) (cs : Array Value) (t : TypeId), w.heap[k]? = some (.cells cs t (0, 0)) → t ≠ T.s → t ≠ T.p → w'.heap[k]? = w.heap[k]? := fun k cs t hc h1 h2 =>
    hk k (blk_lt hc) (blk_ne hc h.blk h1) (fun e => by
      obtain ⟨cs', hc'⟩ := own_typed h.row k e
      exact blk_ne hc hc' h2 rfl)
  obtain ⟨k1, k2, k3, k4, k5⟩ := h.ent i hi
  obtain ⟨csg, kg⟩ := hW.blkg k2
  refine ⟨(far _ _ _ k1 (Ne.symm hT.se) (Ne.symm hT.pe)).trans k1, hW.move k2 (far _ _ _ kg (Ne.symm hT.sw) (Ne.symm hT.pw)) fun k hk' => ?_, k3, k4, k5⟩
  obtain ⟨cs', hc'⟩ := hW.blku k2 hk'
  exact far _ _ _ hc' (Ne.symm hT.sr) (Ne.symm hT.pr)
/-- One association more. -/
theorem Tab.push (h : Tab T Wn w base q v ps es) (hT : T.Ok) (hW : WnOk T Wn) (x : Pl) (e : En) (hb : w'.heap[q]? = some (.cells #[v'] T.s (0, 0))) (hr : w'.ownsRow base T.p 1 v' (ps.length + 1) (ps.map Pl.ptr ++ [x.ptr]))
    (hn : EntAt T Wn w' base x e) (hp : w.heap.size ≤ x.p) (hg : w.heap.size ≤ x.g) (hu : ∀ k, x.u.ownBlock = some k → w.heap.size ≤ k)
    (hos : w'.os = w.os) (htape : w'.tape = w.tape) (hout : w'.output = w.output) (hsize : w.heap.size ≤ w'.heap.size)
    (hk : ∀ k, k < w.heap.size → k ≠ q → v.ownBlock ≠ some k → w'.heap[k]? = w.heap[k]?) :
    Tab T Wn w' base q v' (ps ++ [x]) (es ++ [e]) ∧ Turn T base w w' := by
  have hl := h.len
  refine ⟨⟨hb, ?_, by simp [h.len], fun j hj => ?_, fun j1 j2 h1 h2 hne => ?_, h.low⟩, h.turn_of hos htape hout hsize hk⟩
  · rw [List.map_append, List.length_append]
    exact hr
  · rw [List.length_append, List.length_singleton] at hj
    rw [getD_snoc _ _ _ _ hj, getD_snoc _ _ _ _ (by omega)]
    by_cases ej : j = ps.length
    · rw [if_pos ej, if_pos (by omega)]; exact hn
    · rw [if_neg ej, if_neg (by omega)]
      exact h.ent_of hT hW hk j (by omega)
  · rw [List.length_append, List.length_singleton] at h1 h2
    rw [getD_snoc _ _ _ _ h1, getD_snoc _ _ _ _ h2]
    have key : ∀ j, j < ps.length → x.Apart (ps.getD j pl0) := fun j hj => by
      obtain ⟨k1, k2, k3, k4, k5⟩ := h.ent j hj
      obtain ⟨csg, kg⟩ := hW.blkg k2
      have l1 := blk_lt k1
      have l2 := blk_lt kg
      refine ⟨by omega, by omega, fun k h3 h4 => ?_⟩
      obtain ⟨cs', hc'⟩ := hW.blku k2 h4
      have l3 := blk_lt hc'
      have := hu k h3
      omega
    by_cases e1 : j1 = ps.length
    · rw [if_pos e1, if_neg (by omega)]
      exact key j2 (by omega)
    · rw [if_neg e1]
      by_cases e2 : j2 = ps.length
      · rw [if_pos e2]
        exact (key j1 (by omega)).symm
      · rw [if_neg e2]
        exact h.apart j1 j2 (by omega) (by omega) hne
theorem getD_erase {α : Type} (l : List α) (i j : Nat) (d : α) : (l.eraseIdx i).getD j d = if j < i then l.getD j d else l.getD (j + 1) d := by
  simp only [List.getD_eq_getElem?_getD]
  rw [List.getElem?_eraseIdx]
  split <;> rfl
theorem map_erase {α β : Type} (f : α → β) (l : List α) (i : Nat) : (l.eraseIdx i).map f = (l.map f).eraseIdx i := by
  apply List.ext_getElem?
  intro j
  rw [List.getElem?_map, List.getElem?_eraseIdx, List.getElem?_eraseIdx]
  split
  · rw [List.getElem?_map]
  · rw [List.getElem?_map]
/-- One association less. -/
theorem Tab.erase (h : Tab T Wn w base q v ps es) (hT : T.Ok) (hW : WnOk T Wn) (i : Nat) (hi : i < es.length) (hb : w'.heap[q]? = some (.cells #[v'] T.s (0, 0))) (hr : w'.ownsRow base T.p 1 v' (ps.length - 1) ((ps.map Pl.ptr).eraseIdx i))
    (hos : w'.os = w.os) (htape : w'.tape = w.tape) (hout : w'.output = w.output) (hsize : w.heap.size ≤ w'.heap.size)
    (hk : ∀ k, k < w.heap.size → k ≠ q → v.ownBlock ≠ some k → w'.heap[k]? = w.heap[k]?) :
    Tab T Wn w' base q v' (ps.eraseIdx i) (es.eraseIdx i) ∧ Turn T base w w' := by
  have hl := h.len
  have hl1 : (ps.eraseIdx i).length = ps.length - 1 := List.length_eraseIdx_of_lt (by omega)
  have hl2 : (es.eraseIdx i).length = es.length - 1 := List.length_eraseIdx_of_lt (by omega)
  refine ⟨⟨hb, by rw [hl1, map_erase]; exact hr, by omega, fun j hj => ?_, fun j1 j2 h1 h2 hne => ?_, h.low⟩, h.turn_of hos htape hout hsize hk⟩
  · rw [getD_erase, getD_erase]
    split
    · exact h.ent_of hT hW hk j (by omega)
    · exact h.ent_of hT hW hk (j + 1) (by omega)
  · rw [getD_erase, getD_erase]
    split <;> split
    · exact h.apart j1 j2 (by omega) (by omega) hne
    · exact h.apart j1 (j2 + 1) (by omega) (by omega) (by omega)
    · exact h.apart (j1 + 1) j2 (by omega) (by omega) (by omega)
    · exact h.apart (j1 + 1) (j2 + 1) (by omega) (by omega) (by omega)
/-- A table without associations. -/
theorem Tab.empty (hb : w.heap[q]? = some (.cells #[.slice none 0 0] T.s (0, 0))) (hq : base ≤ q) : Tab T Wn w base q (.slice none 0 0) [] [] :=
  ⟨hb, own_nil _ _ _ _, rfl, fun i hi => by simp at hi, fun i j hi => by simp at hi, hq⟩
/-- The program's types; the document's. -/
def TP : Ty := ⟨60, 61, 71, 90, 4⟩
def TR : Ty := ⟨52, 83, 82, 101, 37⟩
theorem TP_ok : TP.Ok := by constructor <;> decide
theorem TR_ok : TR.Ok := by constructor <;> decide
theorem TP_TR (t : TypeId) (h : TP.has t) : ¬ TR.has t := by
  rcases h with rfl | rfl | rfl | rfl | rfl <;> (unfold Ty.has; decide)
theorem TR_TP (t : TypeId) (h : TR.has t) : ¬ TP.has t := by
  rcases h with rfl | rfl | rfl | rfl | rfl <;> (unfold Ty.has; decide)
/-- A window of the program. -/
def WnPg : WnP := fun w g u e => ∃ a, u = .slice (some ⟨a, 0, none⟩) e.st.2.length e.st.2.length ∧ Win.WinAt w g a e.life.f0.f4 e.st.1 e.st.2
/-- A window of the document. -/
def WnRf (base : Nat) : WnP := fun w h u e => ∃ A c, u = .slice A e.ns.length c ∧ Win.Ref base w h (fun _ => True) e.life.f0.f5.toNat e.life.f0.f4 A c e.ns
theorem WnPg_ok : WnOk TP WnPg := by
  refine ⟨fun h hg hu => ?_, fun h => ?_, fun h hk => ?_⟩
  · obtain ⟨a, rfl, h⟩ := h
    exact ⟨a, rfl, hg.trans h.hs, (hu a rfl).trans h.ha, h.ne⟩
  · obtain ⟨a, rfl, h⟩ := h
    exact ⟨_, h.hs⟩
  · obtain ⟨a, rfl, h⟩ := h
    obtain rfl : a = _ := Option.some.inj hk
    exact ⟨_, h.ha⟩
theorem WnRf_ok (base : Nat) : WnOk TR (WnRf base) := by
  refine ⟨fun h hg hu => ?_, fun h => ?_, fun h hk => ?_⟩
  · obtain ⟨A, c, rfl, h⟩ := h
    refine ⟨A, c, rfl, hg.trans h.hs, ?_⟩
    obtain ⟨h0, inner, ho, hr⟩ := h.row
    exact ⟨h0, inner, own_move ho hu, hr⟩
  · obtain ⟨A, c, rfl, h⟩ := h
    exact ⟨_, h.hs⟩
  · obtain ⟨A, c, rfl, h⟩ := h
    obtain ⟨h0, inner, ho, hr⟩ := h.row
    exact own_typed ho _ hk
end Go.Proofs.YtkmnpnbfeiobiaaDoor.Sd

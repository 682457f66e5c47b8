/- The map of what was found: its operations. -/
import Derived.Test.YtdpfopeofeofcaaSpD
import Derived.Test.YtdpfopeofeofcaaQSpx2
namespace Go.Proofs.Ytdpfopeofeofcaa.Sp
open Go.RowKit Go.Proofs.YtdpfopeofeofcaaW.PrintWords Go.Proofs.YtdpfopeofeofcaaW.PrintLast Go.Proofs.YtdpfopeofeofcaaW.PrintMore Go.Proofs.Ytdpfopeofeofcaa.QSp
open Go.Proofs.Ytdpfopeofeofcaa
set_option linter.unusedVariables false
set_option linter.unusedSimpArgs false
theorem eqA24 (d : Nat) (w : World) (x0 y0 : ByteArray) (x1 y1 : ByteArray) (x2 y2 : Int) (x3 y3 : Int) (x4 y4 : Int) :
    (Op.equalIn (d + 2) 24 (.agg #[.string x0, .string x1, .int .i64 x2, .int .i64 x3, .int .i64 x4]) (.agg #[.string y0, .string y1, .int .i64 y2, .int .i64 y3, .int .i64 y4])).run Try.prog w = .ok (x0.toList == y0.toList && (x1.toList == y1.toList && (x2 == y2 && (x3 == y3 && (x4 == y4))))) w := by
  refine eqA_of Try.underlying24 (by kernel_rfl) ?_
  refine eqf_cons (by rfl) (by go_simp; rfl) (by go_simp; rfl) (by go_simp) ?_
  refine eqf_cons (by rfl) (by go_simp; rfl) (by go_simp; rfl) (by go_simp) ?_
  refine eqf_cons (by rfl) (by go_simp; rfl) (by go_simp; rfl) (by go_simp) ?_
  refine eqf_cons (by rfl) (by go_simp; rfl) (by go_simp; rfl) (by go_simp) ?_
  exact eqf_last (by rfl) (by go_simp; rfl) (by go_simp; rfl) (by go_simp)
/-- A key. -/
def keyV (f : S24) (o : Bool) : Value := .agg #[.string f.f0, .string f.f1, .int .i64 f.f2, .int .i64 f.f3, .int .i64 f.f4, .bool o]
def keyEq (f g : S24) (o p : Bool) : Bool := (f.f0.toList == g.f0.toList && (f.f1.toList == g.f1.toList && (f.f2 == g.f2 && (f.f3 == g.f3 && (f.f4 == g.f4))))) && (o == p)
theorem eqA62 (d : Nat) (w : World) (f g : S24) (o p : Bool) :
    (Op.equalIn (d + 3) 62 (keyV f o) (keyV g p)).run Try.prog w = .ok (keyEq f g o p) w := by
  unfold keyV
  refine eqA_of Try.underlying62 (by kernel_rfl) ?_
  refine eqf_cons (by rfl) (by go_simp) (by go_simp) (eqA24 (d + 0) w _ _ _ _ _ _ _ _ _ _) ?_
  exact eqf_last (by rfl) (by go_simp; rfl) (by go_simp; rfl) (by go_simp)
theorem keyEq_iff {f g : S24} {o p : Bool} (h : keyEq f g o p = true) : f = g ∧ o = p := by
  unfold keyEq at h
  simp only [Bool.and_eq_true, beq_iff_eq] at h
  obtain ⟨⟨h0, h1, h2, h3, h4⟩, h5⟩ := h
  have e0 : f.f0 = g.f0 := by rw [ByteArray.toList_eq, ByteArray.toList_eq] at h0; exact ByteArray.ext (Array.ext' h0)
  have e1 : f.f1 = g.f1 := by rw [ByteArray.toList_eq, ByteArray.toList_eq] at h1; exact ByteArray.ext (Array.ext' h1)
  cases f; cases g
  simp_all
theorem check62 (em : Bool) (n : Nat) (f : S24) (o : Bool) (w : World) : (Instr.checkKey em (n + 3) 62 (keyV f o)).run Try.prog w = .ok () w := by
  have hu62 := Try.underlying62
  have hu24 := Try.underlying24
  have h24 : ∀ w, (Instr.checkKey em (n + 2) 24 (.agg #[.string f.f0, .string f.f1, .int .i64 f.f2, .int .i64 f.f3, .int .i64 f.f4])).run Try.prog w = .ok () w := fun w => by
    have h3 : ∀ x w, (Instr.checkKey em (n + 1) 3 (.int .i64 x)).run Try.prog w = .ok () w := fun x w => by
      rw [Instr.checkKey]
      go_simp
    have h9 : ∀ x w, (Instr.checkKey em (n + 1) 9 (.string x)).run Try.prog w = .ok () w := fun x w => by
      rw [Instr.checkKey]
      go_simp
    rw [Instr.checkKey]
    go_simp
  have h4 : ∀ w, (Instr.checkKey em (n + 2) 4 (.bool o)).run Try.prog w = .ok () w := fun w => by
    rw [Instr.checkKey]
    go_simp
  unfold keyV
  rw [Instr.checkKey]
  go_simp
/-- The rule is for the flow. -/
def hitB (f : S24) (o : Bool) (r : S35) : Bool := (o && r.f2 || !o && r.f3) && matchE r.f1 f
def idxF (l : List S35) (f : S24) (o : Bool) : Int := if l.findIdx (hitB f o) < l.length then (l.findIdx (hitB f o) : Int) else -1
/-- What is kept is right. -/
def Kept (l : List S35) (es : List MapEntry) : Prop := ∀ e ∈ es, ∃ f o, e.key = keyV f o ∧ e.val = .int .i64 (idxF l f o)
theorem find62 (l : List S35) (f : S24) (o : Bool) : ∀ (es : List MapEntry) (i : Nat), Kept l es → ∃ r, (∀ w, (Instr.findAsking 62 (keyV f o) es i).run Try.prog w = .ok r w) ∧ (r = none ∨ ∃ j, r = some (j, .int .i64 (idxF l f o)))
  | [], i, h => ⟨none, fun w => by simp [Instr.findAsking], .inl rfl⟩
  | e :: es, i, h => by
    obtain ⟨g, p, hk, hv⟩ := h e (by simp)
    have e1 : ∀ w, (Op.equal 62 (keyV f o) e.key).run Try.prog w = .ok (keyEq f g o p) w := fun w => by
      rw [hk]
      exact eqA62 _ w f g o p
    by_cases hq : keyEq f g o p = true
    · refine ⟨some (i, e.val), fun w => ?_, .inr ⟨i, ?_⟩⟩
      · rw [Instr.findAsking]
        simp only [Sem.run_bind, e1, Result.andThen_ok, hq, if_true, Sem.run_pure]
      · obtain ⟨rfl, rfl⟩ := keyEq_iff hq
        rw [hv]
    · obtain ⟨r, hr, hr'⟩ := find62 l f o es (i + 1) (fun e' he' => h e' (by simp [he']))
      refine ⟨r, fun w => ?_, hr'⟩
      rw [Instr.findAsking]
      simp only [Sem.run_bind, e1, Result.andThen_ok]
      rw [if_neg hq]
      exact hr w
theorem findK (f : S24) (o : Bool) (es : List MapEntry) (w : World) : (Instr.findKey 62 (keyV f o) es).run Try.prog w = (Instr.findAsking 62 (keyV f o) es).run Try.prog w :=
  run_findKey_eq w (by rw [Try.underlying62]) _ _
/-- The map is laid anew. -/
def putM (w : World) (m : Nat) (es : Array MapEntry) (clock : Nat) : World := { w with heap := w.heap.setIfInBounds m (.map es clock) }
theorem look54 {l : List S35} {es : Array MapEntry} (h : Kept l es.toList) (f : S24) (o : Bool) :
    ∃ v ok, (∀ m clock w, w.heap[m]? = some (.map es clock) → (Instr.lookup 54 (.map (some m)) (keyV f o) true).run Try.prog w = .ok (.tuple #[.int .i64 v, .bool ok]) w) ∧ (ok = true → v = idxF l f o) ∧ (ok = false → ∀ w, (Instr.findAsking 62 (keyV f o) es.toList).run Try.prog w = .ok none w) := by
  have hu54 := Try.underlying54
  obtain ⟨r, hr, hr'⟩ := find62 l f o es.toList 0 h
  rcases hr' with rfl | ⟨j, rfl⟩
  · refine ⟨0, false, fun m clock w hb => ?_, (fun h => by cases h), fun _ => hr⟩
    have hz : (zeroValue 3).run Try.prog w = .ok (.int .i64 0) w := by go_simp
    have hg := run_getObj_map (P := Try.prog) w m es clock hb
    have hc := check62 es.isEmpty 9997 f o w
    simp only [Instr.lookup, Sem.run_bind, run_underlying hu54, Result.andThen_ok, hg, Sem.run_pure, hc, findK, hr, hz]
    rfl
  · refine ⟨idxF l f o, true, fun m clock w hb => ?_, fun _ => rfl, (fun h => by cases h)⟩
    have hg := run_getObj_map (P := Try.prog) w m es clock hb
    have hc := check62 es.isEmpty 9997 f o w
    simp only [Instr.lookup, Sem.run_bind, run_underlying hu54, Result.andThen_ok, hg, Sem.run_pure, hc, findK, hr]
    rfl
theorem upd54 {es : Array MapEntry} (f : S24) (o : Bool) (h : ∀ w, (Instr.findAsking 62 (keyV f o) es.toList).run Try.prog w = .ok none w) (v : Value) (m clock : Nat) (w : World) (hb : w.heap[m]? = some (.map es clock)) :
    (Instr.mapUpdate 54 (.map (some m)) (keyV f o) v).run Try.prog w = .ok () (putM w m (es.push { key := keyV f o, val := v, born := clock }) (clock + 1)) := by
  have hu54 := Try.underlying54
  have hg := run_getObj_map (P := Try.prog) w m es clock hb
  have hc := check62 false 9997 f o w
  have hs : (setObj m (.map (es.push { key := keyV f o, val := v, born := clock }) (clock + 1))).run Try.prog w = .ok () (putM w m (es.push { key := keyV f o, val := v, born := clock }) (clock + 1)) := MapKept.run_setObj_map _ hb
  simp only [Instr.mapUpdate, Sem.run_bind, run_underlying hu54, Result.andThen_ok, hg, hc, findK, h, hs]
theorem clear54 (ty : TypeId) {es : Array MapEntry} (m clock : Nat) (w : World) (hb : w.heap[m]? = some (.map es clock)) :
    (Builtin.clear_ #[54] ty #[.map (some m)]).run Try.prog w = .ok (.tuple #[]) (putM w m #[] clock) := by
  have hu54 := Try.underlying54
  have hg := run_getObj_map (P := Try.prog) w m es clock hb
  have hs : (setObj m (.map #[] clock)).run Try.prog w = .ok () (putM w m #[] clock) := MapKept.run_setObj_map _ hb
  simp [Builtin.clear_, Sem.run_bind, run_underlying hu54, Result.andThen_ok, hg, hs]
theorem putM_blk {w : World} {m : Nat} {es es' : Array MapEntry} {clock clock' : Nat} (hb : w.heap[m]? = some (.map es clock)) : (putM w m es' clock').heap[m]? = some (.map es' clock') := by
  have hm := (Array.getElem?_eq_some_iff.1 hb).1
  show (w.heap.setIfInBounds m _)[m]? = _
  rw [Array.getElem?_setIfInBounds_self_of_lt hm]
theorem putM_far {w : World} {m k : Nat} (es : Array MapEntry) (clock : Nat) (h : k ≠ m) : (putM w m es clock).heap[k]? = w.heap[k]? := by
  show (w.heap.setIfInBounds m _)[k]? = _
  rw [Array.getElem?_setIfInBounds_ne (Ne.symm h)]
theorem putM_size (w : World) (m : Nat) (es : Array MapEntry) (clock : Nat) : (putM w m es clock).heap.size = w.heap.size := by
  show (w.heap.setIfInBounds m _).size = _
  simp
end Go.Proofs.Ytdpfopeofeofcaa.Sp

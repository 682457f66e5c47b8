/- The map of path numbers: how its elements read, and what it holds, as a list. -/
import Derived.Test.YticaejoaoblcmaaDoorPPmtuInnerx1
import Derived.Maps.OwnSet
import Derived.WalkLawsBesides
namespace Go.Proofs.YticaejoaoblcmaaDoor.Pmt
open Go.RowKit Go.Maps Go.Proofs.YticaejoaoblcmaaDoorW.PrintWords Go.Proofs.YticaejoaoblcmaaDoorW.PrintLast Go.Proofs.YticaejoaoblcmaaDoorW.PrintMore Go.Proofs.YticaejoaoblcmaaDoor.PPmtuInner
set_option linter.unusedVariables false
set_option linter.unusedSimpArgs false
def kv (m a : Int) : Value := .agg #[.int .i64 m, .int .i64 a]
def kd (m a : Int) : DataW Unit := .agg [.lit (.int .i64 m), .lit (.int .i64 a)]
def elem (v : Value) : Option (DataW Unit × List MemPlace) :=
  match v with
  | .agg xs => match xs.toList with
    | [.int .i64 m, .int .i64 a] => some (kd m a, [])
    | _ => none
  | _ => none
theorem elem_kv (m a : Int) : elem (kv m a) = some (kd m a, []) := rfl
theorem elem_inv {v : Value} {z : DataW Unit × List MemPlace} (h : elem v = some z) : ∃ m a, v = kv m a ∧ z = (kd m a, []) := by
  unfold elem at h
  split at h
  · rename_i xs
    split at h
    · rename_i m a hx
      cases h
      refine ⟨m, a, ?_, rfl⟩
      unfold kv
      congr 1
      exact Array.ext' hx
    · cases h
  · cases h
theorem kd_inj {m a m' a' : Int} (h : kd m a = kd m' a') : m = m' ∧ a = a' := by
  unfold kd at h
  simpa using h
theorem kl : Maps.Keyed Tryd.prog 9 := Maps.Keyed.of_law (WideMaps.string_law Tryd.underlying9)
/-- The key of a string. -/
def key (s : ByteArray) : Lit := .string s.data.toList
theorem key_inj {s t : ByteArray} (h : key s = key t) : s = t := by
  unfold key at h
  obtain ⟨⟨l⟩⟩ := s
  obtain ⟨⟨k⟩⟩ := t
  simpa using h
theorem key_lit (s : ByteArray) : WideAt.IsKeyLit (key s) := trivial
/-- What was kept, in the order in which it came. -/
abbrev Ent := ByteArray × Int × Int
def get (L : List Ent) (k : ByteArray) : Option (Int × Int) := (L.find? (fun e => decide (e.1 = k))).map (·.2)
def put (L : List Ent) (k : ByteArray) (m a : Int) : List Ent := if (get L k).isSome then L.map (fun e => if e.1 = k then (k, m, a) else e) else L ++ [(k, m, a)]
theorem get_map (L : List Ent) (k k' : ByteArray) (m a : Int) : get (L.map (fun e => if e.1 = k then (k, m, a) else e)) k' = if k' = k then (get L k).map (fun _ => (m, a)) else get L k' := by
  induction L with
  | nil => simp [get]
  | cons e L ih =>
    unfold get at ih ⊢
    rw [List.map_cons, List.find?_cons, List.find?_cons, List.find?_cons]
    by_cases h : e.1 = k
    · rw [if_pos h]
      by_cases h' : k' = k
      · subst h'; simp [h]
      · have : ¬ k = k' := fun e => h' e.symm
        simp [h, h', this] at ih ⊢
        exact ih
    · rw [if_neg h]
      by_cases h' : k' = k
      · subst h'; simp [h] at ih ⊢; exact ih
      · by_cases h2 : e.1 = k'
        · simp [h2, h']
        · simp [h2, h, h'] at ih ⊢; exact ih
theorem get_put (L : List Ent) (k k' : ByteArray) (m a : Int) : get (put L k m a) k' = if k' = k then some (m, a) else get L k' := by
  unfold put
  by_cases hs : (get L k).isSome
  · rw [if_pos hs, get_map]
    obtain ⟨x, hx⟩ := Option.isSome_iff_exists.mp hs
    rw [hx]
    rfl
  · rw [if_neg hs]
    have hn : get L k = none := by simpa using hs
    unfold get at hn ⊢
    rw [List.find?_append]
    by_cases h : k' = k
    · subst h
      rw [Option.map_eq_none_iff] at hn
      rw [hn]
      simp
    · have : ¬ k = k' := fun e => h e.symm
      simp [h, this]
theorem put_length (L : List Ent) (k : ByteArray) (m a : Int) : (put L k m a).length = if (get L k).isSome then L.length else L.length + 1 := by
  unfold put
  split <;> simp
/-- The datum holds just what the list does. -/
structure Rep (D : DataW Unit) (L : List Ent) : Prop where
  size : Maps.size D = L.length
  has : ∀ k, Maps.has D (key k) = (get L k).isSome
  at_ : ∀ k m a, get L k = some (m, a) → D.atKey (key k) (kd 0 0) = kd m a
theorem Rep.empty : Rep (.map []) [] := ⟨rfl, fun _ => rfl, fun _ _ _ h => by simp [get] at h⟩
theorem Rep.put {D : DataW Unit} {L : List Ent} (h : Rep D L) (hD : Maps.Tidy D) (k : ByteArray) (m a : Int) : Rep (D.put (key k) (kd m a)) (put L k m a) := by
  refine ⟨?_, ?_, ?_⟩
  · rw [Maps.size_put hD, put_length, h.size, h.has]
  · intro k'
    rw [get_put]
    by_cases e : k' = k
    · subst e
      rw [if_pos rfl, Maps.has_put_same hD.isMap (key_lit _)]
      rfl
    · rw [if_neg e, Maps.has_put_other (fun he => e (key_inj he)), h.has]
  · intro k' m' a' hg
    rw [get_put] at hg
    by_cases e : k' = k
    · subst e
      rw [if_pos rfl] at hg
      cases hg
      exact Maps.atKey_put_same hD.isMap (key_lit _) _ _
    · rw [if_neg e] at hg
      rw [Maps.atKey_put_other (fun he => e (key_inj he))]
      exact h.at_ k' m' a' hg
end Go.Proofs.YticaejoaoblcmaaDoor.Pmt

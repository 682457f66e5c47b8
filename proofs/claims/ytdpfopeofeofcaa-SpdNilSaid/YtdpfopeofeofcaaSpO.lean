/- Rows of rules of one's own, cell by cell. -/
import Derived.Test.YtdpfopeofeofcaaSpA
import Derived.Test.YtdpfopeofeofcaaCopyRows
namespace Go.Proofs.Ytdpfopeofeofcaa.Sp
open Go.RowKit Go.Proofs.YtdpfopeofeofcaaW.PrintWords Go.Proofs.YtdpfopeofeofcaaW.PrintLast Go.Proofs.YtdpfopeofeofcaaW.PrintMore Go.Proofs.Ytdpfopeofeofcaa.QSp
open Go.Proofs.Ytdpfopeofeofcaa
set_option linter.unusedVariables false
set_option linter.unusedSimpArgs false
/-- The cells of a rule. -/
def enc35 (x : S35) : List Value := [.int .i64 x.f0, .string x.f1.f0.f0, .string x.f1.f0.f1, .string x.f1.f1.f0, .string x.f1.f1.f1, .int .i64 x.f1.f2, .int .i64 x.f1.f3.f0, .int .i64 x.f1.f3.f1, .int .i64 x.f1.f4.f0, .int .i64 x.f1.f4.f1, .bool x.f2, .bool x.f3, .int .i64 x.f4, .bool x.f5, .string x.f6, .string x.f7]
def encs35 (l : List S35) : List Value := l.flatMap enc35
theorem encs_cons (x : S35) (l : List S35) : encs35 (x :: l) = enc35 x ++ encs35 l := by simp [encs35]
theorem encs_append (l m : List S35) : encs35 (l ++ m) = encs35 l ++ encs35 m := by simp [encs35]
theorem encs_len : ∀ (l : List S35), (encs35 l).length = l.length * 16
  | [] => rfl
  | x :: l => by
    rw [encs_cons, List.length_append, encs_len l, List.length_cons]
    show 16 + _ = _
    omega
theorem encs_take (l : List S35) (i : Nat) (h : i ≤ l.length) : (encs35 l).take (i * 16) = encs35 (l.take i) := by
  have e : encs35 l = encs35 (l.take i) ++ encs35 (l.drop i) := by rw [← encs_append, List.take_append_drop]
  rw [e]
  exact List.take_left' (by rw [encs_len, List.length_take, Nat.min_eq_left h])
theorem encs_drop (l : List S35) (i : Nat) (h : i ≤ l.length) : (encs35 l).drop (i * 16) = encs35 (l.drop i) := by
  have e : encs35 l = encs35 (l.take i) ++ encs35 (l.drop i) := by rw [← encs_append, List.take_append_drop]
  rw [e]
  exact List.drop_left' (by rw [encs_len, List.length_take, Nat.min_eq_left h])
theorem encs_one (l : List S35) : ∀ u ∈ encs35 l, u.oneCell' = true := by
  intro u hu
  obtain ⟨x, _, hx⟩ := List.mem_flatMap.1 hu
  simp only [enc35, List.mem_cons, List.not_mem_nil, or_false] at hx
  rcases hx with rfl | rfl | rfl | rfl | rfl | rfl | rfl | rfl | rfl | rfl | rfl | rfl | rfl | rfl | rfl | rfl <;> rfl
theorem enc_one (x : S35) : ∀ u ∈ enc35 x, u.oneCell' = true := by
  intro u hu
  simp only [enc35, List.mem_cons, List.not_mem_nil, or_false] at hu
  rcases hu with rfl | rfl | rfl | rfl | rfl | rfl | rfl | rfl | rfl | rfl | rfl | rfl | rfl | rfl | rfl | rfl <;> rfl
/-- A row of rules of one's own. -/
def OwnT (w : World) (base : Nat) (v : Value) (l : List S35) : Prop := w.ownsRow base 35 16 v l.length (encs35 l)
theorem reps_enc : ∀ {R : S35 → List Value → Prop} (hR : ∀ x cs, R x cs → cs = enc35 x) (l : List S35) (inner : List Value), Reps R 16 l inner → inner = encs35 l := by
  intro R hR l
  induction l with
  | nil =>
    intro inner h
    exact List.eq_nil_of_length_eq_zero (by have := h.1; simpa using this)
  | cons x l ih =>
    intro inner h
    have h0 := hR _ _ (h.2 0 x rfl)
    rw [Nat.zero_mul, List.drop_zero] at h0
    have h1 : Reps R 16 l (inner.drop 16) := ⟨by rw [List.length_drop, h.1, List.length_cons]; omega, fun j p hj => by
      have h2 := h.2 (j + 1) p (by simpa using hj)
      rwa [List.drop_drop, show 16 + j * 16 = (j + 1) * 16 by omega]⟩
    rw [encs_cons, ← h0, ← ih _ h1, List.take_append_drop]
theorem reps_of : ∀ {R : S35 → List Value → Prop} (hR : ∀ x, R x (enc35 x)) (l : List S35), Reps R 16 l (encs35 l) := by
  intro R hR l
  refine ⟨encs_len l, fun j p hj => ?_⟩
  have hl := (List.getElem?_eq_some_iff.1 hj).1
  have e : (encs35 l).drop (j * 16) = encs35 (l.drop j) := encs_drop l j (by omega)
  rw [e, List.drop_eq_getElem_cons hl, encs_cons]
  have hp : l[j] = p := by
    have := List.getElem?_eq_getElem hl
    rw [hj] at this
    exact (Option.some.inj this).symm
  rw [show (enc35 l[j] ++ encs35 (l.drop (j + 1))).take 16 = enc35 l[j] from List.take_left' rfl, hp]
  exact hR p
theorem own_of_R {w : World} {base : Nat} {ok : Nat → Prop} {v : Value} {l : List S35} (h : k35.R 35 w base ok v l) : OwnT w base v l := by
  obtain ⟨_, inner, ho, hr⟩ := h
  have e := reps_enc (fun x cs hx => by
    have := k35_open (k35.K_of_M hx)
    exact this) l inner hr
  subst e
  exact ho
theorem R_of_own {w : World} {base : Nat} {v : Value} {l : List S35} (h : OwnT w base v l) : k35.R 35 w base (fun _ => True) v l :=
  ⟨fun _ _ => trivial, encs35 l, h, reps_of (fun x => k35_mkM _ _ _ _) l⟩
end Go.Proofs.Ytdpfopeofeofcaa.Sp

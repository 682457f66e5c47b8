/- Slices of numbers that came in: their reading as a list (for the walks), shared or not. -/
import Derived.SizedLaws
import Derived.ChangeSlices
import Derived.Carry
import Derived.Test.YtddkcepofoifdaaWMore
set_option linter.unusedVariables false
set_option linter.unusedSimpArgs false
namespace Go.Proofs.Ytddkcepofoifdaa.Came
open Go.RowKit Go.ChangeShapes Go.WideShapes Go.Proofs.YtddkcepofoifdaaW.PrintWords Go.Proofs.YtddkcepofoifdaaW.PrintLast Go.Proofs.YtddkcepofoifdaaW.PrintMore

theorem ints {H : Type} {enc : TypeId × Value → H} {P : Program} {W : World} {t e : TypeId} {k : IntKind} {a : Option Addr} {len cap : Nat} {d : DataW H} {ps : List MemPlace}
    (ht : P.underlying t = some (.slice e)) (he : P.underlying e = some (.int k)) (hc : P.cellsOf e = 1) {B : Nat} (hB : P.bytesOf e = B)
    (h : DataW.Trod enc P W 0 (fun _ => true) true t (.slice a len cap) d ps) (wt : ∀ n ∈ d.weights P t, n ≤ 140737488351232) :
    ∃ l : List Int, len = l.length ∧ l.length ≤ cap ∧ ReadsInt W k a l.length l ∧ (∀ x ∈ l, (Lit.int k x).wf = true) ∧ l.length ≤ maxLen ∧ l.length * B ≤ 140737488351232 := by
  obtain ⟨fuel, hf⟩ := h
  rcases open_ints ht he hc hf with ⟨hcs, _⟩ | ⟨x, l, c, zs, hcs, _, hl, hm, hz, hx, hcell, hwz⟩
  · simp [Value.cells] at hcs
    obtain ⟨rfl, rfl, rfl⟩ := hcs
    obtain ⟨l, e1, h1, h2, h3, h4⟩ := ReadsInt.ofRowC (k := k) (w := W) (a := none) (len := 0) (cap := 0) (zs := []) (.inl ⟨rfl, rfl, rfl, rfl⟩)
    have hl0 : l.length = 0 := e1.symm
    exact ⟨l, e1, h4, h1, h3, h2, by rw [hl0]; simp⟩
  · simp [Value.cells] at hcs
    obtain ⟨rfl, rfl, rfl⟩ := hcs
    have hz' : zs.length = cap := by simpa using hz
    obtain ⟨l, e1, h1, h2, h3, h4⟩ := ReadsInt.ofRowC (k := k) (w := W) (a := some x) (len := len) (cap := cap) (zs := zs) (.inr ⟨x, rfl, hl, hm, hz', hcell, hwz⟩)
    obtain ⟨hx, _⟩ := Prod.mk.inj hx
    subst hx
    have z := wt (((lits (H := H) k (zs.take len)).length + (lits (H := H) k (zs.drop len)).length) * P.bytesOf e) (by simp [DataW.weights, ht])
    rw [hB] at z
    have hlen : (lits (H := H) k (zs.take len)).length + (lits (H := H) k (zs.drop len)).length = zs.length := by
      simp [lits]; omega
    rw [hlen] at z
    exact ⟨l, e1, h4, h1, h3, h2, Nat.le_trans (Nat.mul_le_mul_right _ (by omega)) z⟩

theorem shared {W : World} {k : IntKind} {a : Option Addr} {c base : Nat} {l : List Int} {e : Nat} (hc : l.length ≤ c) (h : ReadsInt W k a l.length l) :
    Kd.V (Kd.int k) e W base (fun _ => True) (.slice a l.length c) l :=
  Kd.V_mk hc (fun W' hk => (Kd.heap_int k).C (fun j hj => hk j trivial hj) (Kd.C_of_reads (d := (0 : Int)) (h1 := fun _ => rfl) h))
/-- string(b), b shared. -/
theorem V_string {P : Program} {src dst e : TypeId} (hs : P.underlying src = some (.slice e)) (he : P.underlying e = some (.int .u8)) (hd : P.underlying dst = some .string)
    {q base : Nat} {ok : Nat → Prop} {W : World} {A : Option Addr} {n c : Nat} {l : List Int} (h : Kd.V (Kd.int .u8) q W base ok (.slice A n c) l) : (convert src dst (.slice A n c)).run P W = .ok (.string (strOfNums l)) W := by
  obtain ⟨hn, _, hr⟩ := Kd.V_reads' h
  rw [← hn] at hr
  exact string_of_reads hs he hd (Kd.reads_of_C (d := (0 : Int)) (h1 := fun _ => rfl) hr)
end Go.Proofs.Ytddkcepofoifdaa.Came

/- Slices of structs that came in: their reading as a list (for the walks). -/
import Derived.SizedLaws
import Derived.ChangeSlices
import Derived.Carry
import Derived.Deep.Slices
import Derived.Test.YtkmnpnbfeiobiaaDoorWMore
import Derived.Test.YtkmnpnbfeiobiaaDoorReads
import Derived.Test.YtkmnpnbfeiobiaaDoorSdO
set_option linter.unusedVariables false
set_option linter.unusedSimpArgs false
namespace Go.Proofs.YtkmnpnbfeiobiaaDoor.CameRows
open Go.Deep Go.RowKit Go.ChangeShapes Go.WideShapes Go.Proofs.YtkmnpnbfeiobiaaDoorW.PrintWords Go.Proofs.YtkmnpnbfeiobiaaDoorW.PrintLast Go.Proofs.YtkmnpnbfeiobiaaDoorW.PrintMore
theorem weightsAll_mem {H : Type} {P : Program} {e : TypeId} {n : Nat} {d : DataW H} : ∀ {l : List (DataW H)}, d ∈ l → n ∈ d.weights P e → n ∈ DataW.weightsAll P e l
  | [], h, _ => by simp at h
  | x :: l, h, hn => by
    unfold DataW.weightsAll
    rcases List.mem_cons.mp h with rfl | h
    · exact List.mem_append.mpr (Or.inl hn)
    · exact List.mem_append.mpr (Or.inr (weightsAll_mem h hn))
theorem rows {H α : Type} {enc : TypeId × Value → H} {P : Program} {W : World} {t e : TypeId} {A : Option Addr} {len cap : Nat} {d : DataW H} {ps : List MemPlace} (k : Kd α) (z : α) {B : Nat}
    (ht : P.underlying t = some (.slice e)) (hc : P.cellsOf e = k.sz) (Q : α → Prop)
    (hrd : ∀ (cs : List Value) (d' : DataW H) (ps' : List MemPlace) (m : Nat), DataW.trod enc P W 0 (fun _ => true) true m e cs = some (d', ps') → (∀ n ∈ d'.weights P e, n ≤ B) → ∃ x, k.K W x cs ∧ Q x)
    (h : DataW.Trod enc P W 0 (fun _ => true) true t (.slice A len cap) d ps) (wt : ∀ n ∈ d.weights P t, n ≤ B) :
    ∃ l : List α, len = l.length ∧ l.length ≤ cap ∧ k.C W A l.length l ∧ l.length ≤ maxLen ∧ ∀ x ∈ l, Q x := by
  obtain ⟨fuel, hf⟩ := h
  rcases open_slice ht hf with ⟨hcs, _⟩ | ⟨a, n, c, m, kk, D, Pl, hcs, _, hl, hm, hmm, hx, hel⟩
  · simp [Value.cells] at hcs
    obtain ⟨rfl, rfl, rfl⟩ := hcs
    exact ⟨[], rfl, Nat.le_refl _, Kd.C_nil k W, Nat.zero_le _, by simp⟩
  · simp [Value.cells] at hcs
    obtain ⟨rfl, rfl, rfl⟩ := hcs
    rw [hc] at hel
    have hd : d = DataW.slice ((List.range len).map D) ((List.range (m - len)).map fun j => D (len + j)) := congrArg Prod.fst hx
    haveI : Inhabited α := ⟨z⟩
    obtain ⟨f, hF⟩ := choose_lt (α := α) (n := len) (p := fun i x => (∃ cs, cs.length = k.sz ∧ k.K W x cs ∧ ∀ j u, cs[j]? = some u → W.cell? (a.add (i * k.sz + j)) = some u) ∧ Q x) (fun i hi => by
      obtain ⟨cs', h1, h2⟩ := hel i (by rw [hmm]; simp; omega)
      obtain ⟨_, hlen, hcell⟩ := World.cells?_some h1
      obtain ⟨x, hK, hQ⟩ := hrd cs' _ _ _ h2 (fun n hn => wt n (by
        rw [hd]
        unfold DataW.weights
        rw [ht]
        refine List.mem_cons.mpr (Or.inr (List.mem_append.mpr (Or.inl (weightsAll_mem (d := D i) ?_ hn))))
        exact List.mem_map.mpr ⟨i, List.mem_range.mpr hi, rfl⟩))
      refine ⟨x, ⟨cs', hlen, hK, fun j u hj => ?_⟩, hQ⟩
      have hjl := (List.getElem?_eq_some_iff.1 hj).1
      rw [← Deep.add_add, hcell j (by omega)]
      exact hj)
    have hlm : ((List.range len).map f).length = len := by simp
    refine ⟨(List.range len).map f, hlm.symm, by rw [hlm]; exact hl, ⟨rfl, by rw [hlm]; unfold maxLen at hm; omega, fun hp => ⟨a, rfl, fun j p hj => ?_⟩⟩, by rw [hlm]; omega, fun x hx => ?_⟩
    · rw [List.getElem?_map] at hj
      obtain ⟨i, hi, rfl⟩ := Option.map_eq_some_iff.1 hj
      have hil : j < len := by
        have := (List.getElem?_eq_some_iff.1 hi).1
        simpa using this
      rw [List.getElem?_range hil] at hi
      injection hi with hi
      subst hi
      exact (hF j hil).1
    · obtain ⟨i, hi, rfl⟩ := List.mem_map.mp hx
      exact (hF i (List.mem_range.mp hi)).2
end Go.Proofs.YtkmnpnbfeiobiaaDoor.CameRows
namespace Go.Proofs.YtkmnpnbfeiobiaaDoor.Sd
open Go.RowKit Go.Proofs.YtkmnpnbfeiobiaaDoorW.PrintWords Go.Proofs.YtkmnpnbfeiobiaaDoorW.PrintLast Go.Proofs.YtkmnpnbfeiobiaaDoorW.PrintMore Go.Proofs.YtkmnpnbfeiobiaaDoor.QSa
open Go.Proofs.YtkmnpnbfeiobiaaDoor
/-- A script that came in. -/
theorem came40 {H : Type} {enc : TypeId × Value → H} {W : World} {A : Option Addr} {len cap : Nat} {d : DataW H} {ps : List MemPlace}
    (h : DataW.Trod enc Tryd.prog W 0 (fun _ => true) true 35 (.slice A len cap) d ps) (wt : ∀ n ∈ d.weights Tryd.prog 35, n ≤ 140737488351232) :
    ∃ l : List S40, len = l.length ∧ l.length ≤ cap ∧ k40.C W A l.length l ∧ l.length ≤ maxLen ∧ (∀ i, i < l.length → Sized40 (l.getD i z40)) ∧ ∀ i, i < l.length → ∃ m : Nat, (l.getD i z40).f7 = (m : Int) ∧ m < 18446744073709551616 := by
  obtain ⟨l, h1, h2, h3, h4, h5⟩ := CameRows.rows k40 z40 (B := 140737488351232) Tryd.underlying35 (by kernel_rfl) (fun x => Sized40 x ∧ ∃ m : Nat, x.f7 = (m : Int) ∧ m < 18446744073709551616) (fun cs d' ps' m h wt => by
    obtain ⟨x0, x1, x2, x3, x4, x5, x6, x7, x8, x9, x10, x11, x12, x13, x14, x15, x16, x17, x18, x19, rfl, _, _, _, _, _, _, h7, _, _, _, _, _, _, _, g⟩ := Reads.rd40 h
    refine ⟨⟨x0, x1, x2, x3, x4, x5, x6, x7, ⟨⟨x8, x9, x10, x11, x12, x13⟩, x14, x15, x16, x17, x18, x19⟩⟩, k40_mk _ _, g _ wt, ?_⟩
    have h7' : 0 ≤ x7 ∧ x7 < 18446744073709551616 := by
      have : 0 ≤ x7 ∧ x7 ≤ 18446744073709551615 := by simpa [Lit.wf, IntKind.min, IntKind.max, IntKind.signed, IntKind.bits] using h7
      omega
    exact ⟨x7.toNat, by show x7 = _; omega, by omega⟩) h wt
  have hm : ∀ i, i < l.length → l.getD i z40 ∈ l := fun i hi => by
    rw [List.getD_eq_getElem?_getD, List.getElem?_eq_getElem hi]
    exact List.getElem_mem hi
  exact ⟨l, h1, h2, h3, h4, fun i hi => (h5 _ (hm i hi)).1, fun i hi => (h5 _ (hm i hi)).2⟩
end Go.Proofs.YtkmnpnbfeiobiaaDoor.Sd

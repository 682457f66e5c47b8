/- A packet that came in, as a Pk; rows of bytes that came in. -/
import Derived.Test.YtpodidgdlcfaeaaReads
import Derived.Test.YtpodidgdlcfaeaaIp6G
import Derived.Deep.Slices
import Derived.ChangeSlices
import Derived.SizedLaws
namespace Go.Proofs.Ytpodidgdlcfaeaa.Ip6
open Go.Deep Go.RowKit Go.ChangeShapes Go.WideShapes Go.Maps Go.Proofs.YtpodidgdlcfaeaaW.PrintWords Go.Proofs.YtpodidgdlcfaeaaW.PrintLast Go.Proofs.YtpodidgdlcfaeaaW.PrintMore Go.Proofs.Ytpodidgdlcfaeaa.PIp6Lays
set_option linter.unusedVariables false
set_option linter.unusedSimpArgs false
theorem weightsAll_mem {H : Type} {P : Program} {e : TypeId} {n : Nat} {d : DataW H} : ∀ {l : List (DataW H)}, d ∈ l → n ∈ d.weights P e → n ∈ DataW.weightsAll P e l
  | [], h, _ => by simp at h
  | x :: l, h, hn => by
    unfold DataW.weightsAll
    rcases List.mem_cons.mp h with rfl | h
    · exact List.mem_append.mpr (Or.inl hn)
    · exact List.mem_append.mpr (Or.inr (weightsAll_mem h hn))
theorem u8_wf {x : Int} (h : (Lit.int .u8 x).wf = true) : 0 ≤ x ∧ x ≤ 255 := by
  simpa [Lit.wf, IntKind.min, IntKind.max, IntKind.signed, IntKind.bits] using h
theorem came22 {H : Type} {enc : TypeId × Value → H} {W : World} {A : Option Addr} {len cap : Nat} {d : DataW H}
    (h : ∃ m q, DataW.trod enc Try.prog W 0 (fun _ => true) true m 22 [.slice A len cap] = some (d, q)) (wt : ∀ n ∈ d.weights Try.prog 22, n ≤ 140737488351232) :
    ∃ l : List Int, len = l.length ∧ l.length ≤ cap ∧ ReadsInt W .u8 A l.length l ∧ ∀ x ∈ l, 0 ≤ x ∧ x ≤ 255 := by
  obtain ⟨fuel, q, hf⟩ := h
  rcases open_ints (k := .u8) Try.underlying22 Try.underlying5 (by kernel_rfl) hf with ⟨hcs, _⟩ | ⟨x, l, c, zs, hcs, _, hl, hm, hz, hx, hcell, hwz⟩
  · simp at hcs
    obtain ⟨rfl, rfl, rfl⟩ := hcs
    exact ⟨[], rfl, Nat.le_refl _, ⟨rfl, by simp, fun h => absurd h (by simp)⟩, by simp⟩
  · simp at hcs
    obtain ⟨rfl, rfl, rfl⟩ := hcs
    have hz' : zs.length = cap := by simpa using hz
    obtain ⟨l, e1, h1, h2, h3, h4⟩ := ReadsInt.ofRowC (k := .u8) (w := W) (a := some x) (len := len) (cap := cap) (zs := zs) (.inr ⟨x, rfl, hl, hm, hz', hcell, hwz⟩)
    exact ⟨l, e1, h4, h1, fun x hx => u8_wf (h3 x hx)⟩
theorem came24 {H : Type} {enc : TypeId × Value → H} {W : World} {A : Option Addr} {len cap : Nat} {d : DataW H}
    (h : ∃ m q, DataW.trod enc Try.prog W 0 (fun _ => true) true m 24 [.slice A len cap] = some (d, q)) (wt : ∀ n ∈ d.weights Try.prog 24, n ≤ 140737488351232) :
    ∃ l : List S43, len = l.length ∧ l.length ≤ cap ∧ Kd.C k43 W A l.length l ∧ ∀ x ∈ l, (Lit.int .i64 x.f0).wf = true := by
  obtain ⟨fuel, q, hf⟩ := h
  rcases open_slice Try.underlying24 hf with ⟨hcs, _⟩ | ⟨a, n, c, m, k, D, Pl, hcs, _, hl, hm, hmm, hx, hel⟩
  · simp at hcs
    obtain ⟨rfl, rfl, rfl⟩ := hcs
    exact ⟨[], rfl, Nat.le_refl _, Kd.C_nil _ _, by simp⟩
  · simp at hcs
    obtain ⟨rfl, rfl, rfl⟩ := hcs
    have hC : Try.prog.cellsOf 43 = 2 := by kernel_rfl
    rw [hC] at hel
    obtain ⟨f, hF⟩ := @choose_lt S43 ⟨z43⟩ len (fun i o => W.cell? (a.add (i * 2)) = some (.int .i64 o.f0) ∧ W.cell? { block := (a.add (i * 2)).block, off := (a.add (i * 2)).off + 1 } = some (.string o.f1) ∧ (Lit.int .i64 o.f0).wf = true) (fun i hi => by
      obtain ⟨cs', h1, h2⟩ := hel i (by rw [hmm]; simp; omega)
      obtain ⟨x0, x1, rfl, w0, _⟩ := Reads.rd43 h2
      obtain ⟨_, _, hc⟩ := World.cells?_some h1
      refine ⟨⟨x0, x1⟩, ?_, hc 1 (by omega), w0⟩
      have := hc 0 (by omega)
      simpa [Addr.add] using this)
    refine ⟨(List.range len).map f, by simp, by simpa using hl, ⟨rfl, by have := hm; unfold maxLen at this; simp; omega, fun _ => ⟨a, rfl, fun j p hj => ?_⟩⟩, ?_⟩
    · rw [List.getElem?_map] at hj
      obtain ⟨i, hi, rfl⟩ := Option.map_eq_some_iff.mp hj
      obtain ⟨hij, rfl⟩ : j < len ∧ i = j := by
        rw [List.getElem?_eq_some_iff] at hi
        obtain ⟨h1, h2⟩ := hi
        simp at h1 h2
        exact ⟨h1, h2.symm⟩
      obtain ⟨g0, g1, _⟩ := hF i hij
      refine ⟨[.int .i64 (f i).f0, .string (f i).f1], rfl, k43_mk W (f i), fun k u hu => ?_⟩
      rcases k with _ | _ | k
      · simp only [List.getElem?_cons_zero, Option.some.injEq] at hu
        subst hu
        simpa [show k43.sz = 2 from rfl] using g0
      · simp only [List.getElem?_cons_succ, List.getElem?_cons_zero, Option.some.injEq] at hu
        subst hu
        have e2 : a.add (i * k43.sz + 1) = { block := (a.add (i * 2)).block, off := (a.add (i * 2)).off + 1 } := by
          show a.add (i * 2 + 1) = _
          unfold Addr.add
          by_cases hj0 : i * 2 = 0 <;> simp [hj0, Nat.add_assoc]
        rw [e2]
        exact g1
      · simp at hu
    · intro o ho
      obtain ⟨i, hi, rfl⟩ := List.mem_map.mp ho
      exact (hF i (List.mem_range.mp hi)).2.2
/-- What is known of a packet that came in. -/
structure Pre (p : Pk) : Prop where
  src : p.src.size ≤ 140737488351232
  dst : p.dst.size ≤ 140737488351232
  cls : (Lit.int .i64 p.cls).wf = true
  lab : (Lit.int .i64 p.lab).wf = true
  hop : (Lit.int .i64 p.hop).wf = true
  nxt : (Lit.int .i64 p.nxt).wf = true
  byte : ∀ x ∈ p.dat, 0 ≤ x ∧ x ≤ 255
theorem Pre.small {p : Pk} (h : Pre p) (hf : Few p.ex p.dat p.src p.dst) : Small p :=
  ⟨by have := hf.exl; omega, fun x hx => by have := hf.each x hx; omega, by have := hf.dat; omega, by have := hf.sd; omega, by have := hf.sd; omega, h.cls, h.lab, h.hop, h.nxt, h.byte⟩
/-- A law of a packet that came in, by one of a Pk. -/
theorem of_came {H : Type} {enc : TypeId × Value → H} {d : DataW H} {a0 a1 a2 : Int} {a3 a4 : ByteArray} {a5 : Option Addr} {n5 c5 : Nat} {a6 : Int} {a7 : Option Addr} {n7 c7 : Nat} {W : World}
    (f0 : (Lit.int .i64 a0).wf = true) (f1 : (Lit.int .i64 a1).wf = true) (f2 : (Lit.int .i64 a2).wf = true)
    (f5 : ∃ m e q, DataW.trod enc Try.prog W 0 (fun _ => true) true m 24 [.slice a5 n5 c5] = some (e, q) ∧ ∀ B, (∀ n ∈ d.weights Try.prog 26, n ≤ B) → ∀ n ∈ e.weights Try.prog 24, n ≤ B) (f6 : (Lit.int .i64 a6).wf = true)
    (f7 : ∃ m e q, DataW.trod enc Try.prog W 0 (fun _ => true) true m 22 [.slice a7 n7 c7] = some (e, q) ∧ ∀ B, (∀ n ∈ d.weights Try.prog 26, n ≤ B) → ∀ n ∈ e.weights Try.prog 22, n ≤ B)
    (g : a3.size ≤ 140737488351232 ∧ a4.size ≤ 140737488351232) (wt : ∀ n ∈ d.weights Try.prog 26, n ≤ 140737488351232) :
    ∃ p : Pk, #[Value.int .i64 a0, .int .i64 a1, .int .i64 a2, .string a3, .string a4, .slice a5 n5 c5, .int .i64 a6, .slice a7 n7 c7] = p.cells a5 c5 a7 c7 ∧ PkR W p a5 c5 a7 c7 ∧ Pre p := by
  obtain ⟨m5, e5, q5, t5, w5⟩ := f5
  obtain ⟨m7, e7, q7, t7, w7⟩ := f7
  obtain ⟨l5, rfl, h5, r5, _⟩ := came24 ⟨m5, q5, t5⟩ (w5 _ wt)
  obtain ⟨l7, rfl, h7, r7, b7⟩ := came22 ⟨m7, q7, t7⟩ (w7 _ wt)
  exact ⟨⟨a0, a1, a2, a3, a4, l5, a6, l7⟩, rfl, ⟨r5, h5, Kd.C_of_reads (d := (0 : Int)) (h1 := fun _ => rfl) r7, h7⟩, ⟨g.1, g.2, f0, f1, f2, f6, b7⟩⟩
end Go.Proofs.Ytpodidgdlcfaeaa.Ip6

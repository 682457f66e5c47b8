/- What the laws' walks need: rows that came in; few; Same; two tables side by side. -/
import Derived.Test.YtmedkjiabieloaaRtM7
import Derived.Test.YtmedkjiabieloaaReads
import Derived.Test.YtmedkjiabieloaaCameRows
import Derived.Test.YtmedkjiabieloaaQRdx23
import Derived.Test.YtmedkjiabieloaaQRdx24
namespace Go.Proofs.Ytmedkjiabieloaa.Rt
open Go.RowKit Go.Proofs.YtmedkjiabieloaaW.PrintWords Go.Proofs.YtmedkjiabieloaaW.PrintLast Go.Proofs.YtmedkjiabieloaaW.PrintMore Go.Proofs.Ytmedkjiabieloaa.QRd
open Go.Proofs.Ytmedkjiabieloaa
set_option linter.unusedVariables false
set_option linter.unusedSimpArgs false
/-- The strings of a route are no longer than memory. -/
def Fit28 (x : S28) : Prop := x.f0.f0.size ≤ 140737488351232 ∧ x.f1.size ≤ 140737488351232
def Fit48 (x : S48) : Prop := Fit28 x.f1 ∧ x.f2.size ≤ 140737488351232
theorem came28 {H : Type} {enc : TypeId × Value → H} {W : World} {A : Option Addr} {len cap : Nat} {d : DataW H} {ps : List MemPlace}
    (h : DataW.Trod enc Try.prog W 0 (fun _ => true) true 22 (.slice A len cap) d ps) (wt : ∀ n ∈ d.weights Try.prog 22, n ≤ 140737488351232) :
    ∃ l : List S28, len = l.length ∧ l.length ≤ cap ∧ k28.C W A l.length l ∧ l.length ≤ maxLen ∧ ∀ x ∈ l, Fit28 x := by
  refine CameRows.rows k28 z28 Try.underlying22 (by kernel_rfl) Fit28 (fun cs d' ps' m h wt => ?_) h wt
  obtain ⟨x0, x1, x2, x3, rfl, _, _, hs⟩ := Reads.rd28 h
  have hs := hs _ wt
  exact ⟨⟨⟨x0, x1⟩, x2, x3⟩, k28_mk _ _, hs⟩
theorem came48 {H : Type} {enc : TypeId × Value → H} {W : World} {A : Option Addr} {len cap : Nat} {d : DataW H} {ps : List MemPlace}
    (h : DataW.Trod enc Try.prog W 0 (fun _ => true) true 42 (.slice A len cap) d ps) (wt : ∀ n ∈ d.weights Try.prog 42, n ≤ 140737488351232) :
    ∃ l : List S48, len = l.length ∧ l.length ≤ cap ∧ k48.C W A l.length l ∧ l.length ≤ maxLen ∧ ∀ x ∈ l, Fit48 x := by
  refine CameRows.rows k48 z48 Try.underlying42 (by kernel_rfl) Fit48 (fun cs d' ps' m h wt => ?_) h wt
  obtain ⟨x0, x1, x2, x3, x4, x5, rfl, _, _, _, hs⟩ := Reads.rd48 h
  have hs := hs _ wt
  exact ⟨⟨x0, ⟨⟨x1, x2⟩, x3, x4⟩, x5⟩, k48_mk _ _, ⟨hs.1, hs.2.1⟩, hs.2.2⟩
theorem few_ex (l : List S48) (hl : l.length ≤ maxLen) : ∃ k r, redoubtlaw18_few.f k l = some r := by
  have key : ∀ d : Nat, ∀ i : Nat, l.length ≤ i + d → ∃ r, redoubtlaw18_few.l0 (d + 1) l (i : Int) = some r := by
    intro d
    induction d with
    | zero =>
      intro i hi
      simp only [redoubtlaw18_few.l0]
      rw [if_neg (by omega)]
      exact ⟨_, rfl⟩
    | succ d ih =>
      intro i hi
      simp only [redoubtlaw18_few.l0]
      by_cases h : (i : Int) < (l.length : Int)
      · rw [if_pos h, if_pos (by omega)]
        split
        · exact ⟨_, rfl⟩
        · have e : wrap64 ((i : Int) + 1) = ((i + 1 : Nat) : Int) := by
            unfold maxLen at hl
            rw [IntWalk.wrap64_in _ (by omega)]
            omega
          rw [e]
          exact ih (i + 1) (by omega)
      · rw [if_neg h]
        exact ⟨_, rfl⟩
  obtain ⟨r, hr⟩ := key l.length 0 (by omega)
  refine ⟨l.length + 1, ?_⟩
  unfold redoubtlaw18_few.f
  split
  · exact ⟨_, rfl⟩
  · exact ⟨r, hr⟩
theorem same_self (l : List S28) (hl : l.length ≤ 1000) : redoubtref18_Same.f (l.length + 1) l l = some true := by
  have key : ∀ d : Nat, ∀ i : Nat, l.length ≤ i + d → redoubtref18_Same.l0 (d + 1) l l (i : Int) = some true := by
    intro d
    induction d with
    | zero =>
      intro i hi
      simp only [redoubtref18_Same.l0]
      rw [if_neg (by omega)]
    | succ d ih =>
      intro i hi
      simp only [redoubtref18_Same.l0]
      by_cases h : (i : Int) < (l.length : Int)
      · rw [if_pos h, if_pos (by omega), if_pos h, if_neg (by simp)]
        have e : wrap64 ((i : Int) + 1) = ((i + 1 : Nat) : Int) := by
          rw [IntWalk.wrap64_in _ (by omega)]
          omega
        rw [e]
        exact ih (i + 1) (by omega)
      · rw [if_neg h]
  unfold redoubtref18_Same.f
  rw [if_pos rfl]
  exact key l.length 0 (by omega)
/-- Two rows lie apart. -/
def Apart (v v' : Value) : Prop := ∀ k, v.ownBlock = some k → v'.ownBlock ≠ some k
theorem Apart.symm {v v' : Value} (h : Apart v v') : Apart v' v := fun k hk hk' => h k hk' hk
theorem own_turn {w w' : World} {b q : Nat} {u v v' : Value} {l : List S28} (h : OwnT w b u l) (hu : Turn w w' q v v') (hq : some q ≠ u.ownBlock) (ha : Apart v u) : OwnT w' b u l ∧ Apart v' u :=
  ⟨own_move h fun k hk => hu.block k (own_lt h k hk) (fun e => hq (by rw [hk, e])) (fun e => ha k e.symm hk), fun k hk hk' => (hu.row k hk).elim (fun h1 => ha k h1 hk') (fun h1 => by have := own_lt h k hk'; omega)⟩
theorem blk_turn {w w' : World} {q g : Nat} {v v' : Value} {o : Obj} (h : w.heap[g]? = some o) (hu : Turn w w' q v v') (h1 : g ≠ q) (h2 : some g ≠ v.ownBlock) : w'.heap[g]? = some o := (hu.block g (blk_lt h) h1 h2).trans h
theorem TabX.turn {w w' : World} {b q q2 : Nat} {v v' u : Value} {l l2 : List S28} (hx : TabX w b q2 u l2) (ht : TabO w b q v l) (ha : Apart v u) (hu : Turn w w' q v v') : TabX w' b q2 u l2 ∧ Apart v' u := by
  have h := own_turn hx.own hu (own_neT hx.own ht.blk (by decide)) ha
  exact ⟨⟨blk_turn hx.blk hu (blk_ne hx.blk ht.blk (by decide)) (own_neT ht.own hx.blk (by decide)), h.1, hx.low⟩, h.2⟩
theorem TabO.turnX {w w' : World} {b q q2 : Nat} {v v' u : Value} {l l2 : List S28} (hx : TabO w b q2 u l2) (ht : TabX w b q v l) (ha : Apart v u) (hu : Turn w w' q v v') : TabO w' b q2 u l2 ∧ Apart v' u := by
  have h := own_turn hx.own hu (own_neT hx.own ht.blk (by decide)) ha
  exact ⟨⟨blk_turn hx.blk hu (blk_ne hx.blk ht.blk (by decide)) (own_neT ht.own hx.blk (by decide)), h.1, hx.low⟩, h.2⟩
theorem TabO.turn {w w' : World} {b q q2 : Nat} {v v' u : Value} {l l2 : List S28} (hx : TabO w b q2 u l2) (ht : TabO w b q v l) (hq : q2 ≠ q) (ha : Apart v u) (hu : Turn w w' q v v') : TabO w' b q2 u l2 ∧ Apart v' u := by
  have h := own_turn hx.own hu (own_neT hx.own ht.blk (by decide)) ha
  exact ⟨⟨blk_turn hx.blk hu hq (own_neT ht.own hx.blk (by decide)), h.1, hx.low⟩, h.2⟩
/-- The table and the document's beside it. -/
structure Two (w0 w : World) (q1 : Nat) (v1 : Value) (q2 : Nat) (v2 : Value) (L : List S28) : Prop where
  tab : TabO w w0.heap.size q1 v1 L
  ref : TabX w w0.heap.size q2 v2 L
  good : Good L
  apart : Apart v1 v2
  below : Below w0.heap.size w0 w
theorem Two.step {w0 w w' : World} {q1 q2 : Nat} {v1 v2 : Value} {L : List S28} (h : Two w0 w q1 v1 q2 v2 L) (hb : Below w.heap.size w w') : Two w0 w' q1 v1 q2 v2 L :=
  ⟨h.tab.below hb, h.ref.below hb, h.good, h.apart, h.below.trans (hb.mono h.below.size)⟩
/-- Between the two calls. -/
structure Mid2 (w0 w : World) (q1 : Nat) (v1 : Value) (q2 : Nat) (v2 : Value) (L1 L2 : List S28) : Prop where
  tab : TabO w w0.heap.size q1 v1 L1
  ref : TabX w w0.heap.size q2 v2 L2
  apart : Apart v1 v2
  below : Below w0.heap.size w0 w
theorem Two.first {w0 w w' : World} {q1 q2 : Nat} {v1 v1' v2 : Value} {L L1 : List S28} (h : Two w0 w q1 v1 q2 v2 L) (ht : TabO w' w0.heap.size q1 v1' L1) (hu : Turn w w' q1 v1 v1') : Mid2 w0 w' q1 v1' q2 v2 L1 L := by
  have h1 := h.ref.turn h.tab h.apart hu
  exact ⟨ht, h1.1, h1.2, hu.below h.below h.tab.low h.tab.base⟩
theorem Mid2.second {w0 w w' : World} {q1 q2 : Nat} {v1 v2 v2' : Value} {L L1 : List S28} (h : Mid2 w0 w q1 v1 q2 v2 L1 L) (hg : Good L1) (ht : TabX w' w0.heap.size q2 v2' L1) (hu : Turn w w' q2 v2 v2') : Two w0 w' q1 v1 q2 v2' L1 := by
  have h1 := h.tab.turnX h.ref h.apart.symm hu
  exact ⟨h1.1, ht, hg, h1.2.symm, hu.below h.below h.ref.low h.ref.base⟩
end Go.Proofs.Ytmedkjiabieloaa.Rt

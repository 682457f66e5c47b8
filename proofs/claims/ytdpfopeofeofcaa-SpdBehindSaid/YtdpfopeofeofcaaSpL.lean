/- Plain laws and rows for the law SpdBehind. -/
import Derived.Test.YtdpfopeofeofcaaSpPl
import Derived.Test.YtdpfopeofeofcaaQSpx35
namespace Go.Proofs.Ytdpfopeofeofcaa.Sp
open Go.RowKit Go.Proofs.YtdpfopeofeofcaaW.PrintWords Go.Proofs.YtdpfopeofeofcaaW.PrintLast Go.Proofs.YtdpfopeofeofcaaW.PrintMore Go.Proofs.Ytdpfopeofeofcaa.QSp
open Go.Proofs.Ytdpfopeofeofcaa
set_option linter.unusedVariables false
set_option linter.unusedSimpArgs false
theorem idx_neg {L : List S35} {f : S24} {o : Bool} (h : idxF L f o < 0) : idxF L f o = -1 := by
  unfold idxF at h ⊢
  split at h
  · omega
  · rename_i h1; rw [if_neg h1]
theorem idx_append (L : List S35) (r : S35) (f : S24) (o : Bool) : (0 ≤ idxF L f o → idxF (L ++ [r]) f o = idxF L f o) ∧ (idxF L f o < 0 → idxF (L ++ [r]) f o < 0 ∨ idxF (L ++ [r]) f o = (L.length : Int)) := by
  unfold idxF
  rw [List.findIdx_append, List.length_append, List.length_singleton]
  by_cases h : L.findIdx (hitB f o) < L.length
  · rw [if_pos h, if_pos h, if_pos (by omega)]
    exact ⟨fun _ => rfl, fun h' => by omega⟩
  · rw [if_neg h, if_neg h]
    refine ⟨fun h' => by omega, fun _ => ?_⟩
    split
    · right
      rename_i h2
      omega
    · left; omega
theorem ins_end (L : List S35) (r : S35) : L.take L.length ++ r :: L.drop L.length = L ++ [r] := by
  rw [List.take_length, List.drop_length]
theorem same_self (l : List S35) (hl : l.length ≤ 1000) : redoubtref16_Same.f (l.length + 1) l l = some true := by
  have key : ∀ d : Nat, ∀ i : Nat, l.length ≤ i + d → redoubtref16_Same.l0 (d + 1) l l (i : Int) = some true := by
    intro d
    induction d with
    | zero =>
      intro i hi
      simp only [redoubtref16_Same.l0]
      rw [if_neg (by omega)]
    | succ d ih =>
      intro i hi
      simp only [redoubtref16_Same.l0]
      by_cases h : (i : Int) < (l.length : Int)
      · rw [if_pos h, if_pos (by omega), if_pos h, if_neg (by simp)]
        have e : wrap64 ((i : Int) + 1) = ((i + 1 : Nat) : Int) := by
          rw [IntWalk.wrap64_in _ (by omega)]
          omega
        rw [e]
        exact ih (i + 1) (by omega)
      · rw [if_neg h]
  unfold redoubtref16_Same.f
  rw [if_pos rfl]
  exact key l.length 0 (by omega)
theorem own_apart {w : World} {b1 b2 : Nat} {e1 e2 : TypeId} {s1 s2 n1 n2 : Nat} {u v : Value} {xs ys : List Value} (h : w.ownsRow b1 e1 s1 u n1 xs) (h2 : w.ownsRow b2 e2 s2 v n2 ys) (hne : e1 ≠ e2) : Apart u v := by
  intro k hk hk'
  rcases h.2 with ⟨rfl, _⟩ | ⟨g, cap, cur, rfl, _, hh, _⟩
  · simp [Value.ownBlock] at hk
  · have : g = k := by simpa [Value.ownBlock] using hk
    subst this
    exact own_ne h2 hh (Ne.symm hne) hk'.symm
/-- A row of numbers. -/
def RowI (w : World) (base : Nat) (u : Value) (xs : List Int) : Prop := (Kd.int .i64).R 3 w base (fun _ => True) u xs
theorem RowI.owns {w : World} {base : Nat} {u : Value} {xs : List Int} (h : RowI w base u xs) : ∃ inner, w.ownsRow base 3 1 u xs.length inner := by
  obtain ⟨_, inner, ho, _⟩ := h
  exact ⟨inner, ho⟩
theorem RowI.move {w w1 : World} {base : Nat} {u : Value} {xs : List Int} (h : RowI w base u xs) (hm : ∀ k, u.ownBlock = some k → w1.heap[k]? = w.heap[k]?) : RowI w1 base u xs := by
  obtain ⟨h0, inner, ho, hr⟩ := h
  exact ⟨h0, inner, own_move ho hm, hr⟩
theorem RowI.step {w w' : World} {base : Nat} {u : Value} {xs : List Int} (h : RowI w base u xs) (hb : Below w.heap.size w w') : RowI w' base u xs := by
  obtain ⟨inner, ho⟩ := h.owns
  exact h.move fun k hk => hb.block k (own_lt ho k hk)
theorem RowI.turn {w w' : World} {base b q m : Nat} {u v v' : Value} {xs : List Int} {L : List S35} (h : RowI w base u xs) (ht : SpdO w b q m v L) (hu : Turn w w' q m v v') : RowI w' base u xs := by
  obtain ⟨inner, ho⟩ := h.owns
  obtain ⟨es, c, hm, _⟩ := ht.map
  refine h.move fun k hk => hu.block k (own_lt ho k hk) (fun e => own_ne ho ht.blk (by decide) (by rw [← e, hk])) (fun e => ?_) (fun e => own_apart ho ht.own (by decide) k hk e.symm)
  subst e
  rcases ho.2 with ⟨rfl, _⟩ | ⟨g, cap, cur, rfl, _, hh, _⟩
  · simp [Value.ownBlock] at hk
  · have : g = k := by simpa [Value.ownBlock] using hk
    subst this
    rw [hh] at hm
    cases hm
/-- What lies beside stays as the row of numbers grows. -/
theorem grown_blk {w w1 : World} {base g : Nat} {u : Value} {xs : List Int} {cs : Array Value} {t : TypeId} (h : RowI w base u xs) (hg : w.grownBy w1 u.ownBlock) (hb : w.heap[g]? = some (.cells cs t (0, 0))) (ht : 3 ≠ t := by decide) : w1.heap[g]? = some (.cells cs t (0, 0)) := by
  obtain ⟨inner, ho⟩ := h.owns
  exact blk_grown hb hg (own_ne ho hb ht)
theorem grown_own {w w1 : World} {base b : Nat} {u v : Value} {xs : List Int} {l : List S35} (h : RowI w base u xs) (hg : w.grownBy w1 u.ownBlock) (hv : OwnT w b v l) : OwnT w1 b v l := by
  obtain ⟨inner, ho⟩ := h.owns
  exact own_move hv fun k hk => hg.block k (own_lt hv k hk) (fun e => own_apart hv ho (by decide) k hk e.symm)
theorem grown_spd {w w1 : World} {base b q m : Nat} {u v : Value} {xs : List Int} {l : List S35} (h : RowI w base u xs) (hg : w.grownBy w1 u.ownBlock) (hs : SpdO w b q m v l) : SpdO w1 b q m v l := by
  obtain ⟨inner, ho⟩ := h.owns
  obtain ⟨es, c, hm, hk⟩ := hs.map
  refine ⟨grown_blk h hg hs.blk, ⟨es, c, blk_grown hm hg (fun e => ?_), hk⟩, grown_own h hg hs.own, hs.low, hs.lom⟩
  rcases ho.2 with ⟨rfl, _⟩ | ⟨g, cap, cur, rfl, _, hh, _⟩
  · simp [Value.ownBlock] at e
  · have : m = g := by simpa [Value.ownBlock] using e
    subst this
    rw [hh] at hm
    cases hm
theorem RowI.cell {w : World} {base n c : Nat} {A : Option Addr} {xs : List Int} (h : RowI w base (.slice A n c) xs) (i : Nat) (hi : i < xs.length) : n = xs.length ∧ ∃ ad, A = some ad ∧ w.cell? (ad.add i) = some (.int .i64 (xs.getD i 0)) := by
  obtain ⟨rfl, _, hr⟩ := Kd.R_reads' h
  obtain ⟨ad, c, e, _, hK, hc⟩ := Kd.C_get hr 0 (i : Int) (by omega) (by omega)
  rw [Int.toNat_natCast] at hK hc
  obtain rfl : c = [.int .i64 (xs.getD i 0)] := hK
  refine ⟨rfl, ad, e, ?_⟩
  have h0 := hc 0 _ rfl
  rw [show i * (Kd.int .i64).sz + 0 = i from by show i * 1 + 0 = i; omega] at h0
  exact h0
/-- A flow in a row. -/
theorem row24s {W : World} {ad : Addr} {n : Nat} {xs : List S24} (h : Kd.C k24 W (some ad) n xs) (i : Nat) (hi : i < n) :
    W.cell? (ad.add (i * 5)) = some (.string (xs.getD i z24).f0) ∧ W.cell? ⟨(ad.add (i * 5)).block, (ad.add (i * 5)).off + 1, none⟩ = some (.string (xs.getD i z24).f1) ∧ W.cell? ⟨(ad.add (i * 5)).block, (ad.add (i * 5)).off + 2, none⟩ = some (.int .i64 (xs.getD i z24).f2) ∧ W.cell? ⟨(ad.add (i * 5)).block, (ad.add (i * 5)).off + 3, none⟩ = some (.int .i64 (xs.getD i z24).f3) ∧ W.cell? ⟨(ad.add (i * 5)).block, (ad.add (i * 5)).off + 4, none⟩ = some (.int .i64 (xs.getD i z24).f4) := by
  obtain ⟨ad', c, e, _, hK, hc0⟩ := Kd.C_get h z24 (i : Int) (by omega) (by omega)
  injection e with e
  subst e
  rw [Int.toNat_natCast] at hK hc0
  have hc : ∀ j u, c[j]? = some u → W.cell? (ad.add (i * 5 + j)) = some u := hc0
  obtain rfl := k24_open hK
  exact ⟨hc 0 _ rfl, by rw [← add_field _ _ 1 (by omega)]; exact hc 1 _ rfl, by rw [← add_field _ _ 2 (by omega)]; exact hc 2 _ rfl, by rw [← add_field _ _ 3 (by omega)]; exact hc 3 _ rfl, by rw [← add_field _ _ 4 (by omega)]; exact hc 4 _ rfl⟩
theorem some24 {W : World} {A : Option Addr} {n : Nat} {xs : List S24} (h : Kd.C k24 W A n xs) (hn : 0 < n) : ∃ ad, A = some ad := by
  obtain ⟨ad, c, e, _⟩ := Kd.C_get h z24 0 (by omega) (by omega)
  exact ⟨ad, e⟩
end Go.Proofs.Ytdpfopeofeofcaa.Sp

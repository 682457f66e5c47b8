/- The document's cache (redoubtref21): its list in memory, the walks of Is, Least, place, Get, Tell. -/
import Derived.Test.YticaejoaoblcmaaDoorPmtF
namespace Go.Proofs.YticaejoaoblcmaaDoor.Pmt
open Go.RowKit Go.Maps Go.Proofs.YticaejoaoblcmaaDoorW.PrintWords Go.Proofs.YticaejoaoblcmaaDoorW.PrintLast Go.Proofs.YticaejoaoblcmaaDoorW.PrintMore Go.Proofs.YticaejoaoblcmaaDoor.PPmtuInner
set_option linter.unusedVariables false
set_option linter.unusedSimpArgs false
attribute [local go_sem] max2_int min2_int max_two min_two max_three min_three max_four min_four
abbrev dE : Ent := (ByteArray.empty, 0, 0)
/-! The list as a map. -/
theorem get_none : ∀ (L : List Ent) (k : ByteArray), (∀ i, i < L.length → (L.getD i dE).1 ≠ k) → get L k = none
  | [], _, _ => rfl
  | e :: L, k, h => by
    have h0 : e.1 ≠ k := h 0 (by simp)
    have ih := get_none L k (fun i hi => by simpa using h (i + 1) (by simpa using hi))
    unfold get at ih ⊢
    rw [List.find?_cons]
    simp [h0] at ih ⊢
    exact ih
theorem get_some : ∀ (L : List Ent) (k : ByteArray) (j : Nat), j < L.length → (L.getD j dE).1 = k → (∀ i, i < j → (L.getD i dE).1 ≠ k) → get L k = some (L.getD j dE).2
  | [], _, _, h, _, _ => absurd h (by simp)
  | e :: L, k, 0, _, hk, _ => by
    have h0 : e.1 = k := by simpa using hk
    unfold get
    rw [List.find?_cons]
    simp [h0]
  | e :: L, k, j + 1, hj, hk, hlt => by
    have h0 : e.1 ≠ k := by simpa using hlt 0 (by omega)
    have ih := get_some L k j (by simpa using hj) (by simpa using hk) (fun i hi => by simpa using hlt (i + 1) (by omega))
    unfold get at ih ⊢
    rw [List.find?_cons]
    simp [h0] at ih ⊢
    exact ih
theorem get_set : ∀ (L : List Ent) (k : ByteArray) (j : Nat), j < L.length → (L.getD j dE).1 = k → (∀ i, i < j → (L.getD i dE).1 ≠ k) → ∀ (k' : ByteArray) (m a : Int), get (L.set j (k, m, a)) k' = if k' = k then some (m, a) else get L k'
  | [], _, _, h, _, _, _, _, _ => absurd h (by simp)
  | e :: L, k, 0, _, hk, _, k', m, a => by
    have h0 : e.1 = k := by simpa using hk
    unfold get
    rw [List.set_cons_zero, List.find?_cons, List.find?_cons]
    by_cases e' : k' = k
    · subst e'
      simp
    · have : ¬ k = k' := fun x => e' x.symm
      simp [this, e', h0]
  | e :: L, k, j + 1, hj, hk, hlt, k', m, a => by
    have h0 : e.1 ≠ k := by simpa using hlt 0 (by omega)
    have ih := get_set L k j (by simpa using hj) (by simpa using hk) (fun i hi => by simpa using hlt (i + 1) (by omega)) k' m a
    unfold get at ih ⊢
    rw [List.set_cons_succ, List.find?_cons, List.find?_cons]
    by_cases e' : k' = k
    · subst e'
      simp [h0] at ih ⊢
      exact ih
    · by_cases e2 : e.1 = k'
      · simp [e2, e']
      · simp [e2, e'] at ih ⊢
        exact ih
/-- Two lists that are one map. -/
structure Same (L L' : List Ent) : Prop where
  get : ∀ k, get L k = get L' k
  len : L.length = L'.length
theorem Same.refl (L : List Ent) : Same L L := ⟨fun _ => rfl, rfl⟩
theorem CacheAt.same {w : World} {g b : Nat} {L L' : List Ent} (h : CacheAt w g b L) (s : Same L L') : CacheAt w g b L' := by
  obtain ⟨D, hm, hr⟩ := h.hm
  exact ⟨h.hs, ⟨D, hm, ⟨by rw [hr.size, s.len], fun k => by rw [hr.has, s.get], fun k m a hk => hr.at_ k m a (by rw [s.get]; exact hk)⟩⟩, by rw [← s.len]; exact h.hn⟩
theorem info53 : (Tryd.prog.info? 53).map (fun i => (i.zero, i.size, i.bytes)) = some (some (.agg #[.string ByteArray.empty, .int .i64 0, .int .i64 0]), 3, 32) := by kernel_rfl
abbrev kdE : Kd Ent := Kd.pair Kd.string (Kd.pair (Kd.int .i64) (Kd.int .i64))
/-- The document's cache in memory: its list at block h, in a row of the call's own. -/
structure RefC (base : Nat) (w : World) (h : Nat) (ok : Nat → Prop) (A : Option Addr) (c : Nat) (L : List Ent) : Prop where
  hs : w.heap[h]? = some (.cells #[.slice A L.length c] 39 (0, 0))
  row : kdE.R 53 w base (fun k => k ≠ h ∧ ok k) (.slice A L.length c) L
section
variable {base : Nat} {w : World} {h c : Nat} {ok : Nat → Prop} {A : Option Addr} {L : List Ent}
theorem RefC.c0 (r : RefC base w h ok A c L) : w.cell? ⟨h, 0, none⟩ = some (.slice A L.length c) := (blk_cell r.hs 0).trans rfl
theorem RefC.drewN (r : RefC base w h ok A c L) (m : Nat) : RefC base (w.drewN m) h ok A c L := ⟨r.hs, Kd.R_drewN r.row m⟩
theorem RefC.lc (r : RefC base w h ok A c L) : L.length ≤ c := (Kd.R_reads' r.row).2.1
theorem RefC.below (r : RefC base w h ok A c L) {w' : World} (hb : Below w.heap.size w w') : RefC base w' h ok A c L := ⟨blk_below r.hs hb, Kd.R_below r.row hb⟩
theorem RefC.keep {w' : World} {S : Nat → Prop} (r : RefC base w h ok A c L) (hk : Kept w w' S) (h1 : ¬ S h) (h2 : ∀ k, ok k → ¬ S k) : RefC base w' h ok A c L :=
  ⟨blk_kept r.hs hk h1, Kd.R_kept r.row hk (fun k hk => h2 k hk.2)⟩
theorem RefC.elem (r : RefC base w h ok A c L) (j : Nat) (hj : j < L.length) : ∃ b, A = some ⟨b, 0, none⟩ ∧ ok b ∧ b ≠ h ∧
    w.cell? ⟨b, j * 3, none⟩ = some (.string (L.getD j dE).1) ∧ w.cell? ⟨b, j * 3 + 1, none⟩ = some (.int .i64 (L.getD j dE).2.1) ∧ w.cell? ⟨b, j * 3 + 2, none⟩ = some (.int .i64 (L.getD j dE).2.2) ∧
    ∀ i, w.frozen? ⟨b, j * 3 + i, none⟩ = false := by
  have hrow := r.row
  obtain ⟨b, cap, hv, _⟩ := Kd.R_form hrow (by omega)
  rw [hv] at hrow
  cases hv
  obtain ⟨cs, hl, hM, hc, hf⟩ := Kd.R_elem hrow dE (j : Int) (by omega) (by omega)
  obtain ⟨c0, c1, rfl, h0, c2, c3, rfl, h2, h3⟩ := hM
  simp only [Int.toNat_natCast] at *
  have h0' : c0 = [.string (L.getD j dE).1] := h0
  have h2' : c2 = [.int .i64 (L.getD j dE).2.1] := h2
  have h3' : c3 = [.int .i64 (L.getD j dE).2.2] := h3
  subst h0' h2' h3'
  exact ⟨b, rfl, (hrow.1 b rfl).2, (hrow.1 b rfl).1, hc 0 _ rfl, hc 1 _ rfl, hc 2 _ rfl, hf⟩
set_option maxHeartbeats 4000000 in
theorem is_walk (k : ByteArray) (w : World) : Calls Tryd.prog 22 #[.string k] w fun e w' => e = .returned (.bool (!decide (bad k))) ∧ w' = w := by
  by_cases h4 : k.size = 4
  · have e4 : ((k.size : Int) == 4) = true := by simp; omega
    go_enter Tryd.func22, Tryd.ntmps22
    go_wp2
    go_ret
    exact ⟨by simp [bad, h4], rfl⟩
  · have e4 : ((k.size : Int) == 4) = false := by simp; omega
    by_cases h16 : k.size = 16
    · have e16 : ((k.size : Int) == 16) = true := by simp; omega
      clear h4
      go_enter Tryd.func22, Tryd.ntmps22
      go_wp2
      go_ret
      exact ⟨by simp [bad, h16], rfl⟩
    · have e16 : ((k.size : Int) == 16) = false := by simp; omega
      have hx : (!decide (bad k)) = false := by simp [bad, h4, h16]
      rw [hx]
      clear h4 h16 hx
      go_enter Tryd.func22, Tryd.ntmps22
      go_wp2
      go_ret
      exact ⟨rfl, rfl⟩
set_option maxHeartbeats 4000000 in
theorem least_walk (k : ByteArray) (w : World) : Calls Tryd.prog 24 #[.string k] w fun e w' => e = .returned (.int .i64 (low k)) ∧ w' = w := by
  unfold low
  by_cases h4 : k.size = 4
  · have e4 : ((k.size : Int) == 4) = true := by simp; omega
    rw [if_pos h4]
    clear h4
    go_enter Tryd.func24, Tryd.ntmps24
    go_wp2
    go_ret
    exact ⟨rfl, rfl⟩
  · have e4 : ((k.size : Int) == 4) = false := by simp; omega
    rw [if_neg h4]
    clear h4
    go_enter Tryd.func24, Tryd.ntmps24
    go_wp2
    go_ret
    exact ⟨rfl, rfl⟩
/-- Where an address stands in the list. -/
def Place (L : List Ent) (k : ByteArray) (r : Int) : Prop := (r = -1 ∧ ∀ i, i < L.length → (L.getD i dE).1 ≠ k) ∨ ∃ j : Nat, j < L.length ∧ r = (j : Int) ∧ (L.getD j dE).1 = k ∧ ∀ i, i < j → (L.getD i dE).1 ≠ k
set_option maxHeartbeats 4000000 in
set_option maxRecDepth 100000 in
theorem place_walk (r : RefC base w h ok A c L) (hl : L.length ≤ 200) (k : ByteArray) : Calls Tryd.prog 23 #[.pointer (some ⟨h, 0, none⟩), .string k] w fun e w' => (∃ r, e = .returned (.int .i64 r) ∧ Place L k r) ∧ w' = w := by
  have h0 := r.c0
  have R := Aside0.mk r
  obtain ⟨N, hN⟩ : ∃ N, L.length = N := ⟨_, rfl⟩
  have HN := Aside0.mk hN
  rw [hN] at h0 hl
  clear r hN
  go_enter Tryd.func23, Tryd.ntmps23
  go_wp2
  go_loop [5] (fun i => ∃ j : Nat, j ≤ N ∧ i = .int .i64 j ∧ Aside0 (∀ i, i < j → (L.getD i dE).1 ≠ k)) (fun i => N - (intOf i).toNat)
  case atStart => exact ⟨0, by omega, rfl, Aside0.mk (fun i hi => absurd hi (by omega))⟩
  case round =>
    obtain ⟨j, hj, rfl, HP⟩ := hrel
    by_cases hjl : j < N
    · have hd : decide ((j : Int) < (N : Int)) = true := by simp; omega
      obtain ⟨b, rfl, _, _, hc0, _⟩ := R.out.elem j (by rw [HN.out]; exact hjl)
      obtain ⟨x, hx⟩ : ∃ x, (L.getD j dE).1 = x := ⟨_, rfl⟩
      have HX := Aside0.mk hx
      rw [hx] at hc0
      clear hx
      by_cases hk : x = k
      · have e1 : (x.toList == k.toList) = true := (bytes_eq x k).mpr hk
        have HK := Aside0.mk hk
        clear hk
        go_wp2
        go_ret
        exact ⟨⟨_, rfl, Or.inr ⟨j, by have := HN.out; omega, rfl, by rw [HX.out, HK.out], HP.out⟩⟩, rfl⟩
      · have e1 : (x.toList == k.toList) = false := (bytes_ne x k).mpr hk
        have HK := Aside0.mk hk
        clear hk
        go_wp2
        go_round
        case rel => exact ⟨j + 1, hjl, by go_num, Aside0.mk (fun i hi => by
          rcases Nat.lt_succ_iff_lt_or_eq.mp hi with hi | rfl
          · exact HP.out i hi
          · rw [HX.out]; exact HK.out)⟩
        case measure => simp [intOf]; omega
    · have hd : decide ((j : Int) < (N : Int)) = false := by simp; omega
      go_wp2
      go_ret
      exact ⟨⟨_, rfl, Or.inl ⟨rfl, fun i hi => HP.out i (by have := HN.out; omega)⟩⟩, rfl⟩
set_option maxHeartbeats 4000000 in
set_option maxRecDepth 100000 in
theorem refget_walk (r : RefC base w h ok A c L) (hl : L.length ≤ 200) (now : Int) (k : ByteArray) (link : Int) :
    Calls Tryd.prog 15 #[.pointer (some ⟨h, 0, none⟩), .int .i64 now, .string k, .int .i64 link] w fun e w' => e = .returned (.tuple #[.int .i64 (getE L now k link).1, .int .i64 (getE L now k link).2]) ∧ w' = w := by
  have IS := Aside0.mk (is_walk k w)
  by_cases hb : bad k
  · rw [show (!decide (bad k)) = false by simp [hb]] at IS
    have e : getE L now k link = (0, 1) := by unfold getE; rw [if_pos hb]
    rw [e]
    clear e hb r hl
    go_enter Tryd.func15, Tryd.ntmps15
    go_wp2_with (first | (go_at_call 22; refine IS.out.mono ?_; rintro e w1 ⟨rfl, rfl⟩))
    go_ret2
    exact ⟨rfl, rfl⟩
  · rw [show (!decide (bad k)) = true by simp [hb]] at IS
    have PL := Aside0.mk (place_walk r hl k)
    have h0 := r.c0
    have R := Aside0.mk r
    have G1 := Aside0.mk (show get L k = none → getE L now k link = (link, 0) from fun h => by unfold getE; rw [if_neg hb, h])
    have G2 := Aside0.mk (show ∀ m a, get L k = some (m, a) → getE L now k link = if wrap64 (now - a) < 600 then (min link m, 0) else (link, 0) from fun m a h => by unfold getE; rw [if_neg hb, h])
    obtain ⟨N, hN⟩ : ∃ N, L.length = N := ⟨_, rfl⟩
    have HN := Aside0.mk hN
    rw [hN] at h0 hl
    clear hb r hN
    go_enter Tryd.func15, Tryd.ntmps15
    go_wp2_with (first | (go_at_call 22; refine IS.out.mono ?_; rintro e w1 ⟨rfl, rfl⟩))
    refine PL.out.mono ?_
    rintro e w1 ⟨⟨p, rfl, hp⟩, rfl⟩
    rcases hp with ⟨rfl, hno⟩ | ⟨j, hj, rfl, hk, hlt⟩
    · have e := Aside0.mk (G1.out (get_none L k hno))
      clear hno
      go_wp2_with (fail)
      go_ret2
      rw [e.out]
      exact ⟨rfl, rfl⟩
    · have e := Aside0.mk (G2.out _ _ (get_some L k j hj hk hlt))
      obtain ⟨b, rfl, _, _, _, hc1, hc2, _⟩ := R.out.elem j hj
      have hjN : j < N := by have := HN.out; omega
      obtain ⟨m, hm⟩ : ∃ m, (L.getD j dE).2.1 = m := ⟨_, rfl⟩
      obtain ⟨a, ha⟩ : ∃ a, (L.getD j dE).2.2 = a := ⟨_, rfl⟩
      rw [hm] at hc1
      rw [ha] at hc2
      have e' := Aside0.mk (e.out)
      rw [hm, ha] at e'
      have d0 : decide ((0 : Int) ≤ (j : Int)) = true := by simp
      clear e hj hk hlt hm ha
      by_cases hf : wrap64 (now - a) < 600
      · have d1 : decide (wrap64 (now - a) < 600) = true := decide_eq_true hf
        rw [if_pos hf] at e'
        have hmin : ((if m < link then m else link) : Int) = min link m := by omega
        clear hf
        go_wp2_with (fail)
        go_ret2
        rw [e'.out]
        exact ⟨by simp [hmin], rfl⟩
      · have d1 : decide (wrap64 (now - a) < 600) = false := decide_eq_false hf
        rw [if_neg hf] at e'
        clear hf
        go_wp2_with (fail)
        go_ret2
        rw [e'.out]
        exact ⟨rfl, rfl⟩
theorem elem_M (W : World) (base : Nat) (okp : Nat → Prop) (k : ByteArray) (m a : Int) : kdE.M W base okp (k, m, a) [.string k, .int .i64 m, .int .i64 a] :=
  ⟨[.string k], [.int .i64 m, .int .i64 a], rfl, rfl, [.int .i64 m], [.int .i64 a], rfl, rfl, rfl⟩
/-- Element j is written over. -/
theorem RefC.put {b : Nat} (r : RefC base w h ok (some ⟨b, 0, none⟩) c L) (j : Nat) (hj : j < L.length) (k : ByteArray) (m a : Int) :
    RefC base (((w.setCell ⟨b, j * 3, none⟩ (.string k)).setCell ⟨b, j * 3 + 1, none⟩ (.int .i64 m)).setCell ⟨b, j * 3 + 2, none⟩ (.int .i64 a)) h ok (some ⟨b, 0, none⟩) c (L.set j (k, m, a)) ∧
    w.grownBy (((w.setCell ⟨b, j * 3, none⟩ (.string k)).setCell ⟨b, j * 3 + 1, none⟩ (.int .i64 m)).setCell ⟨b, j * 3 + 2, none⟩ (.int .i64 a)) (some b) := by
  have hrow := r.row
  obtain ⟨cs, hl, hM, hc, hf⟩ := Kd.R_elem hrow dE (j : Int) (by omega) (by omega)
  have h1 := Kd.R_seg hrow (j : Int) (by omega) (by omega) (c := cs) (seg := [.string k, .int .i64 m, .int .i64 a]) (j := 0) hl hc (by rw [show kdE.sz = 3 from rfl]; simp) (x' := (k, m, a)) (okp := fun _ => False) (by
    have e : cs.take 0 ++ [Value.string k, .int .i64 m, .int .i64 a] ++ cs.drop (0 + [Value.string k, .int .i64 m, .int .i64 a].length) = [.string k, .int .i64 m, .int .i64 a] := by
      have : cs.length = 3 := hl
      rw [List.drop_eq_nil_of_le (by simp; omega)]
      simp
    rw [e]
    exact elem_M _ _ _ _ _ _) (fun _ h => h.elim)
  have hbh : b ≠ h := (hrow.1 b rfl).1
  have hlen : (L.set j (k, m, a)).length = L.length := List.length_set
  have hrow2 := h1.1
  simp only [Int.toNat_natCast] at hrow2 h1
  refine ⟨⟨?_, ?_⟩, h1.2⟩
  · rw [hlen]
    exact blk_grown r.hs h1.2 (fun e => hbh (Option.some.inj e).symm)
  · rw [hlen]
    exact hrow2
set_option maxHeartbeats 4000000 in
set_option maxRecDepth 100000 in
theorem reftell_walk {w0 : World} (r : RefC base w h ok A c L) (hl : L.length ≤ 64) (hB : Below base w0 w) (hbase : base ≤ w.heap.size) (hhb : base ≤ h) (hfr : ∀ k, w.heap.size ≤ k → ok k) (hokb : ∀ k, ok k → base ≤ k) (now : Int) (k : ByteArray) (mtu : Int) :
    Calls Tryd.prog 16 #[.pointer (some ⟨h, 0, none⟩), .int .i64 now, .string k, .int .i64 mtu] w fun e w' => e = .returned (.tuple #[.int .i64 (tellE L now k mtu).1.1, .int .i64 (tellE L now k mtu).1.2]) ∧
      (∃ A' c' L', RefC base w' h ok A' c' L' ∧ Same (tellE L now k mtu).2 L') ∧ Below base w0 w' ∧ Kept w w' (fun k => k = h ∨ ok k) := by
  have IS := Aside0.mk (is_walk k w)
  by_cases hb : bad k
  · rw [show (!decide (bad k)) = false by simp [hb]] at IS
    have e : tellE L now k mtu = ((0, 1), L) := by unfold tellE; rw [if_pos hb]
    rw [e]
    have FIN := Aside0.mk (show (∃ A' c' L', RefC base w h ok A' c' L' ∧ Same L L') ∧ Below base w0 w ∧ Kept w w (fun k => k = h ∨ ok k) from ⟨⟨_, _, _, r, Same.refl _⟩, hB, Kept.refl _ _⟩)
    clear e hb r hl hB hbase hhb hfr hokb
    go_enter Tryd.func16, Tryd.ntmps16
    go_wp2_with (first | (go_at_call 22; refine IS.out.mono ?_; rintro e w1 ⟨rfl, rfl⟩))
    go_ret2
    exact ⟨rfl, FIN.out⟩
  · rw [show (!decide (bad k)) = true by simp [hb]] at IS
    have PL := Aside0.mk (place_walk r (by omega) k)
    have LE := Aside0.mk (least_walk k w)
    have h0 := r.c0
    have R := Aside0.mk r
    have hmx : ((if mtu < low k then low k else mtu) : Int) = max mtu (low k) := by omega
    obtain ⟨mm, hmm⟩ : ∃ mm, max mtu (low k) = mm := ⟨_, rfl⟩
    have G1 := Aside0.mk (show get L k = none → tellE L now k mtu = if 64 ≤ L.length then ((0, 7), L) else ((mm, 0), put L k mm now) from fun h => by unfold tellE; rw [if_neg hb, h, hmm])
    have G2 := Aside0.mk (show ∀ m a, get L k = some (m, a) → tellE L now k mtu = if wrap64 (now - a) < 600 ∧ m ≤ mm then ((m, 0), L) else ((mm, 0), put L k mm now) from fun m a h => by unfold tellE; rw [if_neg hb, h, hmm])
    rw [hmm] at hmx
    obtain ⟨lo, hlo⟩ : ∃ lo, low k = lo := ⟨_, rfl⟩
    rw [hlo] at hmx LE
    obtain ⟨N, hN⟩ : ∃ N, L.length = N := ⟨_, rfl⟩
    have HN := Aside0.mk hN
    have HB := Aside0.mk hB
    have HBASE := Aside0.mk hbase
    have HFR := Aside0.mk hfr
    have HOKB := Aside0.mk hokb
    have hlc := r.lc
    rw [hN] at h0 hl hlc
    clear hb r hN hmm hlo hB hbase hfr hokb
    go_enter Tryd.func16, Tryd.ntmps16
    go_wp2_with (first | (go_at_call 22; refine IS.out.mono ?_; rintro e w1 ⟨rfl, rfl⟩) | (go_at_call 24; refine LE.out.mono ?_; rintro e w1 ⟨rfl, rfl⟩))
    refine PL.out.mono ?_
    rintro e w1 ⟨⟨p, rfl, hp⟩, rfl⟩
    rcases hp with ⟨rfl, hno⟩ | ⟨j, hj, rfl, hk, hlt⟩
    · have hnone := get_none L k hno
      have e := Aside0.mk (G1.out hnone)
      have HNONE := Aside0.mk hnone
      clear hno hnone
      by_cases h64 : 64 ≤ N
      · have d1 : decide ((64 : Int) ≤ (N : Int)) = true := by simp; omega
        have e' := e.out
        rw [HN.out, if_pos h64] at e'
        have E := Aside0.mk e'
        clear h64 e e'
        go_wp2_with (fail)
        go_ret2
        rw [E.out]
        exact ⟨rfl, ⟨_, _, _, R.out, Same.refl _⟩, HB.out, Kept.refl _ _⟩
      · have d1 : decide ((64 : Int) ≤ (N : Int)) = false := by simp; omega
        have e' := e.out
        rw [HN.out, if_neg h64] at e'
        have E := Aside0.mk e'
        clear h64 e e'
        have HROW := Aside0.mk R.out.row
        rw [HN.out] at HROW
        go_wp2_with (first | ((with_reducible refine gate_builtin (b := .append) (xs := #[.tmp 76, .tmp 81]) rfl ?_); at_builtin; refine Kd.R_append kdE (w0 := w0) base rfl (.tmp 76) (.tmp 81) 37 53 (.agg #[.string ByteArray.empty, .int .i64 0, .int .i64 0]) 32 rfl Tryd.underlying37 info53 rfl (by decide) (by omega) (.slice A N c) L (k, mm, now) [.string k, .int .i64 mm, .int .i64 now] (fun k => k ≠ h ∧ ok k) (fun _ => False) rfl rfl ?aP (fun _ hk => hk.elim) ?aF ?aO ?aB ?aS ?aL ?_; (case aP => exact elem_M _ _ _ _ _ _); (case aB => exact HB.out); (case aF => exact (fun k hk => ⟨by have := blk_lt R.out.hs; omega, HFR.out k hk⟩)); (case aO => exact HROW.out); (case aS => exact HBASE.out); (case aL => have := HN.out; omega); intro v113 w10 ho hb1 hg hat; obtain ⟨A1, c1v, rfl⟩ := Kd.R_slice ho; have HO2 := Aside0.mk ho; have HG := Aside0.mk hg; have HB1 := Aside0.mk hb1; have hsw := blk_grown R.out.hs hg (fun e => (HROW.out.1 h e.symm).1 rfl); have hcw := (blk_cell hsw 0).trans rfl; have hfw := blk_frozen hsw 0; have HSW := Aside0.mk hsw; clear ho hg hat hb1 hsw))
        go_ret2
        rw [E.out]
        refine ⟨rfl, ⟨A1, c1v, L ++ [(k, mm, now)], ⟨?_, ?_⟩, ?_⟩, HB1.out.setCell hhb _, ?_⟩
        · have elen : (L ++ [(k, mm, now)]).length = L.length + 1 := by simp
          have := blk_set HSW.out 0 (.slice A1 (L.length + 1) c1v)
          rw [this, elen]
          rfl
        · exact Kd.R_set HO2.out HSW.out (by intro q hq; simp [Kd.pair, Kd.string, Kd.int, Kd.scalar] at hq; omega) 0 _
        · have ep : put L k mm now = L ++ [(k, mm, now)] := by unfold put; rw [HNONE.out]; rfl
          rw [ep]
          exact Same.refl _
        · have k1 : Kept w1 w10 (fun k => k = h ∨ ok k) := Kept.of_grown HG.out (Kept.refl w1 _) (fun k hk => Or.inl (Or.inr (HROW.out.1 k hk).2))
          exact k1.setCell (p := ⟨h, 0, none⟩) (Or.inl (Or.inl rfl)) _
    · have hsome := get_some L k j hj hk hlt
      have e := Aside0.mk (G2.out _ _ hsome)
      have SET := Aside0.mk (show Same (put L k mm now) (L.set j (k, mm, now)) from ⟨fun k' => by rw [get_put, get_set L k j hj hk hlt], by rw [put_length, hsome]; simp⟩)
      obtain ⟨b, rfl, hokb2, hbh, hc0, hc1, hc2, hfz⟩ := R.out.elem j hj
      have hjN : j < N := by have := HN.out; omega
      have PUT := Aside0.mk (R.out.put j hj k mm now)
      have HOB := Aside0.mk hokb2
      obtain ⟨m, hm⟩ : ∃ m, (L.getD j dE).2.1 = m := ⟨_, rfl⟩
      obtain ⟨a, ha⟩ : ∃ a, (L.getD j dE).2.2 = a := ⟨_, rfl⟩
      rw [hm] at hc1
      rw [ha] at hc2
      have e' := Aside0.mk (e.out)
      rw [hm, ha] at e'
      have d0 : decide ((0 : Int) ≤ (j : Int)) = true := by simp
      have hf0 : w1.frozen? ⟨b, j * 3, none⟩ = false := hfz 0
      have hf1 := hfz 1
      have hf2 := hfz 2
      obtain ⟨x0, hx0⟩ : ∃ x, (L.getD j dE).1 = x := ⟨_, rfl⟩
      rw [hx0] at hc0
      clear e hj hk hlt hm ha hsome hokb2 hbh hfz hx0
      by_cases hf : wrap64 (now - a) < 600 ∧ m ≤ mm
      · have d1 : decide (wrap64 (now - a) < 600) = true := decide_eq_true hf.1
        have d2 : decide (m ≤ mm) = true := decide_eq_true hf.2
        rw [if_pos hf] at e'
        clear hf
        go_wp2_with (fail)
        go_ret2
        rw [e'.out]
        exact ⟨rfl, ⟨_, _, _, R.out, Same.refl _⟩, HB.out, Kept.refl _ _⟩
      · rw [if_neg hf] at e'
        have FIN := Aside0.mk (show ∀ W', RefC base W' h ok (some ⟨b, 0, none⟩) c (L.set j (k, mm, now)) ∧ w1.grownBy W' (some b) → (∃ A' c' L', RefC base W' h ok A' c' L' ∧ Same (put L k mm now) L') ∧ Below base w0 W' ∧ Kept w1 W' (fun k => k = h ∨ ok k) from fun W' hW => ⟨⟨_, _, _, hW.1, SET.out⟩, pw_below_grown HB.out (some b) HBASE.out hW.2 (fun k hk => by rw [← Option.some.inj hk]; exact HOKB.out b HOB.out), Kept.of_grown hW.2 (Kept.refl _ _) (fun k hk => Or.inl (Or.inr (by rw [← Option.some.inj hk]; exact HOB.out)))⟩)
        by_cases hf1' : wrap64 (now - a) < 600
        · have d1 : decide (wrap64 (now - a) < 600) = true := decide_eq_true hf1'
          have d2 : decide (m ≤ mm) = false := decide_eq_false (fun h => hf ⟨hf1', h⟩)
          clear hf hf1'
          go_wp2_with (fail)
          go_ret2
          rw [e'.out]
          exact ⟨rfl, FIN.out _ PUT.out⟩
        · have d1 : decide (wrap64 (now - a) < 600) = false := decide_eq_false hf1'
          clear hf hf1'
          go_wp2_with (fail)
          go_ret2
          rw [e'.out]
          exact ⟨rfl, FIN.out _ PUT.out⟩
end
end Go.Proofs.YticaejoaoblcmaaDoor.Pmt

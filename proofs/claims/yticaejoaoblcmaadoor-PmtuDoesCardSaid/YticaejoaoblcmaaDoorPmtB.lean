/- The walks of pmtu's New, Get, Tell, Count over the map of path numbers. -/
import Derived.Test.YticaejoaoblcmaaDoorPmtA
namespace Go.Proofs.YticaejoaoblcmaaDoor.Pmt
open Go.RowKit Go.Maps Go.Proofs.YticaejoaoblcmaaDoorW.PrintWords Go.Proofs.YticaejoaoblcmaaDoorW.PrintLast Go.Proofs.YticaejoaoblcmaaDoorW.PrintMore Go.Proofs.YticaejoaoblcmaaDoor.PPmtuInner
set_option linter.unusedVariables false
set_option linter.unusedSimpArgs false
attribute [local go_sem] max2_int min2_int max_two min_two max_three min_three max_four min_four
/-- What a call leaves: all but the blocks of S is as it was. -/
structure Step (S : Nat → Prop) (w w' : World) : Prop where
  b : Below 0 w w'
  k : Kept w w' S
/-- A cache in memory: its field at block g, its map at block b. -/
structure CacheAt (w : World) (g b : Nat) (L : List Ent) : Prop where
  hs : w.heap[g]? = some (.cells #[.map (some b)] 43 (0, 0))
  hm : ∃ D, w.ownsMap Tryd.prog 9 elem b 64 D ∧ Rep D L
  hn : L.length ≤ 64
def bad (k : ByteArray) : Prop := k.size ≠ 4 ∧ k.size ≠ 16
instance (k : ByteArray) : Decidable (bad k) := inferInstanceAs (Decidable (_ ∧ _))
def low (k : ByteArray) : Int := if k.size = 4 then 576 else 1280
def getE (L : List Ent) (now : Int) (k : ByteArray) (link : Int) : Int × Int :=
  if bad k then (0, 1) else match get L k with
    | some (m, a) => if wrap64 (now - a) < 600 then (min link m, 0) else (link, 0)
    | none => (link, 0)
def tellE (L : List Ent) (now : Int) (k : ByteArray) (mtu : Int) : (Int × Int) × List Ent :=
  if bad k then ((0, 1), L) else match get L k with
    | some (m, a) => if wrap64 (now - a) < 600 ∧ m ≤ max mtu (low k) then ((m, 0), L) else ((max mtu (low k), 0), put L k (max mtu (low k)) now)
    | none => if 64 ≤ L.length then ((0, 7), L) else ((max mtu (low k), 0), put L k (max mtu (low k)) now)
theorem least_good {k : ByteArray} (h : ¬ bad k) : pmtu_least.f k = some (low k, 0) := by
  unfold pmtu_least.f low
  unfold bad at h
  by_cases h4 : k.size = 4
  · rw [if_pos (by omega), if_pos h4]
  · rw [if_neg (by omega), if_neg h4, if_pos (by omega)]
theorem least_bad {k : ByteArray} (h : bad k) : pmtu_least.f k = some (0, 1) := by
  unfold pmtu_least.f
  unfold bad at h
  rw [if_neg (by omega), if_neg (by omega)]
theorem zero46 (w : World) : (zeroValue 46).run Tryd.prog w = .ok (kv 0 0) w := by go_simp; rfl
theorem ownsMap_fit {w : World} {b n : Nat} {D : DataW Unit} (h : w.ownsMap Tryd.prog 9 elem b n D) : w.ownsMap Tryd.prog 9 elem b (Maps.size D) D := by
  obtain ⟨es, clock, hb, F, hs, rfl⟩ := h
  exact ⟨es, clock, hb, F, by simp [Maps.size, length_sorted], rfl⟩
section
variable {w : World} {g b : Nat} {L : List Ent}
theorem CacheAt.drewN (h : CacheAt w g b L) (n : Nat) : CacheAt (w.drewN n) g b L := by
  obtain ⟨D, hm, hr⟩ := h.hm
  exact ⟨h.hs, ⟨D, hm, hr⟩, h.hn⟩
theorem CacheAt.look (h : CacheAt w g b L) (k : ByteArray) (hk : k.size ≤ maxLen) :
    ∃ m a, (Instr.lookup 41 (.map (some b)) (.string k) true).run Tryd.prog w = .ok (.tuple #[.agg #[.int .i64 m, .int .i64 a], .bool (get L k).isSome]) w ∧ ∀ x, get L k = some x → x = (m, a) := by
  obtain ⟨D, hm, hr⟩ := h.hm
  obtain ⟨v, ps, hrun, hv⟩ := hm.look_ok kl Tryd.underlying41 (zero46 w) (elem_kv 0 0) (WideMaps.keyOf_string_mk (s := k) Tryd.underlying9 hk)
  obtain ⟨m, a, rfl, hz⟩ := elem_inv hv
  have hh := hr.has k
  unfold key at hh
  rw [hh] at hrun
  refine ⟨m, a, hrun, ?_⟩
  rintro ⟨m', a'⟩ hx
  have := hr.at_ k m' a' hx
  have hz1 : D.atKey (key k) (kd 0 0) = kd m a := congrArg Prod.fst hz
  rw [this] at hz1
  obtain ⟨rfl, rfl⟩ := kd_inj hz1
  rfl
set_option maxHeartbeats 4000000 in
theorem new_walk (w : World) : Calls Tryd.prog 8 #[] w fun e w' => e = .returned (.pointer (some ⟨w.heap.size + 1, 0, none⟩)) ∧ CacheAt w' (w.heap.size + 1) w.heap.size [] ∧ Below w.heap.size w w' := by
  have hmm := @run_makeMap Tryd.prog
  go_enter Tryd.func8, Tryd.ntmps8
  go_wp2
  go_ret
  refine ⟨rfl, ⟨?_, ⟨.map [], ?_, Rep.empty⟩, by simp⟩, ?_⟩
  · have h := blk_new (w.alloc (.map #[] 0)) (.cells #[.map (some w.heap.size)] 43)
    simpa using h
  · exact ((World.ownsMap_made w Tryd.prog 9 elem).mono (Nat.zero_le _)).alloc _
  · exact below_alloc (below_alloc (Below.refl _ _) _) _
set_option maxHeartbeats 4000000 in
theorem get_walk (h : CacheAt w g b L) (now : Int) (k : ByteArray) (hk : k.size ≤ maxLen) (link : Int) :
    Calls Tryd.prog 9 #[.pointer (some ⟨g, 0, none⟩), .int .i64 now, .string k, .int .i64 link] w fun e w' => e = .returned (.tuple #[.int .i64 (getE L now k link).1, .int .i64 (getE L now k link).2]) ∧ Below w.heap.size w w' := by
  by_cases hbad : bad k
  · have LE := Aside0.mk (pmtu_least.calls k 0 1 w (least_bad hbad))
    have e : getE L now k link = (0, 1) := by unfold getE; rw [if_pos hbad]
    rw [e]
    clear e hbad h hk
    go_enter Tryd.func9, Tryd.ntmps9
    go_wp2_with (first | (go_at_call 18; refine LE.out.mono ?_; rintro e w1 ⟨rfl, ⟨n, rfl⟩⟩))
    go_ret2
    exact ⟨rfl, pw_below_drewN (Below.refl _ _) _⟩
  · have LE := Aside0.mk (pmtu_least.calls k (low k) 0 w (least_good hbad))
    have e : getE L now k link = (match get L k with
    | some (m, a) => if wrap64 (now - a) < 600 then (min link m, 0) else (link, 0)
    | none => (link, 0)) := by unfold getE; rw [if_neg hbad]
    rw [e]
    clear e hbad
    have LK := Aside0.mk fun n => (h.drewN n).look k hk
    have hs := h.hs
    have hc : ∀ n, (w.drewN n).cell? ⟨g, 0, none⟩ = some (.map (some b)) := fun n => (blk_cell (h.drewN n).hs 0).trans rfl
    clear hk
    cases hg : get L k with
    | none =>
      rw [hg] at LK
      clear hg
      go_enter Tryd.func9, Tryd.ntmps9
      go_wp2_with (first | (go_at_call 18; refine LE.out.mono ?_; rintro e w1 ⟨rfl, ⟨n, rfl⟩⟩; obtain ⟨m, a, hrun, hx⟩ := LK.out n;  have hc0 := hc n; clear hx) | ((with_reducible refine gate_dst (N := 12) rfl ?_); refine box_event ?hg (N := 12) ?hd (cs := #[.int .i64 0, .int .i64 0]) (t := 46) ?hr ?_; (case hd => rfl); (case hg => rfl); (case hr => first | (go_simp; done) | (go_simp; rfl)); intro q hq w3 hbox hb; have BK := Aside0.mk hbox; have HB := Aside0.mk ((pw_below_drewN (Below.refl w.heap.size w) n).trans hb); have HQ := Aside0.mk (show w.heap.size ≤ q by rw [hq]; exact Nat.le_refl _); have hcz0 : w3.cell? ⟨q, 0, none⟩ = some (.int .i64 0) := (blk_cell BK.out 0).trans rfl; have hcz1 : w3.cell? ⟨q, 1, none⟩ = some (.int .i64 0) := (blk_cell BK.out 1).trans rfl; have hfz0 := blk_frozen BK.out 0; have hfz1 := blk_frozen BK.out 1; clear hbox hb hq))
      go_ret2
      exact ⟨rfl, Below.setCell (Below.setCell HB.out HQ.out _) HQ.out _⟩
    | some x =>
      obtain ⟨m, a⟩ := x
      rw [hg] at LK
      clear hg
      have LK2 := Aside0.mk fun n => (show (Instr.lookup 41 (.map (some b)) (.string k) true).run Tryd.prog (w.drewN n) = .ok (.tuple #[.agg #[.int .i64 m, .int .i64 a], .bool true]) (w.drewN n) from by
        obtain ⟨m', a', hrun, hx⟩ := LK.out n
        have e := hx (m, a) rfl
        obtain ⟨rfl, rfl⟩ : m = m' ∧ a = a' := by simpa using e
        exact hrun)
      clear LK
      have FR := Aside0.mk (fun W => pmtu_kept_fresh.calls m a now _ W rfl)
      obtain ⟨d, hd⟩ : ∃ d, wrap64 (now - a) = d := ⟨_, rfl⟩
      simp only
      rw [hd] at FR ⊢
      clear hd
      by_cases hd : d < 600
      · rw [if_pos hd]
        rw [decide_eq_true hd] at FR
        clear hd
        have hmin : ((if m < link then m else link) : Int) = min link m := by omega
        go_enter Tryd.func9, Tryd.ntmps9
        go_wp2_with (first | (go_at_call 18; refine LE.out.mono ?_; rintro e w1 ⟨rfl, ⟨n, rfl⟩⟩; have hrun := LK2.out n; have hc0 := hc n) | ((with_reducible refine gate_dst (N := 12) rfl ?_); refine box_event ?hg (N := 12) ?hd (cs := #[.int .i64 0, .int .i64 0]) (t := 46) ?hr ?_; (case hd => rfl); (case hg => rfl); (case hr => first | (go_simp; done) | (go_simp; rfl)); intro q hq w3 hbox hb; have BK := Aside0.mk hbox; have HB := Aside0.mk ((pw_below_drewN (Below.refl w.heap.size w) n).trans hb); have HQ := Aside0.mk (show w.heap.size ≤ q by rw [hq]; exact Nat.le_refl _); have hcz0 : w3.cell? ⟨q, 0, none⟩ = some (.int .i64 0) := (blk_cell BK.out 0).trans rfl; have hcz1 : w3.cell? ⟨q, 1, none⟩ = some (.int .i64 0) := (blk_cell BK.out 1).trans rfl; have hfz0 := blk_frozen BK.out 0; have hfz1 := blk_frozen BK.out 1; clear hbox hb hq) | (go_at_call 19; refine (FR.out _).mono ?_; rintro e w5 ⟨rfl, hb5⟩; have BK4 : ((w3.setCell ⟨q, 0, none⟩ (.int .i64 m)).setCell ⟨q, 1, none⟩ (.int .i64 a)).heap[q]? = some (.cells #[.int .i64 m, .int .i64 a] 46 (0, 0)) := (blk_set ((blk_set BK.out 0 _).trans rfl) 1 _).trans rfl; have HB5 := Aside0.mk (Below.trans (Below.setCell (Below.setCell HB.out HQ.out (.int .i64 m)) HQ.out (.int .i64 a)) (hb5.mono (by exact below_size (Below.setCell (Below.setCell HB.out HQ.out _) HQ.out _)))); have hcz0 : w5.cell? ⟨q, 0, none⟩ = some (.int .i64 m) := (blk_cell (blk_below BK4 hb5) 0).trans rfl; clear hb5 BK4))
        go_ret2
        exact ⟨by simp [hmin], HB5.out⟩
      · rw [if_neg hd]
        rw [decide_eq_false hd] at FR
        clear hd
        go_enter Tryd.func9, Tryd.ntmps9
        go_wp2_with (first | (go_at_call 18; refine LE.out.mono ?_; rintro e w1 ⟨rfl, ⟨n, rfl⟩⟩; have hrun := LK2.out n; have hc0 := hc n) | ((with_reducible refine gate_dst (N := 12) rfl ?_); refine box_event ?hg (N := 12) ?hd (cs := #[.int .i64 0, .int .i64 0]) (t := 46) ?hr ?_; (case hd => rfl); (case hg => rfl); (case hr => first | (go_simp; done) | (go_simp; rfl)); intro q hq w3 hbox hb; have BK := Aside0.mk hbox; have HB := Aside0.mk ((pw_below_drewN (Below.refl w.heap.size w) n).trans hb); have HQ := Aside0.mk (show w.heap.size ≤ q by rw [hq]; exact Nat.le_refl _); have hcz0 : w3.cell? ⟨q, 0, none⟩ = some (.int .i64 0) := (blk_cell BK.out 0).trans rfl; have hcz1 : w3.cell? ⟨q, 1, none⟩ = some (.int .i64 0) := (blk_cell BK.out 1).trans rfl; have hfz0 := blk_frozen BK.out 0; have hfz1 := blk_frozen BK.out 1; clear hbox hb hq) | (go_at_call 19; refine (FR.out _).mono ?_; rintro e w5 ⟨rfl, hb5⟩; have BK4 : ((w3.setCell ⟨q, 0, none⟩ (.int .i64 m)).setCell ⟨q, 1, none⟩ (.int .i64 a)).heap[q]? = some (.cells #[.int .i64 m, .int .i64 a] 46 (0, 0)) := (blk_set ((blk_set BK.out 0 _).trans rfl) 1 _).trans rfl; have HB5 := Aside0.mk (Below.trans (Below.setCell (Below.setCell HB.out HQ.out (.int .i64 m)) HQ.out (.int .i64 a)) (hb5.mono (by exact below_size (Below.setCell (Below.setCell HB.out HQ.out _) HQ.out _)))); have hcz0 : w5.cell? ⟨q, 0, none⟩ = some (.int .i64 m) := (blk_cell (blk_below BK4 hb5) 0).trans rfl; clear hb5 BK4))
        go_ret2
        exact ⟨rfl, HB5.out⟩
end
end Go.Proofs.YticaejoaoblcmaaDoor.Pmt

/- The walk of pmtu's Tell, and of Count. (Printed in part by tell.py.) -/
import Derived.Test.YticaejoaoblcmaaDoorPmtB
namespace Go.Proofs.YticaejoaoblcmaaDoor.Pmt
open Go.RowKit Go.Maps Go.Proofs.YticaejoaoblcmaaDoorW.PrintWords Go.Proofs.YticaejoaoblcmaaDoorW.PrintLast Go.Proofs.YticaejoaoblcmaaDoorW.PrintMore Go.Proofs.YticaejoaoblcmaaDoor.PPmtuInner
set_option linter.unusedVariables false
set_option linter.unusedSimpArgs false
attribute [local go_sem] max2_int min2_int max_two min_two max_three min_three max_four min_four
section
variable {w : World} {g b : Nat} {L : List Ent}
theorem CacheAt.ne (h : CacheAt w g b L) : g ≠ b := by
  rintro rfl
  obtain ⟨D, ⟨es, clock, hb, _⟩, _⟩ := h.hm
  rw [h.hs] at hb
  cases hb
theorem CacheAt.below (h : CacheAt w g b L) {w' : World} (hb : Below w.heap.size w w') : CacheAt w' g b L := by
  obtain ⟨D, hm, hr⟩ := h.hm
  exact ⟨blk_below h.hs hb, ⟨D, hm.kept (grown_of_below hb none) (by simp), hr⟩, h.hn⟩
theorem CacheAt.kept (h : CacheAt w g b L) {w' : World} {S : Nat → Prop} (hk : Kept w w' S) (h1 : ¬ S g) (h2 : ¬ S b) : CacheAt w' g b L := by
  obtain ⟨D, ⟨es, clock, hb, F, hs, e⟩, hr⟩ := h.hm
  exact ⟨blk_kept h.hs hk h1, ⟨D, ⟨es, clock, blk_kept hb hk h2, F, hs, e⟩, hr⟩, h.hn⟩
theorem CacheAt.lg (h : CacheAt w g b L) : g < w.heap.size := blk_lt h.hs
theorem CacheAt.lb (h : CacheAt w g b L) : b < w.heap.size := by
  obtain ⟨D, ⟨es, clock, hb, _⟩, _⟩ := h.hm
  exact blk_lt hb
theorem step_below {S : Nat → Prop} {w w' : World} (h : Below w.heap.size w w') : Step S w w' := ⟨h.mono (Nat.zero_le _), Kept.of_below h S⟩
set_option maxHeartbeats 4000000 in
theorem tell_walk (h : CacheAt w g b L) (now : Int) (k : ByteArray) (hk : k.size ≤ maxLen) (mtu : Int) :
    Calls Tryd.prog 10 #[.pointer (some ⟨g, 0, none⟩), .int .i64 now, .string k, .int .i64 mtu] w fun e w' => e = .returned (.tuple #[.int .i64 (tellE L now k mtu).1.1, .int .i64 (tellE L now k mtu).1.2]) ∧
      CacheAt w' g b (tellE L now k mtu).2 ∧ Step (fun i => i = b) w w' := by
  by_cases hbad : bad k
  · have LE := Aside0.mk (pmtu_least.calls k 0 1 w (least_bad hbad))
    have e : tellE L now k mtu = ((0, 1), L) := by unfold tellE; rw [if_pos hbad]
    rw [e]
    have H := Aside0.mk h
    clear e hbad h hk
    go_enter Tryd.func10, Tryd.ntmps10
    go_wp2_with (first | (go_at_call 18; refine LE.out.mono ?_; rintro e w1 ⟨rfl, ⟨n, rfl⟩⟩))
    go_ret2
    exact ⟨rfl, H.out.drewN _, step_below (pw_below_drewN (Below.refl _ _) _)⟩
  · have LE := Aside0.mk (pmtu_least.calls k (low k) 0 w (least_good hbad))
    have e : tellE L now k mtu = (match get L k with
    | some (m, a) => if wrap64 (now - a) < 600 ∧ m ≤ max mtu (low k) then ((m, 0), L) else ((max mtu (low k), 0), put L k (max mtu (low k)) now)
    | none => if 64 ≤ L.length then ((0, 7), L) else ((max mtu (low k), 0), put L k (max mtu (low k)) now)) := by unfold tellE; rw [if_neg hbad]; rfl
    rw [e]
    clear e hbad
    have hmx : ((if mtu < low k then low k else mtu) : Int) = max mtu (low k) := by omega
    obtain ⟨mm, hmm⟩ : ∃ mm, max mtu (low k) = mm := ⟨_, rfl⟩
    obtain ⟨lo, hlo⟩ : ∃ lo, low k = lo := ⟨_, rfl⟩
    rw [hmm] at hmx ⊢
    rw [hlo] at hmx LE
    clear hmm hlo
    have LK := Aside0.mk fun n => (h.drewN n).look k hk
    have hc : ∀ n, (w.drewN n).cell? ⟨g, 0, none⟩ = some (.map (some b)) := fun n => (blk_cell (h.drewN n).hs 0).trans rfl
    have HC := Aside0.mk h
    have HN := Aside0.mk h.hn
    have HG := Aside0.mk fun (W : World) (hb : Below w.heap.size w W) => (blk_cell (blk_below h.hs hb) 0).trans (show _ = some (Value.map (some b)) from rfl)
    have HKEY := Aside0.mk (WideMaps.keyOf_string_mk (P := Tryd.prog) (s := k) Tryd.underlying9 hk)
    obtain ⟨D, hm, hr⟩ := h.hm
    have HM := Aside0.mk fun (W : World) (hb : Below w.heap.size w W) => hm.kept (grown_of_below hb none) (by simp)
    have HLN := Aside0.mk fun (W : World) (hb : Below w.heap.size w W) (ty : TypeId) => (by
      have := (hm.kept (grown_of_below hb none) (by simp)).len Tryd.underlying41 ty
      rw [hr.size] at this
      exact this : (Builtin.len_ #[41] ty #[.map (some b)]).run Tryd.prog W = .ok (.int .i64 (L.length : Int)) W)
    have HFIN := Aside0.mk fun (W w9 : World) (hb : Below w.heap.size w W) (ho : w9.ownsMap Tryd.prog 9 elem b (64 + 1) (D.put (key k) (kd mm now))) (hg : W.grownBy w9 (some b)) (hl : (put L k mm now).length ≤ 64) => (by
      have hr' := hr.put (hm.tidy kl) k mm now
      refine ⟨⟨blk_grown (blk_below h.hs hb) hg (by intro e; exact h.ne (Option.some.inj e)), ⟨_, (ownsMap_fit ho).mono (by rw [hr'.size]; exact hl), hr'⟩, hl⟩, ?_, ?_⟩
      · exact pw_below_grown (hb.mono (Nat.zero_le _)) (some b) (Nat.zero_le _) hg (fun _ _ => Nat.zero_le _)
      · exact Kept.of_grown hg (Kept.of_below hb _) (by rintro k' e; exact Or.inl (Option.some.inj e).symm) : CacheAt w9 g b (put L k mm now) ∧ Step (fun i => i = b) w w9)
    clear hk h hm hr
    cases hg : get L k with
    | none =>
      rw [hg] at LK
      have HP := Aside0.mk (show ¬ 64 ≤ L.length → (put L k mm now).length ≤ 64 by rw [put_length, hg, if_neg (by simp)]; omega)
      clear hg
      simp only
      obtain ⟨N, hN⟩ : ∃ N, L.length = N := ⟨_, rfl⟩
      rw [hN] at HLN HN HP ⊢
      by_cases hf : 64 ≤ N
      · rw [if_pos hf]
        have c1 : decide ((64 : Int) ≤ (N : Int)) = true := by simp; omega
        clear hN hf
        go_enter Tryd.func10, Tryd.ntmps10
        go_wp2_with (first | (go_at_call 18; refine LE.out.mono ?_; rintro e w1 ⟨rfl, ⟨n, rfl⟩⟩; obtain ⟨m, a, hrun, hx⟩ := LK.out n; have hc0 := hc n; clear hx) | ((with_reducible refine gate_dst (N := 12) rfl ?_); refine box_event ?hg (N := 12) ?hd (cs := #[.int .i64 0, .int .i64 0]) (t := 46) ?hr ?_; (case hd => rfl); (case hg => rfl); (case hr => first | (go_simp; done) | (go_simp; rfl)); intro q hq w3 hbox hb; have BK := Aside0.mk hbox; have HB := Aside0.mk ((pw_below_drewN (Below.refl w.heap.size w) n).trans hb); have HQ := Aside0.mk (show w.heap.size ≤ q by rw [hq]; exact Nat.le_refl _); have hcz0 : w3.cell? ⟨q, 0, none⟩ = some (.int .i64 0) := (blk_cell BK.out 0).trans rfl; have hcz1 : w3.cell? ⟨q, 1, none⟩ = some (.int .i64 0) := (blk_cell BK.out 1).trans rfl; have hfz0 := blk_frozen BK.out 0; have hfz1 := blk_frozen BK.out 1; have HBZ := Aside0.mk (show Below w.heap.size w ((w3.setCell ⟨q, 0, none⟩ (.int .i64 m)).setCell ⟨q, 1, none⟩ (.int .i64 a)) from Below.setCell (Below.setCell HB.out HQ.out _) HQ.out _); have hcg := HG.out _ HBZ.out; have hln := HLN.out _ HBZ.out; clear hbox hb hq))
        go_ret2
        exact ⟨rfl, HC.out.below HBZ.out, step_below HBZ.out⟩
      · rw [if_neg hf]
        have c1 : decide ((64 : Int) ≤ (N : Int)) = false := by simp; omega
        have HP := Aside0.mk (HP.out hf)
        clear hN hf
        go_enter Tryd.func10, Tryd.ntmps10
        go_wp2_with (first | (go_at_call 18; refine LE.out.mono ?_; rintro e w1 ⟨rfl, ⟨n, rfl⟩⟩; obtain ⟨m, a, hrun, hx⟩ := LK.out n; have hc0 := hc n; clear hx) | ((with_reducible refine gate_dst (N := 12) rfl ?_); refine box_event ?hg (N := 12) ?hd (cs := #[.int .i64 0, .int .i64 0]) (t := 46) ?hr ?_; (case hd => rfl); (case hg => rfl); (case hr => first | (go_simp; done) | (go_simp; rfl)); intro q hq w3 hbox hb; have BK := Aside0.mk hbox; have HB := Aside0.mk ((pw_below_drewN (Below.refl w.heap.size w) n).trans hb); have HQ := Aside0.mk (show w.heap.size ≤ q by rw [hq]; exact Nat.le_refl _); have hcz0 : w3.cell? ⟨q, 0, none⟩ = some (.int .i64 0) := (blk_cell BK.out 0).trans rfl; have hcz1 : w3.cell? ⟨q, 1, none⟩ = some (.int .i64 0) := (blk_cell BK.out 1).trans rfl; have hfz0 := blk_frozen BK.out 0; have hfz1 := blk_frozen BK.out 1; have HBZ := Aside0.mk (show Below w.heap.size w ((w3.setCell ⟨q, 0, none⟩ (.int .i64 m)).setCell ⟨q, 1, none⟩ (.int .i64 a)) from Below.setCell (Below.setCell HB.out HQ.out _) HQ.out _); have hcg := HG.out _ HBZ.out; have hln := HLN.out _ HBZ.out; clear hbox hb hq) | (at_mapUpdate; refine wpList_mapUpdate_own _ rfl _ _ _ 41 rfl 9 46 kl Tryd.underlying41 elem b 64 D rfl (HM.out _ HBZ.out) (by unfold maxLen; omega) _ _ (key k) rfl rfl HKEY.out (kd mm now) [] rfl ?_; intro w9 hown9 hg9; have HO9 := Aside0.mk hown9; have HG9 := Aside0.mk hg9; clear hown9 hg9))
        go_ret2
        exact ⟨rfl, HFIN.out _ _ HBZ.out HO9.out HG9.out HP.out⟩
    | some x =>
      obtain ⟨m, a⟩ := x
      rw [hg] at LK
      have HP := Aside0.mk (show (put L k mm now).length ≤ 64 by rw [put_length, hg]; simpa using HN.out)
      clear hg
      have LK2 := Aside0.mk fun n => (show (Instr.lookup 41 (.map (some b)) (.string k) true).run Tryd.prog (w.drewN n) = .ok (.tuple #[.agg #[.int .i64 m, .int .i64 a], .bool true]) (w.drewN n) from by
        obtain ⟨m', a', hrun, hx⟩ := LK.out n
        have e := hx (m, a) rfl
        obtain ⟨rfl, rfl⟩ : m = m' ∧ a = a' := by simpa using e
        exact hrun)
      clear LK
      have FR := Aside0.mk (fun W => pmtu_kept_fresh.calls m a now _ W rfl)
      obtain ⟨d, hd⟩ : ∃ d, wrap64 (now - a) = d := ⟨_, rfl⟩
      simp only
      rw [hd] at FR ⊢
      clear hd
      by_cases hd : d < 600
      · rw [decide_eq_true hd] at FR
        by_cases hle : m ≤ mm
        · rw [if_pos ⟨hd, hle⟩]
          have c2 : decide (m ≤ mm) = true := decide_eq_true hle
          clear hd hle
          go_enter Tryd.func10, Tryd.ntmps10
          go_wp2_with (first | (go_at_call 18; refine LE.out.mono ?_; rintro e w1 ⟨rfl, ⟨n, rfl⟩⟩; have hrun := LK2.out n; have hc0 := hc n) | ((with_reducible refine gate_dst (N := 12) rfl ?_); refine box_event ?hg (N := 12) ?hd (cs := #[.int .i64 0, .int .i64 0]) (t := 46) ?hr ?_; (case hd => rfl); (case hg => rfl); (case hr => first | (go_simp; done) | (go_simp; rfl)); intro q hq w3 hbox hb; have BK := Aside0.mk hbox; have HB := Aside0.mk ((pw_below_drewN (Below.refl w.heap.size w) n).trans hb); have HQ := Aside0.mk (show w.heap.size ≤ q by rw [hq]; exact Nat.le_refl _); have hcz0 : w3.cell? ⟨q, 0, none⟩ = some (.int .i64 0) := (blk_cell BK.out 0).trans rfl; have hcz1 : w3.cell? ⟨q, 1, none⟩ = some (.int .i64 0) := (blk_cell BK.out 1).trans rfl; have hfz0 := blk_frozen BK.out 0; have hfz1 := blk_frozen BK.out 1; have HBZ := Aside0.mk (show Below w.heap.size w ((w3.setCell ⟨q, 0, none⟩ (.int .i64 m)).setCell ⟨q, 1, none⟩ (.int .i64 a)) from Below.setCell (Below.setCell HB.out HQ.out _) HQ.out _); have hcg := HG.out _ HBZ.out; have hln := HLN.out _ HBZ.out; clear hbox hb hq) | (go_at_call 19; refine (FR.out _).mono ?_; rintro e w5 ⟨rfl, hb5⟩; have BK4 : ((w3.setCell ⟨q, 0, none⟩ (.int .i64 m)).setCell ⟨q, 1, none⟩ (.int .i64 a)).heap[q]? = some (.cells #[.int .i64 m, .int .i64 a] 46 (0, 0)) := (blk_set ((blk_set BK.out 0 _).trans rfl) 1 _).trans rfl; have HB5 := Aside0.mk (HBZ.out.trans (hb5.mono (below_size HBZ.out))); have hcz0 : w5.cell? ⟨q, 0, none⟩ = some (.int .i64 m) := (blk_cell (blk_below BK4 hb5) 0).trans rfl; have hcg := HG.out _ HB5.out; clear hb5 BK4))
          go_ret2
          exact ⟨rfl, HC.out.below HB5.out, step_below HB5.out⟩
        · rw [if_neg (fun h => hle h.2)]
          have c2 : decide (m ≤ mm) = false := decide_eq_false hle
          clear hd hle
          go_enter Tryd.func10, Tryd.ntmps10
          go_wp2_with (first | (go_at_call 18; refine LE.out.mono ?_; rintro e w1 ⟨rfl, ⟨n, rfl⟩⟩; have hrun := LK2.out n; have hc0 := hc n) | ((with_reducible refine gate_dst (N := 12) rfl ?_); refine box_event ?hg (N := 12) ?hd (cs := #[.int .i64 0, .int .i64 0]) (t := 46) ?hr ?_; (case hd => rfl); (case hg => rfl); (case hr => first | (go_simp; done) | (go_simp; rfl)); intro q hq w3 hbox hb; have BK := Aside0.mk hbox; have HB := Aside0.mk ((pw_below_drewN (Below.refl w.heap.size w) n).trans hb); have HQ := Aside0.mk (show w.heap.size ≤ q by rw [hq]; exact Nat.le_refl _); have hcz0 : w3.cell? ⟨q, 0, none⟩ = some (.int .i64 0) := (blk_cell BK.out 0).trans rfl; have hcz1 : w3.cell? ⟨q, 1, none⟩ = some (.int .i64 0) := (blk_cell BK.out 1).trans rfl; have hfz0 := blk_frozen BK.out 0; have hfz1 := blk_frozen BK.out 1; have HBZ := Aside0.mk (show Below w.heap.size w ((w3.setCell ⟨q, 0, none⟩ (.int .i64 m)).setCell ⟨q, 1, none⟩ (.int .i64 a)) from Below.setCell (Below.setCell HB.out HQ.out _) HQ.out _); have hcg := HG.out _ HBZ.out; have hln := HLN.out _ HBZ.out; clear hbox hb hq) | (go_at_call 19; refine (FR.out _).mono ?_; rintro e w5 ⟨rfl, hb5⟩; have BK4 : ((w3.setCell ⟨q, 0, none⟩ (.int .i64 m)).setCell ⟨q, 1, none⟩ (.int .i64 a)).heap[q]? = some (.cells #[.int .i64 m, .int .i64 a] 46 (0, 0)) := (blk_set ((blk_set BK.out 0 _).trans rfl) 1 _).trans rfl; have HB5 := Aside0.mk (HBZ.out.trans (hb5.mono (below_size HBZ.out))); have hcz0 : w5.cell? ⟨q, 0, none⟩ = some (.int .i64 m) := (blk_cell (blk_below BK4 hb5) 0).trans rfl; have hcg := HG.out _ HB5.out; clear hb5 BK4) | (at_mapUpdate; refine wpList_mapUpdate_own _ rfl _ _ _ 41 rfl 9 46 kl Tryd.underlying41 elem b 64 D rfl (HM.out _ HB5.out) (by unfold maxLen; omega) _ _ (key k) rfl rfl HKEY.out (kd mm now) [] rfl ?_; intro w9 hown9 hg9; have HO9 := Aside0.mk hown9; have HG9 := Aside0.mk hg9; clear hown9 hg9))
          go_ret2
          exact ⟨rfl, HFIN.out _ _ HB5.out HO9.out HG9.out HP.out⟩
      · rw [decide_eq_false hd] at FR
        rw [if_neg (fun h => hd h.1)]
        clear hd
        go_enter Tryd.func10, Tryd.ntmps10
        go_wp2_with (first | (go_at_call 18; refine LE.out.mono ?_; rintro e w1 ⟨rfl, ⟨n, rfl⟩⟩; have hrun := LK2.out n; have hc0 := hc n) | ((with_reducible refine gate_dst (N := 12) rfl ?_); refine box_event ?hg (N := 12) ?hd (cs := #[.int .i64 0, .int .i64 0]) (t := 46) ?hr ?_; (case hd => rfl); (case hg => rfl); (case hr => first | (go_simp; done) | (go_simp; rfl)); intro q hq w3 hbox hb; have BK := Aside0.mk hbox; have HB := Aside0.mk ((pw_below_drewN (Below.refl w.heap.size w) n).trans hb); have HQ := Aside0.mk (show w.heap.size ≤ q by rw [hq]; exact Nat.le_refl _); have hcz0 : w3.cell? ⟨q, 0, none⟩ = some (.int .i64 0) := (blk_cell BK.out 0).trans rfl; have hcz1 : w3.cell? ⟨q, 1, none⟩ = some (.int .i64 0) := (blk_cell BK.out 1).trans rfl; have hfz0 := blk_frozen BK.out 0; have hfz1 := blk_frozen BK.out 1; have HBZ := Aside0.mk (show Below w.heap.size w ((w3.setCell ⟨q, 0, none⟩ (.int .i64 m)).setCell ⟨q, 1, none⟩ (.int .i64 a)) from Below.setCell (Below.setCell HB.out HQ.out _) HQ.out _); have hcg := HG.out _ HBZ.out; have hln := HLN.out _ HBZ.out; clear hbox hb hq) | (go_at_call 19; refine (FR.out _).mono ?_; rintro e w5 ⟨rfl, hb5⟩; have BK4 : ((w3.setCell ⟨q, 0, none⟩ (.int .i64 m)).setCell ⟨q, 1, none⟩ (.int .i64 a)).heap[q]? = some (.cells #[.int .i64 m, .int .i64 a] 46 (0, 0)) := (blk_set ((blk_set BK.out 0 _).trans rfl) 1 _).trans rfl; have HB5 := Aside0.mk (HBZ.out.trans (hb5.mono (below_size HBZ.out))); have hcz0 : w5.cell? ⟨q, 0, none⟩ = some (.int .i64 m) := (blk_cell (blk_below BK4 hb5) 0).trans rfl; have hcg := HG.out _ HB5.out; clear hb5 BK4) | (at_mapUpdate; refine wpList_mapUpdate_own _ rfl _ _ _ 41 rfl 9 46 kl Tryd.underlying41 elem b 64 D rfl (HM.out _ HB5.out) (by unfold maxLen; omega) _ _ (key k) rfl rfl HKEY.out (kd mm now) [] rfl ?_; intro w9 hown9 hg9; have HO9 := Aside0.mk hown9; have HG9 := Aside0.mk hg9; clear hown9 hg9))
        go_ret2
        exact ⟨rfl, HFIN.out _ _ HB5.out HO9.out HG9.out HP.out⟩
set_option maxHeartbeats 4000000 in
theorem count_walk (h : CacheAt w g b L) :
    Calls Tryd.prog 17 #[.pointer (some ⟨g, 0, none⟩)] w fun e w' => e = .returned (.int .i64 (L.length : Int)) ∧ w' = w := by
  have hc : w.cell? ⟨g, 0, none⟩ = some (.map (some b)) := (blk_cell h.hs 0).trans rfl
  obtain ⟨D, hm, hr⟩ := h.hm
  have hln : ∀ ty, (Builtin.len_ #[41] ty #[.map (some b)]).run Tryd.prog w = .ok (.int .i64 (L.length : Int)) w := fun ty => by
    have := hm.len Tryd.underlying41 ty
    rw [hr.size] at this
    exact this
  clear hm hr h
  go_enter Tryd.func17, Tryd.ntmps17
  go_wp2
  go_ret
  exact ⟨rfl, rfl⟩
end
end Go.Proofs.YticaejoaoblcmaaDoor.Pmt

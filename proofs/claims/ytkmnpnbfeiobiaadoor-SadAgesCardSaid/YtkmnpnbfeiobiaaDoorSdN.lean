/- slices.DeleteFunc with Remove's closure; Remove of the program. -/
import Derived.Test.YtkmnpnbfeiobiaaDoorSdM
import Derived.Lib.SliceRun
namespace Go.Proofs.YtkmnpnbfeiobiaaDoor.Sd
open Go.RowKit Go.Proofs.YtkmnpnbfeiobiaaDoorW.PrintWords Go.Proofs.YtkmnpnbfeiobiaaDoorW.PrintLast Go.Proofs.YtkmnpnbfeiobiaaDoorW.PrintMore Go.Proofs.YtkmnpnbfeiobiaaDoor.QSa
open Go.Proofs.YtkmnpnbfeiobiaaDoor
set_option linter.unusedVariables false
set_option linter.unusedSimpArgs false
/-- A row whose entries from i to m have moved by one. -/
def DelAt (w W : World) (g n i m c : Nat) (p : Nat → Nat) : Prop := w.grownBy W (some g) ∧ ∃ cur : Array Value, W.heap[g]? = some (.cells cur 61 (0, 0)) ∧ cur.size = c ∧ ∀ k, k < n → cur[k]? = some (.pointer (some ⟨if i ≤ k ∧ k < m then p (k + 1) else p k, 0, none⟩))
theorem DelAt.drewN {w W : World} {g n i m c : Nat} {p : Nat → Nat} (h : DelAt w W g n i m c p) (d : Nat) : DelAt w (W.drewN d) g n i m c p := by
  obtain ⟨⟨h1, h2, h3, h4, h5⟩, cur, h6⟩ := h
  exact ⟨⟨h1, h2, h3, h4, h5⟩, cur, h6⟩
theorem grown_set {w W : World} {g : Nat} (h : w.grownBy W (some g)) (i : Nat) (u : Value) : w.grownBy (W.setCell ⟨g, i, none⟩ u) (some g) :=
  ⟨h.os, h.tape, h.output, by simpa [World.setCell] using h.size, fun k hk hne => (Below.heap_setCell W _ _ k (fun e => hne (by rw [e]))).trans (h.block k hk hne)⟩
theorem DelAt.step {w W : World} {g n i m c : Nat} {p : Nat → Nat} (h : DelAt w W g n i m c p) (hi : i ≤ m) (hm : m + 1 < n) : DelAt w (W.setCell ⟨g, m, none⟩ (.pointer (some ⟨p (m + 1), 0, none⟩))) g n i (m + 1) c p := by
  obtain ⟨h1, cur, h2, h3, h4⟩ := h
  refine ⟨grown_set h1 _ _, _, blk_set h2 m _, by simpa using h3, fun k hk => ?_⟩
  have hms : m < cur.size := by
    have := h4 m (by omega)
    exact (Array.getElem?_eq_some_iff.1 this).1
  by_cases e : m = k
  · subst e
    rw [Array.getElem?_setIfInBounds_self_of_lt hms, if_pos (by omega)]
  · rw [Array.getElem?_setIfInBounds_ne e, h4 k hk]
    by_cases hc : i ≤ k ∧ k < m
    · rw [if_pos hc, if_pos (by omega)]
    · rw [if_neg hc, if_neg (by omega)]
theorem DelAt.cell {w W : World} {g n i m c : Nat} {p : Nat → Nat} (h : DelAt w W g n i m c p) (k : Nat) (hk : k < n) : W.cell? ⟨g, k, none⟩ = some (.pointer (some ⟨if i ≤ k ∧ k < m then p (k + 1) else p k, 0, none⟩)) ∧ W.frozen? ⟨g, k, none⟩ = false := by
  obtain ⟨h1, cur, h2, h3, h4⟩ := h
  exact ⟨(blk_cell h2 k).trans (h4 k hk), blk_frozen h2 k⟩
theorem clear_one {W : World} {g m d : Nat} {u : Value} (hc : W.cell? ⟨g, m, none⟩ = some u) (hf : W.frozen? ⟨g, m, none⟩ = false) (ty : TypeId) : (Builtin.clear_ #[58] ty #[.slice (some ⟨g, m, none⟩) 1 d]).run Tryd.prog W = .ok (.tuple #[]) (W.setCell ⟨g, m, none⟩ (.pointer none)) := by
  have hz : ∀ w, (zeroValue 61).run Tryd.prog w = .ok (.pointer none) w := fun w => by go_simp
  have h := Lib.run_clear_slice (P := Tryd.prog) W 58 61 ty (.pointer none) Tryd.underlying58 hz rfl rfl g m 1 d (by omega)
    (fun j hj => by obtain rfl : j = 0 := by omega
                    simp [hc]) (fun j hj => by obtain rfl : j = 0 := by omega
                                               simpa using hf)
  rw [h]
  rfl
def DelQ (w : World) (g n i c : Nat) (p : Nat → Nat) (e : Ending) (w' : World) : Prop := e = .returned (.slice (some ⟨g, 0, none⟩) (n - 1) c) ∧ w.grownBy w' (some g) ∧ ∃ cur : Array Value, w'.heap[g]? = some (.cells cur 61 (0, 0)) ∧ cur.size = c ∧ ∀ k, k < n - 1 → cur[k]? = some (.pointer (some ⟨if i ≤ k then p (k + 1) else p k, 0, none⟩))
set_option maxHeartbeats 3200000 in
set_option maxRecDepth 100000 in
theorem delete30 {w : World} {g n c i b4 : Nat} {p : Nat → Nat} (hn : n ≤ 1000) (hi : i < n) (hnc : n ≤ c) (hd0 : DelAt w w g n i i c p) (hne : ∀ j, j < n → (p j == p i) = decide (j = i)) (hp : ∀ W, Below w.heap.size w W → PtrAt W (some ⟨g, 0, none⟩) n p)
    (hh : ∀ j W, j < n → w.grownBy W (some g) → Calls Tryd.prog 30 #[.pointer (some ⟨p j, 0, none⟩), .pointer (some ⟨b4, 0, none⟩)] W fun e W' => e = .returned (.bool (p j == p i)) ∧ ∃ m, W' = W.drewN m) :
    Calls Tryd.prog 29 #[.slice (some ⟨g, 0, none⟩) n c, .func (.func 30) #[] #[.pointer (some ⟨b4, 0, none⟩)]] w (DelQ w g n i c p) := by
  have IX := Aside0.mk (index30 (w := w) (A := some ⟨g, 0, none⟩) (n := n) (c := c) (p := p) (hit := fun j => p j == p i) (b4 := b4) hn hp (fun j W hj hb => hh j W hj ⟨hb.os, hb.tape, hb.output, hb.size, fun k hk _ => hb.block k hk⟩))
  have HIDX := Aside0.mk (show ∀ r, IdxOf n (fun j => p j == p i) r → r = (i : Int) from fun r hr => by
    rcases hr with ⟨_, h⟩ | ⟨k, hk, rfl, h1, _⟩
    · have := h i hi
      simp at this
    · have := hne k hk
      dsimp only at h1
      rw [h1] at this
      have : k = i := by simpa using this.symm
      rw [this])
  have HD0 := Aside0.mk fun (W : World) (hb : Below w.heap.size w W) => (show DelAt w W g n i i c p from by
    obtain ⟨h1, cur, h2, h3⟩ := hd0
    exact ⟨⟨hb.os, hb.tape, hb.output, hb.size, fun k hk _ => hb.block k hk⟩, cur, blk_below h2 hb, h3⟩)
  have HC := Aside0.mk fun (j : Nat) (W : World) (hj : j < n) (hji : j ≠ i) (hg : w.grownBy W (some g)) => (show Calls Tryd.prog 30 #[.pointer (some ⟨p j, 0, none⟩), .pointer (some ⟨b4, 0, none⟩)] W fun e W' => e = .returned (.bool false) ∧ ∃ m, W' = W.drewN m from by
    have := hh j W hj hg
    rw [hne j hj, decide_eq_false hji] at this
    exact this)
  have hi1 : IntKind.i64.wrap ((i : Int) + 1) = (i : Int) + 1 := IntWalk.i64_in _ (by omega)
  have hne1 : ((i : Int) == -1) = false := by rw [beq_eq_false_iff_ne]; omega
  clear hd0 hne hp hh
  go_enter Tryd.func29, Tryd.ntmps29
  go_wp2_with (fail)
  refine IX.out.mono ?_
  rintro e w1 ⟨⟨r, rfl, hr⟩, hb⟩
  obtain rfl := HIDX.out r hr
  have D1 := Aside0.mk (HD0.out w1 hb)
  clear hr hb
  go_wp2_with (fail)
  go_loopw [5, 6] (fun iv jv wr => ∃ m : Nat, i ≤ m ∧ m + 1 ≤ n ∧ iv = .int .i64 (m : Int) ∧ jv = .int .i64 ((m : Int) + 1) ∧ Aside0 (DelAt w wr g n i m c p)) (fun iv _ _ => n - (intOf iv).toNat)
  case atStart => exact ⟨i, by omega, by omega, rfl, rfl, D1⟩
  case round =>
    clear D1 hi1 hne1
    obtain ⟨m, him, hmn, rfl, rfl, D⟩ := hrel
    have hm1 : IntKind.i64.wrap ((m : Int) + 1) = (m : Int) + 1 := IntWalk.i64_in _ (by omega)
    by_cases hlt : m + 1 < n
    · have hltI : (m : Int) + 1 < (n : Int) := by omega
      have hltN : decide ((m : Int) + 1 < (n : Int)) = true := decide_eq_true hltI
      have hm0 : (0 : Int) ≤ (m : Int) + 1 := by omega
      have hmT : ((m : Int) + 1).toNat = m + 1 := by omega
      have hmI : (m : Int) < (n : Int) := by omega
      have hm2 : IntKind.i64.wrap ((m : Int) + 1 + 1) = (m : Int) + 1 + 1 := IntWalk.i64_in _ (by omega)
      have hc := (D.out.cell (m + 1) hlt).1
      rw [if_neg (by omega)] at hc
      have CC := Aside0.mk (HC.out (m + 1) wr hlt (by omega) D.out.1)
      have DS := Aside0.mk fun d => (D.out.drewN d).step him hlt
      have cm := (D.out.cell m (by omega)).1
      have fm := (D.out.cell m (by omega)).2
      obtain ⟨y, hy⟩ : ∃ y, p (m + 1) = y := ⟨_, rfl⟩
      rw [hy] at hc CC DS
      clear hy
      go_wp2_with (fail)
      refine CC.out.mono ?_
      rintro e w2 ⟨rfl, d, rfl⟩
      go_wp2_with (fail)
      go_roundw
      case rel => exact ⟨m + 1, by omega, by omega, by go_num, by go_num, ⟨DS.out d⟩⟩
      case measure => simp [intOf]; omega
    · have hltI : ¬ (m : Int) + 1 < (n : Int) := by omega
      have hltN : decide ((m : Int) + 1 < (n : Int)) = false := decide_eq_false hltI
      obtain rfl : n = m + 1 := by omega
      have hcl := fun ty => clear_one (d := c - m) (D.out.cell m (by omega)).1 (D.out.cell m (by omega)).2 ty
      have hmc : m ≤ c := by omega
      have hmcN : ¬ m = c := by omega
      go_wp2_with (fail)
      go_ret
      obtain ⟨h1, cur, h2, h3, h4⟩ := D.out
      refine ⟨by simp, grown_set h1 _ _, _, blk_set h2 m _, by simpa using h3, fun k hk => ?_⟩
      have hkm : k < m := by omega
      rw [Array.getElem?_setIfInBounds_ne (by omega), h4 k (by omega)]
      by_cases hc : i ≤ k
      · rw [if_pos ⟨hc, hkm⟩, if_pos hc]
      · rw [if_neg (fun h => hc h.1), if_neg hc]
def remF (es : List En) (spi : Int) (out : Bool) : List En × Int := if findI es spi out < es.length then (es.eraseIdx (findI es spi out), 0) else (es, 6)
/-- A row that has lost an entry. -/
theorem own_erase {w' : World} {base g c i : Nat} {ps : List Pl} {cur : Array Value} (hb : base ≤ g) (hc : ps.length ≤ c) (hcm : c ≤ maxLen) (hi : i < ps.length) (h1 : w'.heap[g]? = some (.cells cur 61 (0, 0))) (h2 : cur.size = c) (h3 : ∀ k, k < ps.length - 1 → cur[k]? = some (.pointer (some ⟨if i ≤ k then (ps.getD (k + 1) pl0).p else (ps.getD k pl0).p, 0, none⟩))) :
    w'.ownsRow base 61 1 (.slice (some ⟨g, 0, none⟩) (ps.length - 1) c) (ps.length - 1) ((ps.map Pl.ptr).eraseIdx i) := by
  refine ⟨by rw [List.length_eraseIdx_of_lt (by simpa using hi)]; simp, .inr ⟨g, c, cur, rfl, hb, h1, by omega, hcm, by omega, ?_⟩⟩
  apply List.ext_getElem?
  intro k
  rw [Nat.mul_one, List.getElem?_take, List.getElem?_eraseIdx]
  by_cases hk : k < ps.length - 1
  · rw [if_pos hk, Array.getElem?_toList, h3 k hk]
    by_cases hik : i ≤ k
    · rw [if_pos hik, if_neg (by omega), List.getElem?_map, List.getElem?_eq_getElem (by omega), List.getD_eq_getElem?_getD, List.getElem?_eq_getElem (by omega)]
      rfl
    · rw [if_neg hik, if_pos (by omega), List.getElem?_map, List.getElem?_eq_getElem (by omega), List.getD_eq_getElem?_getD, List.getElem?_eq_getElem (by omega)]
      rfl
  · rw [if_neg hk]
    split
    · rw [List.getElem?_eq_none (by simp; omega)]
    · rw [List.getElem?_eq_none (by simp; omega)]
set_option maxHeartbeats 1600000 in
set_option maxRecDepth 100000 in
theorem rem_no {w : World} {p : Option Addr} {c : Int} (hL : Laid w) (spi : Int) (out : Bool) (hv : Calls Tryd.prog 23 #[.pointer p, .int .i64 spi, .bool out] w (FindNo c w)) :
    Calls Tryd.prog 15 #[.pointer p, .int .i64 spi, .bool out] w fun e w' => e = .returned (.int .i64 c) ∧ Below w.heap.size w w' := by
  have HV := Aside0.mk hv
  have HL := Aside0.mk fun (W : World) (hb : Below w.heap.size w W) => hL.below hL.pos hb
  clear hv hL
  go_enter Tryd.func15, Tryd.ntmps15
  go_wp2_with (fail)
  refine HV.out.mono ?_
  rintro e w1 ⟨⟨v, rfl, hv⟩, hb⟩
  have HV1 := Aside0.mk hv
  obtain ⟨k, s, rfl, _⟩ := hv
  have HB := Aside0.mk hb
  clear hb
  go_wp2_with (fail)
  have hb2 : Below w1.heap.size w1 (w1.alloc (.cells #[.pointer none] 61)) := below_alloc (Below.refl _ _) _
  have NW := Aside0.mk (number_walk ((HL.out w1 HB.out).below (HL.out w1 HB.out).pos hb2) (HV1.out.below hb2))
  have HB2 := Aside0.mk (HB.out.trans (hb2.mono HB.out.size))
  clear hb2
  refine NW.out.mono ?_
  rintro e w2 ⟨rfl, hb⟩
  have HB3 := Aside0.mk (HB2.out.trans (hb.mono HB2.out.size))
  clear hb
  go_wp2_with (fail)
  go_ret
  exact ⟨rfl, HB3.out⟩
set_option maxHeartbeats 3200000 in
set_option maxRecDepth 100000 in
theorem rem_yes {w : World} {base q c : Nat} {A : Option Addr} {ps : List Pl} {es : List En} (hp : SadP w base q (.slice A es.length c) ps es) (hl : es.length ≤ 1000) (spi : Int) (out : Bool) (hf : findI es spi out < es.length) :
    Calls Tryd.prog 15 #[.pointer (some ⟨q, 0, none⟩), .int .i64 spi, .bool out] w (PgQ base q (es.eraseIdx (findI es spi out)) (.int .i64 0) w) := by
  have FY := Aside0.mk (find_yes hp hl spi out hf)
  obtain ⟨i, hi⟩ : ∃ i, findI es spi out = i := ⟨_, rfl⟩
  rw [hi] at hf FY ⊢
  have hlen := hp.len
  obtain ⟨g, hA⟩ : ∃ g, A = some ⟨g, 0, none⟩ := by
    obtain ⟨b, _, hv, _⟩ := hp.cell i hf
    injection hv with hv _ _
    exact ⟨b, hv⟩
  subst hA
  obtain ⟨hgb, cur, hgc, hcs, hcap, hcm, hct⟩ : base ≤ g ∧ ∃ cur, w.heap[g]? = some (.cells cur 61 (0, 0)) ∧ cur.size = c ∧ es.length ≤ c ∧ c ≤ maxLen ∧ cur.toList.take es.length = ps.map Pl.ptr := by
    rcases hp.row.2 with ⟨h0, _⟩ | ⟨g', cap, cur, hv, h1, h2, h3, h4, h5, h6⟩
    · cases h0
    · injection hv with e1 e2 e3
      injection e1 with e1
      injection e1 with e1
      subst e1 e3
      exact ⟨h1, cur, h2, by simpa using h5, by omega, h4, by rw [← hlen, ← h6]; simp⟩
  have HP := Aside0.mk fun (W : World) (hb : Below w.heap.size w W) => hp.below hb
  have hcur : ∀ k, k < es.length → cur[k]? = some (.pointer (some ⟨(ps.getD k pl0).p, 0, none⟩)) := fun k hk => by
    have h := congrArg (fun l : List Value => l[k]?) hct
    simp only [List.getElem?_take, if_pos hk, Array.getElem?_toList] at h
    rw [h, List.getElem?_map, List.getElem?_eq_getElem (by omega), List.getD_eq_getElem?_getD, List.getElem?_eq_getElem (by omega)]
    rfl
  have HDEL := Aside0.mk fun (W : World) (b : Nat) (hb : Below w.heap.size w W) (hbb : W.heap[b]? = some (.cells #[.pointer (some ⟨(ps.getD i pl0).p, 0, none⟩)] 61 (0, 0))) (hbg : b ≠ g) =>
    delete30 (w := W) (g := g) (n := es.length) (c := c) (i := i) (b4 := b) (p := fun j => (ps.getD j pl0).p) hl hf hcap ⟨⟨rfl, rfl, rfl, Nat.le_refl _, fun _ _ _ => rfl⟩, cur, blk_below hgc hb, hcs, fun k hk => by rw [if_neg (by omega)]; exact hcur k hk⟩
      (fun j hj => by
        by_cases e : j = i
        · subst e; simp
        · rw [decide_eq_false e, beq_eq_false_iff_ne]
          exact (hp.apart j i (by omega) (by omega) e).p)
      (fun W2 hb2 => ((hp.below hb).below hb2).ptrs)
      (fun j W2 hj hg2 => by
        have hj1 := ((hp.below hb).at j hj).blk
        have hi1 := ((hp.below hb).at i hf).blk
        have hgW := blk_below hgc hb
        exact same_walk (blk_grown hj1 hg2 (fun e => blk_ne hj1 hgW (by decide) (Option.some.inj e))) (blk_grown hi1 hg2 (fun e => blk_ne hi1 hgW (by decide) (Option.some.inj e))) (blk_grown hbb hg2 (fun e => hbg (Option.some.inj e))))
  have hglt := blk_lt hgc
  have HGL := Aside0.mk hglt
  have FIN := Aside0.mk fun (W W' : World) (hb : Below w.heap.size w W) (hg2 : W.grownBy W' (some g)) (cur' : Array Value) (h1 : W'.heap[g]? = some (.cells cur' 61 (0, 0))) (h2 : cur'.size = c) (h3 : ∀ k, k < es.length - 1 → cur'[k]? = some (.pointer (some ⟨if i ≤ k then (ps.getD (k + 1) pl0).p else (ps.getD k pl0).p, 0, none⟩))) =>
    (show SadP (W'.setCell ⟨q, 0, none⟩ (.slice (some ⟨g, 0, none⟩) (es.length - 1) c)) base q (.slice (some ⟨g, 0, none⟩) (es.length - 1) c) (ps.eraseIdx i) (es.eraseIdx i) ∧ Turn TP base w (W'.setCell ⟨q, 0, none⟩ (.slice (some ⟨g, 0, none⟩) (es.length - 1) c)) from by
      have hqg := blk_ne hp.blk hgc (by decide)
      have hq' : W'.heap[q]? = some (.cells #[.slice (some ⟨g, 0, none⟩) es.length c] 60 (0, 0)) := blk_grown (hp.below hb).blk hg2 (fun e => hqg (Option.some.inj e))
      have hown := own_erase (ps := ps) (i := i) hgb (by omega) hcm (by omega) h1 h2 (by rw [hlen]; exact h3)
      rw [hlen] at hown
      have hsz : (W'.setCell ⟨q, 0, none⟩ (.slice (some ⟨g, 0, none⟩) (es.length - 1) c)).heap.size = W'.heap.size := by simp [World.setCell]
      have hs1 := hb.size
      have hs2 := hg2.size
      exact Tab.erase hp TP_ok WnPg_ok i hf (blk_put hq' 0 _ rfl) (by rw [hlen]; exact own_setCell hown (own_ne hown hq' (by decide)) _) (hg2.os.trans hb.os) (hg2.tape.trans hb.tape) (hg2.output.trans hb.output) (by rw [hsz]; omega)
        (fun k k1 k2 k3 => (Below.heap_setCell W' _ _ k k2).trans ((hg2.block k (by omega) (fun e => k3 e.symm)).trans (hb.block k k1))))
  have HBQ := Aside0.mk fun (W W' : World) (hb : Below w.heap.size w W) (hg2 : W.grownBy W' (some g)) => (show W'.cell? ⟨q, 0, none⟩ = some (.slice (some ⟨g, 0, none⟩) es.length c) ∧ W'.frozen? ⟨q, 0, none⟩ = false from by
    have hqg := blk_ne hp.blk hgc (by decide)
    have hq' : W'.heap[q]? = some (.cells #[.slice (some ⟨g, 0, none⟩) es.length c] 60 (0, 0)) := blk_grown (hp.below hb).blk hg2 (fun e => hqg (Option.some.inj e))
    exact ⟨(blk_cell hq' 0).trans rfl, blk_frozen hq' 0⟩)
  have HCQ := Aside0.mk fun (W : World) (hb : Below w.heap.size w W) => (show W.cell? ⟨q, 0, none⟩ = some (.slice (some ⟨g, 0, none⟩) es.length c) from (blk_cell (hp.below hb).blk 0).trans rfl)
  obtain ⟨P, hP⟩ : ∃ P, (ps.getD i pl0).p = P := ⟨_, rfl⟩
  obtain ⟨n, hn⟩ : ∃ n, es.length = n := ⟨_, rfl⟩
  rw [hP] at FY HDEL
  rw [hn] at HDEL FIN HBQ HCQ hl hf
  clear hp hlen hgc hct hcur hP hn hi hcs hglt hgb hcap hcm
  go_enter Tryd.func15, Tryd.ntmps15
  go_wp2_with (fail)
  refine FY.out.mono ?_
  rintro e w1 ⟨rfl, hb⟩
  have hb2 : Below w1.heap.size w1 (w1.alloc (.cells #[.pointer (some ⟨P, 0, none⟩)] 61)) := below_alloc (Below.refl _ _) _
  have HB2 := Aside0.mk (hb.trans (hb2.mono hb.size))
  have cq := HCQ.out _ HB2.out
  have DW := Aside0.mk (HDEL.out _ w1.heap.size HB2.out (blk_new w1 _) (by have := HGL.out; have := hb.size; omega))
  clear hb hb2
  go_wp2_with (fail)
  refine DW.out.mono ?_
  rintro e w3 ⟨rfl, hg, cur', h1, h2, h3⟩
  obtain ⟨c3, f3⟩ := HBQ.out _ w3 HB2.out hg
  have FN := Aside0.mk (FIN.out _ w3 HB2.out hg cur' h1 h2 h3)
  clear hg h1 h2 h3 cq DW
  go_wp2_with (fail)
  go_ret
  exact ⟨rfl, ⟨_, _, FN.out.1⟩, FN.out.2⟩
theorem rem_call {w : World} {base q : Nat} {es : List En} (h : SadX w base q es) (hL : Laid w) (hl : es.length ≤ 1000) (spi : Int) (out : Bool) :
    Calls Tryd.prog 15 #[.pointer (some ⟨q, 0, none⟩), .int .i64 spi, .bool out] w (PgQ base q (remF es spi out).1 (.int .i64 (remF es spi out).2) w) := by
  obtain ⟨v, ps, hp⟩ := h
  unfold remF
  by_cases hf : findI es spi out < es.length
  · rw [if_pos hf]
    obtain ⟨A, c, rfl, _⟩ := hp.slice
    exact rem_yes hp hl spi out hf
  · rw [if_neg hf]
    exact (rem_no hL spi out (find_no hp hl spi out hf)).mono fun e w' ⟨he, hb⟩ => ⟨he, ⟨_, _, hp.below hb⟩, .of_below hb⟩
theorem rem_nil (w : World) (hL : Laid w) (spi : Int) (out : Bool) : Calls Tryd.prog 15 #[.pointer none, .int .i64 spi, .bool out] w fun e w' => e = .returned (.int .i64 3) ∧ Below w.heap.size w w' :=
  rem_no hL spi out (find_nil w spi out)
end Go.Proofs.YtkmnpnbfeiobiaaDoor.Sd

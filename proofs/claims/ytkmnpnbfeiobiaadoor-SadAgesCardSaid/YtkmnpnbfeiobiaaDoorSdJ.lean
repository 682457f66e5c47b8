/- Take and Look of the program. -/
import Derived.Test.YtkmnpnbfeiobiaaDoorSdI
namespace Go.Proofs.YtkmnpnbfeiobiaaDoor.Sd
open Go.RowKit Go.Proofs.YtkmnpnbfeiobiaaDoorW.PrintWords Go.Proofs.YtkmnpnbfeiobiaaDoorW.PrintLast Go.Proofs.YtkmnpnbfeiobiaaDoorW.PrintMore Go.Proofs.YtkmnpnbfeiobiaaDoor.QSa
open Go.Proofs.YtkmnpnbfeiobiaaDoor
set_option linter.unusedVariables false
set_option linter.unusedSimpArgs false
/-- What is kept of an association: its size, its window, its numbers; k calls were made. -/
structure Good (k : Nat) (e : En) : Prop where
  lo : 64 ≤ e.life.f0.f5
  hi : e.life.f0.f5 ≤ 1024
  inv : Win.Inv e.life.f0.f5.toNat e.st e.ns
  top : e.st.1 < 18446744073709551616
  sent : e.sent < 18446744073709551616
  born : 0 ≤ e.born ∧ e.born ≤ 1000000000
  bytes : 0 ≤ e.bytes ∧ e.bytes ≤ 1000000000 * (k : Int)
  spi : 256 ≤ e.life.f0.f0
  ns : e.ns.length ≤ k
theorem Good.mono {k k' : Nat} {e : En} (h : Good k e) (hk : k ≤ k') : Good k' e :=
  ⟨h.lo, h.hi, h.inv, h.top, h.sent, h.born, ⟨h.bytes.1, by have := h.bytes.2; omega⟩, h.spi, Nat.le_trans h.ns hk⟩
theorem Good.timed {k : Nat} {e : En} (h : Good k e) {now : Int} (h0 : -1000000000 ≤ now) (h1 : now ≤ 4000000000) : Timed e now := by
  have := h.born
  unfold Timed
  omega
theorem Good.len {k : Nat} {e : En} (h : Good k e) : 0 < e.st.2.length ∧ e.st.2.length ≤ 1024 := by
  have h1 := h.inv.len
  have h2 := h.lo
  have h3 := h.hi
  omega
def takeE (e : En) (n : Int) (seq : Nat) : En := { e with bytes := e.bytes + n, st := Win.acc e.life.f0.f4 e.st seq, ns := e.ns ++ [seq] }
theorem Good.take {k : Nat} {e : En} (h : Good k e) {n : Int} {seq : Nat} (h0 : 0 ≤ n) (h1 : n ≤ 1000000000) (hs : seq < 18446744073709551616) (hc : Win.chk e.life.f0.f4 e.st seq = 0) : Good (k + 1) (takeE e n seq) := by
  have hl := h.lo
  have hg := Win.Good.acc (show Win.Good e.life.f0.f5.toNat e.st from ⟨h.inv.len, h.top⟩) e.life.f0.f4 seq hs
  refine ⟨h.lo, h.hi, h.inv.acc (by omega) _ _ hc, hg.2, h.sent, h.born, ?_, h.spi, ?_⟩
  · have := h.bytes
    show 0 ≤ e.bytes + n ∧ e.bytes + n ≤ 1000000000 * ((k + 1 : Nat) : Int)
    omega
  · show (e.ns ++ [seq]).length ≤ k + 1
    rw [List.length_append, List.length_singleton]
    have := h.ns
    omega
def takeF (es : List En) (now spi : Int) (seq : Nat) (n : Int) : List En × Int :=
  if n < 0 then (es, 1) else if findI es spi false < es.length then (if ageE (es.getD (findI es spi false) en0) now = 2 then (es, 171) else if Win.chk (es.getD (findI es spi false) en0).life.f0.f4 (es.getD (findI es spi false) en0).st seq = 0 then (es.set (findI es spi false) (takeE (es.getD (findI es spi false) en0) n seq), 0) else (es, Win.chk (es.getD (findI es spi false) en0).life.f0.f4 (es.getD (findI es spi false) en0).st seq)) else (es, 6)
def LiveAny (w : World) (e : Ending) (w' : World) : Prop := (∃ u v, e = .returned (.tuple #[u, v])) ∧ Below w.heap.size w w'
theorem FindYes.any {p : Nat} {w w' : World} {e : Ending} (h : FindYes p w e w') : LiveAny w e w' := ⟨⟨_, _, h.1⟩, h.2⟩
theorem FindNo.any {c : Int} {w w' : World} {e : Ending} (h : FindNo c w e w') : LiveAny w e w' := by
  obtain ⟨⟨v, h1, _⟩, h2⟩ := h
  exact ⟨⟨_, _, h1⟩, h2⟩
theorem live_any {w : World} {base q : Nat} {v : Value} {ps : List Pl} {es : List En} (hp : SadP w base q v ps es) (hl : es.length ≤ 1000) (now spi : Int) (out : Bool) (ht : ∀ e ∈ es, Timed e now) :
    Calls Tryd.prog 27 #[.pointer (some ⟨q, 0, none⟩), .int .i64 now, .int .i64 spi, .bool out] w (LiveAny w) := by
  by_cases hf : findI es spi out < es.length
  · by_cases ha : ageE (es.getD (findI es spi out) en0) now = 2
    · exact (live_hard now spi out (find_yes hp hl spi out hf) (hp.at _ hf).blk (ht _ (getD_mem hf)) ha).mono fun _ _ h => h.any
    · exact (live_yes now spi out (find_yes hp hl spi out hf) (hp.at _ hf).blk (ht _ (getD_mem hf)) ha).mono fun _ _ h => h.any
  · exact (live_no now spi out (find_no hp hl spi out hf)).mono fun _ _ h => h.any
set_option maxHeartbeats 1600000 in
set_option maxRecDepth 100000 in
theorem take_neg {w : World} {q : Nat} (now spi : Int) (seq : Nat) (n : Int) (hn : n < 0) (hv : Calls Tryd.prog 27 #[.pointer (some ⟨q, 0, none⟩), .int .i64 now, .int .i64 spi, .bool false] w (LiveAny w)) :
    Calls Tryd.prog 16 #[.pointer (some ⟨q, 0, none⟩), .int .i64 now, .int .i64 spi, .int .u64 (seq : Int), .int .i64 n] w fun e w' => e = .returned (.int .i64 1) ∧ Below w.heap.size w w' := by
  have HV := Aside0.mk hv
  have hn1 : decide (n < 0) = true := decide_eq_true hn
  clear hv hn
  go_enter Tryd.func16, Tryd.ntmps16
  go_wp2_with (fail)
  refine HV.out.mono ?_
  rintro e w1 ⟨⟨u, v, rfl⟩, hb⟩
  have HB := Aside0.mk hb
  clear hb
  go_wp2_with (fail)
  go_ret
  exact ⟨rfl, HB.out⟩
set_option maxHeartbeats 1600000 in
set_option maxRecDepth 100000 in
theorem take_no {w : World} {p : Option Addr} {c : Int} (hL : Laid w) (now spi : Int) (seq : Nat) (n : Int) (hn : p = none ∨ 0 ≤ n) (hv : Calls Tryd.prog 27 #[.pointer p, .int .i64 now, .int .i64 spi, .bool false] w (FindNo c w)) :
    Calls Tryd.prog 16 #[.pointer p, .int .i64 now, .int .i64 spi, .int .u64 (seq : Int), .int .i64 n] w fun e w' => e = .returned (.int .i64 c) ∧ Below w.heap.size w w' := by
  have HV := Aside0.mk hv
  have HL := Aside0.mk fun (W : World) (hb : Below w.heap.size w W) => hL.below hL.pos hb
  clear hv hL
  cases p with
  | none =>
    clear hn
    go_enter Tryd.func16, Tryd.ntmps16
    go_wp2_with (fail)
    refine HV.out.mono ?_
    rintro e w1 ⟨⟨v, rfl, hv⟩, hb⟩
    have NW := Aside0.mk (number_walk (HL.out w1 hb) hv)
    obtain ⟨k, s, rfl, _⟩ := hv
    have HB := Aside0.mk hb
    clear hb
    go_wp2_with (fail)
    refine NW.out.mono ?_
    rintro e w2 ⟨rfl, hb⟩
    have HB2 := Aside0.mk (HB.out.trans (hb.mono HB.out.size))
    clear hb
    go_wp2_with (fail)
    go_ret
    exact ⟨rfl, HB2.out⟩
  | some ad =>
    have hn0 : 0 ≤ n := by rcases hn with h | h; cases h; exact h
    have hn1 : decide (n < 0) = false := decide_eq_false (by omega)
    clear hn hn0
    go_enter Tryd.func16, Tryd.ntmps16
    go_wp2_with (fail)
    refine HV.out.mono ?_
    rintro e w1 ⟨⟨v, rfl, hv⟩, hb⟩
    have NW := Aside0.mk (number_walk (HL.out w1 hb) hv)
    obtain ⟨k, s, rfl, _⟩ := hv
    have HB := Aside0.mk hb
    clear hb
    go_wp2_with (fail)
    refine NW.out.mono ?_
    rintro e w2 ⟨rfl, hb⟩
    have HB2 := Aside0.mk (HB.out.trans (hb.mono HB.out.size))
    clear hb
    go_wp2_with (fail)
    go_ret
    exact ⟨rfl, HB2.out⟩
/-- A window's row is as long as it was. -/
theorem accLen (wide : Bool) (st : Nat × List Bool) (n : Nat) : (Win.acc wide st n).2.length = st.2.length := by
  unfold Win.acc
  split
  · exact Win.accSeen_length _ _ _
  · rfl
theorem set_self (es : List En) (i : Nat) : es.set i (es.getD i en0) = es := by
  apply List.ext_getElem?
  intro j
  by_cases h : i = j
  · subst h
    by_cases hi : i < es.length
    · rw [List.getElem?_set_self hi, List.getD_eq_getElem?_getD, List.getElem?_eq_getElem hi]; rfl
    · rw [List.getElem?_eq_none (by simpa using hi), List.getElem?_eq_none (by simpa using hi)]
  · rw [List.getElem?_set_ne h]
/-- What Accept leaves of the table. -/
theorem acc_tab {w w' : World} {base q : Nat} {v : Value} {ps : List Pl} {es : List En} (hp : SadP w base q v ps es) (i : Nat) (hi : i < es.length) {a : Nat} (hu : (ps.getD i pl0).u = .slice (some ⟨a, 0, none⟩) (es.getD i en0).st.2.length (es.getD i en0).st.2.length) (st' : Nat × List Bool) (hl : st'.2.length = (es.getD i en0).st.2.length) (ns' : List Nat)
    (hw : Win.WinAt w' (ps.getD i pl0).g a (es.getD i en0).life.f0.f4 st'.1 st'.2) (hs : Win.Step (fun k => k = (ps.getD i pl0).g ∨ k = a) w w') : ∃ ps', SadP w' base q v ps' (es.set i { es.getD i en0 with st := st', ns := ns' }) ∧ Turn TP base w w' ∧ (ps'.getD i pl0).p = (ps.getD i pl0).p := by
  obtain ⟨h1, h2, h3, h4, h5⟩ := hp.at i hi
  obtain ⟨cg, hg⟩ := WnPg_ok.blkg h2
  have ha := WnPg_ok.blku h2 (show _ = some a by rw [hu]; rfl)
  obtain ⟨ca, ha⟩ := ha
  have hp' : w'.heap[(ps.getD i pl0).p]? = some (.cells (encE (es.getD i en0) (ps.getD i pl0).g).toArray 71 (0, 0)) := by
    refine (hs.k.2 _ (blk_lt h1) ?_).trans h1
    rintro (e | e)
    · exact blk_ne h1 hg (by decide) e
    · exact blk_ne h1 ha (by decide) e
  obtain ⟨h6, h7⟩ := Tab.upd hp TP_ok WnPg_ok i hi (.slice (some ⟨a, 0, none⟩) st'.2.length st'.2.length) { es.getD i en0 with st := st', ns := ns' }
    ⟨hp', ⟨a, rfl, hw⟩, h3, h4, fun k hk => h5 k (by rw [hu]; rw [← hk]; rfl)⟩ (fun k hk => .inl (by rw [hu]; rw [← hk]; rfl)) hs.b.os hs.b.tape hs.b.output hs.b.size
    (fun k hk n1 n2 n3 => hs.k.2 k hk (by rintro (e | e); exact n2 e; exact n3 (by rw [hu, e]; rfl)))
  exact ⟨_, h6, h7, by rw [getD_set _ _ _ _ _ (by rw [hp.len]; exact hi), if_pos rfl]⟩
/-- A store into an association. -/
theorem set_tab {w : World} {base q : Nat} {v : Value} {ps : List Pl} {es : List En} (hp : SadP w base q v ps es) (i : Nat) (hi : i < es.length) (j : Nat) (u : Value) (e' : En) (hst : e'.st = (es.getD i en0).st) (hw : e'.life.f0.f4 = (es.getD i en0).life.f0.f4)
    (he : (encE (es.getD i en0) (ps.getD i pl0).g).toArray.setIfInBounds j u = (encE e' (ps.getD i pl0).g).toArray) :
    ∃ ps', SadP (w.setCell ⟨(ps.getD i pl0).p, j, none⟩ u) base q v ps' (es.set i e') ∧ Turn TP base w (w.setCell ⟨(ps.getD i pl0).p, j, none⟩ u) ∧ (ps'.getD i pl0).p = (ps.getD i pl0).p := by
  obtain ⟨h1, h2, h3, h4, h5⟩ := hp.at i hi
  have far : ∀ k, k ≠ (ps.getD i pl0).p → (w.setCell ⟨(ps.getD i pl0).p, j, none⟩ u).heap[k]? = w.heap[k]? := fun k hk => Below.heap_setCell w _ _ k hk
  have hsz : (w.setCell ⟨(ps.getD i pl0).p, j, none⟩ u).heap.size = w.heap.size := by simp [World.setCell]
  obtain ⟨a, ha, hwa⟩ := h2
  obtain ⟨h6, h7⟩ := Tab.upd hp TP_ok WnPg_ok i hi (ps.getD i pl0).u e' (w' := w.setCell ⟨(ps.getD i pl0).p, j, none⟩ u)
    ⟨blk_put h1 j u he, (by
      refine ⟨a, by rw [ha, hst], ?_⟩
      rw [hst, hw]
      exact ⟨(far _ (blk_ne hwa.hs h1 (by decide))).trans hwa.hs, (far _ (blk_ne hwa.ha h1 (by decide))).trans hwa.ha, hwa.ne⟩), h3, h4, h5⟩ (fun k hk => .inl hk) rfl rfl rfl (Nat.le_of_eq hsz.symm)
    (fun k hk n1 n2 n3 => far k n1)
  refine ⟨_, h6, h7, ?_⟩
  rw [getD_set _ _ _ _ _ (by rw [hp.len]; exact hi), if_pos rfl]
set_option maxHeartbeats 1600000 in
set_option maxRecDepth 100000 in
theorem take_bad {w : World} {base q k : Nat} {v : Value} {ps : List Pl} {es : List En} (hp : SadP w base q v ps es) (hl : es.length ≤ 1000) (now spi : Int) (seq : Nat) (n : Int) (hn : 0 ≤ n) (hs : seq < 18446744073709551616) (hf : findI es spi false < es.length) (hg : Good k (es.getD (findI es spi false) en0)) (ht : Timed (es.getD (findI es spi false) en0) now)
    (ha : ageE (es.getD (findI es spi false) en0) now ≠ 2) (hc : Win.chk (es.getD (findI es spi false) en0).life.f0.f4 (es.getD (findI es spi false) en0).st seq ≠ 0) :
    Calls Tryd.prog 16 #[.pointer (some ⟨q, 0, none⟩), .int .i64 now, .int .i64 spi, .int .u64 (seq : Int), .int .i64 n] w (PgQ base q es (.int .i64 (Win.chk (es.getD (findI es spi false) en0).life.f0.f4 (es.getD (findI es spi false) en0).st seq)) w) := by
  obtain ⟨i, hi⟩ : ∃ i, findI es spi false = i := ⟨_, rfl⟩
  have LV := Aside0.mk (live_yes now spi false (find_yes hp hl spi false hf) (hp.at _ hf).blk ht ha)
  rw [hi] at hf hg ht ha hc LV ⊢
  have AC := Aside0.mk fun (W : World) (hb : Below w.heap.size w W) (a : Nat) (hwa : Win.WinAt W (ps.getD i pl0).g a (es.getD i en0).life.f0.f4 (es.getD i en0).st.1 (es.getD i en0).st.2) => Win.accept_walk hwa hg.len.2 hg.len.1 seq hg.top hs
  have HP := Aside0.mk fun (W : World) (hb : Below w.heap.size w W) => hp.below hb
  have HF := Aside0.mk hf
  have hno := hg.inv.no (es.getD i en0).life.f0.f4 seq hc
  have hce : Win.checkE (es.getD i en0).life.f0.f4 (es.getD i en0).st.1 seq (es.getD i en0).st.2 = Win.chk (es.getD i en0).life.f0.f4 (es.getD i en0).st seq := rfl
  rw [hce] at AC
  simp only [if_neg hc] at AC
  obtain ⟨P, hP⟩ : ∃ P, (ps.getD i pl0).p = P := ⟨_, rfl⟩
  obtain ⟨G, hG⟩ : ∃ G, (ps.getD i pl0).g = G := ⟨_, rfl⟩
  have hU : ∃ a, (ps.getD i pl0).u = .slice (some ⟨a, 0, none⟩) (es.getD i en0).st.2.length (es.getD i en0).st.2.length ∧ ∀ W, Below w.heap.size w W → Win.WinAt W G a (es.getD i en0).life.f0.f4 (es.getD i en0).st.1 (es.getD i en0).st.2 ∧ W.cell? ⟨P, 15, none⟩ = some (.pointer (some ⟨G, 0, none⟩)) := by
    obtain ⟨a, hu, hwa⟩ := (hp.at i hf).win
    refine ⟨a, hu, fun W hb => ⟨?_, ?_⟩⟩
    · rw [← hG]
      exact ⟨blk_below hwa.hs hb, blk_below hwa.ha hb, hwa.ne⟩
    · rw [← hP, ← hG]
      exact (blk_cell (blk_below (hp.at i hf).blk hb) 15).trans rfl
  obtain ⟨a, hu, hwin⟩ := hU
  have HW := Aside0.mk hwin
  have HU := Aside0.mk hu
  have ACT := Aside0.mk fun (W W' : World) (hb : Below w.heap.size w W) (h1 : Win.WinAt W' (ps.getD i pl0).g a (es.getD i en0).life.f0.f4 (es.getD i en0).st.1 (es.getD i en0).st.2) (h2 : Win.Step (fun k => k = (ps.getD i pl0).g ∨ k = a) W W') => acc_tab (hp.below hb) i hf hu (es.getD i en0).st rfl (es.getD i en0).ns h1 h2
  rw [show ({ es.getD i en0 with st := (es.getD i en0).st, ns := (es.getD i en0).ns } : En) = es.getD i en0 from rfl, set_self] at ACT
  obtain ⟨c, hcc⟩ : ∃ c, Win.chk (es.getD i en0).life.f0.f4 (es.getD i en0).st seq = c := ⟨_, rfl⟩
  rw [hcc] at AC hc ⊢
  rw [hG] at AC ACT
  rw [hP] at LV ACT
  have hcb : (c == 0) = false := by rw [beq_eq_false_iff_ne]; exact hc
  have hcb2 : (c != 0) = true := by rw [bne_iff_ne]; exact hc
  have hn1 : decide (n < 0) = false := decide_eq_false (by omega)
  clear hp hf hg ht ha hc hno hce hcc hP hG hu hwin hi hn
  go_enter Tryd.func16, Tryd.ntmps16
  go_wp2_with (fail)
  refine LV.out.mono ?_
  rintro e w1 ⟨rfl, hb⟩
  obtain ⟨hwa, c15⟩ := HW.out w1 hb
  have ACI := Aside0.mk (AC.out w1 hb a hwa)
  have HB := Aside0.mk hb
  clear hb hwa
  go_wp2_with (fail)
  refine ACI.out.mono ?_
  rintro e w2 ⟨rfl, h2, h3⟩
  obtain ⟨ps', h6, h7, _⟩ := ACT.out w1 w2 HB.out h2 h3
  have H6 := Aside0.mk h6
  have H7 := Aside0.mk ((Turn.of_below HB.out).trans h7)
  clear h2 h3 h6 h7
  go_wp2_with (fail)
  go_ret
  exact ⟨rfl, ⟨_, _, H6.out⟩, H7.out⟩
set_option maxHeartbeats 1600000 in
set_option maxRecDepth 100000 in
theorem take_ok {w : World} {base q k : Nat} {v : Value} {ps : List Pl} {es : List En} (hp : SadP w base q v ps es) (hl : es.length ≤ 1000) (now spi : Int) (seq : Nat) (n : Int) (hn : 0 ≤ n) (hn9 : n ≤ 1000000000) (hk : k ≤ 200) (hs : seq < 18446744073709551616) (hf : findI es spi false < es.length) (hg : Good k (es.getD (findI es spi false) en0)) (ht : Timed (es.getD (findI es spi false) en0) now)
    (ha : ageE (es.getD (findI es spi false) en0) now ≠ 2) (hc : Win.chk (es.getD (findI es spi false) en0).life.f0.f4 (es.getD (findI es spi false) en0).st seq = 0) :
    Calls Tryd.prog 16 #[.pointer (some ⟨q, 0, none⟩), .int .i64 now, .int .i64 spi, .int .u64 (seq : Int), .int .i64 n] w (PgQ base q (es.set (findI es spi false) (takeE (es.getD (findI es spi false) en0) n seq)) (.int .i64 0) w) := by
  obtain ⟨i, hi⟩ : ∃ i, findI es spi false = i := ⟨_, rfl⟩
  have LV := Aside0.mk (live_yes now spi false (find_yes hp hl spi false hf) (hp.at _ hf).blk ht ha)
  rw [hi] at hf hg ht ha hc LV ⊢
  have AC := Aside0.mk fun (W : World) (hb : Below w.heap.size w W) (a : Nat) (hwa : Win.WinAt W (ps.getD i pl0).g a (es.getD i en0).life.f0.f4 (es.getD i en0).st.1 (es.getD i en0).st.2) => Win.accept_walk hwa hg.len.2 hg.len.1 seq hg.top hs
  have hce : Win.checkE (es.getD i en0).life.f0.f4 (es.getD i en0).st.1 seq (es.getD i en0).st.2 = 0 := hc
  have hacc : Win.acc (es.getD i en0).life.f0.f4 (es.getD i en0).st seq = (max (es.getD i en0).st.1 seq, Win.accSeen (es.getD i en0).st.1 seq (es.getD i en0).st.2) := by unfold Win.acc; rw [if_pos hce]
  rw [hce] at AC
  simp only [if_true] at AC
  obtain ⟨P, hP⟩ : ∃ P, (ps.getD i pl0).p = P := ⟨_, rfl⟩
  obtain ⟨G, hG⟩ : ∃ G, (ps.getD i pl0).g = G := ⟨_, rfl⟩
  have hU : ∃ a, (ps.getD i pl0).u = .slice (some ⟨a, 0, none⟩) (es.getD i en0).st.2.length (es.getD i en0).st.2.length ∧ ∀ W, Below w.heap.size w W → Win.WinAt W G a (es.getD i en0).life.f0.f4 (es.getD i en0).st.1 (es.getD i en0).st.2 ∧ W.cell? ⟨P, 15, none⟩ = some (.pointer (some ⟨G, 0, none⟩)) := by
    obtain ⟨a, hu, hwa⟩ := (hp.at i hf).win
    refine ⟨a, hu, fun W hb => ⟨?_, ?_⟩⟩
    · rw [← hG]
      exact ⟨blk_below hwa.hs hb, blk_below hwa.ha hb, hwa.ne⟩
    · rw [← hP, ← hG]
      exact (blk_cell (blk_below (hp.at i hf).blk hb) 15).trans rfl
  obtain ⟨a, hu, hwin⟩ := hU
  have HW := Aside0.mk hwin
  have ACT := Aside0.mk fun (W W' : World) (hb : Below w.heap.size w W) (h1 : Win.WinAt W' (ps.getD i pl0).g a (es.getD i en0).life.f0.f4 (max (es.getD i en0).st.1 seq) (Win.accSeen (es.getD i en0).st.1 seq (es.getD i en0).st.2)) (h2 : Win.Step (fun k => k = (ps.getD i pl0).g ∨ k = a) W W') => acc_tab (hp.below hb) i hf hu (Win.acc (es.getD i en0).life.f0.f4 (es.getD i en0).st seq) (accLen _ _ _) ((es.getD i en0).ns ++ [seq]) (by rw [hacc]; exact h1) h2
  obtain ⟨em, hem⟩ : ∃ em : En, { es.getD i en0 with st := Win.acc (es.getD i en0).life.f0.f4 (es.getD i en0).st seq, ns := (es.getD i en0).ns ++ [seq] } = em := ⟨_, rfl⟩
  rw [hem] at ACT
  have hby : em.bytes = (es.getD i en0).bytes := by rw [← hem]
  have hte : takeE (es.getD i en0) n seq = { em with bytes := em.bytes + n } := by rw [← hem]; rfl
  rw [hte]
  have hsum : IntKind.i64.wrap (em.bytes + n) = em.bytes + n := IntWalk.i64_in _ (by have := hg.bytes; rw [hby]; omega)
  have STT := Aside0.mk fun (W : World) (ps' : List Pl) (h : SadP W base q v ps' (es.set i em)) => set_tab h i (by rw [List.length_set]; exact hf) 13 (.int .i64 (em.bytes + n)) { em with bytes := em.bytes + n } (by rw [getD_set _ _ _ _ _ hf, if_pos rfl]) (by rw [getD_set _ _ _ _ _ hf, if_pos rfl]) (by rw [getD_set _ _ _ _ _ hf, if_pos rfl]; rfl)
  have HSS := Aside0.mk (show (es.set i em).set i { em with bytes := em.bytes + n } = es.set i { em with bytes := em.bytes + n } from by rw [List.set_set])
  have HEM := Aside0.mk fun (W : World) (ps' : List Pl) (h : SadP W base q v ps' (es.set i em)) => (h.at i (by rw [List.length_set]; exact hf)).blk
  have HGD := Aside0.mk (show (es.set i em).getD i en0 = em from by rw [getD_set _ _ _ _ _ hf, if_pos rfl])
  rw [hG] at AC ACT
  rw [hP] at LV
  rw [hP] at ACT
  have hn1 : decide (n < 0) = false := decide_eq_false (by omega)
  clear hp hf hg ht ha hc hce hacc hG hP hu hwin hi hn hte hby hem hn9 hk
  have HSM := Aside0.mk hsum
  clear hsum
  go_enter Tryd.func16, Tryd.ntmps16
  go_wp2_with (fail)
  refine LV.out.mono ?_
  rintro e w1 ⟨rfl, hb⟩
  obtain ⟨hwa, c15⟩ := HW.out w1 hb
  have ACI := Aside0.mk (AC.out w1 hb a hwa)
  have HB := Aside0.mk hb
  clear hb hwa
  go_wp2_with (fail)
  refine ACI.out.mono ?_
  rintro e w2 ⟨rfl, h2, h3⟩
  obtain ⟨ps', h6, h7, h8⟩ := ACT.out w1 w2 HB.out h2 h3
  have H6 := Aside0.mk h6
  have H7 := Aside0.mk ((Turn.of_below HB.out).trans h7)
  have ST := Aside0.mk (STT.out w2 ps' h6)
  have bk := HEM.out w2 ps' h6
  rw [HGD.out, h8] at bk
  rw [h8] at ST
  have k13 : w2.cell? ⟨P, 13, none⟩ = some (.int .i64 em.bytes) := (blk_cell bk 13).trans rfl
  have f13 : w2.frozen? ⟨P, 13, none⟩ = false := blk_frozen bk 13
  obtain ⟨bs, hbs⟩ : ∃ b, em.bytes + n = b := ⟨_, rfl⟩
  have hsum : IntKind.i64.wrap (em.bytes + n) = bs := HSM.out.trans hbs
  obtain ⟨b0, hb0⟩ : ∃ b, em.bytes = b := ⟨_, rfl⟩
  rw [hbs] at ST
  rw [hb0] at hsum k13
  rw [hbs] at HSS
  have HBS := Aside0.mk hbs
  clear h2 h3 h6 h7 h8 bk hbs hb0 c15
  go_wp2_with (fail)
  go_ret
  obtain ⟨ps2, h9, h10, _⟩ := ST.out
  rw [HSS.out] at h9
  obtain rfl := HBS.out
  exact ⟨rfl, ⟨_, _, h9⟩, H7.out.trans h10⟩
theorem take_call {w : World} {base q k : Nat} {es : List En} (h : SadX w base q es) (hL : Laid w) (hl : es.length ≤ 1000) (now spi : Int) (seq : Nat) (n : Int) (hn9 : n ≤ 1000000000) (hk : k ≤ 200) (hs : seq < 18446744073709551616) (hg : ∀ e ∈ es, Good k e) (h0 : -1000000000 ≤ now) (h1 : now ≤ 4000000000) :
    Calls Tryd.prog 16 #[.pointer (some ⟨q, 0, none⟩), .int .i64 now, .int .i64 spi, .int .u64 (seq : Int), .int .i64 n] w (PgQ base q (takeF es now spi seq n).1 (.int .i64 (takeF es now spi seq n).2) w) := by
  obtain ⟨v, ps, hp⟩ := h
  have ht : ∀ e ∈ es, Timed e now := fun e he => (hg e he).timed h0 h1
  unfold takeF
  by_cases hn : n < 0
  · rw [if_pos hn]
    exact (take_neg now spi seq n hn (live_any hp hl now spi false ht)).mono fun e w' ⟨he, hb⟩ => ⟨he, ⟨_, _, hp.below hb⟩, .of_below hb⟩
  · rw [if_neg hn]
    by_cases hf : findI es spi false < es.length
    · rw [if_pos hf]
      by_cases ha : ageE (es.getD (findI es spi false) en0) now = 2
      · rw [if_pos ha]
        exact (take_no hL now spi seq n (.inr (by omega)) (live_hard now spi false (find_yes hp hl spi false hf) (hp.at _ hf).blk (ht _ (getD_mem hf)) ha)).mono fun e w' ⟨he, hb⟩ => ⟨he, ⟨_, _, hp.below hb⟩, .of_below hb⟩
      · rw [if_neg ha]
        by_cases hc : Win.chk (es.getD (findI es spi false) en0).life.f0.f4 (es.getD (findI es spi false) en0).st seq = 0
        · rw [if_pos hc]
          exact take_ok hp hl now spi seq n (by omega) hn9 hk hs hf (hg _ (getD_mem hf)) (ht _ (getD_mem hf)) ha hc
        · rw [if_neg hc]
          exact take_bad hp hl now spi seq n (by omega) hs hf (hg _ (getD_mem hf)) (ht _ (getD_mem hf)) ha hc
    · rw [if_neg hf]
      exact (take_no hL now spi seq n (.inr (by omega)) (live_no now spi false (find_no hp hl spi false hf))).mono fun e w' ⟨he, hb⟩ => ⟨he, ⟨_, _, hp.below hb⟩, .of_below hb⟩
theorem take_nil (w : World) (hL : Laid w) (now spi : Int) (seq : Nat) (n : Int) : Calls Tryd.prog 16 #[.pointer none, .int .i64 now, .int .i64 spi, .int .u64 (seq : Int), .int .i64 n] w fun e w' => e = .returned (.int .i64 3) ∧ Below w.heap.size w w' :=
  take_no hL now spi seq n (.inl rfl) (live_no now spi false (find_nil w spi false))
end Go.Proofs.YtkmnpnbfeiobiaaDoor.Sd

/- The law SadOnce. -/
import Derived.Test.YtkmnpnbfeiobiaaDoorSdFo
namespace Go.Proofs.YtkmnpnbfeiobiaaDoor.Sd
open Go.RowKit Go.Proofs.YtkmnpnbfeiobiaaDoorW.PrintWords Go.Proofs.YtkmnpnbfeiobiaaDoorW.PrintLast Go.Proofs.YtkmnpnbfeiobiaaDoorW.PrintMore Go.Proofs.YtkmnpnbfeiobiaaDoor.QSa
open Go.Proofs.YtkmnpnbfeiobiaaDoor
set_option linter.unusedVariables false
set_option linter.unusedSimpArgs false
/-- A row of numbers. -/
def RowU (w : World) (base : Nat) (u : Value) (xs : List Nat) : Prop := (Kd.int .u64).R 37 w base (fun _ => True) u (Win.natl xs)
theorem RowU.owns {w : World} {base : Nat} {u : Value} {xs : List Nat} (h : RowU w base u xs) : ∃ inner, w.ownsRow base 37 1 u (Win.natl xs).length inner := by
  obtain ⟨_, inner, ho, _⟩ := h
  exact ⟨inner, ho⟩
theorem RowU.move {w w1 : World} {base : Nat} {u : Value} {xs : List Nat} (h : RowU w base u xs) (hm : ∀ k, u.ownBlock = some k → w1.heap[k]? = w.heap[k]?) : RowU w1 base u xs := by
  obtain ⟨h0, inner, ho, hr⟩ := h
  exact ⟨h0, inner, own_move ho hm, hr⟩
theorem RowU.step {w w' : World} {base : Nat} {u : Value} {xs : List Nat} (h : RowU w base u xs) (hb : Below w.heap.size w w') : RowU w' base u xs := by
  obtain ⟨inner, ho⟩ := h.owns
  exact h.move fun k hk => hb.block k (own_lt ho k hk)
theorem RowU.turn {w w' : World} {base b : Nat} {u : Value} {xs : List Nat} (h : RowU w base u xs) (ht : Turn TP b w w') : RowU w' base u xs := by
  obtain ⟨inner, ho⟩ := h.owns
  refine h.move fun k hk => ?_
  obtain ⟨cs, hc⟩ := own_typed ho k hk
  exact (ht.keep hc (by unfold Ty.has; decide)).trans hc.symm
theorem SadX.grown {w w1 : World} {base q : Nat} {es : List En} (h : SadX w base q es) {b : Nat} {u : Value} {xs : List Nat} (hu : RowU w b u xs) (hg : w.grownBy w1 u.ownBlock) : SadX w1 base q es := by
  obtain ⟨v, ps, h⟩ := h
  obtain ⟨inner, ho⟩ := hu.owns
  refine ⟨v, ps, Tab.move h WnPg_ok fun k cs t _ hc hh => hg.block k (blk_lt hc) (fun e => ?_)⟩
  obtain ⟨cs', hc'⟩ := own_typed ho k e.symm
  rw [hc] at hc'
  injection hc' with hc'
  injection hc' with _ e2 _
  rw [e2] at hh
  exact absurd hh (by unfold Ty.has; decide)
theorem One.grown {w0 w w1 : World} {q : Nat} {es : List En} (h : One w0 w q es) {b : Nat} {u : Value} {xs : List Nat} (hu : RowU w b u xs) (hg : w.grownBy w1 u.ownBlock) (hb : Below w0.heap.size w0 w1) : One w0 w1 q es := ⟨h.sad.grown hu hg, hb, h.laid0⟩
/-- What the law takes: one inwards. -/
def li : S27 := ⟨(lf 301).f0, 1, false, 10, 0, 0, 0⟩
def on1 : En := newE (lf 300) 0
def on2 : En := newE li 0
theorem ona : addF [] 0 (lf 300) = ([on1], 0) := by kernel_rfl
theorem onb : addF [on1] 0 li = ([on1, on2], 0) := by kernel_rfl
theorem ong1 : Good 0 on1 := newE_good _ _ _ (by kernel_rfl) (by decide) (by decide)
theorem ong2 : Good 0 on2 := newE_good _ _ _ (by kernel_rfl) (by decide) (by decide)
theorem on_find1 {a b : En} (ha : a.life = lf 300) : findI [a, b] 300 true = 0 := by
  have h : hitB 300 true a = true := by unfold hitB; rw [ha]; rfl
  simp [findI, List.findIdx_cons, h]
theorem on_find2 {a b : En} (ha : a.life = lf 300) (hb : b.life = li) : findI [a, b] 301 false = 1 := by
  have h : hitB 301 false a = false := by unfold hitB; rw [ha]; rfl
  have h2 : hitB 301 false b = true := by unfold hitB; rw [hb]; rfl
  simp [findI, List.findIdx_cons, h, h2]
theorem on_rem {a b : En} (ha : a.life = lf 300) (hb : b.life = li) (spi : Int) (out : Bool) (h0 : spi ≠ 300) (h1 : spi ≠ 301) : remF [a, b] spi out = ([a, b], 6) := by
  have h : hitB spi out a = false := by
    unfold hitB
    rw [ha]
    have : ((lf 300).f0.f0 == spi) = false := by rw [beq_eq_false_iff_ne]; exact fun e => h0 e.symm
    rw [this]
    rfl
  have h2 : hitB spi out b = false := by
    unfold hitB
    rw [hb]
    have : (li.f0.f0 == spi) = false := by rw [beq_eq_false_iff_ne]; exact fun e => h1 e.symm
    rw [this]
    rfl
  unfold remF
  rw [if_neg (by simp [findI, List.findIdx_cons, h, h2])]
theorem on_send {a b : En} (ha : a.life = lf 300) (now n : Int) : (∃ c, c ≠ 0 ∧ sendF [a, b] now 300 n = ([a, b], z25, 0, c)) ∨ (sendF [a, b] now 300 n = ([sendE a n, b], (lf 300).f0, (a.sent : Int) + 1, 0) ∧ 0 ≤ n ∧ fullB a = false) := by
  unfold sendF
  rw [on_find1 ha]
  by_cases hn : n < 0
  · rw [if_pos hn]; exact .inl ⟨1, by decide, rfl⟩
  · rw [if_neg hn, if_pos (by simp)]
    show (∃ c, c ≠ 0 ∧ (if ageE a now = 2 then (([a, b], z25, 0, 171) : List En × S25 × Int × Int) else if fullB a = true then ([a, b], z25, 0, 121) else ([sendE a n, b], a.life.f0, (a.sent : Int) + 1, 0)) = ([a, b], z25, 0, c)) ∨ ((if ageE a now = 2 then (([a, b], z25, 0, 171) : List En × S25 × Int × Int) else if fullB a = true then ([a, b], z25, 0, 121) else ([sendE a n, b], a.life.f0, (a.sent : Int) + 1, 0)) = ([sendE a n, b], (lf 300).f0, (a.sent : Int) + 1, 0) ∧ 0 ≤ n ∧ fullB a = false)
    by_cases h1 : ageE a now = 2
    · rw [if_pos h1]; exact .inl ⟨171, by decide, rfl⟩
    · rw [if_neg h1]
      by_cases h2 : fullB a = true
      · rw [if_pos h2]; exact .inl ⟨121, by decide, rfl⟩
      · rw [if_neg h2, ha]; exact .inr ⟨rfl, by omega, Bool.eq_false_iff.2 h2⟩
theorem on_take {a b : En} (ha : a.life = lf 300) (hb : b.life = li) (now n : Int) (seq : Nat) : (∃ c, c ≠ 0 ∧ takeF [a, b] now 301 seq n = ([a, b], c)) ∨ (takeF [a, b] now 301 seq n = ([a, takeE b n seq], 0) ∧ 0 ≤ n ∧ Win.chk b.life.f0.f4 b.st seq = 0) := by
  unfold takeF
  rw [on_find2 ha hb]
  by_cases hn : n < 0
  · rw [if_pos hn]; exact .inl ⟨1, by decide, rfl⟩
  · rw [if_neg hn, if_pos (by simp)]
    show (∃ c, c ≠ 0 ∧ (if ageE b now = 2 then (([a, b], 171) : List En × Int) else if Win.chk b.life.f0.f4 b.st seq = 0 then ([a, takeE b n seq], 0) else ([a, b], Win.chk b.life.f0.f4 b.st seq)) = ([a, b], c)) ∨ ((if ageE b now = 2 then (([a, b], 171) : List En × Int) else if Win.chk b.life.f0.f4 b.st seq = 0 then ([a, takeE b n seq], 0) else ([a, b], Win.chk b.life.f0.f4 b.st seq)) = ([a, takeE b n seq], 0) ∧ 0 ≤ n ∧ Win.chk b.life.f0.f4 b.st seq = 0)
    by_cases h1 : ageE b now = 2
    · rw [if_pos h1]; exact .inl ⟨171, by decide, rfl⟩
    · rw [if_neg h1]
      by_cases h2 : Win.chk b.life.f0.f4 b.st seq = 0
      · rw [if_pos h2]; exact .inr ⟨rfl, by omega, h2⟩
      · rw [if_neg h2]; exact .inl ⟨_, h2, rfl⟩
theorem chk_new {k : Nat} {b : En} (h : Good k b) {seq : Nat} (h0 : Win.chk b.life.f0.f4 b.st seq = 0) : seq ∉ b.ns := by
  intro hx
  have := h.inv.chk b.life.f0.f4 seq
  rw [h0] at this
  have hle := (h.inv.mem seq hx).2
  split at this
  · exact absurd this (by decide)
  · rw [if_neg (by omega), if_pos (by simp [hx])] at this
    exact absurd this (by decide)
/-- The law's state. -/
structure OnS (w0 w : World) (q j : Nat) (a b : En) (u : Value) : Prop where
  one : One w0 w q [a, b]
  la : a.life = lf 300
  lb : b.life = li
  ga : Good j a
  gb : Good j b
  row : RowU w w0.heap.size u b.ns
theorem OnS.goods {w0 w : World} {q j : Nat} {a b : En} {u : Value} (h : OnS w0 w q j a b u) : ∀ e ∈ [a, b], Good j e := fun e he => by
  rcases List.mem_cons.1 he with rfl | he
  · exact h.ga
  · rw [List.mem_singleton.1 he]; exact h.gb
theorem OnS.step {w0 w w' : World} {q j : Nat} {a b : En} {u : Value} (h : OnS w0 w q j a b u) (hb : Below w.heap.size w w') : OnS w0 w' q j a b u := ⟨h.one.step hb, h.la, h.lb, h.ga, h.gb, h.row.step hb⟩
theorem OnS.next {w0 w : World} {q j : Nat} {a b : En} {u : Value} (h : OnS w0 w q j a b u) : OnS w0 w q (j + 1) a b u := ⟨h.one, h.la, h.lb, h.ga.mono (Nat.le_succ _), h.gb.mono (Nat.le_succ _), h.row⟩
theorem row_cell {w : World} {base n c : Nat} {A : Option Addr} {xs : List Nat} (h : RowU w base (.slice A n c) xs) (i : Nat) (hi : i < xs.length) : n = xs.length ∧ ∃ ad, A = some ad ∧ w.cell? (ad.add i) = some (.int .u64 ((xs.getD i 0 : Nat) : Int)) := by
  have hl := Win.natl_length xs
  obtain ⟨hn, _, hr⟩ := Kd.R_reads' h
  rw [hl] at hn
  obtain ⟨ad, c, e, _, hK, hc⟩ := Kd.C_get hr 0 (i : Int) (by omega) (by omega)
  rw [Int.toNat_natCast] at hK hc
  obtain rfl : c = [.int .u64 ((Win.natl xs).getD i 0)] := hK
  refine ⟨hn, ad, e, ?_⟩
  have h0 := hc 0 _ rfl
  rw [show i * (Kd.int .u64).sz + 0 = i from by show i * 1 + 0 = i; omega] at h0
  rw [h0]
  congr 2
  simp [Win.natl, List.getD_eq_getElem?_getD, hi]
set_option maxHeartbeats 6400000 in
set_option maxRecDepth 100000 in
theorem once_main {w : World} (hL : Laid w) (A : Option Addr) (l : List S40) (c : Nat) (hr : Kd.C k40 w A l.length l) (hm : l.length ≤ maxLen) (hz : ∀ i, i < l.length → Sized40 (l.getD i z40)) (hs : ∀ i, i < l.length → ∃ m : Nat, (l.getD i z40).f7 = (m : Int) ∧ m < 18446744073709551616) :
    Calls Tryd.prog 4 #[.slice A l.length c] w fun e w' => e = .returned (.bool true) ∧ Below w.heap.size w w' := by
  have FW := Aside0.mk (few_walk A c l w hr hm hz)
  have HR := Aside0.mk fun (W : World) (hb : Below w.heap.size w W) => Kd.C_below hr hb
  have HS := Aside0.mk hs
  have N0 := Aside0.mk fun (W : World) (hb : Below w.heap.size w W) => one_new hL hb
  have LW := Aside0.mk life_walk
  obtain ⟨n, hn⟩ : ∃ n, l.length = n := ⟨_, rfl⟩
  have HN := Aside0.mk hn
  rw [hn] at FW HR HS hm ⊢
  clear hr hn hz hs hL
  unfold maxLen at hm
  go_enter Tryd.func4, Tryd.ntmps4
  go_wp2_with (fail)
  refine FW.out.mono ?_
  rintro e w1 ⟨⟨b1, rfl, hfew⟩, hb⟩
  have HF := Aside0.mk hfew
  have HB1 := Aside0.mk hb
  clear hb hfew
  cases b1
  · go_wp2_with (fail)
    go_ret
    exact ⟨rfl, HB1.out⟩
  have HFW := Aside0.mk (HF.out rfl)
  have hn150 : n ≤ 150 := by have := HFW.out.1; rw [HN.out] at this; exact this
  clear HF
  go_wp2_with (fail)
  refine (N0.out w1 HB1.out).mono ?_
  rintro e w2 ⟨q, rfl, _, _, h⟩
  have O2 := Aside0.mk h
  clear h
  go_wp2_with (fail)
  refine (LW.out 300 w2).mono ?_
  rintro e w3 ⟨rfl, hb⟩
  have O3 := Aside0.mk (O2.out.step hb)
  clear hb
  go_wp2_with (fail)
  refine (add_call O3.out.sad (by decide) 0 (lf 300)).mono ?_
  rintro e w4 h
  rw [ona] at h
  obtain ⟨rfl, h'⟩ := O3.out.turn h
  have O4 := Aside0.mk h'
  clear h h'
  go_wp2_with (fail)
  refine (LW.out 301 w4).mono ?_
  rintro e w5 ⟨he, hb⟩
  change e = .returned (.agg #[.int .i64 301, .string ⟨#[48, 49, 50, 51, 52, 53, 54, 55, 56, 57, 97, 98, 99, 100, 101, 102]⟩, .string ⟨#[115, 97, 108, 116]⟩, .string ⟨#[48, 49, 50, 51, 52, 53, 54, 55, 56, 57, 97, 98, 99, 100, 101, 102, 48, 49, 50, 51, 52, 53, 54, 55, 56, 57, 97, 98, 99, 100, 101, 102]⟩, .bool false, .int .i64 64, .int .i64 1, .bool true, .int .i64 10, .int .i64 0, .int .i64 0, .int .i64 0]) at he
  subst he
  have O5 := Aside0.mk (O4.out.step hb)
  clear hb
  go_wp2_with (fail)
  refine (add_call (O5.out.step (below_alloc (Below.refl _ _) _)).sad (by decide) 0 li).mono ?_
  rintro e w7 h
  rw [onb] at h
  obtain ⟨rfl, h'⟩ := (O5.out.step (below_alloc (Below.refl _ _) _)).turn h
  have S7 := Aside0.mk (show OnS w w7 q 0 on1 on2 (.slice none 0 0) from ⟨h', rfl, rfl, ong1, ong2, Kd.R_nil _ _ _ _ _⟩)
  clear h h'
  go_wp2_with (fail)
  go_loopw [7, 5, 6] (fun iv lv uv wr => ∃ (j s : Nat) (a b : En) (u : Value), j ≤ n ∧ iv = .int .i64 j ∧ lv = .int .u64 (s : Int) ∧ u = uv ∧ Aside0 (a.sent = s) ∧ Aside0 (OnS w wr q j a b u)) (fun iv _ _ _ => n - (intOf iv).toNat)
  case atStart => exact ⟨0, 0, on1, on2, _, by omega, rfl, rfl, rfl, ⟨rfl⟩, S7⟩
  case round =>
    clear S7
    obtain ⟨j, s, a, b, uv, hjn, rfl, rfl, rfl, HSE, S⟩ := hrel
    by_cases hlt : j < n
    · have hltI : (j : Int) < (n : Int) := by omega
      have hltN : decide (j < n) = true := decide_eq_true hlt
      obtain ⟨ad, hA, LD⟩ := row40 (HR.out _ S.out.one.below) j hlt
      subst hA
      obtain ⟨sq, hsq, hsq2⟩ := HS.out j hlt
      have hfw := HFW.out.2 j (by rw [HN.out]; exact hlt)
      obtain ⟨x, hx⟩ : ∃ x, l.getD j z40 = x := ⟨_, rfl⟩
      rw [hx] at LD hsq hfw
      obtain ⟨CS, hCS⟩ : ∃ CS, (enc40 x).toArray = CS := ⟨_, rfl⟩
      have H1 := Aside0.mk (show CS.all (·.oneCell') = true from by rw [← hCS]; exact one40 x)
      have HSZ := Aside0.mk (show CS.size = 20 from by rw [← hCS]; rfl)
      have HCS := Aside0.mk hCS
      have HFX := Aside0.mk hfw
      have HSQ := Aside0.mk hsq2
      have HSQ7 := Aside0.mk hsq
      rw [hCS] at LD
      have hi1 : IntKind.i64.wrap ((j : Int) + 1) = ((j + 1 : Nat) : Int) := by rw [IntWalk.i64_in _ (by omega)]; omega
      clear hx hCS hfw hsq hsq2
      go_upto_region 16 with (first | ((with_reducible refine gate_dst (N := 41) rfl ?_); refine Kd.event_run (v := .agg CS) (w1 := wr) ?hg (load_runA 40 (.tmp 40) (ad.add (j * 20)) CS ?ho ?hx LD) ?_; (case hg => rfl); (case ho => rfl); (case hx => rfl); clear LD) | ((with_reducible refine gate_dst (N := 8) rfl ?_); refine box_event ?hg (N := 8) ?hd (cs := #[.int .i64 0, .int .i64 0, .int .i64 0, .int .i64 0, .int .i64 0, .int .i64 0, .bool false, .int .u64 0, .int .i64 0, .string ByteArray.empty, .string ByteArray.empty, .string ByteArray.empty, .bool false, .int .i64 0, .int .i64 0, .bool false, .int .i64 0, .int .i64 0, .int .i64 0, .int .i64 0]) (t := 40) ?hr ?_; (case hd => rfl); (case hg => rfl); (case hr => first | (go_simp; done) | (go_simp; rfl)); intro q8 hq w1 hbox hb; have BKq8 := Aside0.mk hbox; have HQq8 := Aside0.mk (show wr.heap.size ≤ q8 from by rw [hq]; exact Nat.le_refl _); have HC1 := Aside0.mk hb; clear hbox hb hq) | ((with_reducible refine gate_store (t := 40) (p := 8) rfl ?_); refine store_rowE ?hg 40 (.tmp 8) (.tmp 41) ?ho ?hN q8 CS ?hx ?hy 40 _ BKq8.out ?hi ?hold H1.out ?_; (case hg => rfl); (case ho => rfl); (case hN => rfl); (case hx => rfl); (case hy => rfl); (case hi => rw [HSZ.out]; exact isz40); (case hold => rw [HSZ.out]; rfl); intro w2 hw; have HC2 := Aside0.mk (show Below wr.heap.size wr w2 from by rw [hw]; exact below_setRow HC1.out HQq8.out _); have BKq8 := Aside0.mk (show w2.heap[q8]? = some (.cells CS 40 (0, 0)) from by rw [hw]; exact setRow_heap _ _ _ _ _ _ BKq8.out); clear hw))
      have S2 := Aside0.mk (S.out.step HC2.out)
      have Z := Aside0.mk (fun (W : World) (hW : W.heap[q8]? = some (.cells CS 40 (0, 0))) => (show W.cell? ⟨q8, 0, none⟩ = some (.int .i64 x.f0) ∧ W.cell? ⟨q8, 1, none⟩ = some (.int .i64 x.f1) ∧ W.cell? ⟨q8, 2, none⟩ = some (.int .i64 x.f2) ∧ W.cell? ⟨q8, 4, none⟩ = some (.int .i64 x.f4) ∧ W.cell? ⟨q8, 6, none⟩ = some (.bool x.f6) ∧ W.cell? ⟨q8, 7, none⟩ = some (.int .u64 (sq : Int)) from by
        rw [← HCS.out] at hW
        exact ⟨(blk_cell hW 0).trans rfl, (blk_cell hW 1).trans rfl, (blk_cell hW 2).trans rfl, (blk_cell hW 4).trans rfl, (blk_cell hW 6).trans rfl, (blk_cell hW 7).trans (by rw [← HSQ7.out]; rfl)⟩))
      obtain ⟨x0, x1, x2, x4, x6, x7⟩ := Z.out w2 BKq8.out
      clear S
      by_cases hc4 : x.f0 = 4
      · have d4 : (x.f0 == 4) = true := by rw [beq_iff_eq]; exact hc4
        clear hc4
        rcases on_send (b := b) S2.out.la x.f1 x.f4 with ⟨cc, hcc, hS⟩ | ⟨hS, hn0, hfull⟩
        · have hccb : (cc == 0) = false := by rw [beq_eq_false_iff_ne]; exact hcc
          clear hcc
          go_wp2_with (fail)
          refine (send_call (k := j) S2.out.one.sad S2.out.one.laid (by simp) x.f1 300 x.f4 HFX.out.1 (by omega) S2.out.goods (by have := HFX.out; omega) (by have := HFX.out; omega)).mono ?_
          rintro e w3 h
          rw [hS] at h
          have S3 := Aside0.mk (show OnS w w3 q j a b uv from ⟨(S2.out.one.turn h).2, S2.out.la, S2.out.lb, S2.out.ga, S2.out.gb, S2.out.row.turn h.2.2⟩)
          have he := h.1
          change e = .returned (.tuple #[.agg #[.int .i64 0, .string ByteArray.empty, .string ByteArray.empty, .string ByteArray.empty, .bool false, .int .i64 0], .int .u64 0, .int .i64 cc]) at he
          subst he
          clear h x0 x1 x2 x4 x6 x7
          go_wp2_with (fail)
          go_roundw
          case rel => exact ⟨j + 1, s, a, b, uv, by omega, by go_num, rfl, rfl, HSE, ⟨(S3.out.step (below_alloc (Below.refl _ _) _)).next⟩⟩
          case measure => simp [intOf]; omega
        · have hgs := S2.out.ga.send hn0 HFX.out.1 hfull
          have hs64 : s + 1 < 18446744073709551616 := by have := hgs.sent; rw [← HSE.out]; exact this
          have hw1 : IntKind.u64.wrap ((s : Int) + 1) = (s : Int) + 1 := by rw [IntKind.wrap_u64]; omega
          have HGS := Aside0.mk hgs
          clear hgs hs64 hn0 hfull
          go_wp2_with (fail)
          refine (send_call (k := j) S2.out.one.sad S2.out.one.laid (by simp) x.f1 300 x.f4 HFX.out.1 (by omega) S2.out.goods (by have := HFX.out; omega) (by have := HFX.out; omega)).mono ?_
          rintro e w3 h
          rw [hS] at h
          have S3 := Aside0.mk (show OnS w w3 q (j + 1) (sendE a x.f4) b uv from ⟨(S2.out.one.turn h).2, S2.out.la, S2.out.lb, HGS.out, S2.out.gb.mono (Nat.le_succ _), S2.out.row.turn h.2.2⟩)
          have he := h.1
          rw [HSE.out] at he
          change e = .returned (.tuple #[.agg #[.int .i64 300, .string ⟨#[48, 49, 50, 51, 52, 53, 54, 55, 56, 57, 97, 98, 99, 100, 101, 102]⟩, .string ⟨#[115, 97, 108, 116]⟩, .string ⟨#[48, 49, 50, 51, 52, 53, 54, 55, 56, 57, 97, 98, 99, 100, 101, 102, 48, 49, 50, 51, 52, 53, 54, 55, 56, 57, 97, 98, 99, 100, 101, 102]⟩, .bool false, .int .i64 64], .int .u64 ((s : Int) + 1), .int .i64 0]) at he
          subst he
          clear h x0 x1 x2 x4 x6 x7
          have HSE1 := Aside0.mk (show (sendE a x.f4).sent = s + 1 from by show a.sent + 1 = s + 1; rw [HSE.out])
          go_wp2_with (fail)
          go_roundw
          case rel => exact ⟨j + 1, s + 1, _, b, uv, by omega, by go_num, by go_num, rfl, HSE1, ⟨S3.out.step (below_alloc (Below.refl _ _) _)⟩⟩
          case measure => simp [intOf]; omega
      · have d4 : (x.f0 == 4) = false := by rw [beq_eq_false_iff_ne]; exact hc4
        clear hc4
        by_cases hc5 : x.f0 < 5
        · have d5 : decide (x.f0 < 5) = true := decide_eq_true hc5
          clear hc5
          by_cases hr : x.f2 = 300 ∨ x.f2 = 301
          · have HN3 := Aside0.mk S2.out.next
            rcases hr with hr | hr
            · have e1 : (x.f2 != 300) = false := by rw [hr]; rfl
              clear hr
              go_wp2_with (fail)
              go_roundw
              case rel => exact ⟨j + 1, s, a, b, uv, by omega, by go_num, rfl, rfl, HSE, HN3⟩
              case measure => simp [intOf]; omega
            · have e1 : (x.f2 != 300) = true := by rw [hr]; rfl
              have e2 : (x.f2 != 301) = false := by rw [hr]; rfl
              clear hr
              go_wp2_with (fail)
              go_roundw
              case rel => exact ⟨j + 1, s, a, b, uv, by omega, by go_num, rfl, rfl, HSE, HN3⟩
              case measure => simp [intOf]; omega
          · have e1 : (x.f2 != 300) = true := by rw [bne_iff_ne]; omega
            have e2 : (x.f2 != 301) = true := by rw [bne_iff_ne]; omega
            have HRM := Aside0.mk (on_rem S2.out.la S2.out.lb x.f2 x.f6 (by omega) (by omega))
            clear hr
            go_wp2_with (fail)
            refine (rem_call S2.out.one.sad S2.out.one.laid (by simp) x.f2 x.f6).mono ?_
            rintro e w3 h
            rw [HRM.out] at h
            have S3 := Aside0.mk (show OnS w w3 q (j + 1) a b uv from ⟨(S2.out.one.turn h).2, S2.out.la, S2.out.lb, S2.out.ga.mono (Nat.le_succ _), S2.out.gb.mono (Nat.le_succ _), S2.out.row.turn h.2.2⟩)
            have he := h.1
            change e = .returned (.int .i64 6) at he
            subst he
            clear h x0 x1 x2 x4 x6 x7
            go_wp2_with (fail)
            go_roundw
            case rel => exact ⟨j + 1, s, a, b, uv, by omega, by go_num, rfl, rfl, HSE, S3⟩
            case measure => simp [intOf]; omega
        · have d5 : decide (x.f0 < 5) = false := decide_eq_false hc5
          clear hc5
          obtain ⟨A9, c9, hu9⟩ := Kd.R_slice S2.out.row
          rw [Win.natl_length] at hu9
          obtain ⟨nn, hnn⟩ : ∃ k, b.ns.length = k := ⟨_, rfl⟩
          have HNN := Aside0.mk hnn
          have hnn150 : nn ≤ 150 := by have := S2.out.gb.ns; omega
          rw [hnn] at hu9
          subst hu9
          clear hnn
          rcases on_take S2.out.la S2.out.lb x.f1 x.f4 sq with ⟨cc, hcc, hT⟩ | ⟨hT, hn0, hchk⟩
          · have hccb : (cc == 0) = false := by rw [beq_eq_false_iff_ne]; exact hcc
            clear hcc
            go_wp2_with (fail)
            refine (take_call (k := j) S2.out.one.sad S2.out.one.laid (by simp) x.f1 301 sq x.f4 HFX.out.1 (by omega) HSQ.out S2.out.goods (by have := HFX.out; omega) (by have := HFX.out; omega)).mono ?_
            rintro e w3 h
            rw [hT] at h
            have S3 := Aside0.mk (show OnS w w3 q (j + 1) a b (.slice A9 nn c9) from ⟨(S2.out.one.turn h).2, S2.out.la, S2.out.lb, S2.out.ga.mono (Nat.le_succ _), S2.out.gb.mono (Nat.le_succ _), S2.out.row.turn h.2.2⟩)
            have he := h.1
            change e = .returned (.int .i64 cc) at he
            subst he
            clear h x0 x1 x2 x4 x6 x7
            obtain ⟨wo, hwo⟩ : ∃ wo, wo = wr := ⟨_, rfl⟩
            subst hwo
            go_wp2_with (fail)
            go_loopw [13] (fun kv wx => ∃ y : Nat, y ≤ nn ∧ kv = .int .i64 y ∧ Aside0 (Below w3.heap.size w3 wx)) (fun kv _ => nn - (intOf kv).toNat)
            case atStart => exact ⟨0, by omega, rfl, ⟨Below.refl _ _⟩⟩
            case round =>
              obtain ⟨y, hy, rfl, BX⟩ := hrel
              by_cases hyn : y < nn
              · have hyI : (y : Int) < (nn : Int) := by omega
                have hyN : decide (y < nn) = true := decide_eq_true hyn
                have hy1 : IntKind.i64.wrap ((y : Int) + 1) = ((y + 1 : Nat) : Int) := by rw [IntWalk.i64_in _ (by omega)]; omega
                go_wp2_with (fail)
                go_quiet (fail)
                go_wp2_with (fail)
                go_roundw
                case rel => exact ⟨y + 1, by omega, by go_num, ⟨by first | exact BX.out | exact pw_below_drewN BX.out _⟩⟩
                case measure => simp [intOf]; omega
              · have hyI : ¬ (y : Int) < (nn : Int) := by omega
                have hyN : decide (y < nn) = false := decide_eq_false hyn
                go_wp2_with (fail)
                go_roundw
                case rel => exact ⟨j + 1, s, a, b, _, by omega, by go_num, rfl, rfl, HSE, ⟨S3.out.step BX.out⟩⟩
                case measure => simp [intOf]; omega
          · have hnot := chk_new S2.out.gb hchk
            have HNOT := Aside0.mk hnot
            have HGT := Aside0.mk (S2.out.gb.take hn0 HFX.out.1 HSQ.out hchk)
            clear hnot hn0 hchk
            go_wp2_with (fail)
            refine (take_call (k := j) S2.out.one.sad S2.out.one.laid (by simp) x.f1 301 sq x.f4 HFX.out.1 (by omega) HSQ.out S2.out.goods (by have := HFX.out; omega) (by have := HFX.out; omega)).mono ?_
            rintro e w3 h
            rw [hT] at h
            have O3 := Aside0.mk (S2.out.one.turn h).2
            have R3 := Aside0.mk (S2.out.row.turn h.2.2)
            have BK3 := Aside0.mk (h.2.2.keep BKq8.out (by unfold Ty.has; decide))
            have he := h.1
            change e = .returned (.int .i64 0) at he
            subst he
            have LLA := Aside0.mk S2.out.la
            have LLB := Aside0.mk S2.out.lb
            have LGA := Aside0.mk S2.out.ga
            clear h x0 x1 x2 x4 x6 x7
            obtain ⟨wo, hwo⟩ : ∃ wo, wo = wr := ⟨_, rfl⟩
            subst hwo
            go_wp2_with (fail)
            go_loopw [13] (fun kv wx => ∃ y : Nat, y ≤ nn ∧ kv = .int .i64 y ∧ Aside0 (Below w3.heap.size w3 wx)) (fun kv _ => nn - (intOf kv).toNat)
            case atStart => exact ⟨0, by omega, rfl, ⟨Below.refl _ _⟩⟩
            case round =>
              obtain ⟨y, hy, rfl, BX⟩ := hrel
              by_cases hyn : y < nn
              · have hyI : (y : Int) < (nn : Int) := by omega
                have hyN : decide (y < nn) = true := decide_eq_true hyn
                have hy1 : IntKind.i64.wrap ((y : Int) + 1) = ((y + 1 : Nat) : Int) := by rw [IntWalk.i64_in _ (by omega)]; omega
                obtain ⟨ad9, hA9, hc9⟩ := (row_cell (R3.out.step BX.out) y (by rw [HNN.out]; exact hyn)).2
                subst hA9
                obtain ⟨y0, y1, y2, y4, y6, y7⟩ := Z.out wr ((BX.out.block q8 (blk_lt BK3.out)).trans BK3.out)
                have hmem : b.ns.getD y 0 ∈ b.ns := by
                  rw [List.getD_eq_getElem?_getD, List.getElem?_eq_getElem (by rw [HNN.out]; exact hyn)]
                  exact List.getElem_mem _
                obtain ⟨z, hz⟩ : ∃ z, b.ns.getD y 0 = z := ⟨_, rfl⟩
                rw [hz] at hc9 hmem
                have hne : (((z : Nat) : Int) == ((sq : Nat) : Int)) = false := by
                  have : z ≠ sq := fun e => HNOT.out (e ▸ hmem)
                  rw [beq_eq_false_iff_ne]
                  omega
                have hneN : (z == sq) = false := by
                  have : z ≠ sq := fun e => HNOT.out (e ▸ hmem)
                  rw [beq_eq_false_iff_ne]
                  exact this
                clear hz hmem
                go_wp2_with (fail)
                go_quiet (fail)
                go_wp2_with (fail)
                go_roundw
                case rel => exact ⟨y + 1, by omega, by go_num, ⟨by first | exact BX.out | exact pw_below_drewN BX.out _⟩⟩
                case measure => simp [intOf]; omega
              · have hyI : ¬ (y : Int) < (nn : Int) := by omega
                have hyN : decide (y < nn) = false := decide_eq_false hyn
                obtain ⟨y0, y1, y2, y4, y6, y7⟩ := Z.out wr ((BX.out.block q8 (blk_lt BK3.out)).trans BK3.out)
                have HD := Aside0.mk ((O3.out.step BX.out).below)
                have RD := Aside0.mk (R3.out.step BX.out)
                have OD := Aside0.mk (O3.out.step BX.out)
                go_wp2_with (first | ((with_reducible refine gate_builtin (b := .append) (xs := #[.tmp 110, .tmp 113]) rfl ?_); at_builtin; refine Kd.R_append (Kd.int .u64) (w0 := w) w.heap.size rfl (.tmp 110) (.tmp 113) 38 37 (.int .u64 0) 8 rfl Tryd.underlying38 Win.info37 rfl (by decide) (by omega) (.slice A9 nn c9) (Win.natl b.ns) (sq : Int) [.int .u64 (sq : Int)] (fun _ => True) (fun _ => False) rfl rfl ?aP (fun _ hk => hk.elim) ?aF ?aO ?aB ?aS ?aL ?_; (case aP => exact rfl); (case aB => exact HD.out); (case aF => exact (fun k hk => trivial)); (case aO => exact RD.out); (case aS => exact HD.out.size); (case aL => have := HNN.out; rw [Win.natl_length]; omega); intro u6 w6 ho hb1 hg hat; have HO2 := Aside0.mk (show RowU w6 w.heap.size u6 (b.ns ++ [sq]) from by unfold RowU; rw [Win.natl_append]; exact ho); have O6 := Aside0.mk (OD.out.grown RD.out hg hb1); clear ho hb1 hg hat))
                have SN := Aside0.mk (show OnS w w6 q (j + 1) a (takeE b x.f4 sq) u6 from ⟨O6.out, LLA.out, LLB.out, LGA.out.mono (Nat.le_succ _), HGT.out, HO2.out⟩)
                go_roundw
                case rel => exact ⟨j + 1, s, a, _, _, by omega, by go_num, rfl, rfl, HSE, SN⟩
                case measure => simp [intOf]; omega
    · have hltI : ¬ (j : Int) < (n : Int) := by omega
      have hltN : decide (j < n) = false := decide_eq_false hlt
      have AW := Aside0.mk (awake_walk S.out.one.laid)
      go_wp2_with (fail)
      refine AW.out.mono ?_
      rintro e w8 ⟨rfl, hb⟩
      have HB8 := Aside0.mk (S.out.one.step hb).below
      clear hb
      go_wp2_with (fail)
      go_ret
      exact ⟨rfl, HB8.out⟩
end Go.Proofs.YtkmnpnbfeiobiaaDoor.Sd

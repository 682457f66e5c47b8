/- The law PmtuFloor: its plain law, its walk: for every input it answers true. (Printed in part by floor.py.) -/
import Derived.Test.YticaejoaoblcmaaDoorPmtO
namespace Go.Proofs.YticaejoaoblcmaaDoor.Pmt
open Go.RowKit Go.Maps Go.Proofs.YticaejoaoblcmaaDoorW.PrintWords Go.Proofs.YticaejoaoblcmaaDoorW.PrintLast Go.Proofs.YticaejoaoblcmaaDoorW.PrintMore Go.Proofs.YticaejoaoblcmaaDoor.PPmtuInner
set_option linter.unusedVariables false
set_option linter.unusedSimpArgs false
attribute [local go_sem] max2_int min2_int max_two min_two max_three min_three max_four min_four
/-- What is kept is no less than the least, and was told at a time that has come. -/
def Kp (L : List Ent) (now : Int) : Prop := ∀ k m a, get L k = some (m, a) → low k ≤ m ∧ 0 ≤ a ∧ a ≤ now
theorem Kp.mono {L : List Ent} {now now' : Int} (h : Kp L now) (hn : now ≤ now') : Kp L now' := fun k m a hg => by
  have := h k m a hg
  omega
theorem Kp.put {L : List Ent} {now : Int} (h : Kp L now) (h0 : 0 ≤ now) (k : ByteArray) (m : Int) (hm : low k ≤ m) : Kp (put L k m now) now := fun k' m' a' hg => by
  rw [get_put] at hg
  by_cases e : k' = k
  · subst e
    rw [if_pos rfl] at hg
    cases hg
    omega
  · rw [if_neg e] at hg
    exact h k' m' a' hg
theorem low_le (k : ByteArray) : 576 ≤ low k ∧ low k ≤ 1280 := by unfold low; split <;> omega
theorem floor_law (L : List Ent) (now : Int) (k : ByteArray) (n : Int) (hI : Kp L now) (h0 : 0 ≤ now) (h1 : now ≤ 1000000000) (hb : ¬ bad k) :
    ∃ (was r f is mm : Int) (L2 : List Ent) (before : Int), getE L now k 70000 = (was, 0) ∧ tellE L now k n = ((r, f), L2) ∧ getE L2 now k 70000 = (is, 0) ∧ getE L2 now k n = (mm, 0) ∧ getE L2 (now + 599) k 70000 = (before, 0) ∧ getE L2 (now + 600) k 70000 = (70000, 0) ∧
      low k ≤ was ∧ low k ≤ is ∧ is ≤ was ∧ mm ≤ n ∧ (f = 0 → low k ≤ r ∧ is ≤ r ∧ r ≤ max n (low k)) ∧ (f = 0 ∨ f = 7) ∧ before ≤ 70000 ∧ Kp L2 now := by
  have hl := low_le k
  have w599 : ∀ a, 0 ≤ a → a ≤ now → wrap64 (now + 599 - a) = now + 599 - a := fun a _ _ => IntWalk.wrap64_in _ (by omega)
  have w600 : ∀ a, 0 ≤ a → a ≤ now → wrap64 (now + 600 - a) = now + 600 - a := fun a _ _ => IntWalk.wrap64_in _ (by omega)
  -- what Get answers where (m, a) is kept
  have gk : ∀ (L : List Ent) (m a t link : Int), get L k = some (m, a) → getE L t k link = (if wrap64 (t - a) < 600 then min link m else link, 0) := fun L m a t link h => by
    unfold getE
    rw [if_neg hb, h]
    simp only
    split <;> rfl
  have gn : ∀ (L : List Ent) (t link : Int), get L k = none → getE L t k link = (link, 0) := fun L t link h => by
    unfold getE
    rw [if_neg hb, h]
  cases hg : get L k with
  | none =>
    by_cases hf : 64 ≤ L.length
    · have ht : tellE L now k n = ((0, 7), L) := by unfold tellE; rw [if_neg hb, hg]; simp only; rw [if_pos hf]
      refine ⟨_, _, _, _, _, _, _, gn _ _ _ hg, ht, gn _ _ _ hg, gn _ _ _ hg, gn _ _ _ hg, gn _ _ _ hg, by omega, by omega, by omega, by omega, (fun h => by cases h), Or.inr rfl, by omega, hI⟩
    · have ht : tellE L now k n = ((max n (low k), 0), put L k (max n (low k)) now) := by unfold tellE; rw [if_neg hb, hg]; simp only; rw [if_neg hf]
      have hp : get (put L k (max n (low k)) now) k = some (max n (low k), now) := by rw [get_put, if_pos rfl]
      have hK := hI.put h0 k (max n (low k)) (by omega)
      generalize put L k (max n (low k)) now = L2 at ht hp hK
      have e0 := wrap_self now
      have e1 := w599 now h0 (by omega)
      have e2 := w600 now h0 (by omega)
      refine ⟨_, _, _, _, _, _, _, gn _ _ _ hg, ht, gk _ _ _ _ _ hp, gk _ _ _ _ _ hp, gk _ _ _ _ _ hp, (gk _ _ _ _ _ hp).trans ?_, ?_, ?_, ?_, ?_, ?_, Or.inl rfl, ?_, hK⟩
      · rw [e2, if_neg (by omega)]
      all_goals (first | (rw [e0]) | skip)
      all_goals (first | (rw [e1]) | skip)
      all_goals (first | (intro _; refine ⟨?_, ?_, ?_⟩) | skip)
      all_goals (first | omega | (split <;> omega))
  | some x =>
    obtain ⟨m, a⟩ := x
    obtain ⟨i1, i2, i3⟩ := hI k m a hg
    have wd : wrap64 (now - a) = now - a := IntWalk.wrap64_in _ (by omega)
    by_cases hk : wrap64 (now - a) < 600 ∧ m ≤ max n (low k)
    · have ht : tellE L now k n = ((m, 0), L) := by unfold tellE; rw [if_neg hb, hg]; simp only; rw [if_pos hk]
      have e1 := w599 a i2 i3
      have e2 := w600 a i2 i3
      rw [wd] at hk
      refine ⟨_, _, _, _, _, _, _, gk _ _ _ _ _ hg, ht, gk _ _ _ _ _ hg, gk _ _ _ _ _ hg, gk _ _ _ _ _ hg, (gk _ _ _ _ _ hg).trans ?_, ?_, ?_, ?_, ?_, ?_, Or.inl rfl, ?_, hI⟩
      · rw [e2, if_neg (by omega)]
      all_goals (first | (rw [wd]) | skip)
      all_goals (first | (rw [e1]) | skip)
      all_goals (first | (intro _; refine ⟨?_, ?_, ?_⟩) | skip)
      all_goals (first | omega | (split <;> omega))
    · have ht : tellE L now k n = ((max n (low k), 0), put L k (max n (low k)) now) := by unfold tellE; rw [if_neg hb, hg]; simp only; rw [if_neg hk]
      have hp : get (put L k (max n (low k)) now) k = some (max n (low k), now) := by rw [get_put, if_pos rfl]
      have hK := hI.put h0 k (max n (low k)) (by omega)
      generalize put L k (max n (low k)) now = L2 at ht hp hK
      have e0 := wrap_self now
      have e1 := w599 now h0 (by omega)
      have e2 := w600 now h0 (by omega)
      rw [wd] at hk
      refine ⟨_, _, _, _, _, _, _, gk _ _ _ _ _ hg, ht, gk _ _ _ _ _ hp, gk _ _ _ _ _ hp, gk _ _ _ _ _ hp, (gk _ _ _ _ _ hp).trans ?_, ?_, ?_, ?_, ?_, ?_, Or.inl rfl, ?_, hK⟩
      · rw [e2, if_neg (by omega)]
      all_goals (first | (rw [wd]) | skip)
      all_goals (first | (rw [e0]) | skip)
      all_goals (first | (rw [e1]) | skip)
      all_goals (first | (intro _; refine ⟨?_, ?_, ?_⟩) | skip)
      all_goals (first | omega | (split <;> omega) | (split <;> split <;> omega))
theorem op_stored {w0 w3 : World} {q : Nat} (hb : w3.heap[q]? = some (.cells #[.int .i64 0, .int .i64 0, .string ByteArray.empty, .bool false] 27 (0, 0))) (h : Below w0.heap.size w0 w3) (hq : w0.heap.size ≤ q) (t n : Int) (k : ByteArray) (gt : Bool) :
    ((((w3.setCell ⟨q, 0, none⟩ (.int .i64 t)).setCell ⟨q, 1, none⟩ (.int .i64 n)).setCell ⟨q, 2, none⟩ (.string k)).setCell ⟨q, 3, none⟩ (.bool gt)).heap[q]? = some (.cells #[.int .i64 t, .int .i64 n, .string k, .bool gt] 27 (0, 0)) ∧
    Below w0.heap.size w0 ((((w3.setCell ⟨q, 0, none⟩ (.int .i64 t)).setCell ⟨q, 1, none⟩ (.int .i64 n)).setCell ⟨q, 2, none⟩ (.string k)).setCell ⟨q, 3, none⟩ (.bool gt)) :=
  ⟨(blk_set ((blk_set ((blk_set ((blk_set hb 0 _).trans rfl) 1 _).trans rfl) 2 _).trans rfl) 3 _).trans rfl, Below.setCell (Below.setCell (Below.setCell (Below.setCell h hq _) hq _) hq _) hq _⟩
set_option maxHeartbeats 8000000 in
set_option maxRecDepth 100000 in
theorem floor_main (A : Option Addr) (l : List Op) (c : Nat) (w : World) (h : Heads w) (hr : ReadsOps w A l) (hfew : fewE l = true) (hsize : ∀ o ∈ l, o.dst.size ≤ 140737488351232) :
    Calls Tryd.prog 3 #[.slice A l.length c] w fun e w' => e = .returned (.bool true) ∧ Below w.heap.size w w' := by
  have FW := Aside0.mk (few_walk A l c w hr)
  rw [hfew] at FW
  have NW := Aside0.mk fun m => Cach.new (w.drewN m)
  have AW := Aside0.mk fun (W : World) (g b : Nat) (L : List Ent) (hc : Cach w W g b L) => hc.awake h
  obtain ⟨N, hN⟩ : ∃ N, l.length = N := ⟨_, rfl⟩
  have HN := Aside0.mk hN
  have R := Aside0.mk hr
  have HALL := Aside0.mk hfew
  have HSZ := Aside0.mk hsize
  rw [hN] at FW ⊢
  have h150 : N ≤ 150 := by
    rw [← hN]
    unfold fewE at hfew
    rw [Bool.and_eq_true] at hfew
    exact of_decide_eq_true hfew.1
  clear h hr hN hfew hsize
  go_enter Tryd.func3, Tryd.ntmps3
  go_wp2_with (first | (go_at_call 7; refine FW.out.mono ?_; rintro e w1 ⟨rfl, m0, rfl⟩) | (go_at_call 8; refine (NW.out _).mono ?_; rintro e w1 ⟨g, b, rfl, hg, hc⟩; have HC1 := Aside0.mk (show Cach w w1 g b [] from ⟨hc.at_, (pw_below_drewN (Below.refl w.heap.size w) m0).trans hc.below, hc.hb⟩); clear hc hg))
  go_loopw [4, 5] (fun nv i wr => ∃ (j : Nat) (nw : Int) (L : List Ent), j ≤ N ∧ i = .int .i64 j ∧ nv = .int .i64 nw ∧ Aside0 (0 ≤ nw ∧ nw ≤ 1000000000) ∧ Aside0 (Cach w wr g b L) ∧ Aside0 (Kp L nw)) (fun _ i _ => N - (intOf i).toNat)
  case atStart => exact ⟨0, 0, [], by omega, rfl, rfl, Aside0.mk (by omega), HC1, Aside0.mk (fun k m a hg => by simp [Pmt.get] at hg)⟩
  case round =>
    clear HC1
    obtain ⟨j, nw, L, hj, rfl, rfl, HNW, HC, HI⟩ := hrel
    by_cases hjl : j < N
    · have hd : decide ((j : Int) < (N : Int)) = true := by simp; omega
      obtain ⟨ad, rfl, ho⟩ := R.out j (by rw [HN.out]; exact hjl)
      have hmem : l.getD j default ∈ l := by
        have hjn : j < l.length := by rw [HN.out]; exact hjl
        rw [List.getD_eq_getElem?_getD, List.getElem?_eq_getElem hjn]
        exact List.getElem_mem hjn
      have hsz0 := HSZ.out _ hmem
      have hok0 : okOp (l.getD j default) = true := by
        have := HALL.out
        unfold fewE at this
        rw [Bool.and_eq_true, List.all_eq_true] at this
        exact this.2 _ hmem
      have ho2 := ho.below HC.out.below
      obtain ⟨o, heo⟩ : ∃ o, l.getD j default = o := ⟨_, rfl⟩
      rw [heo] at ho2 hsz0 hok0
      clear ho heo hmem
      obtain ⟨t, n, k, gt⟩ := o
      have h0 := ho2.c0
      have h1 := ho2.c1
      have h2 := ho2.c2
      have h3 := ho2.c3
      simp only at h0 h1 h2 h3 hsz0
      have hok : ¬ 300 < k.size ∧ ¬ t < -1000000000 ∧ ¬ 1000000000 < t := by
        simpa [okOp, and_assoc] using hok0
      have hks : k.size ≤ maxLen := Nat.le_trans (Nat.le_of_not_lt hok.1) (by decide)
      clear ho2 hok0 hsz0
      obtain ⟨nw2, hmx, hle, n0, n1⟩ : ∃ nw2, (if nw < t then t else nw) = nw2 ∧ nw ≤ nw2 ∧ 0 ≤ nw2 ∧ nw2 ≤ 1000000000 := by
        have := HNW.out
        refine ⟨_, rfl, ?_, ?_, ?_⟩ <;> split <;> omega
      have hI2 := HI.out.mono hle
      clear hok hle HI HNW
      rcases (show k.size = 4 ∨ k.size = 16 ∨ bad k by unfold bad; omega) with hsz | hsz | hsz
      · have e4 : ((k.size : Int) == 4) = true := by simp; omega
        have e4n : ((k.size : Int) != 4) = false := by simp [bne]; omega
        have e16n : ((k.size : Int) != 16) = true := by simp [bne]; omega
        have hlo : low k = 576 := by unfold low; rw [if_pos hsz]
        obtain ⟨was, r, f, is, mm, L2, before, g1, t1, g2, g3, g4, g5, p1, p2, p3, p4, p5, p6, p7, p8⟩ := floor_law L nw2 k n hI2 n0 n1 (by unfold bad; omega)
        have G1 := Aside0.mk fun (W : World) (hc : Cach w W g b L) => hc.get nw2 k hks 70000
        have T1 := Aside0.mk fun (W : World) (hc : Cach w W g b L) => hc.tell nw2 k hks n
        have G2 := Aside0.mk fun (W : World) (hc : Cach w W g b L2) => hc.get nw2 k hks 70000
        have G3 := Aside0.mk fun (W : World) (hc : Cach w W g b L2) => hc.get nw2 k hks n
        have G4 := Aside0.mk fun (W : World) (hc : Cach w W g b L2) => hc.get (nw2 + 599) k hks 70000
        have G5 := Aside0.mk fun (W : World) (hc : Cach w W g b L2) => hc.get (nw2 + 600) k hks 70000
        rw [g1] at G1
        rw [t1] at T1
        rw [g2] at G2
        rw [g3] at G3
        rw [g4] at G4
        rw [g5] at G5
        rw [hlo] at p1 p2 p5
        have d1 : decide (was < 576) = false := decide_eq_false (by omega)
        have d2 : decide (is < 576) = false := decide_eq_false (by omega)
        have d3 : decide (was < is) = false := decide_eq_false (by omega)
        have d4 : decide (n < mm) = false := decide_eq_false (by omega)
        have d5 : decide (70000 < before) = false := decide_eq_false (by omega)
        have a1 : wrap64 (nw2 + 600) = nw2 + 600 := IntWalk.wrap64_in _ (by omega)
        have a2 : wrap64 (nw2 + 600 - 1) = nw2 + 599 := by rw [IntWalk.wrap64_in _ (by omega)]; omega
        have HP5 := Aside0.mk p5
        have HP6 := Aside0.mk p6
        have HP8 := Aside0.mk p8
        have HR := Aside0.mk (And.intro n0 n1)
        clear g1 t1 g2 g3 g4 g5 p1 p2 p3 p4 p5 p6 p7 p8 hlo n0 n1 hI2 hks hsz
        go_wp2_with (first | ((with_reducible refine gate_dst (N := 6) rfl ?_); refine box_event ?hg (N := 6) ?hd (cs := #[.int .i64 0, .int .i64 0, .string ByteArray.empty, .bool false]) (t := 27) ?hr ?_; (case hd => rfl); (case hg => rfl); (case hr => first | (go_simp; done) | (go_simp; rfl)); intro q hq w3 hbox hb3; have BK := Aside0.mk hbox; have HB3 := Aside0.mk hb3; have HQ := Aside0.mk hq; clear hbox hb3 hq) | ((with_reducible refine gate_store (t := 27) (p := 6) rfl ?_); have hz0 : w3.cell? ⟨q, 0, none⟩ = some (.int .i64 0) := (blk_cell BK.out 0).trans rfl; have hz1 : w3.cell? ⟨q, 1, none⟩ = some (.int .i64 0) := (blk_cell BK.out 1).trans rfl; have hz2 : w3.cell? ⟨q, 2, none⟩ = some (.string ByteArray.empty) := (blk_cell BK.out 2).trans rfl; have hz3 : w3.cell? ⟨q, 3, none⟩ = some (.bool false) := (blk_cell BK.out 3).trans rfl; have hf0 := blk_frozen BK.out 0; have hf1 := blk_frozen BK.out 1; have hf2 := blk_frozen BK.out 2; have hf3 := blk_frozen BK.out 3; refine store_event (t := 27) (p := 6) (v := ?vo) (w1 := (((w3.setCell ⟨q, 0, none⟩ (.int .i64 t)).setCell ⟨q, 1, none⟩ (.int .i64 n)).setCell ⟨q, 2, none⟩ (.string k)).setCell ⟨q, 3, none⟩ (.bool gt)) ?hg ?ho ?hn ?hr ?_; (case ho => rfl); (case hg => rfl); (case hn => rfl); (case hr => first | (go_simp; done) | (go_simp; rfl)); intro w4 hw; have HX4 := Aside0.mk (show w4.heap[q]? = some (.cells #[.int .i64 t, .int .i64 n, .string k, .bool gt] 27 (0, 0)) ∧ Below wr.heap.size wr w4 from by rw [hw]; exact op_stored BK.out HB3.out (by rw [HQ.out]; exact Nat.le_refl _) t n k gt); have HC4 := Aside0.mk (HC.out.below_ HX4.out.2); have HQB := Aside0.mk (show q ≠ b by rw [HQ.out]; exact fun e => absurd HC.out.at_.lb (by rw [← e]; exact Nat.lt_irrefl _)); clear hw hz0 hz1 hz2 hz3 hf0 hf1 hf2 hf3; have hq1 : w4.cell? ⟨q, 1, none⟩ = some (.int .i64 n) := (blk_cell HX4.out.1 1).trans rfl; have hq0 : w4.cell? ⟨q, 0, none⟩ = some (.int .i64 t) := (blk_cell HX4.out.1 0).trans rfl; have hq2 : w4.cell? ⟨q, 2, none⟩ = some (.string k) := (blk_cell HX4.out.1 2).trans rfl; have HK4 := Aside0.mk HX4.out.1))
        refine (G1.out _ HC4.out).mono ?_
        rintro e w5 ⟨rfl, hc, hb⟩
        have HC5 := Aside0.mk hc
        have HK5 := Aside0.mk (blk_below HK4.out hb)
        clear hc hb hq0 hq1 hq2
        have hq0 : w5.cell? ⟨q, 0, none⟩ = some (.int .i64 t) := (blk_cell HK5.out 0).trans rfl
        have hq1 : w5.cell? ⟨q, 1, none⟩ = some (.int .i64 n) := (blk_cell HK5.out 1).trans rfl
        have hq2 : w5.cell? ⟨q, 2, none⟩ = some (.string k) := (blk_cell HK5.out 2).trans rfl
        go_wp2_with (fail)
        refine (T1.out _ HC5.out).mono ?_
        rintro e w6 ⟨rfl, hc, hs⟩
        have HC6 := Aside0.mk hc
        have HK6 := Aside0.mk (blk_kept HK5.out hs.k HQB.out)
        clear hc hs hq0 hq1 hq2
        have hq0 : w6.cell? ⟨q, 0, none⟩ = some (.int .i64 t) := (blk_cell HK6.out 0).trans rfl
        have hq1 : w6.cell? ⟨q, 1, none⟩ = some (.int .i64 n) := (blk_cell HK6.out 1).trans rfl
        have hq2 : w6.cell? ⟨q, 2, none⟩ = some (.string k) := (blk_cell HK6.out 2).trans rfl
        go_wp2_with (fail)
        refine (G2.out _ HC6.out).mono ?_
        rintro e w7 ⟨rfl, hc, hb⟩
        have HC7 := Aside0.mk hc
        have HK7 := Aside0.mk (blk_below HK6.out hb)
        clear hc hb hq0 hq1 hq2
        have hq0 : w7.cell? ⟨q, 0, none⟩ = some (.int .i64 t) := (blk_cell HK7.out 0).trans rfl
        have hq1 : w7.cell? ⟨q, 1, none⟩ = some (.int .i64 n) := (blk_cell HK7.out 1).trans rfl
        have hq2 : w7.cell? ⟨q, 2, none⟩ = some (.string k) := (blk_cell HK7.out 2).trans rfl
        go_wp2_with (fail)
        refine (G3.out _ HC7.out).mono ?_
        rintro e w8 ⟨rfl, hc, hb⟩
        have HC8 := Aside0.mk hc
        have HK8 := Aside0.mk (blk_below HK7.out hb)
        clear hc hb hq0 hq1 hq2
        have hq0 : w8.cell? ⟨q, 0, none⟩ = some (.int .i64 t) := (blk_cell HK8.out 0).trans rfl
        have hq1 : w8.cell? ⟨q, 1, none⟩ = some (.int .i64 n) := (blk_cell HK8.out 1).trans rfl
        have hq2 : w8.cell? ⟨q, 2, none⟩ = some (.string k) := (blk_cell HK8.out 2).trans rfl
        rcases HP6.out with rfl | rfl
        · obtain ⟨p51, p52, p53⟩ := HP5.out rfl
          have b1 : decide (r < 576) = false := decide_eq_false (by omega)
          have b2 : decide (r < is) = false := decide_eq_false (by omega)
          obtain ⟨mx, hmx⟩ : ∃ mx, (if n < 576 then (576 : Int) else n) = mx := ⟨_, rfl⟩
          have b3 : decide (mx < r) = false := decide_eq_false (by omega)
          clear p51 p52 p53
          go_wp2_with (fail)
          refine (G4.out _ HC8.out).mono ?_
          rintro e w9 ⟨rfl, hc, hb⟩
          have HC9 := Aside0.mk hc
          have HK9 := Aside0.mk (blk_below HK8.out hb)
          clear hc hb hq0 hq1 hq2
          have hq0 : w9.cell? ⟨q, 0, none⟩ = some (.int .i64 t) := (blk_cell HK9.out 0).trans rfl
          have hq1 : w9.cell? ⟨q, 1, none⟩ = some (.int .i64 n) := (blk_cell HK9.out 1).trans rfl
          have hq2 : w9.cell? ⟨q, 2, none⟩ = some (.string k) := (blk_cell HK9.out 2).trans rfl
          go_wp2_with (fail)
          refine (G5.out _ HC9.out).mono ?_
          rintro e w10 ⟨rfl, hc, hb⟩
          have HC10 := Aside0.mk hc
          have HK10 := Aside0.mk (blk_below HK9.out hb)
          clear hc hb hq0 hq1 hq2
          have hq0 : w10.cell? ⟨q, 0, none⟩ = some (.int .i64 t) := (blk_cell HK10.out 0).trans rfl
          have hq1 : w10.cell? ⟨q, 1, none⟩ = some (.int .i64 n) := (blk_cell HK10.out 1).trans rfl
          have hq2 : w10.cell? ⟨q, 2, none⟩ = some (.string k) := (blk_cell HK10.out 2).trans rfl
          go_wp2_with (fail)
          go_round
          case rel => exact ⟨j + 1, nw2, L2, hjl, by go_num, rfl, HR, HC10, HP8⟩
          case measure => simp [intOf]; omega
        · go_wp2_with (fail)
          refine (G4.out _ HC8.out).mono ?_
          rintro e w9 ⟨rfl, hc, hb⟩
          have HC9 := Aside0.mk hc
          have HK9 := Aside0.mk (blk_below HK8.out hb)
          clear hc hb hq0 hq1 hq2
          have hq0 : w9.cell? ⟨q, 0, none⟩ = some (.int .i64 t) := (blk_cell HK9.out 0).trans rfl
          have hq1 : w9.cell? ⟨q, 1, none⟩ = some (.int .i64 n) := (blk_cell HK9.out 1).trans rfl
          have hq2 : w9.cell? ⟨q, 2, none⟩ = some (.string k) := (blk_cell HK9.out 2).trans rfl
          go_wp2_with (fail)
          refine (G5.out _ HC9.out).mono ?_
          rintro e w10 ⟨rfl, hc, hb⟩
          have HC10 := Aside0.mk hc
          have HK10 := Aside0.mk (blk_below HK9.out hb)
          clear hc hb hq0 hq1 hq2
          have hq0 : w10.cell? ⟨q, 0, none⟩ = some (.int .i64 t) := (blk_cell HK10.out 0).trans rfl
          have hq1 : w10.cell? ⟨q, 1, none⟩ = some (.int .i64 n) := (blk_cell HK10.out 1).trans rfl
          have hq2 : w10.cell? ⟨q, 2, none⟩ = some (.string k) := (blk_cell HK10.out 2).trans rfl
          go_wp2_with (fail)
          go_round
          case rel => exact ⟨j + 1, nw2, L2, hjl, by go_num, rfl, HR, HC10, HP8⟩
          case measure => simp [intOf]; omega
      · have e4 : ((k.size : Int) == 4) = false := by simp; omega
        have e4n : ((k.size : Int) != 4) = true := by simp [bne]; omega
        have e16n : ((k.size : Int) != 16) = false := by simp [bne]; omega
        have hlo : low k = 1280 := by unfold low; rw [if_neg (by omega)]
        obtain ⟨was, r, f, is, mm, L2, before, g1, t1, g2, g3, g4, g5, p1, p2, p3, p4, p5, p6, p7, p8⟩ := floor_law L nw2 k n hI2 n0 n1 (by unfold bad; omega)
        have G1 := Aside0.mk fun (W : World) (hc : Cach w W g b L) => hc.get nw2 k hks 70000
        have T1 := Aside0.mk fun (W : World) (hc : Cach w W g b L) => hc.tell nw2 k hks n
        have G2 := Aside0.mk fun (W : World) (hc : Cach w W g b L2) => hc.get nw2 k hks 70000
        have G3 := Aside0.mk fun (W : World) (hc : Cach w W g b L2) => hc.get nw2 k hks n
        have G4 := Aside0.mk fun (W : World) (hc : Cach w W g b L2) => hc.get (nw2 + 599) k hks 70000
        have G5 := Aside0.mk fun (W : World) (hc : Cach w W g b L2) => hc.get (nw2 + 600) k hks 70000
        rw [g1] at G1
        rw [t1] at T1
        rw [g2] at G2
        rw [g3] at G3
        rw [g4] at G4
        rw [g5] at G5
        rw [hlo] at p1 p2 p5
        have d1 : decide (was < 1280) = false := decide_eq_false (by omega)
        have d2 : decide (is < 1280) = false := decide_eq_false (by omega)
        have d3 : decide (was < is) = false := decide_eq_false (by omega)
        have d4 : decide (n < mm) = false := decide_eq_false (by omega)
        have d5 : decide (70000 < before) = false := decide_eq_false (by omega)
        have a1 : wrap64 (nw2 + 600) = nw2 + 600 := IntWalk.wrap64_in _ (by omega)
        have a2 : wrap64 (nw2 + 600 - 1) = nw2 + 599 := by rw [IntWalk.wrap64_in _ (by omega)]; omega
        have HP5 := Aside0.mk p5
        have HP6 := Aside0.mk p6
        have HP8 := Aside0.mk p8
        have HR := Aside0.mk (And.intro n0 n1)
        clear g1 t1 g2 g3 g4 g5 p1 p2 p3 p4 p5 p6 p7 p8 hlo n0 n1 hI2 hks hsz
        go_wp2_with (first | ((with_reducible refine gate_dst (N := 6) rfl ?_); refine box_event ?hg (N := 6) ?hd (cs := #[.int .i64 0, .int .i64 0, .string ByteArray.empty, .bool false]) (t := 27) ?hr ?_; (case hd => rfl); (case hg => rfl); (case hr => first | (go_simp; done) | (go_simp; rfl)); intro q hq w3 hbox hb3; have BK := Aside0.mk hbox; have HB3 := Aside0.mk hb3; have HQ := Aside0.mk hq; clear hbox hb3 hq) | ((with_reducible refine gate_store (t := 27) (p := 6) rfl ?_); have hz0 : w3.cell? ⟨q, 0, none⟩ = some (.int .i64 0) := (blk_cell BK.out 0).trans rfl; have hz1 : w3.cell? ⟨q, 1, none⟩ = some (.int .i64 0) := (blk_cell BK.out 1).trans rfl; have hz2 : w3.cell? ⟨q, 2, none⟩ = some (.string ByteArray.empty) := (blk_cell BK.out 2).trans rfl; have hz3 : w3.cell? ⟨q, 3, none⟩ = some (.bool false) := (blk_cell BK.out 3).trans rfl; have hf0 := blk_frozen BK.out 0; have hf1 := blk_frozen BK.out 1; have hf2 := blk_frozen BK.out 2; have hf3 := blk_frozen BK.out 3; refine store_event (t := 27) (p := 6) (v := ?vo) (w1 := (((w3.setCell ⟨q, 0, none⟩ (.int .i64 t)).setCell ⟨q, 1, none⟩ (.int .i64 n)).setCell ⟨q, 2, none⟩ (.string k)).setCell ⟨q, 3, none⟩ (.bool gt)) ?hg ?ho ?hn ?hr ?_; (case ho => rfl); (case hg => rfl); (case hn => rfl); (case hr => first | (go_simp; done) | (go_simp; rfl)); intro w4 hw; have HX4 := Aside0.mk (show w4.heap[q]? = some (.cells #[.int .i64 t, .int .i64 n, .string k, .bool gt] 27 (0, 0)) ∧ Below wr.heap.size wr w4 from by rw [hw]; exact op_stored BK.out HB3.out (by rw [HQ.out]; exact Nat.le_refl _) t n k gt); have HC4 := Aside0.mk (HC.out.below_ HX4.out.2); have HQB := Aside0.mk (show q ≠ b by rw [HQ.out]; exact fun e => absurd HC.out.at_.lb (by rw [← e]; exact Nat.lt_irrefl _)); clear hw hz0 hz1 hz2 hz3 hf0 hf1 hf2 hf3; have hq1 : w4.cell? ⟨q, 1, none⟩ = some (.int .i64 n) := (blk_cell HX4.out.1 1).trans rfl; have hq0 : w4.cell? ⟨q, 0, none⟩ = some (.int .i64 t) := (blk_cell HX4.out.1 0).trans rfl; have hq2 : w4.cell? ⟨q, 2, none⟩ = some (.string k) := (blk_cell HX4.out.1 2).trans rfl; have HK4 := Aside0.mk HX4.out.1))
        refine (G1.out _ HC4.out).mono ?_
        rintro e w5 ⟨rfl, hc, hb⟩
        have HC5 := Aside0.mk hc
        have HK5 := Aside0.mk (blk_below HK4.out hb)
        clear hc hb hq0 hq1 hq2
        have hq0 : w5.cell? ⟨q, 0, none⟩ = some (.int .i64 t) := (blk_cell HK5.out 0).trans rfl
        have hq1 : w5.cell? ⟨q, 1, none⟩ = some (.int .i64 n) := (blk_cell HK5.out 1).trans rfl
        have hq2 : w5.cell? ⟨q, 2, none⟩ = some (.string k) := (blk_cell HK5.out 2).trans rfl
        go_wp2_with (fail)
        refine (T1.out _ HC5.out).mono ?_
        rintro e w6 ⟨rfl, hc, hs⟩
        have HC6 := Aside0.mk hc
        have HK6 := Aside0.mk (blk_kept HK5.out hs.k HQB.out)
        clear hc hs hq0 hq1 hq2
        have hq0 : w6.cell? ⟨q, 0, none⟩ = some (.int .i64 t) := (blk_cell HK6.out 0).trans rfl
        have hq1 : w6.cell? ⟨q, 1, none⟩ = some (.int .i64 n) := (blk_cell HK6.out 1).trans rfl
        have hq2 : w6.cell? ⟨q, 2, none⟩ = some (.string k) := (blk_cell HK6.out 2).trans rfl
        go_wp2_with (fail)
        refine (G2.out _ HC6.out).mono ?_
        rintro e w7 ⟨rfl, hc, hb⟩
        have HC7 := Aside0.mk hc
        have HK7 := Aside0.mk (blk_below HK6.out hb)
        clear hc hb hq0 hq1 hq2
        have hq0 : w7.cell? ⟨q, 0, none⟩ = some (.int .i64 t) := (blk_cell HK7.out 0).trans rfl
        have hq1 : w7.cell? ⟨q, 1, none⟩ = some (.int .i64 n) := (blk_cell HK7.out 1).trans rfl
        have hq2 : w7.cell? ⟨q, 2, none⟩ = some (.string k) := (blk_cell HK7.out 2).trans rfl
        go_wp2_with (fail)
        refine (G3.out _ HC7.out).mono ?_
        rintro e w8 ⟨rfl, hc, hb⟩
        have HC8 := Aside0.mk hc
        have HK8 := Aside0.mk (blk_below HK7.out hb)
        clear hc hb hq0 hq1 hq2
        have hq0 : w8.cell? ⟨q, 0, none⟩ = some (.int .i64 t) := (blk_cell HK8.out 0).trans rfl
        have hq1 : w8.cell? ⟨q, 1, none⟩ = some (.int .i64 n) := (blk_cell HK8.out 1).trans rfl
        have hq2 : w8.cell? ⟨q, 2, none⟩ = some (.string k) := (blk_cell HK8.out 2).trans rfl
        rcases HP6.out with rfl | rfl
        · obtain ⟨p51, p52, p53⟩ := HP5.out rfl
          have b1 : decide (r < 1280) = false := decide_eq_false (by omega)
          have b2 : decide (r < is) = false := decide_eq_false (by omega)
          obtain ⟨mx, hmx⟩ : ∃ mx, (if n < 1280 then (1280 : Int) else n) = mx := ⟨_, rfl⟩
          have b3 : decide (mx < r) = false := decide_eq_false (by omega)
          clear p51 p52 p53
          go_wp2_with (fail)
          refine (G4.out _ HC8.out).mono ?_
          rintro e w9 ⟨rfl, hc, hb⟩
          have HC9 := Aside0.mk hc
          have HK9 := Aside0.mk (blk_below HK8.out hb)
          clear hc hb hq0 hq1 hq2
          have hq0 : w9.cell? ⟨q, 0, none⟩ = some (.int .i64 t) := (blk_cell HK9.out 0).trans rfl
          have hq1 : w9.cell? ⟨q, 1, none⟩ = some (.int .i64 n) := (blk_cell HK9.out 1).trans rfl
          have hq2 : w9.cell? ⟨q, 2, none⟩ = some (.string k) := (blk_cell HK9.out 2).trans rfl
          go_wp2_with (fail)
          refine (G5.out _ HC9.out).mono ?_
          rintro e w10 ⟨rfl, hc, hb⟩
          have HC10 := Aside0.mk hc
          have HK10 := Aside0.mk (blk_below HK9.out hb)
          clear hc hb hq0 hq1 hq2
          have hq0 : w10.cell? ⟨q, 0, none⟩ = some (.int .i64 t) := (blk_cell HK10.out 0).trans rfl
          have hq1 : w10.cell? ⟨q, 1, none⟩ = some (.int .i64 n) := (blk_cell HK10.out 1).trans rfl
          have hq2 : w10.cell? ⟨q, 2, none⟩ = some (.string k) := (blk_cell HK10.out 2).trans rfl
          go_wp2_with (fail)
          go_round
          case rel => exact ⟨j + 1, nw2, L2, hjl, by go_num, rfl, HR, HC10, HP8⟩
          case measure => simp [intOf]; omega
        · go_wp2_with (fail)
          refine (G4.out _ HC8.out).mono ?_
          rintro e w9 ⟨rfl, hc, hb⟩
          have HC9 := Aside0.mk hc
          have HK9 := Aside0.mk (blk_below HK8.out hb)
          clear hc hb hq0 hq1 hq2
          have hq0 : w9.cell? ⟨q, 0, none⟩ = some (.int .i64 t) := (blk_cell HK9.out 0).trans rfl
          have hq1 : w9.cell? ⟨q, 1, none⟩ = some (.int .i64 n) := (blk_cell HK9.out 1).trans rfl
          have hq2 : w9.cell? ⟨q, 2, none⟩ = some (.string k) := (blk_cell HK9.out 2).trans rfl
          go_wp2_with (fail)
          refine (G5.out _ HC9.out).mono ?_
          rintro e w10 ⟨rfl, hc, hb⟩
          have HC10 := Aside0.mk hc
          have HK10 := Aside0.mk (blk_below HK9.out hb)
          clear hc hb hq0 hq1 hq2
          have hq0 : w10.cell? ⟨q, 0, none⟩ = some (.int .i64 t) := (blk_cell HK10.out 0).trans rfl
          have hq1 : w10.cell? ⟨q, 1, none⟩ = some (.int .i64 n) := (blk_cell HK10.out 1).trans rfl
          have hq2 : w10.cell? ⟨q, 2, none⟩ = some (.string k) := (blk_cell HK10.out 2).trans rfl
          go_wp2_with (fail)
          go_round
          case rel => exact ⟨j + 1, nw2, L2, hjl, by go_num, rfl, HR, HC10, HP8⟩
          case measure => simp [intOf]; omega
      · have hbad : bad k := hsz
        unfold bad at hsz
        have e4 : ((k.size : Int) == 4) = false := by simp; omega
        have e4n : ((k.size : Int) != 4) = true := by simp [bne]; omega
        have e16n : ((k.size : Int) != 16) = true := by simp [bne]; omega
        have G1 := Aside0.mk fun (W : World) (hc : Cach w W g b L) => hc.get nw2 k hks 70000
        have T1 := Aside0.mk fun (W : World) (hc : Cach w W g b L) => hc.tell nw2 k hks n
        have G3 := Aside0.mk fun (W : World) (hc : Cach w W g b L) => hc.get nw2 k hks n
        rw [show getE L nw2 k 70000 = (0, 1) from if_pos hbad] at G1
        rw [show tellE L nw2 k n = ((0, 1), L) from if_pos hbad] at T1
        rw [show getE L nw2 k n = (0, 1) from if_pos hbad] at G3
        have HR := Aside0.mk (And.intro n0 n1)
        have HI2 := Aside0.mk hI2
        clear n0 n1 hI2 hks hbad hsz
        go_wp2_with (first | ((with_reducible refine gate_dst (N := 6) rfl ?_); refine box_event ?hg (N := 6) ?hd (cs := #[.int .i64 0, .int .i64 0, .string ByteArray.empty, .bool false]) (t := 27) ?hr ?_; (case hd => rfl); (case hg => rfl); (case hr => first | (go_simp; done) | (go_simp; rfl)); intro q hq w3 hbox hb3; have BK := Aside0.mk hbox; have HB3 := Aside0.mk hb3; have HQ := Aside0.mk hq; clear hbox hb3 hq) | ((with_reducible refine gate_store (t := 27) (p := 6) rfl ?_); have hz0 : w3.cell? ⟨q, 0, none⟩ = some (.int .i64 0) := (blk_cell BK.out 0).trans rfl; have hz1 : w3.cell? ⟨q, 1, none⟩ = some (.int .i64 0) := (blk_cell BK.out 1).trans rfl; have hz2 : w3.cell? ⟨q, 2, none⟩ = some (.string ByteArray.empty) := (blk_cell BK.out 2).trans rfl; have hz3 : w3.cell? ⟨q, 3, none⟩ = some (.bool false) := (blk_cell BK.out 3).trans rfl; have hf0 := blk_frozen BK.out 0; have hf1 := blk_frozen BK.out 1; have hf2 := blk_frozen BK.out 2; have hf3 := blk_frozen BK.out 3; refine store_event (t := 27) (p := 6) (v := ?vo) (w1 := (((w3.setCell ⟨q, 0, none⟩ (.int .i64 t)).setCell ⟨q, 1, none⟩ (.int .i64 n)).setCell ⟨q, 2, none⟩ (.string k)).setCell ⟨q, 3, none⟩ (.bool gt)) ?hg ?ho ?hn ?hr ?_; (case ho => rfl); (case hg => rfl); (case hn => rfl); (case hr => first | (go_simp; done) | (go_simp; rfl)); intro w4 hw; have HX4 := Aside0.mk (show w4.heap[q]? = some (.cells #[.int .i64 t, .int .i64 n, .string k, .bool gt] 27 (0, 0)) ∧ Below wr.heap.size wr w4 from by rw [hw]; exact op_stored BK.out HB3.out (by rw [HQ.out]; exact Nat.le_refl _) t n k gt); have HC4 := Aside0.mk (HC.out.below_ HX4.out.2); have HQB := Aside0.mk (show q ≠ b by rw [HQ.out]; exact fun e => absurd HC.out.at_.lb (by rw [← e]; exact Nat.lt_irrefl _)); clear hw hz0 hz1 hz2 hz3 hf0 hf1 hf2 hf3; have hq1 : w4.cell? ⟨q, 1, none⟩ = some (.int .i64 n) := (blk_cell HX4.out.1 1).trans rfl; have hq0 : w4.cell? ⟨q, 0, none⟩ = some (.int .i64 t) := (blk_cell HX4.out.1 0).trans rfl; have hq2 : w4.cell? ⟨q, 2, none⟩ = some (.string k) := (blk_cell HX4.out.1 2).trans rfl; have HK4 := Aside0.mk HX4.out.1))
        refine (G1.out _ HC4.out).mono ?_
        rintro e w5 ⟨rfl, hc, hb⟩
        have HC5 := Aside0.mk hc
        have HK5 := Aside0.mk (blk_below HK4.out hb)
        clear hc hb hq0 hq1 hq2
        have hq0 : w5.cell? ⟨q, 0, none⟩ = some (.int .i64 t) := (blk_cell HK5.out 0).trans rfl
        have hq1 : w5.cell? ⟨q, 1, none⟩ = some (.int .i64 n) := (blk_cell HK5.out 1).trans rfl
        have hq2 : w5.cell? ⟨q, 2, none⟩ = some (.string k) := (blk_cell HK5.out 2).trans rfl
        go_wp2_with (fail)
        refine (T1.out _ HC5.out).mono ?_
        rintro e w6 ⟨rfl, hc, hs⟩
        have HC6 := Aside0.mk hc
        have HK6 := Aside0.mk (blk_kept HK5.out hs.k HQB.out)
        clear hc hs hq0 hq1 hq2
        have hq0 : w6.cell? ⟨q, 0, none⟩ = some (.int .i64 t) := (blk_cell HK6.out 0).trans rfl
        have hq1 : w6.cell? ⟨q, 1, none⟩ = some (.int .i64 n) := (blk_cell HK6.out 1).trans rfl
        have hq2 : w6.cell? ⟨q, 2, none⟩ = some (.string k) := (blk_cell HK6.out 2).trans rfl
        go_wp2_with (fail)
        refine (G1.out _ HC6.out).mono ?_
        rintro e w7 ⟨rfl, hc, hb⟩
        have HC7 := Aside0.mk hc
        have HK7 := Aside0.mk (blk_below HK6.out hb)
        clear hc hb hq0 hq1 hq2
        have hq0 : w7.cell? ⟨q, 0, none⟩ = some (.int .i64 t) := (blk_cell HK7.out 0).trans rfl
        have hq1 : w7.cell? ⟨q, 1, none⟩ = some (.int .i64 n) := (blk_cell HK7.out 1).trans rfl
        have hq2 : w7.cell? ⟨q, 2, none⟩ = some (.string k) := (blk_cell HK7.out 2).trans rfl
        go_wp2_with (fail)
        refine (G3.out _ HC7.out).mono ?_
        rintro e w8 ⟨rfl, hc, hb⟩
        have HC8 := Aside0.mk hc
        have HK8 := Aside0.mk (blk_below HK7.out hb)
        clear hc hb hq0 hq1 hq2
        have hq0 : w8.cell? ⟨q, 0, none⟩ = some (.int .i64 t) := (blk_cell HK8.out 0).trans rfl
        have hq1 : w8.cell? ⟨q, 1, none⟩ = some (.int .i64 n) := (blk_cell HK8.out 1).trans rfl
        have hq2 : w8.cell? ⟨q, 2, none⟩ = some (.string k) := (blk_cell HK8.out 2).trans rfl
        go_wp2_with (fail)
        go_round
        case rel => exact ⟨j + 1, nw2, L, hjl, by go_num, rfl, HR, HC8, HI2⟩
        case measure => simp [intOf]; omega
    · have hd : decide ((j : Int) < (N : Int)) = false := by simp; omega
      go_wp2_with (first | (go_at_call 11; refine (AW.out _ _ _ _ HC.out).mono ?_; rintro e w1 ⟨rfl, hb⟩; have HB := Aside0.mk hb; clear hb))
      go_ret
      exact ⟨rfl, HB.out⟩
set_option maxHeartbeats 4000000
set_option maxRecDepth 100000
section
variable {H : Type} {enc : TypeId × Value → H} {e0 : DataW H} {ps : List MemPlace}
theorem floor_walk (A : Option Addr) (len cap : Nat) (w : World) (h : Heads w) (k0 : DataW.Trod enc Tryd.prog w 0 (fun _ => true) true 22 (.slice A len cap) e0 ps) (wt : ∀ n ∈ e0.weights Tryd.prog 22, n ≤ 140737488351232) :
    Calls Tryd.prog 3 #[.slice A len cap] w fun e w' => e = .returned (.bool true) ∧ Below w.heap.size w w' := by
  obtain ⟨l, rfl, hr, hl⟩ := came k0 wt
  cases hf : fewE l with
  | true => exact floor_main A l cap w h hr hf (fun o ho => (hl o ho).2.2)
  | false =>
    have FW := Aside0.mk (few_walk A l cap w hr)
    rw [hf] at FW
    clear hf hr hl k0 wt h
    go_enter Tryd.func3, Tryd.ntmps3
    go_wp2_with (first | (go_at_call 7; refine FW.out.mono ?_; rintro e w1 ⟨rfl, m0, rfl⟩))
    go_ret
    exact ⟨rfl, pw_below_drewN (Below.refl _ _) _⟩
end
end Go.Proofs.YticaejoaoblcmaaDoor.Pmt

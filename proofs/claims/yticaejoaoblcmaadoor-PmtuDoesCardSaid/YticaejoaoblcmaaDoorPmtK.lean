/- The walk of the law PmtuDoes: a script of calls; the program's cache answers as the document's: for every input it is true. (Printed in part by does.py.) -/
import Derived.Test.YticaejoaoblcmaaDoorPmtG
import Derived.Test.YticaejoaoblcmaaDoorPmtH
namespace Go.Proofs.YticaejoaoblcmaaDoor.Pmt
open Go.RowKit Go.Maps Go.Proofs.YticaejoaoblcmaaDoorW.PrintWords Go.Proofs.YticaejoaoblcmaaDoorW.PrintLast Go.Proofs.YticaejoaoblcmaaDoorW.PrintMore Go.Proofs.YticaejoaoblcmaaDoor.PPmtuInner
set_option linter.unusedVariables false
set_option linter.unusedSimpArgs false
attribute [local go_sem] max2_int min2_int max_two min_two max_three min_three max_four min_four
/-- The blocks that are the list's: not the program's cache, and new. -/
def Okk (base g b : Nat) : Nat → Prop := fun k => k ≠ g ∧ k ≠ b ∧ base ≤ k
theorem Cach.drewN {w0 w : World} {g b : Nat} {L : List Ent} (h : Cach w0 w g b L) (m : Nat) : Cach w0 (w.drewN m) g b L := h.below_ (pw_below_drewN (Below.refl _ _) m)
set_option maxHeartbeats 8000000 in
set_option maxRecDepth 100000 in
theorem does_main (A : Option Addr) (l : List Op) (c : Nat) (w : World) (h : Heads w) (hr : ReadsOps w A l) (hfew : fewE l = true) :
    Calls Tryd.prog 6 #[.slice A l.length c] w fun e w' => e = .returned (.bool true) ∧ Below w.heap.size w w' := by
  have FW := Aside0.mk (few_walk A l c w hr)
  rw [hfew] at FW
  have NW := Aside0.mk fun m => Cach.new (w.drewN m)
  have AW := Aside0.mk fun (W : World) (g b : Nat) (L : List Ent) (hc : Cach w W g b L) => hc.awake h
  obtain ⟨N, hN⟩ : ∃ N, l.length = N := ⟨_, rfl⟩
  have HN := Aside0.mk hN
  have R := Aside0.mk hr
  have HALL := Aside0.mk hfew
  rw [hN] at FW ⊢
  have h150 : N ≤ 150 := by
    rw [← hN]
    unfold fewE at hfew
    rw [Bool.and_eq_true] at hfew
    exact of_decide_eq_true hfew.1
  clear h hr hN hfew
  go_enter Tryd.func6, Tryd.ntmps6
  go_wp2_with (first | (go_at_call 7; refine FW.out.mono ?_; rintro e w1 ⟨rfl, m0, rfl⟩) | (go_at_call 8; refine (NW.out _).mono ?_; rintro e w1 ⟨g, b, rfl, hg, hc⟩; have HC1 := Aside0.mk (show Cach w w1 g b [] from ⟨hc.at_, (pw_below_drewN (Below.refl w.heap.size w) m0).trans hc.below, hc.hb⟩); clear hc hg))
  have HH0 := Aside0.mk (show w.heap.size ≤ w1.heap.size ∧ w1.heap.size ≠ g ∧ w1.heap.size ≠ b from ⟨HC1.out.below.size, fun e => absurd HC1.out.at_.lg (by rw [← e]; exact Nat.lt_irrefl _), fun e => absurd HC1.out.at_.lb (by rw [← e]; exact Nat.lt_irrefl _)⟩)
  have HREF := Aside0.mk (show RefC w.heap.size (w1.alloc (.cells #[.slice none 0 0] 39)) w1.heap.size (Okk w.heap.size g b) none 0 [] from ⟨blk_new w1 _, Kd.R_nil _ _ _ _ _⟩)
  have HC2 := Aside0.mk (HC1.out.below_ (below_alloc (Below.refl w1.heap.size w1) (.cells #[.slice none 0 0] 39)))
  obtain ⟨hh, ehh⟩ : ∃ hh, w1.heap.size = hh := ⟨_, rfl⟩
  rw [ehh] at HH0 HREF
  rw [ehh]
  clear HC1 ehh
  go_loopw [5] (fun i wr => ∃ (j : Nat) (L : List Ent) (A9 : Option Addr) (c9 : Nat), j ≤ N ∧ i = .int .i64 j ∧ Aside0 (Cach w wr g b L) ∧ Aside0 (RefC w.heap.size wr hh (Okk w.heap.size g b) A9 c9 L)) (fun i _ => N - (intOf i).toNat)
  case atStart => exact ⟨0, [], none, 0, by omega, rfl, HC2, HREF⟩
  case round =>
    clear HC2 HREF
    obtain ⟨j, L, A9, c9, hj, rfl, HC, HF⟩ := hrel
    by_cases hjl : j < N
    · have hd : decide ((j : Int) < (N : Int)) = true := by simp; omega
      obtain ⟨ad, rfl, ho⟩ := R.out j (by rw [HN.out]; exact hjl)
      have hmem : l.getD j default ∈ l := by
        have hjn : j < l.length := by rw [HN.out]; exact hjl
        rw [List.getD_eq_getElem?_getD, List.getElem?_eq_getElem hjn]
        exact List.getElem_mem hjn
      have hok0 : okOp (l.getD j default) = true := by
        have := HALL.out
        unfold fewE at this
        rw [Bool.and_eq_true, List.all_eq_true] at this
        exact this.2 _ hmem
      have ho2 := ho.below HC.out.below
      obtain ⟨o, heo⟩ : ∃ o, l.getD j default = o := ⟨_, rfl⟩
      rw [heo] at ho2 hok0
      clear ho heo hmem
      obtain ⟨t, n, k, gt⟩ := o
      have h0 := ho2.c0
      have h1 := ho2.c1
      have h2 := ho2.c2
      have h3 := ho2.c3
      simp only at h0 h1 h2 h3
      have hok : ¬ 300 < k.size ∧ ¬ t < -1000000000 ∧ ¬ 1000000000 < t := by
        simpa [okOp, and_assoc] using hok0
      have hks : k.size ≤ maxLen := Nat.le_trans (Nat.le_of_not_lt hok.1) (by decide)
      have G1 := Aside0.mk fun (W : World) (hc : Cach w W g b L) => hc.get t k hks n
      have T1 := Aside0.mk fun (W : World) (hc : Cach w W g b L) => hc.tell t k hks n
      have hl64 := HC.out.at_.hn
      have G2 := Aside0.mk fun (W : World) (hf : RefC w.heap.size W hh (Okk w.heap.size g b) A9 c9 L) => refget_walk hf (by omega) t k n
      have T2 := Aside0.mk fun (W : World) (hf : RefC w.heap.size W hh (Okk w.heap.size g b) A9 c9 L) (L2 : List Ent) (hc : Cach w W g b L2) => reftell_walk (w0 := w) hf hl64 hc.below hc.below.size HH0.out.1 (fun k hk => ⟨by have := hc.at_.lg; omega, by have := hc.at_.lb; omega, Nat.le_trans hc.below.size hk⟩) (fun k hk => hk.2.2) t k n
      clear ho2 hok0 hok hks hl64
      cases gt
      · rcases htell : tellE L t k n with ⟨⟨r, f⟩, L2⟩
        rw [htell] at T1 T2
        clear htell G1 G2
        go_wp2_with (first | ((with_reducible refine gate_dst (N := 6) rfl ?_); refine box_event ?hg (N := 6) ?hd (cs := #[.int .i64 0, .int .i64 0, .string ByteArray.empty, .bool false]) (t := 27) ?hr ?_; (case hd => rfl); (case hg => rfl); (case hr => first | (go_simp; done) | (go_simp; rfl)); intro q hq w3 hbox hb3; have BK := Aside0.mk hbox; have HB3 := Aside0.mk hb3; have HQ := Aside0.mk hq; clear hbox hb3 hq) | ((with_reducible refine gate_store (t := 27) (p := 6) rfl ?_); have hz0 : w3.cell? ⟨q, 0, none⟩ = some (.int .i64 0) := (blk_cell BK.out 0).trans rfl; have hz1 : w3.cell? ⟨q, 1, none⟩ = some (.int .i64 0) := (blk_cell BK.out 1).trans rfl; have hz2 : w3.cell? ⟨q, 2, none⟩ = some (.string ByteArray.empty) := (blk_cell BK.out 2).trans rfl; have hz3 : w3.cell? ⟨q, 3, none⟩ = some (.bool false) := (blk_cell BK.out 3).trans rfl; have hf0 := blk_frozen BK.out 0; have hf1 := blk_frozen BK.out 1; have hf2 := blk_frozen BK.out 2; have hf3 := blk_frozen BK.out 3; refine store_event (t := 27) (p := 6) (v := ?vo) (w1 := (((w3.setCell ⟨q, 0, none⟩ (.int .i64 t)).setCell ⟨q, 1, none⟩ (.int .i64 n)).setCell ⟨q, 2, none⟩ (.string k)).setCell ⟨q, 3, none⟩ (.bool false)) ?hg ?ho ?hn ?hr ?_; (case ho => rfl); (case hg => rfl); (case hn => rfl); (case hr => first | (go_simp; done) | (go_simp; rfl)); intro w4 hw; have HX4 := Aside0.mk (show w4.heap[q]? = some (.cells #[.int .i64 t, .int .i64 n, .string k, .bool false] 27 (0, 0)) ∧ Below wr.heap.size wr w4 from by rw [hw]; exact op_stored BK.out HB3.out (by rw [HQ.out]; exact Nat.le_refl _) t n k false); have HC4 := Aside0.mk (HC.out.below_ HX4.out.2); have HQB := Aside0.mk (show q ≠ b by rw [HQ.out]; exact fun e => absurd HC.out.at_.lb (by rw [← e]; exact Nat.lt_irrefl _)); clear hw hz0 hz1 hz2 hz3 hf0 hf1 hf2 hf3; have hq1 : w4.cell? ⟨q, 1, none⟩ = some (.int .i64 n) := (blk_cell HX4.out.1 1).trans rfl; have hq0 : w4.cell? ⟨q, 0, none⟩ = some (.int .i64 t) := (blk_cell HX4.out.1 0).trans rfl; have hq2 : w4.cell? ⟨q, 2, none⟩ = some (.string k) := (blk_cell HX4.out.1 2).trans rfl; have hq3 : w4.cell? ⟨q, 3, none⟩ = some (.bool false) := (blk_cell HX4.out.1 3).trans rfl; have HK4 := Aside0.mk HX4.out.1))
        refine (T1.out _ HC4.out).mono ?_
        rintro e w5 ⟨rfl, hc, hs⟩
        have HC5 := Aside0.mk hc
        have HF5 := Aside0.mk ((HF.out.below HX4.out.2).keep hs.k HH0.out.2.2 (fun k hk => hk.2.1))
        have HK5 := Aside0.mk (blk_kept HK4.out hs.k HQB.out)
        clear hc hs hq0 hq1 hq2 hq3
        have hq0 : w5.cell? ⟨q, 0, none⟩ = some (.int .i64 t) := (blk_cell HK5.out 0).trans rfl
        have hq1 : w5.cell? ⟨q, 1, none⟩ = some (.int .i64 n) := (blk_cell HK5.out 1).trans rfl
        have hq2 : w5.cell? ⟨q, 2, none⟩ = some (.string k) := (blk_cell HK5.out 2).trans rfl
        go_wp2_with (fail)
        refine (T2.out _ HF5.out _ HC5.out).mono ?_
        rintro e w6 ⟨rfl, ⟨A', c', L', hf6, hsame⟩, hb6, hk6⟩
        have HC6 := Aside0.mk (show Cach w w6 g b L' from ⟨(HC5.out.at_.kept hk6 (by rintro (e | e); exact HH0.out.2.1 e.symm; exact e.1 rfl) (by rintro (e | e); exact HH0.out.2.2 e.symm; exact e.2.1 rfl)).same hsame, hb6, HC5.out.hb⟩)
        have HF6 := Aside0.mk hf6
        have CT := Aside0.mk fun m => count_walk (HC6.out.at_.drewN m)
        have hx0 := hf6.c0
        obtain ⟨M, hM⟩ : ∃ M, L'.length = M := ⟨_, rfl⟩
        rw [hM] at CT hx0
        clear hf6 hsame hb6 hk6 hM hq0 hq1 hq2
        go_wp2_with (fail)
        go_quiet (first | (go_at_call 17; exact Calls.quiet_of_same (CT.out _)))
        go_wp2_with (fail)
        go_round
        case rel => exact ⟨j + 1, L', A', c', hjl, by go_num, Aside0.mk (HC6.out.drewN _), Aside0.mk (HF6.out.drewN _)⟩
        case measure => simp [intOf]; omega
      · rcases hget : getE L t k n with ⟨r, f⟩
        rw [hget] at G1 G2
        clear hget T1 T2
        go_wp2_with (first | ((with_reducible refine gate_dst (N := 6) rfl ?_); refine box_event ?hg (N := 6) ?hd (cs := #[.int .i64 0, .int .i64 0, .string ByteArray.empty, .bool false]) (t := 27) ?hr ?_; (case hd => rfl); (case hg => rfl); (case hr => first | (go_simp; done) | (go_simp; rfl)); intro q hq w3 hbox hb3; have BK := Aside0.mk hbox; have HB3 := Aside0.mk hb3; have HQ := Aside0.mk hq; clear hbox hb3 hq) | ((with_reducible refine gate_store (t := 27) (p := 6) rfl ?_); have hz0 : w3.cell? ⟨q, 0, none⟩ = some (.int .i64 0) := (blk_cell BK.out 0).trans rfl; have hz1 : w3.cell? ⟨q, 1, none⟩ = some (.int .i64 0) := (blk_cell BK.out 1).trans rfl; have hz2 : w3.cell? ⟨q, 2, none⟩ = some (.string ByteArray.empty) := (blk_cell BK.out 2).trans rfl; have hz3 : w3.cell? ⟨q, 3, none⟩ = some (.bool false) := (blk_cell BK.out 3).trans rfl; have hf0 := blk_frozen BK.out 0; have hf1 := blk_frozen BK.out 1; have hf2 := blk_frozen BK.out 2; have hf3 := blk_frozen BK.out 3; refine store_event (t := 27) (p := 6) (v := ?vo) (w1 := (((w3.setCell ⟨q, 0, none⟩ (.int .i64 t)).setCell ⟨q, 1, none⟩ (.int .i64 n)).setCell ⟨q, 2, none⟩ (.string k)).setCell ⟨q, 3, none⟩ (.bool true)) ?hg ?ho ?hn ?hr ?_; (case ho => rfl); (case hg => rfl); (case hn => rfl); (case hr => first | (go_simp; done) | (go_simp; rfl)); intro w4 hw; have HX4 := Aside0.mk (show w4.heap[q]? = some (.cells #[.int .i64 t, .int .i64 n, .string k, .bool true] 27 (0, 0)) ∧ Below wr.heap.size wr w4 from by rw [hw]; exact op_stored BK.out HB3.out (by rw [HQ.out]; exact Nat.le_refl _) t n k true); have HC4 := Aside0.mk (HC.out.below_ HX4.out.2); have HQB := Aside0.mk (show q ≠ b by rw [HQ.out]; exact fun e => absurd HC.out.at_.lb (by rw [← e]; exact Nat.lt_irrefl _)); clear hw hz0 hz1 hz2 hz3 hf0 hf1 hf2 hf3; have hq1 : w4.cell? ⟨q, 1, none⟩ = some (.int .i64 n) := (blk_cell HX4.out.1 1).trans rfl; have hq0 : w4.cell? ⟨q, 0, none⟩ = some (.int .i64 t) := (blk_cell HX4.out.1 0).trans rfl; have hq2 : w4.cell? ⟨q, 2, none⟩ = some (.string k) := (blk_cell HX4.out.1 2).trans rfl; have hq3 : w4.cell? ⟨q, 3, none⟩ = some (.bool true) := (blk_cell HX4.out.1 3).trans rfl; have HK4 := Aside0.mk HX4.out.1))
        refine (G1.out _ HC4.out).mono ?_
        rintro e w5 ⟨rfl, hc, hb⟩
        have HC5 := Aside0.mk hc
        have HF5 := Aside0.mk ((HF.out.below HX4.out.2).below hb)
        have HK5 := Aside0.mk (blk_below HK4.out hb)
        clear hc hb hq0 hq1 hq2 hq3
        have hq0 : w5.cell? ⟨q, 0, none⟩ = some (.int .i64 t) := (blk_cell HK5.out 0).trans rfl
        have hq1 : w5.cell? ⟨q, 1, none⟩ = some (.int .i64 n) := (blk_cell HK5.out 1).trans rfl
        have hq2 : w5.cell? ⟨q, 2, none⟩ = some (.string k) := (blk_cell HK5.out 2).trans rfl
        go_wp2_with (fail)
        refine (G2.out _ HF5.out).mono ?_
        rintro e w6 ⟨rfl, rfl⟩
        have CT := Aside0.mk fun m => count_walk (HC5.out.at_.drewN m)
        have hx0 := HF5.out.c0
        obtain ⟨M, hM⟩ : ∃ M, L.length = M := ⟨_, rfl⟩
        rw [hM] at CT hx0
        clear hM hq0 hq1 hq2
        go_wp2_with (fail)
        go_quiet (first | (go_at_call 17; exact Calls.quiet_of_same (CT.out _)))
        go_wp2_with (fail)
        go_round
        case rel => exact ⟨j + 1, L, A9, c9, hjl, by go_num, Aside0.mk (HC5.out.drewN _), Aside0.mk (HF5.out.drewN _)⟩
        case measure => simp [intOf]; omega
    · have hd : decide ((j : Int) < (N : Int)) = false := by simp; omega
      go_wp2_with (first | (go_at_call 11; refine (AW.out _ _ _ _ HC.out).mono ?_; rintro e w1 ⟨rfl, hb⟩; have HB := Aside0.mk hb; clear hb))
      go_ret
      exact ⟨rfl, HB.out⟩
set_option maxHeartbeats 4000000
set_option maxRecDepth 100000
section
variable {H : Type} {enc : TypeId × Value → H} {e0 : DataW H} {ps : List MemPlace}
theorem does_walk (A : Option Addr) (len cap : Nat) (w : World) (h : Heads w) (k0 : DataW.Trod enc Tryd.prog w 0 (fun _ => true) true 22 (.slice A len cap) e0 ps) (wt : ∀ n ∈ e0.weights Tryd.prog 22, n ≤ 140737488351232) :
    Calls Tryd.prog 6 #[.slice A len cap] w fun e w' => e = .returned (.bool true) ∧ Below w.heap.size w w' := by
  obtain ⟨l, rfl, hr, hl⟩ := came k0 wt
  cases hf : fewE l with
  | true => exact does_main A l cap w h hr hf
  | false =>
    have FW := Aside0.mk (few_walk A l cap w hr)
    rw [hf] at FW
    clear hf hr hl k0 wt h
    go_enter Tryd.func6, Tryd.ntmps6
    go_wp2_with (first | (go_at_call 7; refine FW.out.mono ?_; rintro e w1 ⟨rfl, m0, rfl⟩))
    go_ret
    exact ⟨rfl, pw_below_drewN (Below.refl _ _) _⟩
end
end Go.Proofs.YticaejoaoblcmaaDoor.Pmt

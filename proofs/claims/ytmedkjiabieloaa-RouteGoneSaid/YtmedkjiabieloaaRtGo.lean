/- The law RouteGone. -/
import Derived.Test.YtmedkjiabieloaaRtGoP
namespace Go.Proofs.Ytmedkjiabieloaa.Rt
open Go.RowKit Go.Proofs.YtmedkjiabieloaaW.PrintWords Go.Proofs.YtmedkjiabieloaaW.PrintLast Go.Proofs.YtmedkjiabieloaaW.PrintMore Go.Proofs.Ytmedkjiabieloaa.QRd
open Go.Proofs.Ytmedkjiabieloaa
set_option linter.unusedVariables false
set_option linter.unusedSimpArgs false
attribute [local go_sem high] eqA28'
/-- A box beside a table. -/
structure Bx (w : World) (q : Nat) (v : Value) (g : Nat) (cs : Array Value) : Prop where
  blk : w.heap[g]? = some (.cells cs 28 (0, 0))
  ne : g ≠ q
  off : some g ≠ v.ownBlock
theorem Bx.step {w w' : World} {q g : Nat} {v : Value} {cs : Array Value} (h : Bx w q v g cs) (hb : Below w.heap.size w w') : Bx w' q v g cs := ⟨blk_below h.blk hb, h.ne, h.off⟩
theorem Bx.turn {w w' : World} {q g : Nat} {v v' : Value} {cs : Array Value} (h : Bx w q v g cs) (hu : Turn w w' q v v') : Bx w' q v' g cs :=
  ⟨blk_turn h.blk hu h.ne h.off, h.ne, fun e => (hu.row g e.symm).elim (fun h1 => h.off h1.symm) (fun h1 => by have := blk_lt h.blk; omega)⟩
theorem Bx.new {w0 w w' : World} {q g b : Nat} {v : Value} {cs : Array Value} {L : List S28} (h : TabO w b q v L) (hg : w.heap.size ≤ g) (hb : w'.heap[g]? = some (.cells cs 28 (0, 0))) : Bx w' q v g cs :=
  ⟨hb, (fun e => by have := blk_lt h.blk; omega), (fun e => by have := own_lt h.own g e.symm; omega)⟩
/-- A row beside a table. -/
structure Rw (w : World) (q : Nat) (v u : Value) (l : List S28) : Prop where
  own : OwnT w 0 u l
  apart : Apart v u
theorem Rw.step {w w' : World} {q : Nat} {v u : Value} {l : List S28} (h : Rw w q v u l) (hb : Below w.heap.size w w') : Rw w' q v u l := ⟨pw_own_below h.own hb, h.apart⟩
theorem Rw.turn {w w' : World} {q b : Nat} {v v' u : Value} {l L : List S28} (h : Rw w q v u l) (ht : TabO w b q v L) (hu : Turn w w' q v v') : Rw w' q v' u l := by
  have h1 := own_turn h.own hu (own_neT h.own ht.blk (by decide)) h.apart
  exact ⟨h1.1, h1.2⟩
theorem Rw.new {w w' : World} {q b : Nat} {v u : Value} {l L : List S28} (ht : TabO w b q v L) (h : k28.R 28 w' w.heap.size (fun _ => True) u l) : Rw w' q v u l :=
  ⟨own_less (own_of_R h) (Nat.zero_le _), fun k hk hk' => by have h1 := own_lt ht.own k hk; have h2 := own_base (own_of_R h) k hk'; omega⟩
theorem Rw.read {w : World} {q n c : Nat} {A : Option Addr} {v : Value} {l : List S28} (h : Rw w q v (.slice A n c) l) : k28.C w A l.length l := (Kd.R_reads' (R_of_own h.own)).2.2
set_option maxHeartbeats 6400000 in
set_option maxRecDepth 100000 in
theorem gone_main (A : Option Addr) (l : List S28) (c : Nat) (ra : ByteArray) (rb : Int) (rv : ByteArray) (rp : Int) (dst : ByteArray) (w : World) (hr : k28.C w A l.length l) (hc : l.length ≤ c) (hm : l.length ≤ maxLen) (hfit : ∀ x ∈ l, Fit28 x) (hra : ra.size ≤ 140737488351232) (hrv : rv.size ≤ 140737488351232) (hds : dst.size ≤ 140737488351232) :
    Calls Try.prog 7 #[.slice A l.length c, .agg #[.string ra, .int .i64 rb, .string rv, .int .i64 rp], .string dst] w fun e w' => e = .returned (.bool true) ∧ Below w.heap.size w w' := by
  have HFIT := Aside0.mk hfit
  have HDS := Aside0.mk hds
  have HRA := Aside0.mk hra
  have HR := Aside0.mk fun (W : World) (hb : Below w.heap.size w W) => Kd.C_below hr hb
  obtain ⟨n, hn⟩ : ∃ n, l.length = n := ⟨_, rfl⟩
  obtain ⟨s1, hs1⟩ : ∃ n, ra.size = n := ⟨_, rfl⟩
  obtain ⟨s2, hs2⟩ : ∃ n, rv.size = n := ⟨_, rfl⟩
  obtain ⟨s3, hs3⟩ : ∃ n, dst.size = n := ⟨_, rfl⟩
  have HN := Aside0.mk hn
  have hs1I : (ra.size : Int) = (s1 : Int) := by rw [hs1]
  have hs2I : (rv.size : Int) = (s2 : Int) := by rw [hs2]
  have hs3I : (dst.size : Int) = (s3 : Int) := by rw [hs3]
  rw [hn] at HR hm ⊢
  rw [hs1] at hra
  rw [hs2] at hrv
  rw [hs3] at hds
  unfold maxLen at hm
  clear hr hc hfit hn hs1 hs2 hs3
  by_cases hg1 : 40 < n
  · have hg1I : (40 : Int) < (n : Int) := by omega
    go_enter Try.func7, Try.ntmps7
    go_wp2_with (first | ((with_reducible refine gate_dst (N := 4) rfl ?_); refine box_event ?hg (N := 4) ?hd (cs := #[.string ra, .int .i64 rb, .string rv, .int .i64 rp]) (t := 28) ?hr ?_; (case hd => rfl); (case hg => rfl); (case hr => first | (go_simp; done) | (go_simp; rfl)); intro q4 hq w1 hbox hb; have BKq4 := Aside0.mk hbox; have HQq4 := Aside0.mk (show w.heap.size ≤ q4 from by rw [hq]; exact Nat.le_refl _); have HB1 := Aside0.mk hb; clear hbox hb hq; have z0 : w1.cell? ⟨q4, 0, none⟩ = some (.string ra) := (blk_cell BKq4.out 0).trans rfl; have z1 : w1.cell? ⟨q4, 1, none⟩ = some (.int .i64 rb) := (blk_cell BKq4.out 1).trans rfl; have z2 : w1.cell? ⟨q4, 2, none⟩ = some (.string rv) := (blk_cell BKq4.out 2).trans rfl; have z3 : w1.cell? ⟨q4, 3, none⟩ = some (.int .i64 rp) := (blk_cell BKq4.out 3).trans rfl))
    go_ret
    exact ⟨rfl, HB1.out⟩
  have hg1I : ¬ (40 : Int) < (n : Int) := by omega
  by_cases hg2 : 300 < s1 + s2 + s3
  · have hg2I : (300 : Int) < (s1 : Int) + (s2 : Int) + (s3 : Int) := by omega
    go_enter Try.func7, Try.ntmps7
    go_wp2_with (first | ((with_reducible refine gate_dst (N := 4) rfl ?_); refine box_event ?hg (N := 4) ?hd (cs := #[.string ra, .int .i64 rb, .string rv, .int .i64 rp]) (t := 28) ?hr ?_; (case hd => rfl); (case hg => rfl); (case hr => first | (go_simp; done) | (go_simp; rfl)); intro q4 hq w1 hbox hb; have BKq4 := Aside0.mk hbox; have HQq4 := Aside0.mk (show w.heap.size ≤ q4 from by rw [hq]; exact Nat.le_refl _); have HB1 := Aside0.mk hb; clear hbox hb hq; have z0 : w1.cell? ⟨q4, 0, none⟩ = some (.string ra) := (blk_cell BKq4.out 0).trans rfl; have z1 : w1.cell? ⟨q4, 1, none⟩ = some (.int .i64 rb) := (blk_cell BKq4.out 1).trans rfl; have z2 : w1.cell? ⟨q4, 2, none⟩ = some (.string rv) := (blk_cell BKq4.out 2).trans rfl; have z3 : w1.cell? ⟨q4, 3, none⟩ = some (.int .i64 rp) := (blk_cell BKq4.out 3).trans rfl))
    go_ret
    exact ⟨rfl, HB1.out⟩
  have hg2I : ¬ (300 : Int) < (s1 : Int) + (s2 : Int) + (s3 : Int) := by omega
  go_enter Try.func7, Try.ntmps7
  go_wp2_with (first | ((with_reducible refine gate_dst (N := 4) rfl ?_); refine box_event ?hg (N := 4) ?hd (cs := #[.string ra, .int .i64 rb, .string rv, .int .i64 rp]) (t := 28) ?hr ?_; (case hd => rfl); (case hg => rfl); (case hr => first | (go_simp; done) | (go_simp; rfl)); intro q4 hq w1 hbox hb; have BKq4 := Aside0.mk hbox; have HQq4 := Aside0.mk (show w.heap.size ≤ q4 from by rw [hq]; exact Nat.le_refl _); have HB1 := Aside0.mk hb; clear hbox hb hq; have z0 : w1.cell? ⟨q4, 0, none⟩ = some (.string ra) := (blk_cell BKq4.out 0).trans rfl; have z1 : w1.cell? ⟨q4, 1, none⟩ = some (.int .i64 rb) := (blk_cell BKq4.out 1).trans rfl; have z2 : w1.cell? ⟨q4, 2, none⟩ = some (.string rv) := (blk_cell BKq4.out 2).trans rfl; have z3 : w1.cell? ⟨q4, 3, none⟩ = some (.int .i64 rp) := (blk_cell BKq4.out 3).trans rfl))
  clear z0 z1 z2 z3
  refine (new_call _).mono ?_
  rintro e w2 ⟨⟨q1, rfl, hq, ht⟩, hb⟩
  have HO1 := Aside0.mk (show One w w2 q1 (.slice none 0 0) [] from ⟨⟨ht.blk, ⟨rfl, .inl ⟨rfl, rfl⟩⟩, Nat.le_trans HB1.out.size hq⟩, good_nil, HB1.out.trans (hb.mono HB1.out.size)⟩)
  have X4 := Aside0.mk (show Bx w2 q1 (.slice none 0 0) q4 #[.string ra, .int .i64 rb, .string rv, .int .i64 rp] from ⟨blk_below BKq4.out hb, (fun e => by have := blk_lt BKq4.out; omega), (fun e => by cases e)⟩)
  clear hb hq ht
  go_wp2_with (fail)
  go_loopw [8] (fun iv wr => ∃ (j : Nat) (L : List S28) (v1 : Value), j ≤ n ∧ iv = .int .i64 j ∧ Aside0 (One w wr q1 v1 L) ∧ Aside0 (Bx wr q1 v1 q4 #[.string ra, .int .i64 rb, .string rv, .int .i64 rp]) ∧ L.length ≤ j) (fun iv _ => n - (intOf iv).toNat)
  case atStart => exact ⟨0, [], .slice none 0 0, by omega, rfl, HO1, X4, by simp⟩
  case round =>
    clear HO1 X4 BKq4 HB1
    obtain ⟨j, L, v1, hj, rfl, HO, X4, hLj⟩ := hrel
    have HLJ := Aside0.mk hLj
    clear hLj
    by_cases hlt : j < n
    · obtain ⟨ad, hA, hcs⟩ := at_T28 (HR.out _ HO.out.below) (j : Int) (by omega) (by omega)
      rw [Int.toNat_natCast] at hcs
      have er : rd_T28 l (j : Int) = l.getD j z28 := by unfold rd_T28; rw [Int.toNat_natCast]
      rw [er] at hcs
      have hfx : Fit28 (l.getD j z28) := HFIT.out _ (getD_mem (by rw [HN.out]; exact hlt))
      obtain ⟨⟨⟨xa, xb⟩, xv, xp⟩, hx⟩ : ∃ x, l.getD j z28 = x := ⟨_, rfl⟩
      simp only [hx] at hcs hfx
      subst hA
      have HSZ := Aside0.mk (show xa.size ≤ 140737488351232 from hfx.1)
      obtain ⟨sa, hsa⟩ : ∃ k, xa.size = k := ⟨_, rfl⟩
      obtain ⟨sv, hsv⟩ : ∃ k, xv.size = k := ⟨_, rfl⟩
      have hsaI : (xa.size : Int) = (sa : Int) := by rw [hsa]
      have hsvI : (xv.size : Int) = (sv : Int) := by rw [hsv]
      have hsab : sa ≤ 140737488351232 ∧ sv ≤ 140737488351232 := by rw [← hsa, ← hsv]; exact hfx
      have CX := Aside0.mk (show ∀ W, Below wr.heap.size wr W → _ from fun W hW => And.intro (pw_cell_below hW hcs.1) (And.intro (pw_cell_below hW hcs.2.1) (And.intro (pw_cell_below hW hcs.2.2.1) (pw_cell_below hW hcs.2.2.2))))
      have hltI : (j : Int) < (n : Int) := by omega
      have hwr : IntKind.i64.wrap ((sa : Int) + (sv : Int)) = (sa : Int) + (sv : Int) := IntWalk.i64_in _ (by omega)
      clear er hx hfx hcs hsa hsv
      by_cases h3 : 300 < sa + sv
      · have h3I : (300 : Int) < (sa : Int) + (sv : Int) := by omega
        go_wp2_with (fail)
        refine start_ (n := 15) (S := fun W => Below wr.heap.size wr W) (ds := []) #[false, false, false, false, false, false, false, false, false, false, false, false, false, false, false] (by kernel_rfl) rfl rfl (below_drew (Below.refl wr.heap.size wr)) (fun hHeld => ?_)
        refine pure_ (i := 0) (N := some 48) (v := ?_) (a' := ?_) #[true, false, false, false, false, false, false, false, false, false, false, false, false, false, false] rfl rfl (by kernel_rfl) (fun _ _ _ h => h) (Or.inl ⟨by rfl, ?_⟩) ?_ ?_
        rotate_left
        · intro w'
          go_simp
          with_reducible rfl
        rotate_left
        · simp only [Act.put, List.setIfInBounds_toArray, List.set_cons_zero, List.set_cons_succ]
          rfl
        refine pure_ (i := 1) (N := some 49) (v := ?_) (a' := ?_) #[true, true, false, false, false, false, false, false, false, false, false, false, false, false, false] rfl rfl (by kernel_rfl) (fun _ _ _ h => h) (Or.inl ⟨by rfl, ?_⟩) ?_ ?_
        rotate_left
        · intro w'
          go_simp
          with_reducible rfl
        rotate_left
        · simp only [Act.put, List.setIfInBounds_toArray, List.set_cons_zero, List.set_cons_succ]
          rfl
        refine pure_ (i := 2) (N := some 50) (v := ?_) (a' := ?_) #[true, true, true, false, false, false, false, false, false, false, false, false, false, false, false] rfl rfl (by kernel_rfl) (fun _ _ _ h => h) (Or.inl ⟨by rfl, ?_⟩) ?_ ?_
        rotate_left
        · intro w'
          go_simp
          with_reducible rfl
        rotate_left
        · simp only [Act.put, List.setIfInBounds_toArray, List.set_cons_zero, List.set_cons_succ]
          rfl
        refine pure_ (i := 3) (N := some 51) (v := ?_) (a' := ?_) #[true, true, true, true, false, false, false, false, false, false, false, false, false, false, false] rfl rfl (by kernel_rfl) (fun _ _ _ h => h) (Or.inl ⟨by rfl, ?_⟩) ?_ ?_
        rotate_left
        · intro w'
          go_simp
          with_reducible rfl
        rotate_left
        · simp only [Act.put, List.setIfInBounds_toArray, List.set_cons_zero, List.set_cons_succ]
          rfl
        refine pure_ (i := 4) (N := some 52) (v := ?_) (a' := ?_) #[true, true, true, true, true, false, false, false, false, false, false, false, false, false, false] rfl rfl (by kernel_rfl) (fun _ _ _ h => h) (Or.inl ⟨by rfl, ?_⟩) ?_ ?_
        rotate_left
        · intro w'
          go_simp
          with_reducible rfl
        rotate_left
        · simp only [Act.put, List.setIfInBounds_toArray, List.set_cons_zero, List.set_cons_succ]
          rfl
        refine take_ (i := 5) (N := some 53) (v := ?_) (a' := ?_) #[true, true, true, true, true, true, false, false, false, false, false, false, false, false, false] rfl rfl (by kernel_rfl) (fun _ _ _ h => h) (Or.inl ⟨by rfl, ?_⟩) hHeld ?_ ?_
        rotate_left
        · intro w' s0
          obtain ⟨x0, x1, x2, x3⟩ := CX.out _ s0
          go_simp
          with_reducible rfl
        rotate_left
        · simp only [Act.put, List.setIfInBounds_toArray, List.set_cons_zero, List.set_cons_succ]
          rfl
        refine pure_ (i := 6) (N := some 54) (v := ?_) (a' := ?_) #[true, true, true, true, true, true, true, false, false, false, false, false, false, false, false] rfl rfl (by kernel_rfl) (fun _ _ _ h => h) (Or.inl ⟨by rfl, ?_⟩) ?_ ?_
        rotate_left
        · intro w'
          go_simp
          with_reducible rfl
        rotate_left
        · simp only [Act.put, List.setIfInBounds_toArray, List.set_cons_zero, List.set_cons_succ]
          rfl
        refine pure_ (i := 7) (N := some 55) (v := ?_) (a' := ?_) #[true, true, true, true, true, true, true, true, false, false, false, false, false, false, false] rfl rfl (by kernel_rfl) (fun _ _ _ h => h) (Or.inl ⟨by rfl, ?_⟩) ?_ ?_
        rotate_left
        · intro w'
          go_simp
          with_reducible rfl
        rotate_left
        · simp only [Act.put, List.setIfInBounds_toArray, List.set_cons_zero, List.set_cons_succ]
          rfl
        refine pure_ (i := 8) (N := some 56) (v := ?_) (a' := ?_) #[true, true, true, true, true, true, true, true, true, false, false, false, false, false, false] rfl rfl (by kernel_rfl) (fun _ _ _ h => h) (Or.inl ⟨by rfl, ?_⟩) ?_ ?_
        rotate_left
        · intro w'
          go_simp
          with_reducible rfl
        rotate_left
        · simp only [Act.put, List.setIfInBounds_toArray, List.set_cons_zero, List.set_cons_succ]
          rfl
        refine pure_ (i := 9) (N := some 57) (v := ?_) (a' := ?_) #[true, true, true, true, true, true, true, true, true, true, false, false, false, false, false] rfl rfl (by kernel_rfl) (fun _ _ _ h => h) (Or.inl ⟨by rfl, ?_⟩) ?_ ?_
        rotate_left
        · intro w'
          go_simp
          with_reducible rfl
        rotate_left
        · simp only [Act.put, List.setIfInBounds_toArray, List.set_cons_zero, List.set_cons_succ]
          rfl
        refine pure_ (i := 10) (N := some 58) (v := ?_) (a' := ?_) #[true, true, true, true, true, true, true, true, true, true, true, false, false, false, false] rfl rfl (by kernel_rfl) (fun _ _ _ h => h) (Or.inl ⟨by rfl, ?_⟩) ?_ ?_
        rotate_left
        · intro w'
          go_simp
          with_reducible rfl
        rotate_left
        · simp only [Act.put, List.setIfInBounds_toArray, List.set_cons_zero, List.set_cons_succ]
          rfl
        refine take_ (i := 11) (N := some 59) (v := ?_) (a' := ?_) #[true, true, true, true, true, true, true, true, true, true, true, true, false, false, false] rfl rfl (by kernel_rfl) (fun _ _ _ h => h) (Or.inl ⟨by rfl, ?_⟩) hHeld ?_ ?_
        rotate_left
        · intro w' s0
          obtain ⟨x0, x1, x2, x3⟩ := CX.out _ s0
          go_simp
          with_reducible rfl
        rotate_left
        · simp only [Act.put, List.setIfInBounds_toArray, List.set_cons_zero, List.set_cons_succ]
          rfl
        refine pure_ (i := 12) (N := some 60) (v := ?_) (a' := ?_) #[true, true, true, true, true, true, true, true, true, true, true, true, true, false, false] rfl rfl (by kernel_rfl) (fun _ _ _ h => h) (Or.inl ⟨by rfl, ?_⟩) ?_ ?_
        rotate_left
        · intro w'
          go_simp
          with_reducible rfl
        rotate_left
        · simp only [Act.put, List.setIfInBounds_toArray, List.set_cons_zero, List.set_cons_succ]
          rfl
        refine pure_ (i := 13) (N := some 61) (v := ?_) (a' := ?_) #[true, true, true, true, true, true, true, true, true, true, true, true, true, true, false] rfl rfl (by kernel_rfl) (fun _ _ _ h => h) (Or.inl ⟨by rfl, ?_⟩) ?_ ?_
        rotate_left
        · intro w'
          go_simp
          with_reducible rfl
        rotate_left
        · simp only [Act.put, List.setIfInBounds_toArray, List.set_cons_zero, List.set_cons_succ]
          rfl
        refine pure_ (i := 14) (N := some 62) (v := ?_) (a' := ?_) #[true, true, true, true, true, true, true, true, true, true, true, true, true, true, true] rfl rfl (by kernel_rfl) (fun _ _ _ h => h) (Or.inl ⟨by rfl, ?_⟩) ?_ ?_
        rotate_left
        · intro w'
          go_simp
          with_reducible rfl
        rotate_left
        · simp only [Act.put, List.setIfInBounds_toArray, List.set_cons_zero, List.set_cons_succ]
          rfl
        refine done_ (by kernel_rfl) ?_
        (try simp only [Exit.inBlock, Exit.then])
        go_wp2_with (fail)
        go_ret
        exact ⟨rfl, (HO.out.step hHeld).below⟩
      · have h3I : ¬ (300 : Int) < (sa : Int) + (sv : Int) := by omega
        go_wp2_with (fail)
        refine start_ (n := 15) (S := fun W => Below wr.heap.size wr W) (ds := []) #[false, false, false, false, false, false, false, false, false, false, false, false, false, false, false] (by kernel_rfl) rfl rfl (below_drew (Below.refl wr.heap.size wr)) (fun hHeld => ?_)
        refine pure_ (i := 0) (N := some 48) (v := ?_) (a' := ?_) #[true, false, false, false, false, false, false, false, false, false, false, false, false, false, false] rfl rfl (by kernel_rfl) (fun _ _ _ h => h) (Or.inl ⟨by rfl, ?_⟩) ?_ ?_
        rotate_left
        · intro w'
          go_simp
          with_reducible rfl
        rotate_left
        · simp only [Act.put, List.setIfInBounds_toArray, List.set_cons_zero, List.set_cons_succ]
          rfl
        refine pure_ (i := 1) (N := some 49) (v := ?_) (a' := ?_) #[true, true, false, false, false, false, false, false, false, false, false, false, false, false, false] rfl rfl (by kernel_rfl) (fun _ _ _ h => h) (Or.inl ⟨by rfl, ?_⟩) ?_ ?_
        rotate_left
        · intro w'
          go_simp
          with_reducible rfl
        rotate_left
        · simp only [Act.put, List.setIfInBounds_toArray, List.set_cons_zero, List.set_cons_succ]
          rfl
        refine pure_ (i := 2) (N := some 50) (v := ?_) (a' := ?_) #[true, true, true, false, false, false, false, false, false, false, false, false, false, false, false] rfl rfl (by kernel_rfl) (fun _ _ _ h => h) (Or.inl ⟨by rfl, ?_⟩) ?_ ?_
        rotate_left
        · intro w'
          go_simp
          with_reducible rfl
        rotate_left
        · simp only [Act.put, List.setIfInBounds_toArray, List.set_cons_zero, List.set_cons_succ]
          rfl
        refine pure_ (i := 3) (N := some 51) (v := ?_) (a' := ?_) #[true, true, true, true, false, false, false, false, false, false, false, false, false, false, false] rfl rfl (by kernel_rfl) (fun _ _ _ h => h) (Or.inl ⟨by rfl, ?_⟩) ?_ ?_
        rotate_left
        · intro w'
          go_simp
          with_reducible rfl
        rotate_left
        · simp only [Act.put, List.setIfInBounds_toArray, List.set_cons_zero, List.set_cons_succ]
          rfl
        refine pure_ (i := 4) (N := some 52) (v := ?_) (a' := ?_) #[true, true, true, true, true, false, false, false, false, false, false, false, false, false, false] rfl rfl (by kernel_rfl) (fun _ _ _ h => h) (Or.inl ⟨by rfl, ?_⟩) ?_ ?_
        rotate_left
        · intro w'
          go_simp
          with_reducible rfl
        rotate_left
        · simp only [Act.put, List.setIfInBounds_toArray, List.set_cons_zero, List.set_cons_succ]
          rfl
        refine take_ (i := 5) (N := some 53) (v := ?_) (a' := ?_) #[true, true, true, true, true, true, false, false, false, false, false, false, false, false, false] rfl rfl (by kernel_rfl) (fun _ _ _ h => h) (Or.inl ⟨by rfl, ?_⟩) hHeld ?_ ?_
        rotate_left
        · intro w' s0
          obtain ⟨x0, x1, x2, x3⟩ := CX.out _ s0
          go_simp
          with_reducible rfl
        rotate_left
        · simp only [Act.put, List.setIfInBounds_toArray, List.set_cons_zero, List.set_cons_succ]
          rfl
        refine pure_ (i := 6) (N := some 54) (v := ?_) (a' := ?_) #[true, true, true, true, true, true, true, false, false, false, false, false, false, false, false] rfl rfl (by kernel_rfl) (fun _ _ _ h => h) (Or.inl ⟨by rfl, ?_⟩) ?_ ?_
        rotate_left
        · intro w'
          go_simp
          with_reducible rfl
        rotate_left
        · simp only [Act.put, List.setIfInBounds_toArray, List.set_cons_zero, List.set_cons_succ]
          rfl
        refine pure_ (i := 7) (N := some 55) (v := ?_) (a' := ?_) #[true, true, true, true, true, true, true, true, false, false, false, false, false, false, false] rfl rfl (by kernel_rfl) (fun _ _ _ h => h) (Or.inl ⟨by rfl, ?_⟩) ?_ ?_
        rotate_left
        · intro w'
          go_simp
          with_reducible rfl
        rotate_left
        · simp only [Act.put, List.setIfInBounds_toArray, List.set_cons_zero, List.set_cons_succ]
          rfl
        refine pure_ (i := 8) (N := some 56) (v := ?_) (a' := ?_) #[true, true, true, true, true, true, true, true, true, false, false, false, false, false, false] rfl rfl (by kernel_rfl) (fun _ _ _ h => h) (Or.inl ⟨by rfl, ?_⟩) ?_ ?_
        rotate_left
        · intro w'
          go_simp
          with_reducible rfl
        rotate_left
        · simp only [Act.put, List.setIfInBounds_toArray, List.set_cons_zero, List.set_cons_succ]
          rfl
        refine pure_ (i := 9) (N := some 57) (v := ?_) (a' := ?_) #[true, true, true, true, true, true, true, true, true, true, false, false, false, false, false] rfl rfl (by kernel_rfl) (fun _ _ _ h => h) (Or.inl ⟨by rfl, ?_⟩) ?_ ?_
        rotate_left
        · intro w'
          go_simp
          with_reducible rfl
        rotate_left
        · simp only [Act.put, List.setIfInBounds_toArray, List.set_cons_zero, List.set_cons_succ]
          rfl
        refine pure_ (i := 10) (N := some 58) (v := ?_) (a' := ?_) #[true, true, true, true, true, true, true, true, true, true, true, false, false, false, false] rfl rfl (by kernel_rfl) (fun _ _ _ h => h) (Or.inl ⟨by rfl, ?_⟩) ?_ ?_
        rotate_left
        · intro w'
          go_simp
          with_reducible rfl
        rotate_left
        · simp only [Act.put, List.setIfInBounds_toArray, List.set_cons_zero, List.set_cons_succ]
          rfl
        refine take_ (i := 11) (N := some 59) (v := ?_) (a' := ?_) #[true, true, true, true, true, true, true, true, true, true, true, true, false, false, false] rfl rfl (by kernel_rfl) (fun _ _ _ h => h) (Or.inl ⟨by rfl, ?_⟩) hHeld ?_ ?_
        rotate_left
        · intro w' s0
          obtain ⟨x0, x1, x2, x3⟩ := CX.out _ s0
          go_simp
          with_reducible rfl
        rotate_left
        · simp only [Act.put, List.setIfInBounds_toArray, List.set_cons_zero, List.set_cons_succ]
          rfl
        refine pure_ (i := 12) (N := some 60) (v := ?_) (a' := ?_) #[true, true, true, true, true, true, true, true, true, true, true, true, true, false, false] rfl rfl (by kernel_rfl) (fun _ _ _ h => h) (Or.inl ⟨by rfl, ?_⟩) ?_ ?_
        rotate_left
        · intro w'
          go_simp
          with_reducible rfl
        rotate_left
        · simp only [Act.put, List.setIfInBounds_toArray, List.set_cons_zero, List.set_cons_succ]
          rfl
        refine pure_ (i := 13) (N := some 61) (v := ?_) (a' := ?_) #[true, true, true, true, true, true, true, true, true, true, true, true, true, true, false] rfl rfl (by kernel_rfl) (fun _ _ _ h => h) (Or.inl ⟨by rfl, ?_⟩) ?_ ?_
        rotate_left
        · intro w'
          go_simp
          with_reducible rfl
        rotate_left
        · simp only [Act.put, List.setIfInBounds_toArray, List.set_cons_zero, List.set_cons_succ]
          rfl
        refine pure_ (i := 14) (N := some 62) (v := ?_) (a' := ?_) #[true, true, true, true, true, true, true, true, true, true, true, true, true, true, true] rfl rfl (by kernel_rfl) (fun _ _ _ h => h) (Or.inl ⟨by rfl, ?_⟩) ?_ ?_
        rotate_left
        · intro w'
          go_simp
          with_reducible rfl
        rotate_left
        · simp only [Act.put, List.setIfInBounds_toArray, List.set_cons_zero, List.set_cons_succ]
          rfl
        refine done_ (by kernel_rfl) ?_
        have HO2 := Aside0.mk (HO.out.step hHeld)
        have X42 := Aside0.mk (X4.out.step hHeld)
        obtain ⟨x0, x1, x2, x3⟩ := CX.out _ hHeld
        clear hHeld hwr
        (try simp only [Exit.inBlock, Exit.then])
        go_wp2_with (fail)
        refine (add_call HO2.out.tab HO2.out.good ⟨⟨xa, xb⟩, xv, xp⟩ HSZ.out).mono ?_
        rintro e w3 ⟨v3, rfl, ht, hu⟩
        have HO3 := Aside0.mk (HO2.out.turn (good_addF HO2.out.good _) ht hu)
        have X43 := Aside0.mk (X42.out.turn hu)
        clear ht hu x0 x1 x2 x3
        go_wp2_with (fail)
        go_roundw
        case rel => exact ⟨j + 1, _, v3, by omega, by go_num, HO3, X43, Nat.le_trans (addF_len' HO2.out.good _) (by have := HLJ.out; omega)⟩
        case measure => simp [intOf]; omega
    · have hltI : ¬ (j : Int) < (n : Int) := by omega
      have HL40 := Aside0.mk (show L.length ≤ 40 from by have := HLJ.out; omega)
      clear hj hlt
      go_wp2_with (fail)
      refine (list_call HO.out.tab HO.out.good).mono ?_
      rintro e w2 ⟨⟨va, rfl, ho⟩, hb⟩
      obtain ⟨A2, c2, rfl⟩ := Kd.R_slice ho
      have W2 := Aside0.mk (Rw.new HO.out.tab ho)
      have HO2 := Aside0.mk (HO.out.step hb)
      have X42 := Aside0.mk (X4.out.step hb)
      clear hb ho HO X4
      go_wp2_with (fail)
      obtain ⟨⟨⟨⟨fa, fb⟩, fv, fp⟩, fe⟩, hfe⟩ : ∃ y, findF L dst = y := ⟨_, rfl⟩
      have HFE := Aside0.mk hfe
      obtain ⟨m, hmL⟩ : ∃ m, L.length = m := ⟨_, rfl⟩
      have HML := Aside0.mk hmL
      have hm64 : m < 64 := by rw [← hmL]; have := HL40.out; omega
      have hm64I : (m : Int) < 64 := by omega
      rw [hmL] at W2 ⊢
      clear hfe hmL
      refine (find_call HO2.out.tab HO2.out.good dst).mono ?_
      rintro e w3 ⟨he, hb⟩
      rw [HFE.out] at he
      have he : e = .returned (.tuple #[.agg #[.string fa, .int .i64 fb, .string fv, .int .i64 fp], .int .i64 fe]) := he
      subst he
      have HO3 := Aside0.mk (HO2.out.step hb)
      have W3 := Aside0.mk (W2.out.step hb)
      have X43 := Aside0.mk (X42.out.step hb)
      have HB3 := Aside0.mk HO3.out.below
      clear hb
      by_cases c1 : fe = 182
      · subst c1
        go_wp2_with (first | ((with_reducible refine gate_dst (N := 10) rfl ?_); refine box_event ?hg (N := 10) ?hd (cs := #[.string ByteArray.empty, .int .i64 0, .string ByteArray.empty, .int .i64 0]) (t := 28) ?hr ?_; (case hd => rfl); (case hg => rfl); (case hr => first | (go_simp; done) | (go_simp; rfl)); intro q10 hq w4 hbox hb; have BKq10 := Aside0.mk hbox; have HQq10 := Aside0.mk (show w.heap.size ≤ q10 from by rw [hq]; exact HB3.out.size); have HB4 := Aside0.mk (HB3.out.trans (hb.mono HB3.out.size)); have HL := Aside0.mk (show Below w3.heap.size w3 w4 from hb); have HQL := Aside0.mk (show w3.heap.size ≤ q10 from Nat.le_of_eq hq.symm); clear hbox hb hq) | ((with_reducible refine gate_store (t := 28) (p := 10) rfl ?_); have ca0 : w4.cell? ⟨q10, 0, none⟩ = some (.string ByteArray.empty) := (blk_cell BKq10.out 0).trans rfl; have ca1 : w4.cell? ⟨q10, 1, none⟩ = some (.int .i64 0) := (blk_cell BKq10.out 1).trans rfl; have ca2 : w4.cell? ⟨q10, 2, none⟩ = some (.string ByteArray.empty) := (blk_cell BKq10.out 2).trans rfl; have ca3 : w4.cell? ⟨q10, 3, none⟩ = some (.int .i64 0) := (blk_cell BKq10.out 3).trans rfl; have fa0 : w4.frozen? ⟨q10, 0, none⟩ = false := blk_frozen BKq10.out 0; have fa1 : w4.frozen? ⟨q10, 1, none⟩ = false := blk_frozen BKq10.out 1; have fa2 : w4.frozen? ⟨q10, 2, none⟩ = false := blk_frozen BKq10.out 2; have fa3 : w4.frozen? ⟨q10, 3, none⟩ = false := blk_frozen BKq10.out 3; refine store_event (t := 28) (p := 10) (v := ?vo10_5_1_n1) (w1 := Cells.setAll w4 q10 0 [.string fa, .int .i64 fb, .string fv, .int .i64 fp]) ?hg ?ho ?hn ?hr ?_; (case ho => rfl); (case hg => rfl); (case hn => rfl); (case hr => first | (go_simp; done) | (go_simp; rfl)); intro w5 hw; have HB5 := Aside0.mk (show Below w.heap.size w w5 from by rw [hw]; exact Cells.setAll_below HQq10.out _ _ _ HB4.out); have BKq10 := Aside0.mk (show w5.heap[q10]? = some (.cells #[.string fa, .int .i64 fb, .string fv, .int .i64 fp] 28 (0, 0)) from by rw [hw]; exact Cells.stored4 BKq10.out); clear ca0 ca1 ca2 ca3; clear fa0 fa1 fa2 fa3; have H5 := Aside0.mk (show Below w3.heap.size w3 w5 from by rw [hw]; exact Cells.setAll_below HQL.out _ _ _ HL.out); have X10_5 := Aside0.mk (Bx.new (w0 := w) HO3.out.tab HQL.out BKq10.out); have HO5 := Aside0.mk (HO3.out.step H5.out); clear hw HL HQL) | ((with_reducible refine gate_dst (N := 12) rfl ?_); refine box_event ?hg (N := 12) ?hd (cs := #[.string ByteArray.empty, .int .i64 0, .string ByteArray.empty, .int .i64 0]) (t := 28) ?hr ?_; (case hd => rfl); (case hg => rfl); (case hr => first | (go_simp; done) | (go_simp; rfl)); intro q12 hq w6 hbox hb; have BKq12 := Aside0.mk hbox; have HQq12 := Aside0.mk (show w.heap.size ≤ q12 from by rw [hq]; exact HB5.out.size); have HB6 := Aside0.mk (HB5.out.trans (hb.mono HB5.out.size)); have HL := Aside0.mk (show Below w5.heap.size w5 w6 from hb); have HQL := Aside0.mk (show w5.heap.size ≤ q12 from Nat.le_of_eq hq.symm); clear hbox hb hq) | ((with_reducible refine gate_store (t := 28) (p := 12) rfl ?_); have ca0 : w6.cell? ⟨q12, 0, none⟩ = some (.string ByteArray.empty) := (blk_cell BKq12.out 0).trans rfl; have ca1 : w6.cell? ⟨q12, 1, none⟩ = some (.int .i64 0) := (blk_cell BKq12.out 1).trans rfl; have ca2 : w6.cell? ⟨q12, 2, none⟩ = some (.string ByteArray.empty) := (blk_cell BKq12.out 2).trans rfl; have ca3 : w6.cell? ⟨q12, 3, none⟩ = some (.int .i64 0) := (blk_cell BKq12.out 3).trans rfl; have fa0 : w6.frozen? ⟨q12, 0, none⟩ = false := blk_frozen BKq12.out 0; have fa1 : w6.frozen? ⟨q12, 1, none⟩ = false := blk_frozen BKq12.out 1; have fa2 : w6.frozen? ⟨q12, 2, none⟩ = false := blk_frozen BKq12.out 2; have fa3 : w6.frozen? ⟨q12, 3, none⟩ = false := blk_frozen BKq12.out 3; refine store_event (t := 28) (p := 12) (v := ?vo12_7_2_n2) (w1 := Cells.setAll w6 q12 0 [.string dst, .int .i64 0, .string ByteArray.empty, .int .i64 77]) ?hg ?ho ?hn ?hr ?_; (case ho => rfl); (case hg => rfl); (case hn => rfl); (case hr => first | (go_simp; done) | (go_simp; rfl)); intro w7 hw; have HB7 := Aside0.mk (show Below w.heap.size w w7 from by rw [hw]; exact Cells.setAll_below HQq12.out _ _ _ HB6.out); have BKq12 := Aside0.mk (show w7.heap[q12]? = some (.cells #[.string dst, .int .i64 0, .string ByteArray.empty, .int .i64 77] 28 (0, 0)) from by rw [hw]; exact Cells.stored4 BKq12.out); clear ca0 ca1 ca2 ca3; clear fa0 fa1 fa2 fa3; have H7 := Aside0.mk (show Below w5.heap.size w5 w7 from by rw [hw]; exact Cells.setAll_below HQL.out _ _ _ HL.out); have X12_7 := Aside0.mk (Bx.new (w0 := w) HO5.out.tab HQL.out BKq12.out); have HO7 := Aside0.mk (HO5.out.step H7.out); clear hw HL HQL; have y0 : w7.cell? ⟨q12, 0, none⟩ = some (.string dst) := (blk_cell BKq12.out 0).trans rfl; have y1 : w7.cell? ⟨q12, 1, none⟩ = some (.int .i64 0) := (blk_cell BKq12.out 1).trans rfl; have y2 : w7.cell? ⟨q12, 2, none⟩ = some (.string ByteArray.empty) := (blk_cell BKq12.out 2).trans rfl; have y3 : w7.cell? ⟨q12, 3, none⟩ = some (.int .i64 77) := (blk_cell BKq12.out 3).trans rfl; have BKq4 := Aside0.mk (((X43.out.step H5.out).step H7.out).blk); have z0 : w7.cell? ⟨q4, 0, none⟩ = some (.string ra) := (blk_cell BKq4.out 0).trans rfl; have z1 : w7.cell? ⟨q4, 1, none⟩ = some (.int .i64 rb) := (blk_cell BKq4.out 1).trans rfl; have z2 : w7.cell? ⟨q4, 2, none⟩ = some (.string rv) := (blk_cell BKq4.out 2).trans rfl; have z3 : w7.cell? ⟨q4, 3, none⟩ = some (.int .i64 rp) := (blk_cell BKq4.out 3).trans rfl))
        have W7 := Aside0.mk ((W3.out.step H5.out).step H7.out)
        have X4_7 := Aside0.mk ((X43.out.step H5.out).step H7.out)
        have X10_7 := Aside0.mk (X10_5.out.step H7.out)
        clear z0 z1 z2 z3
        obtain ⟨hga1, hga2, hga3, hga4⟩ := gone_all HO7.out.good dst (by rw [HFE.out]) (by rw [HML.out]; exact hm64)
        have HGA := Aside0.mk hga4
        have GL1 := Aside0.mk (good_addF HO7.out.good ⟨⟨dst, 0⟩, ByteArray.empty, 77⟩)
        obtain ⟨L1, hL1⟩ : ∃ L1, (addF L ⟨⟨dst, 0⟩, ByteArray.empty, 77⟩).1 = L1 := ⟨_, rfl⟩
        have HL1 := Aside0.mk hL1
        have HF1 := Aside0.mk hga1
        rw [hL1] at hga2 hga3 HGA GL1
        obtain ⟨⟨⟨⟨ga, gb⟩, gv, gp⟩, ge⟩, hge⟩ : ∃ y, findF L1 dst = y := ⟨_, rfl⟩
        have HGE := Aside0.mk hge
        rw [hge] at hga2 hga3
        simp only at hga2 hga3
        subst hga2
        subst hga3
        clear hL1 hga1 hga4 hge
        refine (add_call HO7.out.tab HO7.out.good ⟨⟨dst, 0⟩, ByteArray.empty, 77⟩ HDS.out).mono ?_
        rintro e w8 ⟨v8, he, ht, hu⟩
        rw [HF1.out] at he
        rw [HL1.out] at ht
        subst he
        have HO8 := Aside0.mk (HO7.out.turn GL1.out ht hu)
        have HB8 := Aside0.mk HO8.out.below
        have W8 := Aside0.mk (W7.out.turn HO7.out.tab hu)
        have X4_8 := Aside0.mk (X4_7.out.turn hu)
        have X10_8 := Aside0.mk (X10_7.out.turn hu)
        have X12_8 := Aside0.mk (X12_7.out.turn hu)
        clear ht hu y0 y1 y2 y3
        go_wp2_with (fail)
        refine (find_call HO8.out.tab HO8.out.good dst).mono ?_
        rintro e w9 ⟨he, hb⟩
        rw [HGE.out] at he
        have he : e = .returned (.tuple #[.agg #[.string ga, .int .i64 gb, .string gv, .int .i64 77], .int .i64 0]) := he
        subst he
        have HO9 := Aside0.mk (HO8.out.step hb)
        have HB9 := Aside0.mk HO9.out.below
        have W9 := Aside0.mk (W8.out.step hb)
        have X4_9 := Aside0.mk (X4_8.out.step hb)
        have X10_9 := Aside0.mk (X10_8.out.step hb)
        have X12_9 := Aside0.mk (X12_8.out.step hb)
        clear hb
        go_wp2_with (first | ((with_reducible refine gate_dst (N := 14) rfl ?_); refine box_event ?hg (N := 14) ?hd (cs := #[.string ByteArray.empty, .int .i64 0, .string ByteArray.empty, .int .i64 0]) (t := 28) ?hr ?_; (case hd => rfl); (case hg => rfl); (case hr => first | (go_simp; done) | (go_simp; rfl)); intro q14 hq w10 hbox hb; have BKq14 := Aside0.mk hbox; have HQq14 := Aside0.mk (show w.heap.size ≤ q14 from by rw [hq]; exact HB9.out.size); have HB10 := Aside0.mk (HB9.out.trans (hb.mono HB9.out.size)); have HL := Aside0.mk (show Below w9.heap.size w9 w10 from hb); have HQL := Aside0.mk (show w9.heap.size ≤ q14 from Nat.le_of_eq hq.symm); clear hbox hb hq) | ((with_reducible refine gate_store (t := 28) (p := 14) rfl ?_); have ca0 : w10.cell? ⟨q14, 0, none⟩ = some (.string ByteArray.empty) := (blk_cell BKq14.out 0).trans rfl; have ca1 : w10.cell? ⟨q14, 1, none⟩ = some (.int .i64 0) := (blk_cell BKq14.out 1).trans rfl; have ca2 : w10.cell? ⟨q14, 2, none⟩ = some (.string ByteArray.empty) := (blk_cell BKq14.out 2).trans rfl; have ca3 : w10.cell? ⟨q14, 3, none⟩ = some (.int .i64 0) := (blk_cell BKq14.out 3).trans rfl; have fa0 : w10.frozen? ⟨q14, 0, none⟩ = false := blk_frozen BKq14.out 0; have fa1 : w10.frozen? ⟨q14, 1, none⟩ = false := blk_frozen BKq14.out 1; have fa2 : w10.frozen? ⟨q14, 2, none⟩ = false := blk_frozen BKq14.out 2; have fa3 : w10.frozen? ⟨q14, 3, none⟩ = false := blk_frozen BKq14.out 3; refine store_event (t := 28) (p := 14) (v := ?vo14_11_3_n3) (w1 := Cells.setAll w10 q14 0 [.string ga, .int .i64 gb, .string gv, .int .i64 77]) ?hg ?ho ?hn ?hr ?_; (case ho => rfl); (case hg => rfl); (case hn => rfl); (case hr => first | (go_simp; done) | (go_simp; rfl)); intro w11 hw; have HB11 := Aside0.mk (show Below w.heap.size w w11 from by rw [hw]; exact Cells.setAll_below HQq14.out _ _ _ HB10.out); have BKq14 := Aside0.mk (show w11.heap[q14]? = some (.cells #[.string ga, .int .i64 gb, .string gv, .int .i64 77] 28 (0, 0)) from by rw [hw]; exact Cells.stored4 BKq14.out); clear ca0 ca1 ca2 ca3; clear fa0 fa1 fa2 fa3; have H11 := Aside0.mk (show Below w9.heap.size w9 w11 from by rw [hw]; exact Cells.setAll_below HQL.out _ _ _ HL.out); have X14_11 := Aside0.mk (Bx.new (w0 := w) HO9.out.tab HQL.out BKq14.out); have HO11 := Aside0.mk (HO9.out.step H11.out); clear hw HL HQL; have u0 : w11.cell? ⟨q14, 0, none⟩ = some (.string ga) := (blk_cell BKq14.out 0).trans rfl; have u1 : w11.cell? ⟨q14, 1, none⟩ = some (.int .i64 gb) := (blk_cell BKq14.out 1).trans rfl; have u2 : w11.cell? ⟨q14, 2, none⟩ = some (.string gv) := (blk_cell BKq14.out 2).trans rfl; have u3 : w11.cell? ⟨q14, 3, none⟩ = some (.int .i64 77) := (blk_cell BKq14.out 3).trans rfl; have BKq12 := Aside0.mk ((X12_9.out.step H11.out).blk); have y0 : w11.cell? ⟨q12, 0, none⟩ = some (.string dst) := (blk_cell BKq12.out 0).trans rfl; have y1 : w11.cell? ⟨q12, 1, none⟩ = some (.int .i64 0) := (blk_cell BKq12.out 1).trans rfl; have y2 : w11.cell? ⟨q12, 2, none⟩ = some (.string ByteArray.empty) := (blk_cell BKq12.out 2).trans rfl; have y3 : w11.cell? ⟨q12, 3, none⟩ = some (.int .i64 77) := (blk_cell BKq12.out 3).trans rfl))
        clear y0 y1 y2 y3 u0 u1 u2 u3
        refine (rem_call HO11.out.tab HO11.out.good ⟨dst, 0⟩ HDS.out).mono ?_
        rintro e w12 ⟨v12, he, ht, hu⟩
        rw [HGA.out] at he ht
        subst he
        have HO12 := Aside0.mk (HO11.out.turn HO7.out.good ht hu)
        have HB12 := Aside0.mk HO12.out.below
        have W12 := Aside0.mk ((W9.out.step H11.out).turn HO11.out.tab hu)
        have X4_12 := Aside0.mk ((X4_9.out.step H11.out).turn hu)
        have X10_12 := Aside0.mk ((X10_9.out.step H11.out).turn hu)
        clear ht hu
        have BKq4 := Aside0.mk X4_12.out.blk; have z0 : w12.cell? ⟨q4, 0, none⟩ = some (.string ra) := (blk_cell BKq4.out 0).trans rfl; have z1 : w12.cell? ⟨q4, 1, none⟩ = some (.int .i64 rb) := (blk_cell BKq4.out 1).trans rfl; have z2 : w12.cell? ⟨q4, 2, none⟩ = some (.string rv) := (blk_cell BKq4.out 2).trans rfl; have z3 : w12.cell? ⟨q4, 3, none⟩ = some (.int .i64 rp) := (blk_cell BKq4.out 3).trans rfl
        go_wp2_with (fail)
        refine (rem_call HO12.out.tab HO12.out.good ⟨ra, rb⟩ HRA.out).mono ?_
        rintro e w20 ⟨v20, he, ht, hu⟩
        obtain ⟨er, her⟩ : ∃ er, (remF L ⟨ra, rb⟩).2 = er := ⟨_, rfl⟩
        have HER := Aside0.mk her
        rw [her] at he
        subst he
        clear her
        by_cases h0 : er = 0
        · subst h0
          have HO20 := Aside0.mk (HO12.out.turn (good_remF HO12.out.good ⟨ra, rb⟩) ht hu)
          clear ht hu z0 z1 z2 z3
          go_wp2_with (fail)
          refine (awake_walk _).mono ?_
          rintro e w21 ⟨rfl, hb⟩
          have HO21 := Aside0.mk (HO20.out.step hb)
          clear hb
          go_wp2_with (fail)
          go_ret
          exact ⟨rfl, HO21.out.below⟩
        · have h0B : (er == 0) = false := by rw [beq_eq_false_iff_ne]; exact h0
          obtain ⟨g1, g2, g3⟩ := gone_r HO12.out.good ⟨⟨ra, rb⟩, rv, rp⟩ (show (remF L ⟨ra, rb⟩).2 ≠ 0 by rw [HER.out]; exact h0)
          simp only at g1 g2 g3
          rw [g1] at ht
          have HO20 := Aside0.mk (HO12.out.turn HO12.out.good ht hu)
          have W20 := Aside0.mk (W12.out.turn HO12.out.tab hu)
          have X4_20 := Aside0.mk (X4_12.out.turn hu)
          have X10_20 := Aside0.mk (X10_12.out.turn hu)
          have GL2 := Aside0.mk (good_addF HO12.out.good ⟨⟨ra, rb⟩, rv, rp⟩)
          obtain ⟨⟨L2, f⟩, hadd⟩ : ∃ y, addF L ⟨⟨ra, rb⟩, rv, rp⟩ = y := ⟨_, rfl⟩
          have HADD := Aside0.mk hadd
          rw [hadd] at g2 g3 GL2
          simp only at g2 g3 GL2
          obtain ⟨⟨L3, g⟩, hrem⟩ : ∃ y, remF L2 ⟨ra, rb⟩ = y := ⟨_, rfl⟩
          have HREM := Aside0.mk hrem
          rw [hrem] at g2 g3
          simp only at g2 g3
          subst g2
          have HG3 := Aside0.mk g3
          have BKq4 := Aside0.mk X4_20.out.blk
          clear ht hu g1 g3 hadd hrem z0 z1 z2 z3
          have z0 : w20.cell? ⟨q4, 0, none⟩ = some (.string ra) := (blk_cell BKq4.out 0).trans rfl
          have z1 : w20.cell? ⟨q4, 1, none⟩ = some (.int .i64 rb) := (blk_cell BKq4.out 1).trans rfl
          have z2 : w20.cell? ⟨q4, 2, none⟩ = some (.string rv) := (blk_cell BKq4.out 2).trans rfl
          have z3 : w20.cell? ⟨q4, 3, none⟩ = some (.int .i64 rp) := (blk_cell BKq4.out 3).trans rfl
          go_wp2_with (fail)
          refine (add_call HO20.out.tab HO20.out.good ⟨⟨ra, rb⟩, rv, rp⟩ HRA.out).mono ?_
          rintro e w21 ⟨v21, he, ht, hu⟩
          rw [HADD.out] at he ht
          subst he
          have HO21 := Aside0.mk (HO20.out.turn GL2.out ht hu)
          have W21 := Aside0.mk (W20.out.turn HO20.out.tab hu)
          have X4_21 := Aside0.mk (X4_20.out.turn hu)
          have X10_21 := Aside0.mk (X10_20.out.turn hu)
          have BKq4 := Aside0.mk X4_21.out.blk
          clear ht hu z0 z1 z2 z3
          have z0 : w21.cell? ⟨q4, 0, none⟩ = some (.string ra) := (blk_cell BKq4.out 0).trans rfl
          have z1 : w21.cell? ⟨q4, 1, none⟩ = some (.int .i64 rb) := (blk_cell BKq4.out 1).trans rfl
          have z2 : w21.cell? ⟨q4, 2, none⟩ = some (.string rv) := (blk_cell BKq4.out 2).trans rfl
          have z3 : w21.cell? ⟨q4, 3, none⟩ = some (.int .i64 rp) := (blk_cell BKq4.out 3).trans rfl
          go_wp2_with (fail)
          refine (rem_call HO21.out.tab HO21.out.good ⟨ra, rb⟩ HRA.out).mono ?_
          rintro e w22 ⟨v22, he, ht, hu⟩
          rw [HREM.out] at he ht
          subst he
          have HO22 := Aside0.mk (HO21.out.turn HO20.out.good ht hu)
          have W22 := Aside0.mk (W21.out.turn HO21.out.tab hu)
          have X10_22 := Aside0.mk (X10_21.out.turn hu)
          clear ht hu z0 z1 z2 z3
          go_wp2_with (fail)
          refine (list_call HO22.out.tab HO22.out.good).mono ?_
          rintro e w23 ⟨⟨vb, rfl, ho⟩, hb⟩
          obtain ⟨A3, c3, rfl⟩ := Kd.R_slice ho
          have W23b := Aside0.mk (Rw.new HO22.out.tab ho)
          have HO23 := Aside0.mk (HO22.out.step hb)
          have W23 := Aside0.mk (W22.out.step hb)
          have X10_23 := Aside0.mk (X10_22.out.step hb)
          clear hb ho
          rw [HML.out] at W23b ⊢
          have HR2 := Aside0.mk (show ∀ W, Below w23.heap.size w23 W → k28.C W A2 m L3 from fun W hW => by have h := Kd.C_below W23.out.read hW; rwa [HML.out] at h)
          have HR3 := Aside0.mk (show ∀ W, Below w23.heap.size w23 W → k28.C W A3 m L3 from fun W hW => by have h := Kd.C_below W23b.out.read hW; rwa [HML.out] at h)
          go_wp2_with (fail)
          go_loopw [19] (fun iv wr => ∃ i : Nat, i ≤ m ∧ iv = .int .i64 i ∧ Aside0 (Below w23.heap.size w23 wr)) (fun iv _ => m - (intOf iv).toNat)
          case atStart => exact ⟨0, by omega, rfl, Aside0.mk (Below.refl _ _)⟩
          case round =>
            obtain ⟨i, hi, rfl, HB⟩ := hrel
            by_cases hil : i < m
            · obtain ⟨ad2, hA2, hcs2⟩ := at_T28 (HR2.out _ HB.out) (i : Int) (by omega) (by omega)
              obtain ⟨ad3, hA3, hcs3⟩ := at_T28 (HR3.out _ HB.out) (i : Int) (by omega) (by omega)
              rw [Int.toNat_natCast] at hcs2 hcs3
              have er2 : rd_T28 L3 (i : Int) = L3.getD i z28 := by unfold rd_T28; rw [Int.toNat_natCast]
              rw [er2] at hcs2 hcs3
              obtain ⟨⟨⟨ya, yb⟩, yv, yp⟩, hy⟩ : ∃ y, L3.getD i z28 = y := ⟨_, rfl⟩
              simp only [hy] at hcs2 hcs3
              subst hA2
              subst hA3
              have CX2 := Aside0.mk (show ∀ W, Below wr.heap.size wr W → _ from fun W hW => And.intro (pw_cell_below hW hcs2.1) (And.intro (pw_cell_below hW hcs2.2.1) (And.intro (pw_cell_below hW hcs2.2.2.1) (pw_cell_below hW hcs2.2.2.2))))
              have CX3 := Aside0.mk (show ∀ W, Below wr.heap.size wr W → _ from fun W hW => And.intro (pw_cell_below hW hcs3.1) (And.intro (pw_cell_below hW hcs3.2.1) (And.intro (pw_cell_below hW hcs3.2.2.1) (pw_cell_below hW hcs3.2.2.2))))
              have hilI : (i : Int) < (m : Int) := by omega
              have heY := eqE_true (rfl : (⟨⟨ya, yb⟩, yv, yp⟩ : S28) = ⟨⟨ya, yb⟩, yv, yp⟩)
              clear er2 hy hcs2 hcs3
              go_wp2_with (fail)
              refine start_ (n := 16) (S := fun W => Below wr.heap.size wr W) (ds := []) #[false, false, false, false, false, false, false, false, false, false, false, false, false, false, false, false] (by kernel_rfl) rfl rfl (below_drew (Below.refl wr.heap.size wr)) (fun hHeld => ?_)
              refine pure_ (i := 0) (N := some 135) (v := ?_) (a' := ?_) #[true, false, false, false, false, false, false, false, false, false, false, false, false, false, false, false] rfl rfl (by kernel_rfl) (fun _ _ _ h => h) (Or.inl ⟨by rfl, ?_⟩) ?_ ?_
              rotate_left
              · intro w'
                go_simp
                with_reducible rfl
              rotate_left
              · simp only [Act.put, List.setIfInBounds_toArray, List.set_cons_zero, List.set_cons_succ]
                rfl
              refine pure_ (i := 1) (N := some 136) (v := ?_) (a' := ?_) #[true, true, false, false, false, false, false, false, false, false, false, false, false, false, false, false] rfl rfl (by kernel_rfl) (fun _ _ _ h => h) (Or.inl ⟨by rfl, ?_⟩) ?_ ?_
              rotate_left
              · intro w'
                go_simp
                with_reducible rfl
              rotate_left
              · simp only [Act.put, List.setIfInBounds_toArray, List.set_cons_zero, List.set_cons_succ]
                rfl
              refine pure_ (i := 2) (N := some 137) (v := ?_) (a' := ?_) #[true, true, true, false, false, false, false, false, false, false, false, false, false, false, false, false] rfl rfl (by kernel_rfl) (fun _ _ _ h => h) (Or.inl ⟨by rfl, ?_⟩) ?_ ?_
              rotate_left
              · intro w'
                go_simp
                with_reducible rfl
              rotate_left
              · simp only [Act.put, List.setIfInBounds_toArray, List.set_cons_zero, List.set_cons_succ]
                rfl
              refine pure_ (i := 3) (N := some 138) (v := ?_) (a' := ?_) #[true, true, true, true, false, false, false, false, false, false, false, false, false, false, false, false] rfl rfl (by kernel_rfl) (fun _ _ _ h => h) (Or.inl ⟨by rfl, ?_⟩) ?_ ?_
              rotate_left
              · intro w'
                go_simp
                with_reducible rfl
              rotate_left
              · simp only [Act.put, List.setIfInBounds_toArray, List.set_cons_zero, List.set_cons_succ]
                rfl
              refine pure_ (i := 4) (N := some 139) (v := ?_) (a' := ?_) #[true, true, true, true, true, false, false, false, false, false, false, false, false, false, false, false] rfl rfl (by kernel_rfl) (fun _ _ _ h => h) (Or.inl ⟨by rfl, ?_⟩) ?_ ?_
              rotate_left
              · intro w'
                go_simp
                with_reducible rfl
              rotate_left
              · simp only [Act.put, List.setIfInBounds_toArray, List.set_cons_zero, List.set_cons_succ]
                rfl
              refine pure_ (i := 5) (N := some 140) (v := ?_) (a' := ?_) #[true, true, true, true, true, true, false, false, false, false, false, false, false, false, false, false] rfl rfl (by kernel_rfl) (fun _ _ _ h => h) (Or.inl ⟨by rfl, ?_⟩) ?_ ?_
              rotate_left
              · intro w'
                go_simp
                with_reducible rfl
              rotate_left
              · simp only [Act.put, List.setIfInBounds_toArray, List.set_cons_zero, List.set_cons_succ]
                rfl
              refine pure_ (i := 6) (N := some 141) (v := ?_) (a' := ?_) #[true, true, true, true, true, true, true, false, false, false, false, false, false, false, false, false] rfl rfl (by kernel_rfl) (fun _ _ _ h => h) (Or.inl ⟨by rfl, ?_⟩) ?_ ?_
              rotate_left
              · intro w'
                go_simp
                with_reducible rfl
              rotate_left
              · simp only [Act.put, List.setIfInBounds_toArray, List.set_cons_zero, List.set_cons_succ]
                rfl
              refine pure_ (i := 7) (N := some 142) (v := ?_) (a' := ?_) #[true, true, true, true, true, true, true, true, false, false, false, false, false, false, false, false] rfl rfl (by kernel_rfl) (fun _ _ _ h => h) (Or.inl ⟨by rfl, ?_⟩) ?_ ?_
              rotate_left
              · intro w'
                go_simp
                with_reducible rfl
              rotate_left
              · simp only [Act.put, List.setIfInBounds_toArray, List.set_cons_zero, List.set_cons_succ]
                rfl
              refine pure_ (i := 8) (N := some 143) (v := ?_) (a' := ?_) #[true, true, true, true, true, true, true, true, true, false, false, false, false, false, false, false] rfl rfl (by kernel_rfl) (fun _ _ _ h => h) (Or.inl ⟨by rfl, ?_⟩) ?_ ?_
              rotate_left
              · intro w'
                go_simp
                with_reducible rfl
              rotate_left
              · simp only [Act.put, List.setIfInBounds_toArray, List.set_cons_zero, List.set_cons_succ]
                rfl
              refine take_ (i := 9) (N := some 144) (v := ?_) (a' := ?_) #[true, true, true, true, true, true, true, true, true, true, false, false, false, false, false, false] rfl rfl (by kernel_rfl) (fun _ _ _ h => h) (Or.inl ⟨by rfl, ?_⟩) hHeld ?_ ?_
              rotate_left
              · intro w' s0
                obtain ⟨x0, x1, x2, x3⟩ := CX2.out _ s0
                obtain ⟨y0, y1, y2, y3⟩ := CX3.out _ s0
                go_simp
                with_reducible rfl
              rotate_left
              · simp only [Act.put, List.setIfInBounds_toArray, List.set_cons_zero, List.set_cons_succ]
                rfl
              refine pure_ (i := 10) (N := some 145) (v := ?_) (a' := ?_) #[true, true, true, true, true, true, true, true, true, true, true, false, false, false, false, false] rfl rfl (by kernel_rfl) (fun _ _ _ h => h) (Or.inl ⟨by rfl, ?_⟩) ?_ ?_
              rotate_left
              · intro w'
                go_simp
                with_reducible rfl
              rotate_left
              · simp only [Act.put, List.setIfInBounds_toArray, List.set_cons_zero, List.set_cons_succ]
                rfl
              refine pure_ (i := 11) (N := some 146) (v := ?_) (a' := ?_) #[true, true, true, true, true, true, true, true, true, true, true, true, false, false, false, false] rfl rfl (by kernel_rfl) (fun _ _ _ h => h) (Or.inl ⟨by rfl, ?_⟩) ?_ ?_
              rotate_left
              · intro w'
                go_simp
                with_reducible rfl
              rotate_left
              · simp only [Act.put, List.setIfInBounds_toArray, List.set_cons_zero, List.set_cons_succ]
                rfl
              refine pure_ (i := 12) (N := some 147) (v := ?_) (a' := ?_) #[true, true, true, true, true, true, true, true, true, true, true, true, true, false, false, false] rfl rfl (by kernel_rfl) (fun _ _ _ h => h) (Or.inl ⟨by rfl, ?_⟩) ?_ ?_
              rotate_left
              · intro w'
                go_simp
                with_reducible rfl
              rotate_left
              · simp only [Act.put, List.setIfInBounds_toArray, List.set_cons_zero, List.set_cons_succ]
                rfl
              refine take_ (i := 13) (N := some 148) (v := ?_) (a' := ?_) #[true, true, true, true, true, true, true, true, true, true, true, true, true, true, false, false] rfl rfl (by kernel_rfl) (fun _ _ _ h => h) (Or.inl ⟨by rfl, ?_⟩) hHeld ?_ ?_
              rotate_left
              · intro w' s0
                obtain ⟨x0, x1, x2, x3⟩ := CX2.out _ s0
                obtain ⟨y0, y1, y2, y3⟩ := CX3.out _ s0
                go_simp
                with_reducible rfl
              rotate_left
              · simp only [Act.put, List.setIfInBounds_toArray, List.set_cons_zero, List.set_cons_succ]
                rfl
              refine pure_ (i := 14) (N := some 149) (v := ?_) (a' := ?_) #[true, true, true, true, true, true, true, true, true, true, true, true, true, true, true, false] rfl rfl (by kernel_rfl) (fun _ _ _ h => h) (Or.inl ⟨by rfl, ?_⟩) ?_ ?_
              rotate_left
              · intro w'
                go_simp
                with_reducible rfl
              rotate_left
              · simp only [Act.put, List.setIfInBounds_toArray, List.set_cons_zero, List.set_cons_succ]
                rfl
              refine pure_ (i := 15) (N := some 150) (v := ?_) (a' := ?_) #[true, true, true, true, true, true, true, true, true, true, true, true, true, true, true, true] rfl rfl (by kernel_rfl) (fun _ _ _ h => h) (Or.inl ⟨by rfl, ?_⟩) ?_ ?_
              rotate_left
              · intro w'
                go_simp
                with_reducible rfl
              rotate_left
              · simp only [Act.put, List.setIfInBounds_toArray, List.set_cons_zero, List.set_cons_succ]
                rfl
              refine done_ (by kernel_rfl) ?_
              have HB7 := Aside0.mk (HB.out.trans (hHeld.mono HB.out.size))
              (try simp only [Exit.inBlock, Exit.then])
              go_wp2_with (fail)
              go_roundw
              case rel => exact ⟨i + 1, by omega, by go_num, HB7⟩
              case measure => simp [intOf]; omega
            · have hilI : ¬ (i : Int) < (m : Int) := by omega
              have HO23 := Aside0.mk (HO23.out.step HB.out)
              have X10_23 := Aside0.mk (X10_23.out.step HB.out)
              go_wp2_with (fail)
              refine (find_call HO23.out.tab HO23.out.good dst).mono ?_
              rintro e w24 ⟨he, hb⟩
              rw [HFE.out] at he
              have he : e = .returned (.tuple #[.agg #[.string fa, .int .i64 fb, .string fv, .int .i64 fp], .int .i64 182]) := he
              subst he
              have HO24 := Aside0.mk (HO23.out.step hb)
              have HB24 := Aside0.mk HO24.out.below
              have X10_24 := Aside0.mk (X10_23.out.step hb)
              clear hb
              go_wp2_with (first | ((with_reducible refine gate_dst (N := 20) rfl ?_); refine box_event ?hg (N := 20) ?hd (cs := #[.string ByteArray.empty, .int .i64 0, .string ByteArray.empty, .int .i64 0]) (t := 28) ?hr ?_; (case hd => rfl); (case hg => rfl); (case hr => first | (go_simp; done) | (go_simp; rfl)); intro q20 hq w25 hbox hb; have BKq20 := Aside0.mk hbox; have HQq20 := Aside0.mk (show w.heap.size ≤ q20 from by rw [hq]; exact HB24.out.size); have HB25 := Aside0.mk (HB24.out.trans (hb.mono HB24.out.size)); have HL := Aside0.mk (show Below w24.heap.size w24 w25 from hb); have HQL := Aside0.mk (show w24.heap.size ≤ q20 from Nat.le_of_eq hq.symm); clear hbox hb hq) | ((with_reducible refine gate_store (t := 28) (p := 20) rfl ?_); have ca0 : w25.cell? ⟨q20, 0, none⟩ = some (.string ByteArray.empty) := (blk_cell BKq20.out 0).trans rfl; have ca1 : w25.cell? ⟨q20, 1, none⟩ = some (.int .i64 0) := (blk_cell BKq20.out 1).trans rfl; have ca2 : w25.cell? ⟨q20, 2, none⟩ = some (.string ByteArray.empty) := (blk_cell BKq20.out 2).trans rfl; have ca3 : w25.cell? ⟨q20, 3, none⟩ = some (.int .i64 0) := (blk_cell BKq20.out 3).trans rfl; have fa0 : w25.frozen? ⟨q20, 0, none⟩ = false := blk_frozen BKq20.out 0; have fa1 : w25.frozen? ⟨q20, 1, none⟩ = false := blk_frozen BKq20.out 1; have fa2 : w25.frozen? ⟨q20, 2, none⟩ = false := blk_frozen BKq20.out 2; have fa3 : w25.frozen? ⟨q20, 3, none⟩ = false := blk_frozen BKq20.out 3; refine store_event (t := 28) (p := 20) (v := ?vo20_26_4_n4) (w1 := Cells.setAll w25 q20 0 [.string fa, .int .i64 fb, .string fv, .int .i64 fp]) ?hg ?ho ?hn ?hr ?_; (case ho => rfl); (case hg => rfl); (case hn => rfl); (case hr => first | (go_simp; done) | (go_simp; rfl)); intro w26 hw; have HB26 := Aside0.mk (show Below w.heap.size w w26 from by rw [hw]; exact Cells.setAll_below HQq20.out _ _ _ HB25.out); have BKq20 := Aside0.mk (show w26.heap[q20]? = some (.cells #[.string fa, .int .i64 fb, .string fv, .int .i64 fp] 28 (0, 0)) from by rw [hw]; exact Cells.stored4 BKq20.out); clear ca0 ca1 ca2 ca3; clear fa0 fa1 fa2 fa3; have H26 := Aside0.mk (show Below w24.heap.size w24 w26 from by rw [hw]; exact Cells.setAll_below HQL.out _ _ _ HL.out); have X20_26 := Aside0.mk (Bx.new (w0 := w) HO24.out.tab HQL.out BKq20.out); have HO26 := Aside0.mk (HO24.out.step H26.out); clear hw HL HQL))
              refine (awake_walk _).mono ?_
              rintro e w27 ⟨rfl, hb⟩
              have HO27 := Aside0.mk (HO26.out.step hb)
              have BKq10 := Aside0.mk (((X10_24.out.step H26.out).step hb).blk)
              have BKq20 := Aside0.mk ((X20_26.out.step hb).blk)
              clear hb
              have y0 : w27.cell? ⟨q10, 0, none⟩ = some (.string fa) := (blk_cell BKq10.out 0).trans rfl
              have y1 : w27.cell? ⟨q10, 1, none⟩ = some (.int .i64 fb) := (blk_cell BKq10.out 1).trans rfl
              have y2 : w27.cell? ⟨q10, 2, none⟩ = some (.string fv) := (blk_cell BKq10.out 2).trans rfl
              have y3 : w27.cell? ⟨q10, 3, none⟩ = some (.int .i64 fp) := (blk_cell BKq10.out 3).trans rfl
              have z0 : w27.cell? ⟨q20, 0, none⟩ = some (.string fa) := (blk_cell BKq20.out 0).trans rfl
              have z1 : w27.cell? ⟨q20, 1, none⟩ = some (.int .i64 fb) := (blk_cell BKq20.out 1).trans rfl
              have z2 : w27.cell? ⟨q20, 2, none⟩ = some (.string fv) := (blk_cell BKq20.out 2).trans rfl
              have z3 : w27.cell? ⟨q20, 3, none⟩ = some (.int .i64 fp) := (blk_cell BKq20.out 3).trans rfl
              have heF := eqE_true (rfl : (⟨⟨fa, fb⟩, fv, fp⟩ : S28) = ⟨⟨fa, fb⟩, fv, fp⟩)
              by_cases hfg : f = g
              · subst hfg
                go_wp2_with (fail)
                go_ret
                exact ⟨rfl, HO27.out.below⟩
              · have hf0 : f ≠ 0 := HG3.out.resolve_left hfg
                have hfgB : (f == g) = false := by rw [beq_eq_false_iff_ne]; exact hfg
                have hf0B : (f != 0) = true := by rw [bne_iff_ne]; exact hf0
                go_wp2_with (fail)
                go_ret
                exact ⟨rfl, HO27.out.below⟩
      · have c1B : (fe == 182) = false := by rw [beq_eq_false_iff_ne]; exact c1
        go_wp2_with (first | ((with_reducible refine gate_dst (N := 10) rfl ?_); refine box_event ?hg (N := 10) ?hd (cs := #[.string ByteArray.empty, .int .i64 0, .string ByteArray.empty, .int .i64 0]) (t := 28) ?hr ?_; (case hd => rfl); (case hg => rfl); (case hr => first | (go_simp; done) | (go_simp; rfl)); intro q10 hq w4 hbox hb; have BKq10 := Aside0.mk hbox; have HQq10 := Aside0.mk (show w.heap.size ≤ q10 from by rw [hq]; exact HB3.out.size); have HB4 := Aside0.mk (HB3.out.trans (hb.mono HB3.out.size)); have HL := Aside0.mk (show Below w3.heap.size w3 w4 from hb); have HQL := Aside0.mk (show w3.heap.size ≤ q10 from Nat.le_of_eq hq.symm); clear hbox hb hq) | ((with_reducible refine gate_store (t := 28) (p := 10) rfl ?_); have ca0 : w4.cell? ⟨q10, 0, none⟩ = some (.string ByteArray.empty) := (blk_cell BKq10.out 0).trans rfl; have ca1 : w4.cell? ⟨q10, 1, none⟩ = some (.int .i64 0) := (blk_cell BKq10.out 1).trans rfl; have ca2 : w4.cell? ⟨q10, 2, none⟩ = some (.string ByteArray.empty) := (blk_cell BKq10.out 2).trans rfl; have ca3 : w4.cell? ⟨q10, 3, none⟩ = some (.int .i64 0) := (blk_cell BKq10.out 3).trans rfl; have fa0 : w4.frozen? ⟨q10, 0, none⟩ = false := blk_frozen BKq10.out 0; have fa1 : w4.frozen? ⟨q10, 1, none⟩ = false := blk_frozen BKq10.out 1; have fa2 : w4.frozen? ⟨q10, 2, none⟩ = false := blk_frozen BKq10.out 2; have fa3 : w4.frozen? ⟨q10, 3, none⟩ = false := blk_frozen BKq10.out 3; refine store_event (t := 28) (p := 10) (v := ?vo10_5_1_n5) (w1 := Cells.setAll w4 q10 0 [.string fa, .int .i64 fb, .string fv, .int .i64 fp]) ?hg ?ho ?hn ?hr ?_; (case ho => rfl); (case hg => rfl); (case hn => rfl); (case hr => first | (go_simp; done) | (go_simp; rfl)); intro w5 hw; have HB5 := Aside0.mk (show Below w.heap.size w w5 from by rw [hw]; exact Cells.setAll_below HQq10.out _ _ _ HB4.out); have BKq10 := Aside0.mk (show w5.heap[q10]? = some (.cells #[.string fa, .int .i64 fb, .string fv, .int .i64 fp] 28 (0, 0)) from by rw [hw]; exact Cells.stored4 BKq10.out); clear ca0 ca1 ca2 ca3; clear fa0 fa1 fa2 fa3; have H5 := Aside0.mk (show Below w3.heap.size w3 w5 from by rw [hw]; exact Cells.setAll_below HQL.out _ _ _ HL.out); have X10_5 := Aside0.mk (Bx.new (w0 := w) HO3.out.tab HQL.out BKq10.out); have HO5 := Aside0.mk (HO3.out.step H5.out); clear hw HL HQL) | ((with_reducible refine gate_dst (N := 12) rfl ?_); refine box_event ?hg (N := 12) ?hd (cs := #[.string ByteArray.empty, .int .i64 0, .string ByteArray.empty, .int .i64 0]) (t := 28) ?hr ?_; (case hd => rfl); (case hg => rfl); (case hr => first | (go_simp; done) | (go_simp; rfl)); intro q12 hq w6 hbox hb; have BKq12 := Aside0.mk hbox; have HQq12 := Aside0.mk (show w.heap.size ≤ q12 from by rw [hq]; exact HB5.out.size); have HB6 := Aside0.mk (HB5.out.trans (hb.mono HB5.out.size)); have HL := Aside0.mk (show Below w5.heap.size w5 w6 from hb); have HQL := Aside0.mk (show w5.heap.size ≤ q12 from Nat.le_of_eq hq.symm); clear hbox hb hq) | ((with_reducible refine gate_store (t := 28) (p := 12) rfl ?_); have ca0 : w6.cell? ⟨q12, 0, none⟩ = some (.string ByteArray.empty) := (blk_cell BKq12.out 0).trans rfl; have ca1 : w6.cell? ⟨q12, 1, none⟩ = some (.int .i64 0) := (blk_cell BKq12.out 1).trans rfl; have ca2 : w6.cell? ⟨q12, 2, none⟩ = some (.string ByteArray.empty) := (blk_cell BKq12.out 2).trans rfl; have ca3 : w6.cell? ⟨q12, 3, none⟩ = some (.int .i64 0) := (blk_cell BKq12.out 3).trans rfl; have fa0 : w6.frozen? ⟨q12, 0, none⟩ = false := blk_frozen BKq12.out 0; have fa1 : w6.frozen? ⟨q12, 1, none⟩ = false := blk_frozen BKq12.out 1; have fa2 : w6.frozen? ⟨q12, 2, none⟩ = false := blk_frozen BKq12.out 2; have fa3 : w6.frozen? ⟨q12, 3, none⟩ = false := blk_frozen BKq12.out 3; refine store_event (t := 28) (p := 12) (v := ?vo12_7_2_n6) (w1 := Cells.setAll w6 q12 0 [.string dst, .int .i64 0, .string ByteArray.empty, .int .i64 77]) ?hg ?ho ?hn ?hr ?_; (case ho => rfl); (case hg => rfl); (case hn => rfl); (case hr => first | (go_simp; done) | (go_simp; rfl)); intro w7 hw; have HB7 := Aside0.mk (show Below w.heap.size w w7 from by rw [hw]; exact Cells.setAll_below HQq12.out _ _ _ HB6.out); have BKq12 := Aside0.mk (show w7.heap[q12]? = some (.cells #[.string dst, .int .i64 0, .string ByteArray.empty, .int .i64 77] 28 (0, 0)) from by rw [hw]; exact Cells.stored4 BKq12.out); clear ca0 ca1 ca2 ca3; clear fa0 fa1 fa2 fa3; have H7 := Aside0.mk (show Below w5.heap.size w5 w7 from by rw [hw]; exact Cells.setAll_below HQL.out _ _ _ HL.out); have X12_7 := Aside0.mk (Bx.new (w0 := w) HO5.out.tab HQL.out BKq12.out); have HO7 := Aside0.mk (HO5.out.step H7.out); clear hw HL HQL; have y0 : w7.cell? ⟨q12, 0, none⟩ = some (.string dst) := (blk_cell BKq12.out 0).trans rfl; have y1 : w7.cell? ⟨q12, 1, none⟩ = some (.int .i64 0) := (blk_cell BKq12.out 1).trans rfl; have y2 : w7.cell? ⟨q12, 2, none⟩ = some (.string ByteArray.empty) := (blk_cell BKq12.out 2).trans rfl; have y3 : w7.cell? ⟨q12, 3, none⟩ = some (.int .i64 77) := (blk_cell BKq12.out 3).trans rfl; have BKq4 := Aside0.mk (((X43.out.step H5.out).step H7.out).blk); have z0 : w7.cell? ⟨q4, 0, none⟩ = some (.string ra) := (blk_cell BKq4.out 0).trans rfl; have z1 : w7.cell? ⟨q4, 1, none⟩ = some (.int .i64 rb) := (blk_cell BKq4.out 1).trans rfl; have z2 : w7.cell? ⟨q4, 2, none⟩ = some (.string rv) := (blk_cell BKq4.out 2).trans rfl; have z3 : w7.cell? ⟨q4, 3, none⟩ = some (.int .i64 rp) := (blk_cell BKq4.out 3).trans rfl))
        have W7 := Aside0.mk ((W3.out.step H5.out).step H7.out)
        have X4_7 := Aside0.mk ((X43.out.step H5.out).step H7.out)
        have X10_7 := Aside0.mk (X10_5.out.step H7.out)
        refine (rem_call HO7.out.tab HO7.out.good ⟨ra, rb⟩ HRA.out).mono ?_
        rintro e w20 ⟨v20, he, ht, hu⟩
        obtain ⟨er, her⟩ : ∃ er, (remF L ⟨ra, rb⟩).2 = er := ⟨_, rfl⟩
        have HER := Aside0.mk her
        rw [her] at he
        subst he
        clear her
        by_cases h0 : er = 0
        · subst h0
          have HO20 := Aside0.mk (HO7.out.turn (good_remF HO7.out.good ⟨ra, rb⟩) ht hu)
          clear ht hu z0 z1 z2 z3
          go_wp2_with (fail)
          refine (awake_walk _).mono ?_
          rintro e w21 ⟨rfl, hb⟩
          have HO21 := Aside0.mk (HO20.out.step hb)
          clear hb
          go_wp2_with (fail)
          go_ret
          exact ⟨rfl, HO21.out.below⟩
        · have h0B : (er == 0) = false := by rw [beq_eq_false_iff_ne]; exact h0
          obtain ⟨g1, g2, g3⟩ := gone_r HO7.out.good ⟨⟨ra, rb⟩, rv, rp⟩ (show (remF L ⟨ra, rb⟩).2 ≠ 0 by rw [HER.out]; exact h0)
          simp only at g1 g2 g3
          rw [g1] at ht
          have HO20 := Aside0.mk (HO7.out.turn HO7.out.good ht hu)
          have W20 := Aside0.mk (W7.out.turn HO7.out.tab hu)
          have X4_20 := Aside0.mk (X4_7.out.turn hu)
          have X10_20 := Aside0.mk (X10_7.out.turn hu)
          have GL2 := Aside0.mk (good_addF HO7.out.good ⟨⟨ra, rb⟩, rv, rp⟩)
          obtain ⟨⟨L2, f⟩, hadd⟩ : ∃ y, addF L ⟨⟨ra, rb⟩, rv, rp⟩ = y := ⟨_, rfl⟩
          have HADD := Aside0.mk hadd
          rw [hadd] at g2 g3 GL2
          simp only at g2 g3 GL2
          obtain ⟨⟨L3, g⟩, hrem⟩ : ∃ y, remF L2 ⟨ra, rb⟩ = y := ⟨_, rfl⟩
          have HREM := Aside0.mk hrem
          rw [hrem] at g2 g3
          simp only at g2 g3
          subst g2
          have HG3 := Aside0.mk g3
          have BKq4 := Aside0.mk X4_20.out.blk
          clear ht hu g1 g3 hadd hrem z0 z1 z2 z3
          have z0 : w20.cell? ⟨q4, 0, none⟩ = some (.string ra) := (blk_cell BKq4.out 0).trans rfl
          have z1 : w20.cell? ⟨q4, 1, none⟩ = some (.int .i64 rb) := (blk_cell BKq4.out 1).trans rfl
          have z2 : w20.cell? ⟨q4, 2, none⟩ = some (.string rv) := (blk_cell BKq4.out 2).trans rfl
          have z3 : w20.cell? ⟨q4, 3, none⟩ = some (.int .i64 rp) := (blk_cell BKq4.out 3).trans rfl
          go_wp2_with (fail)
          refine (add_call HO20.out.tab HO20.out.good ⟨⟨ra, rb⟩, rv, rp⟩ HRA.out).mono ?_
          rintro e w21 ⟨v21, he, ht, hu⟩
          rw [HADD.out] at he ht
          subst he
          have HO21 := Aside0.mk (HO20.out.turn GL2.out ht hu)
          have W21 := Aside0.mk (W20.out.turn HO20.out.tab hu)
          have X4_21 := Aside0.mk (X4_20.out.turn hu)
          have X10_21 := Aside0.mk (X10_20.out.turn hu)
          have BKq4 := Aside0.mk X4_21.out.blk
          clear ht hu z0 z1 z2 z3
          have z0 : w21.cell? ⟨q4, 0, none⟩ = some (.string ra) := (blk_cell BKq4.out 0).trans rfl
          have z1 : w21.cell? ⟨q4, 1, none⟩ = some (.int .i64 rb) := (blk_cell BKq4.out 1).trans rfl
          have z2 : w21.cell? ⟨q4, 2, none⟩ = some (.string rv) := (blk_cell BKq4.out 2).trans rfl
          have z3 : w21.cell? ⟨q4, 3, none⟩ = some (.int .i64 rp) := (blk_cell BKq4.out 3).trans rfl
          go_wp2_with (fail)
          refine (rem_call HO21.out.tab HO21.out.good ⟨ra, rb⟩ HRA.out).mono ?_
          rintro e w22 ⟨v22, he, ht, hu⟩
          rw [HREM.out] at he ht
          subst he
          have HO22 := Aside0.mk (HO21.out.turn HO20.out.good ht hu)
          have W22 := Aside0.mk (W21.out.turn HO21.out.tab hu)
          have X10_22 := Aside0.mk (X10_21.out.turn hu)
          clear ht hu z0 z1 z2 z3
          go_wp2_with (fail)
          refine (list_call HO22.out.tab HO22.out.good).mono ?_
          rintro e w23 ⟨⟨vb, rfl, ho⟩, hb⟩
          obtain ⟨A3, c3, rfl⟩ := Kd.R_slice ho
          have W23b := Aside0.mk (Rw.new HO22.out.tab ho)
          have HO23 := Aside0.mk (HO22.out.step hb)
          have W23 := Aside0.mk (W22.out.step hb)
          have X10_23 := Aside0.mk (X10_22.out.step hb)
          clear hb ho
          rw [HML.out] at W23b ⊢
          have HR2 := Aside0.mk (show ∀ W, Below w23.heap.size w23 W → k28.C W A2 m L3 from fun W hW => by have h := Kd.C_below W23.out.read hW; rwa [HML.out] at h)
          have HR3 := Aside0.mk (show ∀ W, Below w23.heap.size w23 W → k28.C W A3 m L3 from fun W hW => by have h := Kd.C_below W23b.out.read hW; rwa [HML.out] at h)
          go_wp2_with (fail)
          go_loopw [19] (fun iv wr => ∃ i : Nat, i ≤ m ∧ iv = .int .i64 i ∧ Aside0 (Below w23.heap.size w23 wr)) (fun iv _ => m - (intOf iv).toNat)
          case atStart => exact ⟨0, by omega, rfl, Aside0.mk (Below.refl _ _)⟩
          case round =>
            obtain ⟨i, hi, rfl, HB⟩ := hrel
            by_cases hil : i < m
            · obtain ⟨ad2, hA2, hcs2⟩ := at_T28 (HR2.out _ HB.out) (i : Int) (by omega) (by omega)
              obtain ⟨ad3, hA3, hcs3⟩ := at_T28 (HR3.out _ HB.out) (i : Int) (by omega) (by omega)
              rw [Int.toNat_natCast] at hcs2 hcs3
              have er2 : rd_T28 L3 (i : Int) = L3.getD i z28 := by unfold rd_T28; rw [Int.toNat_natCast]
              rw [er2] at hcs2 hcs3
              obtain ⟨⟨⟨ya, yb⟩, yv, yp⟩, hy⟩ : ∃ y, L3.getD i z28 = y := ⟨_, rfl⟩
              simp only [hy] at hcs2 hcs3
              subst hA2
              subst hA3
              have CX2 := Aside0.mk (show ∀ W, Below wr.heap.size wr W → _ from fun W hW => And.intro (pw_cell_below hW hcs2.1) (And.intro (pw_cell_below hW hcs2.2.1) (And.intro (pw_cell_below hW hcs2.2.2.1) (pw_cell_below hW hcs2.2.2.2))))
              have CX3 := Aside0.mk (show ∀ W, Below wr.heap.size wr W → _ from fun W hW => And.intro (pw_cell_below hW hcs3.1) (And.intro (pw_cell_below hW hcs3.2.1) (And.intro (pw_cell_below hW hcs3.2.2.1) (pw_cell_below hW hcs3.2.2.2))))
              have hilI : (i : Int) < (m : Int) := by omega
              have heY := eqE_true (rfl : (⟨⟨ya, yb⟩, yv, yp⟩ : S28) = ⟨⟨ya, yb⟩, yv, yp⟩)
              clear er2 hy hcs2 hcs3
              go_wp2_with (fail)
              refine start_ (n := 16) (S := fun W => Below wr.heap.size wr W) (ds := []) #[false, false, false, false, false, false, false, false, false, false, false, false, false, false, false, false] (by kernel_rfl) rfl rfl (below_drew (Below.refl wr.heap.size wr)) (fun hHeld => ?_)
              refine pure_ (i := 0) (N := some 135) (v := ?_) (a' := ?_) #[true, false, false, false, false, false, false, false, false, false, false, false, false, false, false, false] rfl rfl (by kernel_rfl) (fun _ _ _ h => h) (Or.inl ⟨by rfl, ?_⟩) ?_ ?_
              rotate_left
              · intro w'
                go_simp
                with_reducible rfl
              rotate_left
              · simp only [Act.put, List.setIfInBounds_toArray, List.set_cons_zero, List.set_cons_succ]
                rfl
              refine pure_ (i := 1) (N := some 136) (v := ?_) (a' := ?_) #[true, true, false, false, false, false, false, false, false, false, false, false, false, false, false, false] rfl rfl (by kernel_rfl) (fun _ _ _ h => h) (Or.inl ⟨by rfl, ?_⟩) ?_ ?_
              rotate_left
              · intro w'
                go_simp
                with_reducible rfl
              rotate_left
              · simp only [Act.put, List.setIfInBounds_toArray, List.set_cons_zero, List.set_cons_succ]
                rfl
              refine pure_ (i := 2) (N := some 137) (v := ?_) (a' := ?_) #[true, true, true, false, false, false, false, false, false, false, false, false, false, false, false, false] rfl rfl (by kernel_rfl) (fun _ _ _ h => h) (Or.inl ⟨by rfl, ?_⟩) ?_ ?_
              rotate_left
              · intro w'
                go_simp
                with_reducible rfl
              rotate_left
              · simp only [Act.put, List.setIfInBounds_toArray, List.set_cons_zero, List.set_cons_succ]
                rfl
              refine pure_ (i := 3) (N := some 138) (v := ?_) (a' := ?_) #[true, true, true, true, false, false, false, false, false, false, false, false, false, false, false, false] rfl rfl (by kernel_rfl) (fun _ _ _ h => h) (Or.inl ⟨by rfl, ?_⟩) ?_ ?_
              rotate_left
              · intro w'
                go_simp
                with_reducible rfl
              rotate_left
              · simp only [Act.put, List.setIfInBounds_toArray, List.set_cons_zero, List.set_cons_succ]
                rfl
              refine pure_ (i := 4) (N := some 139) (v := ?_) (a' := ?_) #[true, true, true, true, true, false, false, false, false, false, false, false, false, false, false, false] rfl rfl (by kernel_rfl) (fun _ _ _ h => h) (Or.inl ⟨by rfl, ?_⟩) ?_ ?_
              rotate_left
              · intro w'
                go_simp
                with_reducible rfl
              rotate_left
              · simp only [Act.put, List.setIfInBounds_toArray, List.set_cons_zero, List.set_cons_succ]
                rfl
              refine pure_ (i := 5) (N := some 140) (v := ?_) (a' := ?_) #[true, true, true, true, true, true, false, false, false, false, false, false, false, false, false, false] rfl rfl (by kernel_rfl) (fun _ _ _ h => h) (Or.inl ⟨by rfl, ?_⟩) ?_ ?_
              rotate_left
              · intro w'
                go_simp
                with_reducible rfl
              rotate_left
              · simp only [Act.put, List.setIfInBounds_toArray, List.set_cons_zero, List.set_cons_succ]
                rfl
              refine pure_ (i := 6) (N := some 141) (v := ?_) (a' := ?_) #[true, true, true, true, true, true, true, false, false, false, false, false, false, false, false, false] rfl rfl (by kernel_rfl) (fun _ _ _ h => h) (Or.inl ⟨by rfl, ?_⟩) ?_ ?_
              rotate_left
              · intro w'
                go_simp
                with_reducible rfl
              rotate_left
              · simp only [Act.put, List.setIfInBounds_toArray, List.set_cons_zero, List.set_cons_succ]
                rfl
              refine pure_ (i := 7) (N := some 142) (v := ?_) (a' := ?_) #[true, true, true, true, true, true, true, true, false, false, false, false, false, false, false, false] rfl rfl (by kernel_rfl) (fun _ _ _ h => h) (Or.inl ⟨by rfl, ?_⟩) ?_ ?_
              rotate_left
              · intro w'
                go_simp
                with_reducible rfl
              rotate_left
              · simp only [Act.put, List.setIfInBounds_toArray, List.set_cons_zero, List.set_cons_succ]
                rfl
              refine pure_ (i := 8) (N := some 143) (v := ?_) (a' := ?_) #[true, true, true, true, true, true, true, true, true, false, false, false, false, false, false, false] rfl rfl (by kernel_rfl) (fun _ _ _ h => h) (Or.inl ⟨by rfl, ?_⟩) ?_ ?_
              rotate_left
              · intro w'
                go_simp
                with_reducible rfl
              rotate_left
              · simp only [Act.put, List.setIfInBounds_toArray, List.set_cons_zero, List.set_cons_succ]
                rfl
              refine take_ (i := 9) (N := some 144) (v := ?_) (a' := ?_) #[true, true, true, true, true, true, true, true, true, true, false, false, false, false, false, false] rfl rfl (by kernel_rfl) (fun _ _ _ h => h) (Or.inl ⟨by rfl, ?_⟩) hHeld ?_ ?_
              rotate_left
              · intro w' s0
                obtain ⟨x0, x1, x2, x3⟩ := CX2.out _ s0
                obtain ⟨y0, y1, y2, y3⟩ := CX3.out _ s0
                go_simp
                with_reducible rfl
              rotate_left
              · simp only [Act.put, List.setIfInBounds_toArray, List.set_cons_zero, List.set_cons_succ]
                rfl
              refine pure_ (i := 10) (N := some 145) (v := ?_) (a' := ?_) #[true, true, true, true, true, true, true, true, true, true, true, false, false, false, false, false] rfl rfl (by kernel_rfl) (fun _ _ _ h => h) (Or.inl ⟨by rfl, ?_⟩) ?_ ?_
              rotate_left
              · intro w'
                go_simp
                with_reducible rfl
              rotate_left
              · simp only [Act.put, List.setIfInBounds_toArray, List.set_cons_zero, List.set_cons_succ]
                rfl
              refine pure_ (i := 11) (N := some 146) (v := ?_) (a' := ?_) #[true, true, true, true, true, true, true, true, true, true, true, true, false, false, false, false] rfl rfl (by kernel_rfl) (fun _ _ _ h => h) (Or.inl ⟨by rfl, ?_⟩) ?_ ?_
              rotate_left
              · intro w'
                go_simp
                with_reducible rfl
              rotate_left
              · simp only [Act.put, List.setIfInBounds_toArray, List.set_cons_zero, List.set_cons_succ]
                rfl
              refine pure_ (i := 12) (N := some 147) (v := ?_) (a' := ?_) #[true, true, true, true, true, true, true, true, true, true, true, true, true, false, false, false] rfl rfl (by kernel_rfl) (fun _ _ _ h => h) (Or.inl ⟨by rfl, ?_⟩) ?_ ?_
              rotate_left
              · intro w'
                go_simp
                with_reducible rfl
              rotate_left
              · simp only [Act.put, List.setIfInBounds_toArray, List.set_cons_zero, List.set_cons_succ]
                rfl
              refine take_ (i := 13) (N := some 148) (v := ?_) (a' := ?_) #[true, true, true, true, true, true, true, true, true, true, true, true, true, true, false, false] rfl rfl (by kernel_rfl) (fun _ _ _ h => h) (Or.inl ⟨by rfl, ?_⟩) hHeld ?_ ?_
              rotate_left
              · intro w' s0
                obtain ⟨x0, x1, x2, x3⟩ := CX2.out _ s0
                obtain ⟨y0, y1, y2, y3⟩ := CX3.out _ s0
                go_simp
                with_reducible rfl
              rotate_left
              · simp only [Act.put, List.setIfInBounds_toArray, List.set_cons_zero, List.set_cons_succ]
                rfl
              refine pure_ (i := 14) (N := some 149) (v := ?_) (a' := ?_) #[true, true, true, true, true, true, true, true, true, true, true, true, true, true, true, false] rfl rfl (by kernel_rfl) (fun _ _ _ h => h) (Or.inl ⟨by rfl, ?_⟩) ?_ ?_
              rotate_left
              · intro w'
                go_simp
                with_reducible rfl
              rotate_left
              · simp only [Act.put, List.setIfInBounds_toArray, List.set_cons_zero, List.set_cons_succ]
                rfl
              refine pure_ (i := 15) (N := some 150) (v := ?_) (a' := ?_) #[true, true, true, true, true, true, true, true, true, true, true, true, true, true, true, true] rfl rfl (by kernel_rfl) (fun _ _ _ h => h) (Or.inl ⟨by rfl, ?_⟩) ?_ ?_
              rotate_left
              · intro w'
                go_simp
                with_reducible rfl
              rotate_left
              · simp only [Act.put, List.setIfInBounds_toArray, List.set_cons_zero, List.set_cons_succ]
                rfl
              refine done_ (by kernel_rfl) ?_
              have HB7 := Aside0.mk (HB.out.trans (hHeld.mono HB.out.size))
              (try simp only [Exit.inBlock, Exit.then])
              go_wp2_with (fail)
              go_roundw
              case rel => exact ⟨i + 1, by omega, by go_num, HB7⟩
              case measure => simp [intOf]; omega
            · have hilI : ¬ (i : Int) < (m : Int) := by omega
              have HO23 := Aside0.mk (HO23.out.step HB.out)
              have X10_23 := Aside0.mk (X10_23.out.step HB.out)
              go_wp2_with (fail)
              refine (find_call HO23.out.tab HO23.out.good dst).mono ?_
              rintro e w24 ⟨he, hb⟩
              rw [HFE.out] at he
              have he : e = .returned (.tuple #[.agg #[.string fa, .int .i64 fb, .string fv, .int .i64 fp], .int .i64 fe]) := he
              subst he
              have HO24 := Aside0.mk (HO23.out.step hb)
              have HB24 := Aside0.mk HO24.out.below
              have X10_24 := Aside0.mk (X10_23.out.step hb)
              clear hb
              go_wp2_with (first | ((with_reducible refine gate_dst (N := 20) rfl ?_); refine box_event ?hg (N := 20) ?hd (cs := #[.string ByteArray.empty, .int .i64 0, .string ByteArray.empty, .int .i64 0]) (t := 28) ?hr ?_; (case hd => rfl); (case hg => rfl); (case hr => first | (go_simp; done) | (go_simp; rfl)); intro q20 hq w25 hbox hb; have BKq20 := Aside0.mk hbox; have HQq20 := Aside0.mk (show w.heap.size ≤ q20 from by rw [hq]; exact HB24.out.size); have HB25 := Aside0.mk (HB24.out.trans (hb.mono HB24.out.size)); have HL := Aside0.mk (show Below w24.heap.size w24 w25 from hb); have HQL := Aside0.mk (show w24.heap.size ≤ q20 from Nat.le_of_eq hq.symm); clear hbox hb hq) | ((with_reducible refine gate_store (t := 28) (p := 20) rfl ?_); have ca0 : w25.cell? ⟨q20, 0, none⟩ = some (.string ByteArray.empty) := (blk_cell BKq20.out 0).trans rfl; have ca1 : w25.cell? ⟨q20, 1, none⟩ = some (.int .i64 0) := (blk_cell BKq20.out 1).trans rfl; have ca2 : w25.cell? ⟨q20, 2, none⟩ = some (.string ByteArray.empty) := (blk_cell BKq20.out 2).trans rfl; have ca3 : w25.cell? ⟨q20, 3, none⟩ = some (.int .i64 0) := (blk_cell BKq20.out 3).trans rfl; have fa0 : w25.frozen? ⟨q20, 0, none⟩ = false := blk_frozen BKq20.out 0; have fa1 : w25.frozen? ⟨q20, 1, none⟩ = false := blk_frozen BKq20.out 1; have fa2 : w25.frozen? ⟨q20, 2, none⟩ = false := blk_frozen BKq20.out 2; have fa3 : w25.frozen? ⟨q20, 3, none⟩ = false := blk_frozen BKq20.out 3; refine store_event (t := 28) (p := 20) (v := ?vo20_26_4_n7) (w1 := Cells.setAll w25 q20 0 [.string fa, .int .i64 fb, .string fv, .int .i64 fp]) ?hg ?ho ?hn ?hr ?_; (case ho => rfl); (case hg => rfl); (case hn => rfl); (case hr => first | (go_simp; done) | (go_simp; rfl)); intro w26 hw; have HB26 := Aside0.mk (show Below w.heap.size w w26 from by rw [hw]; exact Cells.setAll_below HQq20.out _ _ _ HB25.out); have BKq20 := Aside0.mk (show w26.heap[q20]? = some (.cells #[.string fa, .int .i64 fb, .string fv, .int .i64 fp] 28 (0, 0)) from by rw [hw]; exact Cells.stored4 BKq20.out); clear ca0 ca1 ca2 ca3; clear fa0 fa1 fa2 fa3; have H26 := Aside0.mk (show Below w24.heap.size w24 w26 from by rw [hw]; exact Cells.setAll_below HQL.out _ _ _ HL.out); have X20_26 := Aside0.mk (Bx.new (w0 := w) HO24.out.tab HQL.out BKq20.out); have HO26 := Aside0.mk (HO24.out.step H26.out); clear hw HL HQL))
              refine (awake_walk _).mono ?_
              rintro e w27 ⟨rfl, hb⟩
              have HO27 := Aside0.mk (HO26.out.step hb)
              have BKq10 := Aside0.mk (((X10_24.out.step H26.out).step hb).blk)
              have BKq20 := Aside0.mk ((X20_26.out.step hb).blk)
              clear hb
              have y0 : w27.cell? ⟨q10, 0, none⟩ = some (.string fa) := (blk_cell BKq10.out 0).trans rfl
              have y1 : w27.cell? ⟨q10, 1, none⟩ = some (.int .i64 fb) := (blk_cell BKq10.out 1).trans rfl
              have y2 : w27.cell? ⟨q10, 2, none⟩ = some (.string fv) := (blk_cell BKq10.out 2).trans rfl
              have y3 : w27.cell? ⟨q10, 3, none⟩ = some (.int .i64 fp) := (blk_cell BKq10.out 3).trans rfl
              have z0 : w27.cell? ⟨q20, 0, none⟩ = some (.string fa) := (blk_cell BKq20.out 0).trans rfl
              have z1 : w27.cell? ⟨q20, 1, none⟩ = some (.int .i64 fb) := (blk_cell BKq20.out 1).trans rfl
              have z2 : w27.cell? ⟨q20, 2, none⟩ = some (.string fv) := (blk_cell BKq20.out 2).trans rfl
              have z3 : w27.cell? ⟨q20, 3, none⟩ = some (.int .i64 fp) := (blk_cell BKq20.out 3).trans rfl
              have heF := eqE_true (rfl : (⟨⟨fa, fb⟩, fv, fp⟩ : S28) = ⟨⟨fa, fb⟩, fv, fp⟩)
              by_cases hfg : f = g
              · subst hfg
                go_wp2_with (fail)
                go_ret
                exact ⟨rfl, HO27.out.below⟩
              · have hf0 : f ≠ 0 := HG3.out.resolve_left hfg
                have hfgB : (f == g) = false := by rw [beq_eq_false_iff_ne]; exact hfg
                have hf0B : (f != 0) = true := by rw [bne_iff_ne]; exact hf0
                go_wp2_with (fail)
                go_ret
                exact ⟨rfl, HO27.out.below⟩
theorem gone_law {H : Type} {enc : TypeId × Value → H} {d : DataW H} {ps : List MemPlace} (A : Option Addr) (len c : Nat) (ra : ByteArray) (rb : Int) (rv : ByteArray) (rp : Int) (dst : ByteArray) (w : World) (k : DataW.Trod enc Try.prog w 0 (fun _ => true) true 22 (.slice A len c) d ps) (wt : ∀ n ∈ d.weights Try.prog 22, n ≤ 140737488351232)
    (f1 : (Lit.int .i64 rb).wf = true) (f3 : (Lit.int .i64 rp).wf = true) (g : ra.size ≤ 140737488351232 ∧ rv.size ≤ 140737488351232) (hd : dst.size ≤ 140737488351232) :
    Calls Try.prog 7 #[.slice A len c, .agg #[.string ra, .int .i64 rb, .string rv, .int .i64 rp], .string dst] w fun e w' => e = .returned (.bool true) ∧ Below w.heap.size w w' := by
  obtain ⟨l, rfl, hc, hr, hm, hf⟩ := came28 k wt
  exact gone_main A l c ra rb rv rp dst w hr hc hm hf g.1 g.2 hd
end Go.Proofs.Ytmedkjiabieloaa.Rt

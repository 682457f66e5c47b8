/- The law RouteLongest. -/
import Derived.Test.YtmedkjiabieloaaRtOne
namespace Go.Proofs.Ytmedkjiabieloaa.Rt
open Go.RowKit Go.Proofs.YtmedkjiabieloaaW.PrintWords Go.Proofs.YtmedkjiabieloaaW.PrintLast Go.Proofs.YtmedkjiabieloaaW.PrintMore Go.Proofs.Ytmedkjiabieloaa.QRd
open Go.Proofs.Ytmedkjiabieloaa
set_option linter.unusedVariables false
set_option linter.unusedSimpArgs false
attribute [local go_sem high] eqA28'
theorem longest_plain {L : List S28} (hg : Good L) {d : ByteArray} {r : S28} {er : Int} (h : findF L d = (r, er)) :
    (∀ i, i < L.length → inR d (L.getD i z28).f0.f0 (L.getD i z28).f0.f1 = true → er = 0 ∧ (L.getD i z28).f0.f1 ≤ r.f0.f1 ∧ (d.size = 4 ∨ d.size = 16)) ∧
    ((d.size = 4 ∨ d.size = 16) → (er = 0 ∧ ∃ i, i < L.length ∧ inR d (L.getD i z28).f0.f0 (L.getD i z28).f0.f1 = true ∧ L.getD i z28 = r) ∨ (er = 182 ∧ ∀ i, i < L.length → inR d (L.getD i z28).f0.f0 (L.getD i z28).f0.f1 = false)) ∧
    (¬ (d.size = 4 ∨ d.size = 16) → er = 1) := by
  unfold findF at h
  by_cases hd : d.size = 4 ∨ d.size = 16
  · rw [if_pos hd] at h
    injection h with h1 h2
    obtain ⟨i1, i2⟩ := best_inv d L (z28, false)
    have hb : bestTo L d L.length = L.foldl (bestS d) (z28, false) := by unfold bestTo; rw [List.take_length]
    rw [← hb] at i1 i2
    cases hf : (bestTo L d L.length).2 with
    | false =>
      rw [hf] at h2
      have h3 := (i1 hf).2
      have h4 : ∀ i, i < L.length → inR d (L.getD i z28).f0.f0 (L.getD i z28).f0.f1 = false := fun i hi => h3 _ (getD_mem hi)
      exact ⟨(fun i hi hin => by rw [h4 i hi] at hin; cases hin), fun _ => .inr ⟨h2.symm, h4⟩, fun h => absurd hd h⟩
    | true =>
      rw [hf] at h2
      obtain ⟨j1, j2, _⟩ := i2 hf
      rw [h1] at j1 j2
      refine ⟨fun i hi hin => ⟨h2.symm, j2 _ (getD_mem hi) hin, hd⟩, fun _ => .inl ⟨h2.symm, ?_⟩, fun h => absurd hd h⟩
      rcases j1 with j1 | ⟨j1, j3⟩
      · rw [j1] at hf; cases hf
      · obtain ⟨i, hi, e⟩ := mem_getD j1
        exact ⟨i, hi, by rw [e]; exact j3, e⟩
  · rw [if_neg hd] at h
    injection h with h1 h2
    refine ⟨fun i hi hin => ?_, fun h => absurd h hd, fun _ => h2.symm⟩
    unfold inR at hin
    simp only [Bool.and_eq_true, decide_eq_true_eq] at hin
    have := (mask_ok _ _).1 hin.1.1.1
    unfold maskBad at this
    omega
set_option maxHeartbeats 3200000 in
set_option maxRecDepth 100000 in
theorem longest_main (A : Option Addr) (l : List S28) (c : Nat) (dst : ByteArray) (w : World) (hr : k28.C w A l.length l) (hc : l.length ≤ c) (hm : l.length ≤ maxLen) (hfit : ∀ x ∈ l, Fit28 x) (hds : dst.size ≤ 140737488351232) :
    Calls Try.prog 4 #[.slice A l.length c, .string dst] w fun e w' => e = .returned (.bool true) ∧ Below w.heap.size w w' := by
  have HFIT := Aside0.mk hfit
  have HDS := Aside0.mk hds
  have HR := Aside0.mk fun (W : World) (hb : Below w.heap.size w W) => Kd.C_below hr hb
  obtain ⟨n, hn⟩ : ∃ n, l.length = n := ⟨_, rfl⟩
  obtain ⟨sd, hsd⟩ : ∃ n, dst.size = n := ⟨_, rfl⟩
  have HN := Aside0.mk hn
  have HSD := Aside0.mk hsd
  have hsdI : (dst.size : Int) = (sd : Int) := by rw [hsd]
  rw [hn] at HR hm ⊢
  rw [hsd] at hds
  unfold maxLen at hm
  clear hr hc hfit hn hsd
  by_cases hg1 : 100 < n
  · have hg1I : (100 : Int) < (n : Int) := by omega
    go_enter Try.func4, Try.ntmps4
    go_wp2_with (fail)
    go_ret
    exact ⟨rfl, Below.refl _ _⟩
  by_cases hg2 : 300 < sd
  · have hg1I : ¬ (100 : Int) < (n : Int) := by omega
    have hg2I : (300 : Int) < (sd : Int) := by omega
    go_enter Try.func4, Try.ntmps4
    go_wp2_with (fail)
    go_ret
    exact ⟨rfl, Below.refl _ _⟩
  have hg1I : ¬ (100 : Int) < (n : Int) := by omega
  have hg2I : ¬ (300 : Int) < (sd : Int) := by omega
  go_enter Try.func4, Try.ntmps4
  go_wp2_with (fail)
  refine (new_call _).mono ?_
  rintro e w1 ⟨⟨q1, rfl, hq, ht⟩, hb⟩
  have HO1 := Aside0.mk (show One w w1 q1 (.slice none 0 0) [] from ⟨ht, good_nil, hb⟩)
  clear hb hq ht
  go_wp2_with (fail)
  go_loopw [6] (fun iv wr => ∃ (j : Nat) (L : List S28) (v1 : Value), j ≤ n ∧ iv = .int .i64 j ∧ Aside0 (One w wr q1 v1 L)) (fun iv _ => n - (intOf iv).toNat)
  case atStart => exact ⟨0, [], .slice none 0 0, by omega, rfl, HO1⟩
  case round =>
    clear HO1
    obtain ⟨j, L, v1, hj, rfl, HO⟩ := hrel
    by_cases hlt : j < n
    · obtain ⟨ad, hA, hcs⟩ := at_T28 (HR.out _ HO.out.below) (j : Int) (by omega) (by omega)
      rw [Int.toNat_natCast] at hcs
      have er : rd_T28 l (j : Int) = l.getD j z28 := by unfold rd_T28; rw [Int.toNat_natCast]
      rw [er] at hcs
      have hfx : Fit28 (l.getD j z28) := HFIT.out _ (getD_mem (by rw [HN.out]; exact hlt))
      obtain ⟨⟨⟨xa, xb⟩, xv, xp⟩, hx⟩ : ∃ x, l.getD j z28 = x := ⟨_, rfl⟩
      simp only [hx] at hcs hfx
      subst hA
      have HSZ := Aside0.mk (show xa.size ≤ 140737488351232 from hfx.1)
      obtain ⟨sa, hsa⟩ : ∃ k, xa.size = k := ⟨_, rfl⟩
      obtain ⟨sv, hsv⟩ : ∃ k, xv.size = k := ⟨_, rfl⟩
      have hsaI : (xa.size : Int) = (sa : Int) := by rw [hsa]
      have hsvI : (xv.size : Int) = (sv : Int) := by rw [hsv]
      have hsab : sa ≤ 140737488351232 ∧ sv ≤ 140737488351232 := by rw [← hsa, ← hsv]; exact hfx
      have CX := Aside0.mk (show ∀ W, Below wr.heap.size wr W → _ from fun W hW => And.intro (pw_cell_below hW hcs.1) (And.intro (pw_cell_below hW hcs.2.1) (And.intro (pw_cell_below hW hcs.2.2.1) (pw_cell_below hW hcs.2.2.2))))
      have hltI : (j : Int) < (n : Int) := by omega
      have hwr : IntKind.i64.wrap ((sa : Int) + (sv : Int)) = (sa : Int) + (sv : Int) := IntWalk.i64_in _ (by omega)
      clear er hx hfx hcs hsa hsv
      by_cases h3 : 300 < sa + sv
      · have h3I : (300 : Int) < (sa : Int) + (sv : Int) := by omega
        go_wp2_with (fail)
        refine start_ (n := 15) (S := fun W => Below wr.heap.size wr W) (ds := []) #[false, false, false, false, false, false, false, false, false, false, false, false, false, false, false] (by kernel_rfl) rfl rfl (below_drew (Below.refl wr.heap.size wr)) (fun hHeld => ?_)
        refine pure_ (i := 0) (N := some 29) (v := ?_) (a' := ?_) #[true, false, false, false, false, false, false, false, false, false, false, false, false, false, false] rfl rfl (by kernel_rfl) (fun _ _ _ h => h) (Or.inl ⟨by rfl, ?_⟩) ?_ ?_
        rotate_left
        · intro w'
          go_simp
          with_reducible rfl
        rotate_left
        · simp only [Act.put, List.setIfInBounds_toArray, List.set_cons_zero, List.set_cons_succ]
          rfl
        refine pure_ (i := 1) (N := some 30) (v := ?_) (a' := ?_) #[true, true, false, false, false, false, false, false, false, false, false, false, false, false, false] rfl rfl (by kernel_rfl) (fun _ _ _ h => h) (Or.inl ⟨by rfl, ?_⟩) ?_ ?_
        rotate_left
        · intro w'
          go_simp
          with_reducible rfl
        rotate_left
        · simp only [Act.put, List.setIfInBounds_toArray, List.set_cons_zero, List.set_cons_succ]
          rfl
        refine pure_ (i := 2) (N := some 31) (v := ?_) (a' := ?_) #[true, true, true, false, false, false, false, false, false, false, false, false, false, false, false] rfl rfl (by kernel_rfl) (fun _ _ _ h => h) (Or.inl ⟨by rfl, ?_⟩) ?_ ?_
        rotate_left
        · intro w'
          go_simp
          with_reducible rfl
        rotate_left
        · simp only [Act.put, List.setIfInBounds_toArray, List.set_cons_zero, List.set_cons_succ]
          rfl
        refine pure_ (i := 3) (N := some 32) (v := ?_) (a' := ?_) #[true, true, true, true, false, false, false, false, false, false, false, false, false, false, false] rfl rfl (by kernel_rfl) (fun _ _ _ h => h) (Or.inl ⟨by rfl, ?_⟩) ?_ ?_
        rotate_left
        · intro w'
          go_simp
          with_reducible rfl
        rotate_left
        · simp only [Act.put, List.setIfInBounds_toArray, List.set_cons_zero, List.set_cons_succ]
          rfl
        refine pure_ (i := 4) (N := some 33) (v := ?_) (a' := ?_) #[true, true, true, true, true, false, false, false, false, false, false, false, false, false, false] rfl rfl (by kernel_rfl) (fun _ _ _ h => h) (Or.inl ⟨by rfl, ?_⟩) ?_ ?_
        rotate_left
        · intro w'
          go_simp
          with_reducible rfl
        rotate_left
        · simp only [Act.put, List.setIfInBounds_toArray, List.set_cons_zero, List.set_cons_succ]
          rfl
        refine take_ (i := 5) (N := some 34) (v := ?_) (a' := ?_) #[true, true, true, true, true, true, false, false, false, false, false, false, false, false, false] rfl rfl (by kernel_rfl) (fun _ _ _ h => h) (Or.inl ⟨by rfl, ?_⟩) hHeld ?_ ?_
        rotate_left
        · intro w' s0
          obtain ⟨x0, x1, x2, x3⟩ := CX.out _ s0
          go_simp
          with_reducible rfl
        rotate_left
        · simp only [Act.put, List.setIfInBounds_toArray, List.set_cons_zero, List.set_cons_succ]
          rfl
        refine pure_ (i := 6) (N := some 35) (v := ?_) (a' := ?_) #[true, true, true, true, true, true, true, false, false, false, false, false, false, false, false] rfl rfl (by kernel_rfl) (fun _ _ _ h => h) (Or.inl ⟨by rfl, ?_⟩) ?_ ?_
        rotate_left
        · intro w'
          go_simp
          with_reducible rfl
        rotate_left
        · simp only [Act.put, List.setIfInBounds_toArray, List.set_cons_zero, List.set_cons_succ]
          rfl
        refine pure_ (i := 7) (N := some 36) (v := ?_) (a' := ?_) #[true, true, true, true, true, true, true, true, false, false, false, false, false, false, false] rfl rfl (by kernel_rfl) (fun _ _ _ h => h) (Or.inl ⟨by rfl, ?_⟩) ?_ ?_
        rotate_left
        · intro w'
          go_simp
          with_reducible rfl
        rotate_left
        · simp only [Act.put, List.setIfInBounds_toArray, List.set_cons_zero, List.set_cons_succ]
          rfl
        refine pure_ (i := 8) (N := some 37) (v := ?_) (a' := ?_) #[true, true, true, true, true, true, true, true, true, false, false, false, false, false, false] rfl rfl (by kernel_rfl) (fun _ _ _ h => h) (Or.inl ⟨by rfl, ?_⟩) ?_ ?_
        rotate_left
        · intro w'
          go_simp
          with_reducible rfl
        rotate_left
        · simp only [Act.put, List.setIfInBounds_toArray, List.set_cons_zero, List.set_cons_succ]
          rfl
        refine pure_ (i := 9) (N := some 38) (v := ?_) (a' := ?_) #[true, true, true, true, true, true, true, true, true, true, false, false, false, false, false] rfl rfl (by kernel_rfl) (fun _ _ _ h => h) (Or.inl ⟨by rfl, ?_⟩) ?_ ?_
        rotate_left
        · intro w'
          go_simp
          with_reducible rfl
        rotate_left
        · simp only [Act.put, List.setIfInBounds_toArray, List.set_cons_zero, List.set_cons_succ]
          rfl
        refine pure_ (i := 10) (N := some 39) (v := ?_) (a' := ?_) #[true, true, true, true, true, true, true, true, true, true, true, false, false, false, false] rfl rfl (by kernel_rfl) (fun _ _ _ h => h) (Or.inl ⟨by rfl, ?_⟩) ?_ ?_
        rotate_left
        · intro w'
          go_simp
          with_reducible rfl
        rotate_left
        · simp only [Act.put, List.setIfInBounds_toArray, List.set_cons_zero, List.set_cons_succ]
          rfl
        refine take_ (i := 11) (N := some 40) (v := ?_) (a' := ?_) #[true, true, true, true, true, true, true, true, true, true, true, true, false, false, false] rfl rfl (by kernel_rfl) (fun _ _ _ h => h) (Or.inl ⟨by rfl, ?_⟩) hHeld ?_ ?_
        rotate_left
        · intro w' s0
          obtain ⟨x0, x1, x2, x3⟩ := CX.out _ s0
          go_simp
          with_reducible rfl
        rotate_left
        · simp only [Act.put, List.setIfInBounds_toArray, List.set_cons_zero, List.set_cons_succ]
          rfl
        refine pure_ (i := 12) (N := some 41) (v := ?_) (a' := ?_) #[true, true, true, true, true, true, true, true, true, true, true, true, true, false, false] rfl rfl (by kernel_rfl) (fun _ _ _ h => h) (Or.inl ⟨by rfl, ?_⟩) ?_ ?_
        rotate_left
        · intro w'
          go_simp
          with_reducible rfl
        rotate_left
        · simp only [Act.put, List.setIfInBounds_toArray, List.set_cons_zero, List.set_cons_succ]
          rfl
        refine pure_ (i := 13) (N := some 42) (v := ?_) (a' := ?_) #[true, true, true, true, true, true, true, true, true, true, true, true, true, true, false] rfl rfl (by kernel_rfl) (fun _ _ _ h => h) (Or.inl ⟨by rfl, ?_⟩) ?_ ?_
        rotate_left
        · intro w'
          go_simp
          with_reducible rfl
        rotate_left
        · simp only [Act.put, List.setIfInBounds_toArray, List.set_cons_zero, List.set_cons_succ]
          rfl
        refine pure_ (i := 14) (N := some 43) (v := ?_) (a' := ?_) #[true, true, true, true, true, true, true, true, true, true, true, true, true, true, true] rfl rfl (by kernel_rfl) (fun _ _ _ h => h) (Or.inl ⟨by rfl, ?_⟩) ?_ ?_
        rotate_left
        · intro w'
          go_simp
          with_reducible rfl
        rotate_left
        · simp only [Act.put, List.setIfInBounds_toArray, List.set_cons_zero, List.set_cons_succ]
          rfl
        refine done_ (by kernel_rfl) ?_
        (try simp only [Exit.inBlock, Exit.then])
        go_wp2_with (fail)
        go_ret
        exact ⟨rfl, (HO.out.step hHeld).below⟩
      · have h3I : ¬ (300 : Int) < (sa : Int) + (sv : Int) := by omega
        go_wp2_with (fail)
        refine start_ (n := 15) (S := fun W => Below wr.heap.size wr W) (ds := []) #[false, false, false, false, false, false, false, false, false, false, false, false, false, false, false] (by kernel_rfl) rfl rfl (below_drew (Below.refl wr.heap.size wr)) (fun hHeld => ?_)
        refine pure_ (i := 0) (N := some 29) (v := ?_) (a' := ?_) #[true, false, false, false, false, false, false, false, false, false, false, false, false, false, false] rfl rfl (by kernel_rfl) (fun _ _ _ h => h) (Or.inl ⟨by rfl, ?_⟩) ?_ ?_
        rotate_left
        · intro w'
          go_simp
          with_reducible rfl
        rotate_left
        · simp only [Act.put, List.setIfInBounds_toArray, List.set_cons_zero, List.set_cons_succ]
          rfl
        refine pure_ (i := 1) (N := some 30) (v := ?_) (a' := ?_) #[true, true, false, false, false, false, false, false, false, false, false, false, false, false, false] rfl rfl (by kernel_rfl) (fun _ _ _ h => h) (Or.inl ⟨by rfl, ?_⟩) ?_ ?_
        rotate_left
        · intro w'
          go_simp
          with_reducible rfl
        rotate_left
        · simp only [Act.put, List.setIfInBounds_toArray, List.set_cons_zero, List.set_cons_succ]
          rfl
        refine pure_ (i := 2) (N := some 31) (v := ?_) (a' := ?_) #[true, true, true, false, false, false, false, false, false, false, false, false, false, false, false] rfl rfl (by kernel_rfl) (fun _ _ _ h => h) (Or.inl ⟨by rfl, ?_⟩) ?_ ?_
        rotate_left
        · intro w'
          go_simp
          with_reducible rfl
        rotate_left
        · simp only [Act.put, List.setIfInBounds_toArray, List.set_cons_zero, List.set_cons_succ]
          rfl
        refine pure_ (i := 3) (N := some 32) (v := ?_) (a' := ?_) #[true, true, true, true, false, false, false, false, false, false, false, false, false, false, false] rfl rfl (by kernel_rfl) (fun _ _ _ h => h) (Or.inl ⟨by rfl, ?_⟩) ?_ ?_
        rotate_left
        · intro w'
          go_simp
          with_reducible rfl
        rotate_left
        · simp only [Act.put, List.setIfInBounds_toArray, List.set_cons_zero, List.set_cons_succ]
          rfl
        refine pure_ (i := 4) (N := some 33) (v := ?_) (a' := ?_) #[true, true, true, true, true, false, false, false, false, false, false, false, false, false, false] rfl rfl (by kernel_rfl) (fun _ _ _ h => h) (Or.inl ⟨by rfl, ?_⟩) ?_ ?_
        rotate_left
        · intro w'
          go_simp
          with_reducible rfl
        rotate_left
        · simp only [Act.put, List.setIfInBounds_toArray, List.set_cons_zero, List.set_cons_succ]
          rfl
        refine take_ (i := 5) (N := some 34) (v := ?_) (a' := ?_) #[true, true, true, true, true, true, false, false, false, false, false, false, false, false, false] rfl rfl (by kernel_rfl) (fun _ _ _ h => h) (Or.inl ⟨by rfl, ?_⟩) hHeld ?_ ?_
        rotate_left
        · intro w' s0
          obtain ⟨x0, x1, x2, x3⟩ := CX.out _ s0
          go_simp
          with_reducible rfl
        rotate_left
        · simp only [Act.put, List.setIfInBounds_toArray, List.set_cons_zero, List.set_cons_succ]
          rfl
        refine pure_ (i := 6) (N := some 35) (v := ?_) (a' := ?_) #[true, true, true, true, true, true, true, false, false, false, false, false, false, false, false] rfl rfl (by kernel_rfl) (fun _ _ _ h => h) (Or.inl ⟨by rfl, ?_⟩) ?_ ?_
        rotate_left
        · intro w'
          go_simp
          with_reducible rfl
        rotate_left
        · simp only [Act.put, List.setIfInBounds_toArray, List.set_cons_zero, List.set_cons_succ]
          rfl
        refine pure_ (i := 7) (N := some 36) (v := ?_) (a' := ?_) #[true, true, true, true, true, true, true, true, false, false, false, false, false, false, false] rfl rfl (by kernel_rfl) (fun _ _ _ h => h) (Or.inl ⟨by rfl, ?_⟩) ?_ ?_
        rotate_left
        · intro w'
          go_simp
          with_reducible rfl
        rotate_left
        · simp only [Act.put, List.setIfInBounds_toArray, List.set_cons_zero, List.set_cons_succ]
          rfl
        refine pure_ (i := 8) (N := some 37) (v := ?_) (a' := ?_) #[true, true, true, true, true, true, true, true, true, false, false, false, false, false, false] rfl rfl (by kernel_rfl) (fun _ _ _ h => h) (Or.inl ⟨by rfl, ?_⟩) ?_ ?_
        rotate_left
        · intro w'
          go_simp
          with_reducible rfl
        rotate_left
        · simp only [Act.put, List.setIfInBounds_toArray, List.set_cons_zero, List.set_cons_succ]
          rfl
        refine pure_ (i := 9) (N := some 38) (v := ?_) (a' := ?_) #[true, true, true, true, true, true, true, true, true, true, false, false, false, false, false] rfl rfl (by kernel_rfl) (fun _ _ _ h => h) (Or.inl ⟨by rfl, ?_⟩) ?_ ?_
        rotate_left
        · intro w'
          go_simp
          with_reducible rfl
        rotate_left
        · simp only [Act.put, List.setIfInBounds_toArray, List.set_cons_zero, List.set_cons_succ]
          rfl
        refine pure_ (i := 10) (N := some 39) (v := ?_) (a' := ?_) #[true, true, true, true, true, true, true, true, true, true, true, false, false, false, false] rfl rfl (by kernel_rfl) (fun _ _ _ h => h) (Or.inl ⟨by rfl, ?_⟩) ?_ ?_
        rotate_left
        · intro w'
          go_simp
          with_reducible rfl
        rotate_left
        · simp only [Act.put, List.setIfInBounds_toArray, List.set_cons_zero, List.set_cons_succ]
          rfl
        refine take_ (i := 11) (N := some 40) (v := ?_) (a' := ?_) #[true, true, true, true, true, true, true, true, true, true, true, true, false, false, false] rfl rfl (by kernel_rfl) (fun _ _ _ h => h) (Or.inl ⟨by rfl, ?_⟩) hHeld ?_ ?_
        rotate_left
        · intro w' s0
          obtain ⟨x0, x1, x2, x3⟩ := CX.out _ s0
          go_simp
          with_reducible rfl
        rotate_left
        · simp only [Act.put, List.setIfInBounds_toArray, List.set_cons_zero, List.set_cons_succ]
          rfl
        refine pure_ (i := 12) (N := some 41) (v := ?_) (a' := ?_) #[true, true, true, true, true, true, true, true, true, true, true, true, true, false, false] rfl rfl (by kernel_rfl) (fun _ _ _ h => h) (Or.inl ⟨by rfl, ?_⟩) ?_ ?_
        rotate_left
        · intro w'
          go_simp
          with_reducible rfl
        rotate_left
        · simp only [Act.put, List.setIfInBounds_toArray, List.set_cons_zero, List.set_cons_succ]
          rfl
        refine pure_ (i := 13) (N := some 42) (v := ?_) (a' := ?_) #[true, true, true, true, true, true, true, true, true, true, true, true, true, true, false] rfl rfl (by kernel_rfl) (fun _ _ _ h => h) (Or.inl ⟨by rfl, ?_⟩) ?_ ?_
        rotate_left
        · intro w'
          go_simp
          with_reducible rfl
        rotate_left
        · simp only [Act.put, List.setIfInBounds_toArray, List.set_cons_zero, List.set_cons_succ]
          rfl
        refine pure_ (i := 14) (N := some 43) (v := ?_) (a' := ?_) #[true, true, true, true, true, true, true, true, true, true, true, true, true, true, true] rfl rfl (by kernel_rfl) (fun _ _ _ h => h) (Or.inl ⟨by rfl, ?_⟩) ?_ ?_
        rotate_left
        · intro w'
          go_simp
          with_reducible rfl
        rotate_left
        · simp only [Act.put, List.setIfInBounds_toArray, List.set_cons_zero, List.set_cons_succ]
          rfl
        refine done_ (by kernel_rfl) ?_
        have HO2 := Aside0.mk (HO.out.step hHeld)
        obtain ⟨x0, x1, x2, x3⟩ := CX.out _ hHeld
        clear hHeld hwr
        (try simp only [Exit.inBlock, Exit.then])
        go_wp2_with (fail)
        refine (add_call HO2.out.tab HO2.out.good ⟨⟨xa, xb⟩, xv, xp⟩ HSZ.out).mono ?_
        rintro e w3 ⟨v3, rfl, ht, hu⟩
        have HO3 := Aside0.mk (HO2.out.turn (good_addF HO2.out.good _) ht hu)
        clear ht hu x0 x1 x2 x3
        go_wp2_with (fail)
        go_roundw
        case rel => exact ⟨j + 1, _, v3, by omega, by go_num, HO3⟩
        case measure => simp [intOf]; omega
    · have hltI : ¬ (j : Int) < (n : Int) := by omega
      clear hj hlt
      go_wp2_with (fail)
      refine (list_call HO.out.tab HO.out.good).mono ?_
      rintro e w2 ⟨⟨v2, rfl, ho⟩, hb⟩
      obtain ⟨A2, c2, rfl, hc2, hC2⟩ := Kd.R_reads ho
      have HR2 := Aside0.mk fun (W : World) (hW : Below w2.heap.size w2 W) => Kd.C_below hC2 hW
      have HO2 := Aside0.mk (HO.out.step hb)
      clear hb ho hC2 hc2
      go_wp2_with (fail)
      refine (find_call HO2.out.tab HO2.out.good dst).mono ?_
      rintro e w3 ⟨he, hb⟩
      obtain ⟨⟨⟨⟨fa, fb⟩, fv, fp⟩, fe⟩, hfe⟩ : ∃ y, findF L dst = y := ⟨_, rfl⟩
      have HPL := Aside0.mk (longest_plain HO2.out.good hfe)
      rw [hfe] at he
      have he : e = .returned (.tuple #[.agg #[.string fa, .int .i64 fb, .string fv, .int .i64 fp], .int .i64 fe]) := he
      subst he
      have HO3 := Aside0.mk (HO2.out.step hb)
      have HB3 := Aside0.mk HO3.out.below
      have H23 := Aside0.mk hb
      obtain ⟨m, hmL⟩ : ∃ m, L.length = m := ⟨_, rfl⟩
      have HML := Aside0.mk hmL
      have hm64 : m ≤ 64 := by rw [← hmL]; exact HO2.out.good.len
      have HGS := Aside0.mk fun (i : Nat) (hi : i < m) => good_sz HO2.out.good i (by rw [hmL]; exact hi)
      rw [hmL] at HR2 HPL ⊢
      simp only at HPL
      clear hb hfe hmL
      go_wp2_with (first | ((with_reducible refine gate_dst (N := 8) rfl ?_); refine box_event ?hg (N := 8) ?hd (cs := #[.string ByteArray.empty, .int .i64 0, .string ByteArray.empty, .int .i64 0]) (t := 28) ?hr ?_; (case hd => rfl); (case hg => rfl); (case hr => first | (go_simp; done) | (go_simp; rfl)); intro q8 hq w4 hbox hb; have BKq8 := Aside0.mk hbox; have HQq8 := Aside0.mk (show w.heap.size ≤ q8 from by rw [hq]; exact HB3.out.size); have HB4 := Aside0.mk (HB3.out.trans (hb.mono HB3.out.size)); have HL := Aside0.mk (show Below w3.heap.size w3 w4 from hb); have HQL := Aside0.mk (show w3.heap.size ≤ q8 from Nat.le_of_eq hq.symm); clear hbox hb hq) | ((with_reducible refine gate_store (t := 28) (p := 8) rfl ?_); have ca0 : w4.cell? ⟨q8, 0, none⟩ = some (.string ByteArray.empty) := (blk_cell BKq8.out 0).trans rfl; have ca1 : w4.cell? ⟨q8, 1, none⟩ = some (.int .i64 0) := (blk_cell BKq8.out 1).trans rfl; have ca2 : w4.cell? ⟨q8, 2, none⟩ = some (.string ByteArray.empty) := (blk_cell BKq8.out 2).trans rfl; have ca3 : w4.cell? ⟨q8, 3, none⟩ = some (.int .i64 0) := (blk_cell BKq8.out 3).trans rfl; have fa0 : w4.frozen? ⟨q8, 0, none⟩ = false := blk_frozen BKq8.out 0; have fa1 : w4.frozen? ⟨q8, 1, none⟩ = false := blk_frozen BKq8.out 1; have fa2 : w4.frozen? ⟨q8, 2, none⟩ = false := blk_frozen BKq8.out 2; have fa3 : w4.frozen? ⟨q8, 3, none⟩ = false := blk_frozen BKq8.out 3; refine store_event (t := 28) (p := 8) (v := ?vo8_5_1_n1) (w1 := Cells.setAll w4 q8 0 [.string fa, .int .i64 fb, .string fv, .int .i64 fp]) ?hg ?ho ?hn ?hr ?_; (case ho => rfl); (case hg => rfl); (case hn => rfl); (case hr => first | (go_simp; done) | (go_simp; rfl)); intro w5 hw; have HB5 := Aside0.mk (show Below w.heap.size w w5 from by rw [hw]; exact Cells.setAll_below HQq8.out _ _ _ HB4.out); have BKq8 := Aside0.mk (show w5.heap[q8]? = some (.cells #[.string fa, .int .i64 fb, .string fv, .int .i64 fp] 28 (0, 0)) from by rw [hw]; exact Cells.stored4 BKq8.out); clear ca0 ca1 ca2 ca3; clear fa0 fa1 fa2 fa3; have H35 := Aside0.mk (show Below w3.heap.size w3 w5 from by rw [hw]; exact Cells.setAll_below HQL.out _ _ _ HL.out); clear HL HQL; clear hw))
      have HO5 := Aside0.mk (HO3.out.step H35.out)
      have H25 := Aside0.mk (H23.out.trans (H35.out.mono H23.out.size))
      go_loopw [10, 11] (fun bv iv wr => ∃ (i : Nat) (b : Bool), i ≤ m ∧ bv = .bool b ∧ iv = .int .i64 i ∧ Aside0 (b = true ↔ ∃ j, j < i ∧ inR dst (L.getD j z28).f0.f0 (L.getD j z28).f0.f1 = true ∧ L.getD j z28 = ⟨⟨fa, fb⟩, fv, fp⟩) ∧ Aside0 (Below w5.heap.size w5 wr)) (fun _ iv _ => m - (intOf iv).toNat)
      case atStart => exact ⟨0, false, by omega, rfl, rfl, Aside0.mk ⟨(fun h => by cases h), (fun ⟨j, h, _⟩ => by omega)⟩, Aside0.mk (Below.refl _ _)⟩
      case round =>
        obtain ⟨i, b, hi, rfl, rfl, HIN, HBr⟩ := hrel
        by_cases hil : i < m
        · obtain ⟨ad2, hA2, hcs2⟩ := at_T28 (HR2.out _ (H25.out.trans (HBr.out.mono H25.out.size))) (i : Int) (by omega) (by omega)
          rw [Int.toNat_natCast] at hcs2
          have er2 : rd_T28 L (i : Int) = L.getD i z28 := by unfold rd_T28; rw [Int.toNat_natCast]
          rw [er2] at hcs2
          have hsz2 := HGS.out i hil
          have hp1 := HPL.out.1 i hil
          obtain ⟨⟨⟨ya, yb⟩, yv, yp⟩, hy⟩ : ∃ y, L.getD i z28 = y := ⟨_, rfl⟩
          have HY := Aside0.mk hy
          rw [hy] at hcs2 hsz2 hp1
          simp only at hcs2 hsz2 hp1
          subst hA2
          have IW := Aside0.mk fun (W : World) => in_walk dst ya yb W HDS.out (by omega)
          rw [← inR_eq] at IW
          have CY := Aside0.mk (show ∀ W, Below wr.heap.size wr W → _ from fun W hW => And.intro (pw_cell_below hW hcs2.1) (And.intro (pw_cell_below hW hcs2.2.1) (And.intro (pw_cell_below hW hcs2.2.2.1) (pw_cell_below hW hcs2.2.2.2))))
          obtain ⟨y0, y1, y2, y3⟩ := hcs2
          have hilI : (i : Int) < (m : Int) := by omega
          have HYN := Aside0.mk (show ∀ b', (b' = true ↔ b = true ∨ (inR dst ya yb = true ∧ (⟨⟨ya, yb⟩, yv, yp⟩ : S28) = ⟨⟨fa, fb⟩, fv, fp⟩)) → (b' = true ↔ ∃ j, j < i + 1 ∧ inR dst (L.getD j z28).f0.f0 (L.getD j z28).f0.f1 = true ∧ L.getD j z28 = ⟨⟨fa, fb⟩, fv, fp⟩) from fun b' hb' => by
            rw [hb', HIN.out]
            constructor
            · rintro (⟨j, h1, h2⟩ | h2)
              · exact ⟨j, by omega, h2⟩
              · exact ⟨i, by omega, by rw [HY.out]; exact h2⟩
            · rintro ⟨j, h1, h2⟩
              rcases Nat.lt_succ_iff_lt_or_eq.1 h1 with h3 | h3
              · exact .inl ⟨j, h3, h2⟩
              · subst h3
                rw [HY.out] at h2
                exact .inr h2)
          clear er2 hy hsz2
          go_wp2_with (fail)
          refine (IW.out _).mono ?_
          rintro e w6 ⟨rfl, hb⟩
          have HB6 := Aside0.mk hb
          clear y0 y1 y2 y3
          cases hin : inR dst ya yb
          · have HIF := Aside0.mk hin
            clear hb hin
            go_wp2_with (fail)
            go_roundw
            case rel => exact ⟨i + 1, b, by omega, rfl, by go_num, Aside0.mk (HYN.out b (by rw [HIF.out]; simp)), Aside0.mk (HBr.out.trans (HB6.out.mono HBr.out.size))⟩
            case measure => simp [intOf]; omega
          · obtain ⟨hz0, hz1, hz2⟩ := hp1 hin
            subst hz0
            have hzI : ¬ fb < yb := by omega
            have HIF := Aside0.mk hin
            have BKr := Aside0.mk (blk_below (blk_below BKq8.out HBr.out) hb)
            clear hb hin hz1 hz2
            go_wp2_with (fail)
            refine start_ (n := 14) (S := fun W => Below w6.heap.size w6 W) (ds := []) #[false, false, false, false, false, false, false, false, false, false, false, false, false, false] (by kernel_rfl) rfl rfl (below_drew (Below.refl w6.heap.size w6)) (fun hHeld => ?_)
            refine pure_ (i := 0) (N := some 71) (v := ?_) (a' := ?_) #[true, false, false, false, false, false, false, false, false, false, false, false, false, false] rfl rfl (by kernel_rfl) (fun _ _ _ h => h) (Or.inl ⟨by rfl, ?_⟩) ?_ ?_
            rotate_left
            · intro w'
              go_simp
              with_reducible rfl
            rotate_left
            · simp only [Act.put, List.setIfInBounds_toArray, List.set_cons_zero, List.set_cons_succ]
              rfl
            refine pure_ (i := 1) (N := some 72) (v := ?_) (a' := ?_) #[true, true, false, false, false, false, false, false, false, false, false, false, false, false] rfl rfl (by kernel_rfl) (fun _ _ _ h => h) (Or.inl ⟨by rfl, ?_⟩) ?_ ?_
            rotate_left
            · intro w'
              go_simp
              with_reducible rfl
            rotate_left
            · simp only [Act.put, List.setIfInBounds_toArray, List.set_cons_zero, List.set_cons_succ]
              rfl
            refine pure_ (i := 2) (N := some 73) (v := ?_) (a' := ?_) #[true, true, true, false, false, false, false, false, false, false, false, false, false, false] rfl rfl (by kernel_rfl) (fun _ _ _ h => h) (Or.inl ⟨by rfl, ?_⟩) ?_ ?_
            rotate_left
            · intro w'
              go_simp
              with_reducible rfl
            rotate_left
            · simp only [Act.put, List.setIfInBounds_toArray, List.set_cons_zero, List.set_cons_succ]
              rfl
            refine pure_ (i := 3) (N := some 74) (v := ?_) (a' := ?_) #[true, true, true, true, false, false, false, false, false, false, false, false, false, false] rfl rfl (by kernel_rfl) (fun _ _ _ h => h) (Or.inl ⟨by rfl, ?_⟩) ?_ ?_
            rotate_left
            · intro w'
              go_simp
              with_reducible rfl
            rotate_left
            · simp only [Act.put, List.setIfInBounds_toArray, List.set_cons_zero, List.set_cons_succ]
              rfl
            refine pure_ (i := 4) (N := some 75) (v := ?_) (a' := ?_) #[true, true, true, true, true, false, false, false, false, false, false, false, false, false] rfl rfl (by kernel_rfl) (fun _ _ _ h => h) (Or.inl ⟨by rfl, ?_⟩) ?_ ?_
            rotate_left
            · intro w'
              go_simp
              with_reducible rfl
            rotate_left
            · simp only [Act.put, List.setIfInBounds_toArray, List.set_cons_zero, List.set_cons_succ]
              rfl
            refine pure_ (i := 5) (N := some 76) (v := ?_) (a' := ?_) #[true, true, true, true, true, true, false, false, false, false, false, false, false, false] rfl rfl (by kernel_rfl) (fun _ _ _ h => h) (Or.inl ⟨by rfl, ?_⟩) ?_ ?_
            rotate_left
            · intro w'
              go_simp
              with_reducible rfl
            rotate_left
            · simp only [Act.put, List.setIfInBounds_toArray, List.set_cons_zero, List.set_cons_succ]
              rfl
            refine pure_ (i := 6) (N := some 77) (v := ?_) (a' := ?_) #[true, true, true, true, true, true, true, false, false, false, false, false, false, false] rfl rfl (by kernel_rfl) (fun _ _ _ h => h) (Or.inl ⟨by rfl, ?_⟩) ?_ ?_
            rotate_left
            · intro w'
              go_simp
              with_reducible rfl
            rotate_left
            · simp only [Act.put, List.setIfInBounds_toArray, List.set_cons_zero, List.set_cons_succ]
              rfl
            refine pure_ (i := 7) (N := some 78) (v := ?_) (a' := ?_) #[true, true, true, true, true, true, true, true, false, false, false, false, false, false] rfl rfl (by kernel_rfl) (fun _ _ _ h => h) (Or.inl ⟨by rfl, ?_⟩) ?_ ?_
            rotate_left
            · intro w'
              go_simp
              with_reducible rfl
            rotate_left
            · simp only [Act.put, List.setIfInBounds_toArray, List.set_cons_zero, List.set_cons_succ]
              rfl
            refine take_ (i := 8) (N := some 79) (v := ?_) (a' := ?_) #[true, true, true, true, true, true, true, true, true, false, false, false, false, false] rfl rfl (by kernel_rfl) (fun _ _ _ h => h) (Or.inl ⟨by rfl, ?_⟩) hHeld ?_ ?_
            rotate_left
            · intro w' s0
              obtain ⟨y0, y1, y2, y3⟩ := CY.out _ (HB6.out.trans (s0.mono HB6.out.size))
              have BKt := Aside0.mk (blk_below BKr.out s0)
              have z0 : w'.cell? ⟨q8, 0, none⟩ = some (.string fa) := (blk_cell BKt.out 0).trans rfl
              have z1 : w'.cell? ⟨q8, 1, none⟩ = some (.int .i64 fb) := (blk_cell BKt.out 1).trans rfl
              have z2 : w'.cell? ⟨q8, 2, none⟩ = some (.string fv) := (blk_cell BKt.out 2).trans rfl
              have z3 : w'.cell? ⟨q8, 3, none⟩ = some (.int .i64 fp) := (blk_cell BKt.out 3).trans rfl
              go_simp
              with_reducible rfl
            rotate_left
            · simp only [Act.put, List.setIfInBounds_toArray, List.set_cons_zero, List.set_cons_succ]
              rfl
            refine pure_ (i := 9) (N := some 80) (v := ?_) (a' := ?_) #[true, true, true, true, true, true, true, true, true, true, false, false, false, false] rfl rfl (by kernel_rfl) (fun _ _ _ h => h) (Or.inl ⟨by rfl, ?_⟩) ?_ ?_
            rotate_left
            · intro w'
              go_simp
              with_reducible rfl
            rotate_left
            · simp only [Act.put, List.setIfInBounds_toArray, List.set_cons_zero, List.set_cons_succ]
              rfl
            refine pure_ (i := 10) (N := some 81) (v := ?_) (a' := ?_) #[true, true, true, true, true, true, true, true, true, true, true, false, false, false] rfl rfl (by kernel_rfl) (fun _ _ _ h => h) (Or.inl ⟨by rfl, ?_⟩) ?_ ?_
            rotate_left
            · intro w'
              go_simp
              with_reducible rfl
            rotate_left
            · simp only [Act.put, List.setIfInBounds_toArray, List.set_cons_zero, List.set_cons_succ]
              rfl
            refine take_ (i := 11) (N := some 82) (v := ?_) (a' := ?_) #[true, true, true, true, true, true, true, true, true, true, true, true, false, false] rfl rfl (by kernel_rfl) (fun _ _ _ h => h) (Or.inl ⟨by rfl, ?_⟩) hHeld ?_ ?_
            rotate_left
            · intro w' s0
              obtain ⟨y0, y1, y2, y3⟩ := CY.out _ (HB6.out.trans (s0.mono HB6.out.size))
              have BKt := Aside0.mk (blk_below BKr.out s0)
              have z0 : w'.cell? ⟨q8, 0, none⟩ = some (.string fa) := (blk_cell BKt.out 0).trans rfl
              have z1 : w'.cell? ⟨q8, 1, none⟩ = some (.int .i64 fb) := (blk_cell BKt.out 1).trans rfl
              have z2 : w'.cell? ⟨q8, 2, none⟩ = some (.string fv) := (blk_cell BKt.out 2).trans rfl
              have z3 : w'.cell? ⟨q8, 3, none⟩ = some (.int .i64 fp) := (blk_cell BKt.out 3).trans rfl
              go_simp
              with_reducible rfl
            rotate_left
            · simp only [Act.put, List.setIfInBounds_toArray, List.set_cons_zero, List.set_cons_succ]
              rfl
            refine pure_ (i := 12) (N := some 83) (v := ?_) (a' := ?_) #[true, true, true, true, true, true, true, true, true, true, true, true, true, false] rfl rfl (by kernel_rfl) (fun _ _ _ h => h) (Or.inl ⟨by rfl, ?_⟩) ?_ ?_
            rotate_left
            · intro w'
              go_simp
              with_reducible rfl
            rotate_left
            · simp only [Act.put, List.setIfInBounds_toArray, List.set_cons_zero, List.set_cons_succ]
              rfl
            refine pure_ (i := 13) (N := some 84) (v := ?_) (a' := ?_) #[true, true, true, true, true, true, true, true, true, true, true, true, true, true] rfl rfl (by kernel_rfl) (fun _ _ _ h => h) (Or.inl ⟨by rfl, ?_⟩) ?_ ?_
            rotate_left
            · intro w'
              go_simp
              with_reducible rfl
            rotate_left
            · simp only [Act.put, List.setIfInBounds_toArray, List.set_cons_zero, List.set_cons_succ]
              rfl
            refine done_ (by kernel_rfl) ?_
            have H7 := Aside0.mk hHeld
            (try simp only [Exit.inBlock, Exit.then])
            go_wp2_with (fail)
            cases b
            · by_cases heq : (⟨⟨ya, yb⟩, yv, yp⟩ : S28) = ⟨⟨fa, fb⟩, fv, fp⟩
              · have HEQ := Aside0.mk heq
                have heB := eqE_true heq
                clear heq
                skip
                refine start_ (n := 10) (S := fun W => Below w6.heap.size w6 W) (ds := []) #[false, false, false, false, false, false, false, false, false, false] (by kernel_rfl) rfl rfl (below_drew H7.out) (fun hHeld => ?_)
                refine pure_ (i := 0) (N := some 85) (v := ?_) (a' := ?_) #[true, false, false, false, false, false, false, false, false, false] rfl rfl (by kernel_rfl) (fun _ _ _ h => h) (Or.inl ⟨by rfl, ?_⟩) ?_ ?_
                rotate_left
                · intro w'
                  go_simp
                  with_reducible rfl
                rotate_left
                · simp only [Act.put, List.setIfInBounds_toArray, List.set_cons_zero, List.set_cons_succ]
                  rfl
                refine pure_ (i := 1) (N := some 86) (v := ?_) (a' := ?_) #[true, true, false, false, false, false, false, false, false, false] rfl rfl (by kernel_rfl) (fun _ _ _ h => h) (Or.inl ⟨by rfl, ?_⟩) ?_ ?_
                rotate_left
                · intro w'
                  go_simp
                  with_reducible rfl
                rotate_left
                · simp only [Act.put, List.setIfInBounds_toArray, List.set_cons_zero, List.set_cons_succ]
                  rfl
                refine pure_ (i := 2) (N := some 87) (v := ?_) (a' := ?_) #[true, true, true, false, false, false, false, false, false, false] rfl rfl (by kernel_rfl) (fun _ _ _ h => h) (Or.inl ⟨by rfl, ?_⟩) ?_ ?_
                rotate_left
                · intro w'
                  go_simp
                  with_reducible rfl
                rotate_left
                · simp only [Act.put, List.setIfInBounds_toArray, List.set_cons_zero, List.set_cons_succ]
                  rfl
                refine pure_ (i := 3) (N := some 88) (v := ?_) (a' := ?_) #[true, true, true, true, false, false, false, false, false, false] rfl rfl (by kernel_rfl) (fun _ _ _ h => h) (Or.inl ⟨by rfl, ?_⟩) ?_ ?_
                rotate_left
                · intro w'
                  go_simp
                  with_reducible rfl
                rotate_left
                · simp only [Act.put, List.setIfInBounds_toArray, List.set_cons_zero, List.set_cons_succ]
                  rfl
                refine pure_ (i := 4) (N := some 89) (v := ?_) (a' := ?_) #[true, true, true, true, true, false, false, false, false, false] rfl rfl (by kernel_rfl) (fun _ _ _ h => h) (Or.inl ⟨by rfl, ?_⟩) ?_ ?_
                rotate_left
                · intro w'
                  go_simp
                  with_reducible rfl
                rotate_left
                · simp only [Act.put, List.setIfInBounds_toArray, List.set_cons_zero, List.set_cons_succ]
                  rfl
                refine take_ (i := 5) (N := some 90) (v := ?_) (a' := ?_) #[true, true, true, true, true, true, false, false, false, false] rfl rfl (by kernel_rfl) (fun _ _ _ h => h) (Or.inl ⟨by rfl, ?_⟩) hHeld ?_ ?_
                rotate_left
                · intro w' s0
                  obtain ⟨y0, y1, y2, y3⟩ := CY.out _ (HB6.out.trans (s0.mono HB6.out.size))
                  have BKt := Aside0.mk (blk_below BKr.out s0)
                  have z0 : w'.cell? ⟨q8, 0, none⟩ = some (.string fa) := (blk_cell BKt.out 0).trans rfl
                  have z1 : w'.cell? ⟨q8, 1, none⟩ = some (.int .i64 fb) := (blk_cell BKt.out 1).trans rfl
                  have z2 : w'.cell? ⟨q8, 2, none⟩ = some (.string fv) := (blk_cell BKt.out 2).trans rfl
                  have z3 : w'.cell? ⟨q8, 3, none⟩ = some (.int .i64 fp) := (blk_cell BKt.out 3).trans rfl
                  go_simp
                  with_reducible rfl
                rotate_left
                · simp only [Act.put, List.setIfInBounds_toArray, List.set_cons_zero, List.set_cons_succ]
                  rfl
                refine take_ (i := 6) (N := some 91) (v := ?_) (a' := ?_) #[true, true, true, true, true, true, true, false, false, false] rfl rfl (by kernel_rfl) (fun _ _ _ h => h) (Or.inl ⟨by rfl, ?_⟩) hHeld ?_ ?_
                rotate_left
                · intro w' s0
                  obtain ⟨y0, y1, y2, y3⟩ := CY.out _ (HB6.out.trans (s0.mono HB6.out.size))
                  have BKt := Aside0.mk (blk_below BKr.out s0)
                  have z0 : w'.cell? ⟨q8, 0, none⟩ = some (.string fa) := (blk_cell BKt.out 0).trans rfl
                  have z1 : w'.cell? ⟨q8, 1, none⟩ = some (.int .i64 fb) := (blk_cell BKt.out 1).trans rfl
                  have z2 : w'.cell? ⟨q8, 2, none⟩ = some (.string fv) := (blk_cell BKt.out 2).trans rfl
                  have z3 : w'.cell? ⟨q8, 3, none⟩ = some (.int .i64 fp) := (blk_cell BKt.out 3).trans rfl
                  go_simp
                  with_reducible rfl
                rotate_left
                · simp only [Act.put, List.setIfInBounds_toArray, List.set_cons_zero, List.set_cons_succ]
                  rfl
                refine pure_ (i := 7) (N := some 92) (v := ?_) (a' := ?_) #[true, true, true, true, true, true, true, true, false, false] rfl rfl (by kernel_rfl) (fun _ _ _ h => h) (Or.inl ⟨by rfl, ?_⟩) ?_ ?_
                rotate_left
                · intro w'
                  go_simp
                  with_reducible rfl
                rotate_left
                · simp only [Act.put, List.setIfInBounds_toArray, List.set_cons_zero, List.set_cons_succ]
                  rfl
                refine pure_ (i := 8) (N := some 93) (v := ?_) (a' := ?_) #[true, true, true, true, true, true, true, true, true, false] rfl rfl (by kernel_rfl) (fun _ _ _ h => h) (Or.inl ⟨by rfl, ?_⟩) ?_ ?_
                rotate_left
                · intro w'
                  go_simp
                  with_reducible rfl
                rotate_left
                · simp only [Act.put, List.setIfInBounds_toArray, List.set_cons_zero, List.set_cons_succ]
                  rfl
                refine pure_ (i := 9) (N := some 10) (v := ?_) (a' := ?_) #[true, true, true, true, true, true, true, true, true, true] rfl rfl (by kernel_rfl) (fun _ _ _ h => h) (Or.inl ⟨by rfl, ?_⟩) ?_ ?_
                rotate_left
                · intro w'
                  go_simp
                  with_reducible rfl
                rotate_left
                · simp only [Act.put, List.setIfInBounds_toArray, List.set_cons_zero, List.set_cons_succ]
                  rfl
                refine done_ (by kernel_rfl) ?_
                go_wp2_with (fail)
                go_roundw
                case rel => exact ⟨i + 1, true, by omega, rfl, by go_num, Aside0.mk (HYN.out true (by rw [HIF.out]; simp [HEQ.out])), Aside0.mk (HBr.out.trans ((HB6.out.trans (hHeld.mono HB6.out.size)).mono HBr.out.size))⟩
                case measure => simp [intOf]; omega
              · have HEQ := Aside0.mk heq
                have heB := eqE_false heq
                clear heq
                skip
                refine start_ (n := 10) (S := fun W => Below w6.heap.size w6 W) (ds := []) #[false, false, false, false, false, false, false, false, false, false] (by kernel_rfl) rfl rfl (below_drew H7.out) (fun hHeld => ?_)
                refine pure_ (i := 0) (N := some 85) (v := ?_) (a' := ?_) #[true, false, false, false, false, false, false, false, false, false] rfl rfl (by kernel_rfl) (fun _ _ _ h => h) (Or.inl ⟨by rfl, ?_⟩) ?_ ?_
                rotate_left
                · intro w'
                  go_simp
                  with_reducible rfl
                rotate_left
                · simp only [Act.put, List.setIfInBounds_toArray, List.set_cons_zero, List.set_cons_succ]
                  rfl
                refine pure_ (i := 1) (N := some 86) (v := ?_) (a' := ?_) #[true, true, false, false, false, false, false, false, false, false] rfl rfl (by kernel_rfl) (fun _ _ _ h => h) (Or.inl ⟨by rfl, ?_⟩) ?_ ?_
                rotate_left
                · intro w'
                  go_simp
                  with_reducible rfl
                rotate_left
                · simp only [Act.put, List.setIfInBounds_toArray, List.set_cons_zero, List.set_cons_succ]
                  rfl
                refine pure_ (i := 2) (N := some 87) (v := ?_) (a' := ?_) #[true, true, true, false, false, false, false, false, false, false] rfl rfl (by kernel_rfl) (fun _ _ _ h => h) (Or.inl ⟨by rfl, ?_⟩) ?_ ?_
                rotate_left
                · intro w'
                  go_simp
                  with_reducible rfl
                rotate_left
                · simp only [Act.put, List.setIfInBounds_toArray, List.set_cons_zero, List.set_cons_succ]
                  rfl
                refine pure_ (i := 3) (N := some 88) (v := ?_) (a' := ?_) #[true, true, true, true, false, false, false, false, false, false] rfl rfl (by kernel_rfl) (fun _ _ _ h => h) (Or.inl ⟨by rfl, ?_⟩) ?_ ?_
                rotate_left
                · intro w'
                  go_simp
                  with_reducible rfl
                rotate_left
                · simp only [Act.put, List.setIfInBounds_toArray, List.set_cons_zero, List.set_cons_succ]
                  rfl
                refine pure_ (i := 4) (N := some 89) (v := ?_) (a' := ?_) #[true, true, true, true, true, false, false, false, false, false] rfl rfl (by kernel_rfl) (fun _ _ _ h => h) (Or.inl ⟨by rfl, ?_⟩) ?_ ?_
                rotate_left
                · intro w'
                  go_simp
                  with_reducible rfl
                rotate_left
                · simp only [Act.put, List.setIfInBounds_toArray, List.set_cons_zero, List.set_cons_succ]
                  rfl
                refine take_ (i := 5) (N := some 90) (v := ?_) (a' := ?_) #[true, true, true, true, true, true, false, false, false, false] rfl rfl (by kernel_rfl) (fun _ _ _ h => h) (Or.inl ⟨by rfl, ?_⟩) hHeld ?_ ?_
                rotate_left
                · intro w' s0
                  obtain ⟨y0, y1, y2, y3⟩ := CY.out _ (HB6.out.trans (s0.mono HB6.out.size))
                  have BKt := Aside0.mk (blk_below BKr.out s0)
                  have z0 : w'.cell? ⟨q8, 0, none⟩ = some (.string fa) := (blk_cell BKt.out 0).trans rfl
                  have z1 : w'.cell? ⟨q8, 1, none⟩ = some (.int .i64 fb) := (blk_cell BKt.out 1).trans rfl
                  have z2 : w'.cell? ⟨q8, 2, none⟩ = some (.string fv) := (blk_cell BKt.out 2).trans rfl
                  have z3 : w'.cell? ⟨q8, 3, none⟩ = some (.int .i64 fp) := (blk_cell BKt.out 3).trans rfl
                  go_simp
                  with_reducible rfl
                rotate_left
                · simp only [Act.put, List.setIfInBounds_toArray, List.set_cons_zero, List.set_cons_succ]
                  rfl
                refine take_ (i := 6) (N := some 91) (v := ?_) (a' := ?_) #[true, true, true, true, true, true, true, false, false, false] rfl rfl (by kernel_rfl) (fun _ _ _ h => h) (Or.inl ⟨by rfl, ?_⟩) hHeld ?_ ?_
                rotate_left
                · intro w' s0
                  obtain ⟨y0, y1, y2, y3⟩ := CY.out _ (HB6.out.trans (s0.mono HB6.out.size))
                  have BKt := Aside0.mk (blk_below BKr.out s0)
                  have z0 : w'.cell? ⟨q8, 0, none⟩ = some (.string fa) := (blk_cell BKt.out 0).trans rfl
                  have z1 : w'.cell? ⟨q8, 1, none⟩ = some (.int .i64 fb) := (blk_cell BKt.out 1).trans rfl
                  have z2 : w'.cell? ⟨q8, 2, none⟩ = some (.string fv) := (blk_cell BKt.out 2).trans rfl
                  have z3 : w'.cell? ⟨q8, 3, none⟩ = some (.int .i64 fp) := (blk_cell BKt.out 3).trans rfl
                  go_simp
                  with_reducible rfl
                rotate_left
                · simp only [Act.put, List.setIfInBounds_toArray, List.set_cons_zero, List.set_cons_succ]
                  rfl
                refine pure_ (i := 7) (N := some 92) (v := ?_) (a' := ?_) #[true, true, true, true, true, true, true, true, false, false] rfl rfl (by kernel_rfl) (fun _ _ _ h => h) (Or.inl ⟨by rfl, ?_⟩) ?_ ?_
                rotate_left
                · intro w'
                  go_simp
                  with_reducible rfl
                rotate_left
                · simp only [Act.put, List.setIfInBounds_toArray, List.set_cons_zero, List.set_cons_succ]
                  rfl
                refine pure_ (i := 8) (N := some 93) (v := ?_) (a' := ?_) #[true, true, true, true, true, true, true, true, true, false] rfl rfl (by kernel_rfl) (fun _ _ _ h => h) (Or.inl ⟨by rfl, ?_⟩) ?_ ?_
                rotate_left
                · intro w'
                  go_simp
                  with_reducible rfl
                rotate_left
                · simp only [Act.put, List.setIfInBounds_toArray, List.set_cons_zero, List.set_cons_succ]
                  rfl
                refine pure_ (i := 9) (N := some 10) (v := ?_) (a' := ?_) #[true, true, true, true, true, true, true, true, true, true] rfl rfl (by kernel_rfl) (fun _ _ _ h => h) (Or.inl ⟨by rfl, ?_⟩) ?_ ?_
                rotate_left
                · intro w'
                  go_simp
                  with_reducible rfl
                rotate_left
                · simp only [Act.put, List.setIfInBounds_toArray, List.set_cons_zero, List.set_cons_succ]
                  rfl
                refine done_ (by kernel_rfl) ?_
                go_wp2_with (fail)
                go_roundw
                case rel => exact ⟨i + 1, false, by omega, rfl, by go_num, Aside0.mk (HYN.out false (by have := HEQ.out; simp [this])), Aside0.mk (HBr.out.trans ((HB6.out.trans (hHeld.mono HB6.out.size)).mono HBr.out.size))⟩
                case measure => simp [intOf]; omega
            · skip
              refine start_ (n := 10) (S := fun W => Below w6.heap.size w6 W) (ds := []) #[false, false, false, false, false, false, false, false, false, false] (by kernel_rfl) rfl rfl (below_drew H7.out) (fun hHeld => ?_)
              refine pure_ (i := 0) (N := some 85) (v := ?_) (a' := ?_) #[true, false, false, false, false, false, false, false, false, false] rfl rfl (by kernel_rfl) (fun _ _ _ h => h) (Or.inl ⟨by rfl, ?_⟩) ?_ ?_
              rotate_left
              · intro w'
                go_simp
                with_reducible rfl
              rotate_left
              · simp only [Act.put, List.setIfInBounds_toArray, List.set_cons_zero, List.set_cons_succ]
                rfl
              refine pure_ (i := 1) (N := some 86) (v := ?_) (a' := ?_) #[true, true, false, false, false, false, false, false, false, false] rfl rfl (by kernel_rfl) (fun _ _ _ h => h) (Or.inl ⟨by rfl, ?_⟩) ?_ ?_
              rotate_left
              · intro w'
                go_simp
                with_reducible rfl
              rotate_left
              · simp only [Act.put, List.setIfInBounds_toArray, List.set_cons_zero, List.set_cons_succ]
                rfl
              refine pure_ (i := 2) (N := some 87) (v := undef) (a' := ?_) #[true, true, true, false, false, false, false, false, false, false] rfl rfl (by kernel_rfl) (fun _ _ _ h => h) (Or.inr ⟨by rfl, rfl⟩) ?_ ?_
              rotate_left
              · simp only [Act.put, List.setIfInBounds_toArray, List.set_cons_zero, List.set_cons_succ]
                rfl
              refine pure_ (i := 3) (N := some 88) (v := undef) (a' := ?_) #[true, true, true, true, false, false, false, false, false, false] rfl rfl (by kernel_rfl) (fun _ _ _ h => h) (Or.inr ⟨by rfl, rfl⟩) ?_ ?_
              rotate_left
              · simp only [Act.put, List.setIfInBounds_toArray, List.set_cons_zero, List.set_cons_succ]
                rfl
              refine pure_ (i := 4) (N := some 89) (v := undef) (a' := ?_) #[true, true, true, true, true, false, false, false, false, false] rfl rfl (by kernel_rfl) (fun _ _ _ h => h) (Or.inr ⟨by rfl, rfl⟩) ?_ ?_
              rotate_left
              · simp only [Act.put, List.setIfInBounds_toArray, List.set_cons_zero, List.set_cons_succ]
                rfl
              refine pure_ (i := 5) (N := some 90) (v := undef) (a' := ?_) #[true, true, true, true, true, true, false, false, false, false] rfl rfl (by kernel_rfl) (fun _ _ _ h => h) (Or.inr ⟨by rfl, rfl⟩) ?_ ?_
              rotate_left
              · simp only [Act.put, List.setIfInBounds_toArray, List.set_cons_zero, List.set_cons_succ]
                rfl
              refine pure_ (i := 6) (N := some 91) (v := undef) (a' := ?_) #[true, true, true, true, true, true, true, false, false, false] rfl rfl (by kernel_rfl) (fun _ _ _ h => h) (Or.inr ⟨by rfl, rfl⟩) ?_ ?_
              rotate_left
              · simp only [Act.put, List.setIfInBounds_toArray, List.set_cons_zero, List.set_cons_succ]
                rfl
              refine pure_ (i := 7) (N := some 92) (v := undef) (a' := ?_) #[true, true, true, true, true, true, true, true, false, false] rfl rfl (by kernel_rfl) (fun _ _ _ h => h) (Or.inr ⟨by rfl, rfl⟩) ?_ ?_
              rotate_left
              · simp only [Act.put, List.setIfInBounds_toArray, List.set_cons_zero, List.set_cons_succ]
                rfl
              refine pure_ (i := 8) (N := some 93) (v := ?_) (a' := ?_) #[true, true, true, true, true, true, true, true, true, false] rfl rfl (by kernel_rfl) (fun _ _ _ h => h) (Or.inl ⟨by rfl, ?_⟩) ?_ ?_
              rotate_left
              · intro w'
                go_simp
                with_reducible rfl
              rotate_left
              · simp only [Act.put, List.setIfInBounds_toArray, List.set_cons_zero, List.set_cons_succ]
                rfl
              refine pure_ (i := 9) (N := some 10) (v := ?_) (a' := ?_) #[true, true, true, true, true, true, true, true, true, true] rfl rfl (by kernel_rfl) (fun _ _ _ h => h) (Or.inl ⟨by rfl, ?_⟩) ?_ ?_
              rotate_left
              · intro w'
                go_simp
                with_reducible rfl
              rotate_left
              · simp only [Act.put, List.setIfInBounds_toArray, List.set_cons_zero, List.set_cons_succ]
                rfl
              refine done_ (by kernel_rfl) ?_
              go_wp2_with (fail)
              go_roundw
              case rel => exact ⟨i + 1, true, by omega, rfl, by go_num, Aside0.mk (HYN.out true (by simp)), Aside0.mk (HBr.out.trans ((HB6.out.trans (hHeld.mono HB6.out.size)).mono HBr.out.size))⟩
              case measure => simp [intOf]; omega
        · have hilI : ¬ (i : Int) < (m : Int) := by omega
          obtain rfl : i = m := by omega
          by_cases hd4 : sd = 4 ∨ sd = 16
          · have hdI : (sd : Int) = 4 ∨ (sd : Int) = 16 := by omega
            have hP := HPL.out.2.1 (by rw [HSD.out]; exact hd4)
            have hPb : (fe = 0 ∧ b = true) ∨ (fe = 182 ∧ b = false) := by
              rcases hP with ⟨h1, j, h2, h3, h4⟩ | ⟨h1, h2⟩
              · exact .inl ⟨h1, HIN.out.2 ⟨j, h2, h3, h4⟩⟩
              · refine .inr ⟨h1, ?_⟩
                cases b with
                | false => rfl
                | true =>
                  obtain ⟨j, h3, h4, _⟩ := HIN.out.1 rfl
                  rw [h2 j h3] at h4
                  cases h4
            clear hP
            rcases hdI with hdI | hdI
            · rcases hPb with ⟨rfl, rfl⟩ | ⟨rfl, rfl⟩
              · have hBr := HBr.out
                go_wp2_with (fail)
                refine (awake_walk _).mono ?_
                rintro e w6 ⟨rfl, hb⟩
                have HB6 := Aside0.mk ((HO5.out.step HBr.out).step hb).below
                clear hb hBr
                go_wp2_with (fail)
                go_ret
                exact ⟨rfl, HB6.out⟩
              · have hBr := HBr.out
                go_wp2_with (fail)
                refine (awake_walk _).mono ?_
                rintro e w6 ⟨rfl, hb⟩
                have HB6 := Aside0.mk ((HO5.out.step HBr.out).step hb).below
                clear hb hBr
                go_wp2_with (fail)
                go_ret
                exact ⟨rfl, HB6.out⟩
            · rcases hPb with ⟨rfl, rfl⟩ | ⟨rfl, rfl⟩
              · have hBr := HBr.out
                go_wp2_with (fail)
                refine (awake_walk _).mono ?_
                rintro e w6 ⟨rfl, hb⟩
                have HB6 := Aside0.mk ((HO5.out.step HBr.out).step hb).below
                clear hb hBr
                go_wp2_with (fail)
                go_ret
                exact ⟨rfl, HB6.out⟩
              · have hBr := HBr.out
                go_wp2_with (fail)
                refine (awake_walk _).mono ?_
                rintro e w6 ⟨rfl, hb⟩
                have HB6 := Aside0.mk ((HO5.out.step HBr.out).step hb).below
                clear hb hBr
                go_wp2_with (fail)
                go_ret
                exact ⟨rfl, HB6.out⟩
          · have hd4I : ¬ (sd : Int) = 4 := by omega
            have hd16I : ¬ (sd : Int) = 16 := by omega
            obtain rfl : fe = 1 := HPL.out.2.2 (by rw [HSD.out]; exact hd4)
            have hB4 : ((sd : Int) != 4) = true := by rw [bne_iff_ne]; exact hd4I
            have hB16 : ((sd : Int) != 16) = true := by rw [bne_iff_ne]; exact hd16I
            go_wp2_with (fail)
            refine (awake_walk _).mono ?_
            rintro e w6 ⟨rfl, hb⟩
            have HB6 := Aside0.mk ((HO5.out.step HBr.out).step hb).below
            clear hb
            go_wp2_with (fail)
            go_ret
            exact ⟨rfl, HB6.out⟩
theorem longest_law {H : Type} {enc : TypeId × Value → H} {d : DataW H} {ps : List MemPlace} (A : Option Addr) (len c : Nat) (dst : ByteArray) (w : World) (k : DataW.Trod enc Try.prog w 0 (fun _ => true) true 22 (.slice A len c) d ps) (wt : ∀ n ∈ d.weights Try.prog 22, n ≤ 140737488351232) (hd : dst.size ≤ 140737488351232) :
    Calls Try.prog 4 #[.slice A len c, .string dst] w fun e w' => e = .returned (.bool true) ∧ Below w.heap.size w w' := by
  obtain ⟨l, rfl, hc, hr, hm, hf⟩ := came28 k wt
  exact longest_main A l c dst w hr hc hm hf hd
end Go.Proofs.Ytmedkjiabieloaa.Rt

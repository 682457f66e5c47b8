-- Written by a program of this session (wip/tools/pp.py) out of what the kit's print.py prints over this seat's translation. Not trusted: Lean checks it.
import Derived.WalkLawsBesides
import Derived.Test.YtddkcepofoifdaaQPdx3
import Derived.Test.YtddkcepofoifdaaQPdx0
import Derived.Test.YtddkcepofoifdaaQPdx1
namespace Go.Proofs.Ytddkcepofoifdaa.QPd
open Go.RowKit Go.Proofs.YtddkcepofoifdaaW.PrintWords Go.Proofs.YtddkcepofoifdaaW.PrintLast Go.Proofs.YtddkcepofoifdaaW.PrintMore
attribute [local go_sem] max2_int min2_int max_two min_two max_three min_three max_four min_four   -- for this text's walks alone
set_option linter.unusedVariables false
set_option linter.unusedSimpArgs false

/-! ### pad_Open: function 15 -/
/-- What Open answers, byte by byte. -/
def openR (l : List Int) : List Int × Int × Int :=
  if l.length < 2 then ([], 0, 8)
  else if (l.length : Int) - 2 < rd l ((l.length : Int) - 2) then ([], 0, 130)
  else if (List.range (rd l ((l.length : Int) - 2)).toNat).all (fun i => rd l ((l.length - 2 - (rd l ((l.length : Int) - 2)).toNat + i : Nat) : Int) == (i : Int) + 1) = true then
    (l.take (l.length - 2 - (rd l ((l.length : Int) - 2)).toNat), rd l ((l.length : Int) - 1), 0)
  else ([], 0, 130)
/-- Every element is a byte. -/
def bytesB (l : List Int) : Bool := l.all (fun x => decide (0 ≤ x) && decide (x ≤ 255))
def pad_Open.f (_k : Nat) (l0 : List Int) : Option (List Int × Int × Int) := if bytesB l0 = true ∧ l0.length < 140737488355328 then some (openR l0) else none
theorem pad_Open.mono : ∀ a0 k, LeO (pad_Open.f k a0) (pad_Open.f (k + 1) a0) := fun _ _ => LeO.refl _
theorem rd_bytes (l : List Int) (h : bytesB l = true) (i : Int) : 0 ≤ rd l i ∧ rd l i ≤ 255 := by
  unfold rd
  rw [List.getD_eq_getElem?_getD]
  by_cases hi : i.toNat < l.length
  · rw [List.getElem?_eq_getElem hi, Option.getD_some]
    have := List.all_eq_true.mp h _ (List.getElem_mem hi)
    simpa using this
  · rw [List.getElem?_eq_none (by omega), Option.getD_none]; omega
theorem open_add (ad : Addr) (f j : Nat) : (ad.add f).add j = ad.add (f + j) := by
  unfold Addr.add
  by_cases hf : f = 0
  · simp [hf]
  · by_cases hj : j = 0
    · simp [hf, hj]
    · simp [hf, hj]; omega
theorem first_bad (P : Nat → Prop) [DecidablePred P] : ∀ k : Nat, (¬ ∀ i, i < k → P i) → ∃ p, p < k ∧ (∀ i, i < p → P i) ∧ ¬ P p
  | 0, h => absurd (fun i hi => absurd hi (by omega)) h
  | k + 1, h => by
    by_cases hk : ∀ i, i < k → P i
    · refine ⟨k, by omega, hk, fun hp => h fun i hi => ?_⟩
      by_cases e : i = k
      · subst e; exact hp
      · exact hk i (by omega)
    · obtain ⟨p, h1, h2, h3⟩ := first_bad P k hk
      exact ⟨p, by omega, h2, h3⟩
set_option maxHeartbeats 1000000 in
set_option maxRecDepth 100000 in
theorem open_short (A : Option Addr) (n c0 : Nat) (w : World) (hn : n < 2) :
    Calls Try.prog 15 #[.slice A n c0] w fun e w' => e = .returned (.tuple #[.slice none 0 0, .int .i64 0, .int .i64 8]) ∧ w = w' := by
  have hd : decide ((n : Int) < 2) = true := decide_eq_true (by omega)
  have hd' : decide (n < 2) = true := decide_eq_true hn
  clear hn
  go_enter Try.func15, Try.ntmps15
  go_wp2
  go_step3
  go_wp2
  (try rw [Exit.noGoto_ret])
  go_ret3
  exact ⟨rfl, rfl⟩
set_option maxHeartbeats 1000000 in
set_option maxRecDepth 100000 in
theorem open_big (ad : Addr) (m c0 : Nat) (w : World) (hc : m + 2 ≤ c0) (hm : m + 2 ≤ 9223372036854775807) (n : Int) (hn0 : 0 ≤ n) (hn1 : n ≤ 255) (hc0 : w.cell? (ad.add m) = some (.int .u8 n)) (hbig : (m : Int) < n) :
    Calls Try.prog 15 #[.slice (some ad) (m + 2) c0] w fun e w' => e = .returned (.tuple #[.slice none 0 0, .int .i64 0, .int .i64 130]) ∧ Below w.heap.size w w' := by
  have e1 : IntKind.i64.wrap ((m : Int) + 2 - 2) = (m : Int) := by rw [show ((m : Int) + 2 - 2) = m from by omega]; exact IntWalk.i64_in _ (by omega)
  go_enter Try.func15, Try.ntmps15
  go_wp2
  go_step3
  go_wp2
  go_quiet (fail)
  go_wp2
  (try rw [Exit.noGoto_ret])
  go_ret3
  exact ⟨rfl, pw_below_drewN (Below.refl _ _) _⟩
set_option maxHeartbeats 1000000 in
set_option maxRecDepth 100000 in
theorem open_bad (ad : Addr) (m f k p c0 : Nat) (xs : List Int) (w : World) (hc : m + 2 ≤ c0) (hm : m + 2 ≤ 9223372036854775807) (hk : k ≤ 255) (hf : f + k = m) (hb : ∀ i, 0 ≤ rd xs i ∧ rd xs i ≤ 255) (hr : ∀ i, i < m + 2 → w.cell? (ad.add i) = some (.int .u8 (rd xs i)))
   (hn : rd xs m = k) (hp : p < k) (hgood : ∀ i : Nat, i < p → rd xs ((f + i : Nat) : Int) = i + 1) (hbad : ¬ rd xs ((f + p : Nat) : Int) = p + 1) :
    Calls Try.prog 15 #[.slice (some ad) (m + 2) c0] w fun e w' => e = .returned (.tuple #[.slice none 0 0, .int .i64 0, .int .i64 130]) ∧ Below w.heap.size w w' := by
  have e1 : IntKind.i64.wrap ((m : Int) + 2 - 2) = (m : Int) := by rw [show ((m : Int) + 2 - 2) = m from by omega]; exact IntWalk.i64_in _ (by omega)
  have e2 : IntKind.i64.wrap ((m : Int) - k) = (f : Int) := by rw [show ((m : Int) - k) = f from by omega]; exact IntWalk.i64_in _ (by omega)
  have hc0 : w.cell? (ad.add m) = some (.int .u8 k) := by rw [hr m (by omega), hn]
  have hlt : (k : Int) ≤ m := by omega
  have hmf : m - f = k := by omega
  have hfc : ¬ c0 = f := by omega
  have HB := Aside0.mk hb
  have HR := Aside0.mk hr
  have HG := Aside0.mk hgood
  have HBAD := Aside0.mk hbad
  have HN := Aside0.mk hn
  have HF := Aside0.mk hf
  clear hb hr hgood hbad hn hf
  go_enter Try.func15, Try.ntmps15
  go_wp2
  go_step3
  go_wp2
  go_quiet (fail)
  go_wp2
  go_step3
  go_wp2
  go_loop [7, 41] (fun e i => ∃ j : Nat, j ≤ p ∧ i = .int .i64 j ∧ e = .int .i64 0) (fun _ i => k - (intOf i).toNat)
  case atStart => exact ⟨0, Nat.zero_le _, rfl, rfl⟩
  case round =>
    obtain ⟨j, hj, rfl, rfl⟩ := hrel
    have hcell : w.cell? ((ad.add f).add j) = some (.int .u8 (rd xs ((f + j : Nat) : Int))) := by
      rw [open_add]; exact HR.out (f + j) (by have := HF.out; omega)
    have hbd := HB.out ((f + j : Nat) : Int)
    obtain ⟨y, hy⟩ : ∃ y, rd xs ((f + j : Nat) : Int) = y := ⟨_, rfl⟩
    rw [hy] at hcell hbd
    have HY := Aside0.mk hy
    clear hy
    obtain ⟨hb0, hb1⟩ := hbd
    by_cases hjp : j = p
    · subst hjp
      have hne : ((y : Int) == (j : Int) + 1) = false := beq_eq_false_iff_ne.mpr (by have := HBAD.out; rw [HY.out] at this; exact this)
      go_wp2
      (try rw [Exit.noGoto_ret])
      go_ret3
      exact ⟨rfl, pw_below_drewN (Below.refl _ _) _⟩
    · have hjlt : j < p := by omega
      have heq : ((y : Int) == (j : Int) + 1) = true := beq_iff_eq.mpr (by have := HG.out j hjlt; rw [HY.out] at this; exact this)
      go_wp2
      go_round
      case rel => exact ⟨j + 1, by omega, by go_num, rfl⟩
      case measure => simp [intOf]; omega
theorem clone_any (A : Option Addr) (n c : Nat) (l : List Int) (w : World) (hl : l.length = n) (hr : Kd.C (Kd.int .u8) w A n l) (hc : n ≤ c) (hlim : n < 140737488355328) :
    Calls Try.prog 30 #[.slice A n c] w fun e w' => ∃ v0_ : Value, e = .returned (v0_) ∧ Kd.R (Kd.int .u8) 5 w' w.heap.size (fun _ => True) v0_ l ∧ Below w.heap.size w w' := by
  subst hl
  exact slices_Clone_byte_byte.calls A c l l w hr hc (by unfold slices_Clone_byte_byte.f; rw [if_pos (by simpa using hlim)]; rfl)
set_option maxHeartbeats 2000000 in
set_option maxRecDepth 100000 in
theorem open_good (ad : Addr) (m f k c0 : Nat) (xs : List Int) (w : World) (hx : xs.length = m + 2) (hc : m + 2 ≤ c0) (hm : m + 2 < 140737488355328) (hk : k ≤ 255) (hf : f + k = m) (hb : ∀ i, 0 ≤ rd xs i ∧ rd xs i ≤ 255) (hr : ∀ i, i < m + 2 → w.cell? (ad.add i) = some (.int .u8 (rd xs i)))
   (hread : Kd.C (Kd.int .u8) w (some ad) xs.length xs) (hn : rd xs m = k) (hgood : ∀ i : Nat, i < k → rd xs ((f + i : Nat) : Int) = i + 1) :
    Calls Try.prog 15 #[.slice (some ad) (m + 2) c0] w fun e w' => ∃ v0_ : Value, e = .returned (.tuple #[v0_, .int .i64 (rd xs ((m + 1 : Nat) : Int)), .int .i64 0]) ∧ Kd.R (Kd.int .u8) 5 w' w.heap.size (fun k_ => (w.heap.size ≤ k_)) v0_ (xs.take f) ∧ Below w.heap.size w w' := by
  have e1 : IntKind.i64.wrap ((m : Int) + 2 - 2) = (m : Int) := by rw [show ((m : Int) + 2 - 2) = m from by omega]; exact IntWalk.i64_in _ (by omega)
  have e2 : IntKind.i64.wrap ((m : Int) - k) = (f : Int) := by rw [show ((m : Int) - k) = f from by omega]; exact IntWalk.i64_in _ (by omega)
  have hc0 : w.cell? (ad.add m) = some (.int .u8 k) := by rw [hr m (by omega), hn]
  have hlt : (k : Int) ≤ m := by omega
  have hmf : m - f = k := by omega
  have hfc : ¬ c0 = f := by omega
  have hfm : f ≤ m := by omega
  have hfi : (0 : Int) ≤ (f : Int) := Int.natCast_nonneg _
  have hfi' : (f : Int) ≤ (m : Int) := by omega
  have hfc1 : (f : Int) ≤ (c0 : Int) := by omega
  have hfc2 : f ≤ c0 := by omega
  have hc1 : w.cell? ⟨(ad.add m).block, (ad.add m).off + 1, none⟩ = some (.int .u8 (rd xs ((m + 1 : Nat) : Int))) := by
    have := hr (m + 1) (by omega)
    rw [← open_add] at this
    unfold Addr.add at this ⊢
    simpa using this
  have hb1 := hb ((m + 1 : Nat) : Int)
  obtain ⟨y1, hy1⟩ : ∃ y, rd xs ((m + 1 : Nat) : Int) = y := ⟨_, rfl⟩
  rw [hy1] at hc1 hb1 ⊢
  obtain ⟨hb10, hb11⟩ := hb1
  have e3 : IntKind.i64.wrap y1 = y1 := IntWalk.i64_in _ (by omega)
  have HX := Aside0.mk hx
  have HB := Aside0.mk hb
  have HR := Aside0.mk hr
  have HG := Aside0.mk hgood
  have HN := Aside0.mk hn
  have HF := Aside0.mk hf
  have HREAD := Aside0.mk hread
  have HM := Aside0.mk hm
  have HLEN := Aside0.mk (show (xs.take f).length = f by rw [List.length_take]; omega)
  have HCUT := Aside0.mk (show ∀ n, Kd.C (Kd.int .u8) (w.drewN n) (some ad) f (xs.take f) from fun n => by
    have h1 := Kd.C_below hread (pw_below_drewN (Below.refl _ _) n)
    have h2 := Kd.C_take h1 (m := f) (by omega)
    rwa [HLEN.out] at h2)
  have HLT := World.block_lt_of_cell? w _ hc1
  clear hb hr hgood hn hf hx hread hy1 hm
  have hm' : m + 2 ≤ 9223372036854775807 := by have := HM.out; omega
  go_enter Try.func15, Try.ntmps15
  go_wp2
  go_step3
  go_wp2
  go_quiet (fail)
  go_wp2
  go_step3
  go_wp2
  go_loop [7, 41] (fun e i => ∃ j : Nat, j ≤ k ∧ i = .int .i64 j ∧ e = .int .i64 0) (fun _ i => k - (intOf i).toNat)
  case atStart => exact ⟨0, Nat.zero_le _, rfl, rfl⟩
  case round =>
    obtain ⟨j, hj, rfl, rfl⟩ := hrel
    by_cases hjk : j < k
    · have hcell : w.cell? ((ad.add f).add j) = some (.int .u8 (rd xs ((f + j : Nat) : Int))) := by
        rw [open_add]; exact HR.out (f + j) (by have := HF.out; omega)
      have hbd := HB.out ((f + j : Nat) : Int)
      obtain ⟨y, hy⟩ : ∃ y, rd xs ((f + j : Nat) : Int) = y := ⟨_, rfl⟩
      rw [hy] at hcell hbd
      have HY := Aside0.mk hy
      clear hy
      obtain ⟨hb0, hb1⟩ := hbd
      have heq : ((y : Int) == (j : Int) + 1) = true := beq_iff_eq.mpr (by have := HG.out j hjk; rw [HY.out] at this; exact this)
      go_wp2
      go_round
      case rel => exact ⟨j + 1, by omega, by go_num, rfl⟩
      case measure => simp [intOf]; omega
    · have hje : ¬ (j < k) := hjk
      go_wp2
      go_region_held3 (fun w' => w'.cell? ⟨(ad.add m).block, (ad.add m).off + 1, none⟩ = some (.int .u8 y1)) (first | exact hc1w | exact hc1)
        (first | (go_at_call 30; refine (clone_any (some ad) f c0 (xs.take f) _ HLEN.out (HCUT.out _) (by omega) (by have := HM.out; omega)).mono ?_; rintro e w1 ⟨v, rfl, ho, hb⟩; have hc1w := (hb.cell (p := ⟨(ad.add m).block, (ad.add m).off + 1, none⟩) HLT).trans hc1; have HO := Aside0.mk ho; have HBW := Aside0.mk hb; clear ho hb))
      go_wp2
      (try rw [Exit.noGoto_ret])
      go_ret3
      exact ⟨v, rfl, Kd.R_mono (Kd.R_lower (Kd.R_bound HO.out) (Nat.le_refl _)) (fun _ hk => hk.2.1), below_step (pw_below_drewN (Below.refl _ _) _) HBW.out⟩
theorem pad_Open.calls (k : Nat) (P0_ : Nat → Prop) (A0 : Option Addr) (c0 : Nat) (l0 : List Int) (r1 : List Int) (r2 : Int) (r3 : Int) (w : World) (hs0 : Kd.V (Kd.int .u8) 5 w w.heap.size (fun k_ => P0_ k_) (.slice A0 l0.length c0) l0) (h : pad_Open.f k l0 = some (r1, r2, r3)) :
    Calls Try.prog 15 #[.slice A0 l0.length c0] w fun e w' => ∃ v0_ : Value, e = .returned (.tuple #[v0_, .int .i64 r2, .int .i64 r3]) ∧ Kd.R (Kd.int .u8) 5 w' w.heap.size (fun k_ => (w.heap.size ≤ k_)) v0_ r1 ∧ Below w.heap.size w w' := by
  have hrd := Kd.V_reads' hs0
  have hC := hrd.2.2
  unfold pad_Open.f at h
  split at h
  · rename_i hg
    obtain ⟨hbyte, hlim⟩ := hg
    have hres : openR l0 = (r1, r2, r3) := Option.some.inj h
    unfold openR at hres
    by_cases h2 : l0.length < 2
    · rw [if_pos h2] at hres
      simp only [Prod.mk.injEq] at hres
      obtain ⟨rfl, rfl, rfl⟩ := hres
      refine (open_short A0 l0.length c0 w h2).mono ?_
      rintro e w' ⟨rfl, rfl⟩
      exact ⟨_, rfl, Kd.R_nil _ _ _ _ _, Below.refl _ _⟩
    · rw [if_neg h2] at hres
      obtain ⟨m, hm⟩ : ∃ m, l0.length = m + 2 := ⟨l0.length - 2, by omega⟩
      have hI := Kd.reads_of_C (d := (0 : Int)) (h1 := fun _ => rfl) hC
      obtain ⟨ad, rfl, hcell⟩ := hI.2.2 (by omega)
      have hr : ∀ i, i < m + 2 → w.cell? (ad.add i) = some (.int .u8 (rd l0 i)) := fun i hi => hcell i (by omega)
      have hbd := rd_bytes l0 hbyte
      have hcc : m + 2 ≤ c0 := by have := hrd.2.1; omega
      have em : ((l0.length : Int) - 2) = (m : Int) := by omega
      rw [em] at hres
      have hb0 := hbd (m : Int)
      obtain ⟨k, hk⟩ : ∃ k : Nat, rd l0 (m : Int) = (k : Int) := ⟨(rd l0 (m : Int)).toNat, by omega⟩
      have hr0 : Kd.C (Kd.int .u8) w (some ad) l0.length l0 := hC
      rw [hm] at hr0 ⊢
      by_cases hbig : (m : Int) < rd l0 (m : Int)
      · rw [if_pos hbig] at hres
        simp only [Prod.mk.injEq] at hres
        obtain ⟨rfl, rfl, rfl⟩ := hres
        refine (open_big ad m c0 w hcc (by omega) (rd l0 (m : Int)) hb0.1 hb0.2 (hr m (by omega)) hbig).mono ?_
        rintro e w' ⟨rfl, hb⟩
        exact ⟨_, rfl, Kd.R_nil _ _ _ _ _, hb⟩
      · rw [if_neg hbig, hk] at hres
        have hkm : k ≤ m := by omega
        obtain ⟨f, hf⟩ : ∃ f, f + k = m := ⟨m - k, by omega⟩
        have ef : l0.length - 2 - ((k : Int)).toNat = f := by omega
        rw [ef] at hres
        by_cases hall : (List.range ((k : Int)).toNat).all (fun i => rd l0 ((f + i : Nat) : Int) == (i : Int) + 1) = true
        · rw [if_pos hall] at hres
          simp only [Prod.mk.injEq] at hres
          obtain ⟨rfl, rfl, rfl⟩ := hres
          have hgood : ∀ i : Nat, i < k → rd l0 ((f + i : Nat) : Int) = i + 1 := fun i hi => by
            have := List.all_eq_true.mp hall i (by simpa using hi)
            simpa using this
          have el : ((l0.length : Int) - 1) = ((m + 1 : Nat) : Int) := by omega
          rw [el]
          exact open_good ad m f k c0 l0 w hm hcc (by omega) (by omega) hf hbd hr hC hk hgood
        · rw [if_neg hall] at hres
          simp only [Prod.mk.injEq] at hres
          obtain ⟨rfl, rfl, rfl⟩ := hres
          have hex : ∃ p, p < k ∧ (∀ i : Nat, i < p → rd l0 ((f + i : Nat) : Int) = i + 1) ∧ ¬ rd l0 ((f + p : Nat) : Int) = p + 1 := by
            have : ¬ ∀ i : Nat, i < k → rd l0 ((f + i : Nat) : Int) = i + 1 := fun hh => hall (List.all_eq_true.mpr fun i hi => by
              have := hh i (by simpa using hi); simpa using this)
            exact first_bad (fun i => rd l0 ((f + i : Nat) : Int) = i + 1) k this
          obtain ⟨p, hp, hgood, hbad⟩ := hex
          refine (open_bad ad m f k p c0 l0 w hcc (by omega) (by omega) hf hbd hr hk hp hgood hbad).mono ?_
          rintro e w' ⟨rfl, hb⟩
          exact ⟨_, rfl, Kd.R_nil _ _ _ _ _, hb⟩
  · cases h

end Go.Proofs.Ytddkcepofoifdaa.QPd

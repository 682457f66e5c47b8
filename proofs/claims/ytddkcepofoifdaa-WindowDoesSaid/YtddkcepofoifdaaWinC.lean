/- The walk of window.Accept, over a window in memory. -/
import Derived.Test.YtddkcepofoifdaaWinB
import Derived.Lib.SliceRun
namespace Go.Proofs.Ytddkcepofoifdaa.Win
open Go.RowKit Go.Proofs.YtddkcepofoifdaaW.PrintWords Go.Proofs.YtddkcepofoifdaaW.PrintLast Go.Proofs.YtddkcepofoifdaaW.PrintMore
set_option linter.unusedVariables false
set_option linter.unusedSimpArgs false
theorem Step.refl (S : Nat → Prop) (w : World) : Step S w w := ⟨Below.refl _ _, Kept.refl _ _⟩
theorem Step.drewN {S : Nat → Prop} {w w' : World} (h : Step S w w') (m : Nat) : Step S w (w'.drewN m) := ⟨pw_below_drewN h.b m, h.k.drewN m⟩
theorem Step.set {S : Nat → Prop} {w w' : World} (h : Step S w w') (b i : Nat) (v : Value) (hb : S b) : Step S w (w'.setCell ⟨b, i, none⟩ v) := ⟨h.b.setCell (Nat.zero_le _) v, h.k.setCell (Or.inl hb) v⟩
theorem Step.trans {S : Nat → Prop} {a b c : World} (h : Step S a b) (k : Step S b c) : Step S a c := ⟨h.b.trans k.b, h.k.then_ k.k (fun _ hk => Or.inl hk)⟩
theorem set_run (g a : Nat) (wide : Bool) (top : Nat) : ∀ (n o : Nat) (W : World) (seen : List Bool), WinAt W g a wide top seen →
    ∃ seen', WinAt (W.setCells a o (List.replicate n (.bool false))) g a wide top seen' ∧ seen'.length = seen.length ∧ (∀ i, seen'.getD i false = if o ≤ i ∧ i < o + n then false else seen.getD i false) ∧ Step (fun k => k = g ∨ k = a) W (W.setCells a o (List.replicate n (.bool false)))
  | 0, o, W, seen, h => ⟨seen, h, rfl, fun i => by rw [if_neg (by omega)], Step.refl _ _⟩
  | n + 1, o, W, seen, h => by
    obtain ⟨s', h1, h2, h3, h4⟩ := set_run g a wide top n (o + 1) _ _ (h.set_at o false)
    refine ⟨s', h1, by simpa using h2, fun i => ?_, ((Step.refl _ _).set a o _ (Or.inr rfl)).trans h4⟩
    rw [h3 i]
    by_cases hi : i = o
    · subst hi
      rw [if_neg (by omega), if_pos (by omega)]
      simp only [List.getD_eq_getElem?_getD]
      by_cases hl : i < seen.length
      · simp [hl]
      · simp [hl]
    · have e : (o + 1 ≤ i ∧ i < o + 1 + n) ↔ (o ≤ i ∧ i < o + (n + 1)) := by omega
      simp only [e]
      split
      · rfl
      · simp only [List.getD_eq_getElem?_getD]
        rw [List.getElem?_set_ne (by omega)]
/-- The row after the numbers behind s, c of them, have been wiped. -/
def wipe (s : Nat) : Nat → List Bool → List Bool
  | 0, l => l
  | c + 1, l => (wipe s c l).set ((s + c) % l.length) false
theorem wipe_length (s : Nat) : ∀ (c : Nat) (l : List Bool), (wipe s c l).length = l.length
  | 0, _ => rfl
  | c + 1, l => by simp [wipe, wipe_length s c l]
/-- The row after n was accepted. -/
def accSeen (top n : Nat) (seen : List Bool) : List Bool :=
  if n ≤ top then seen.set (n % seen.length) true
  else if seen.length ≤ n - top then (List.replicate seen.length false).set (n % seen.length) true
  else (wipe (top + 1) (n - top - 1) seen).set (n % seen.length) true
section
variable {w : World} {g a top : Nat} {wide : Bool} {seen : List Bool}
set_option maxHeartbeats 1000000 in
theorem accept_no (p : Option Addr) (n c : Int) (hc : c ≠ 0) (hcall : Calls Try.prog 25 #[.pointer p, .int .u64 n] w fun e w' => e = .returned (.int .i64 c) ∧ ∃ m, w' = w.drewN m) :
    Calls Try.prog 21 #[.pointer p, .int .u64 n] w fun e w' => e = .returned (.int .i64 c) ∧ ∃ m, w' = w.drewN m := by
  have c0 : (c == 0) = false := by simpa using hc
  have HC := Aside0.mk hcall
  clear hcall hc
  go_enter Try.func21, Try.ntmps21
  go_wp2_with (go_at_call 25; refine HC.out.mono ?_; rintro e w1 ⟨rfl, m, rfl⟩)
  go_wp2
  go_ret
  exact ⟨rfl, m, rfl⟩
set_option maxHeartbeats 1000000 in
theorem accept_low (h : WinAt w g a wide top seen) (hl : seen.length ≤ 1024) (h0l : 0 < seen.length) (n : Nat) (hn : n ≤ top) (ht : top < 18446744073709551616)
    (hcall : Calls Try.prog 25 #[.pointer (some ⟨g, 0, none⟩), .int .u64 (n : Int)] w fun e w' => e = .returned (.int .i64 0) ∧ ∃ m, w' = w.drewN m) :
    Calls Try.prog 21 #[.pointer (some ⟨g, 0, none⟩), .int .u64 (n : Int)] w fun e w' => e = .returned (.int .i64 0) ∧ WinAt w' g a wide top (seen.set (n % seen.length) true) ∧ Step (fun k => k = g ∨ k = a) w w' := by
  have HC := Aside0.mk hcall
  have HP := Aside0.mk (fun k => (place_walk (h.drewN k) hl h0l n))
  have H := Aside0.mk h
  have h1 := h.c1
  have hf := h.fra (n % seen.length)
  have hq1 := Nat.mod_lt n h0l
  have hcell := h.cell (n % seen.length) hq1
  obtain ⟨B, hB⟩ : ∃ B, seen.getD (n % seen.length) false = B := ⟨_, rfl⟩
  rw [hB] at hcell
  obtain ⟨q, hq⟩ : ∃ q, n % seen.length = q := ⟨_, rfl⟩
  rw [hq] at HP hf hcell ⊢
  have c2 : decide ((top : Int) < (n : Int)) = false := by simp; omega
  clear hcall h hq hq1
  go_enter Try.func21, Try.ntmps21
  go_wp2_with (first | (go_at_call 25; refine HC.out.mono ?_; rintro e w1 ⟨rfl, m, rfl⟩) | (go_at_call 32; refine (HP.out _).mono ?_; rintro e w1 ⟨rfl, m2, rfl⟩))
  go_ret
  exact ⟨rfl, (H.out.drewN _).set_at q true, ((Step.refl _ _).drewN _).set a q _ (Or.inr rfl)⟩

theorem clear_run (h : WinAt w g a wide top seen) (h0l : 0 < seen.length) (ty : TypeId) :
    ∃ W', (Builtin.clear_ #[49] ty #[.slice (some ⟨a, 0, none⟩) seen.length seen.length]).run Try.prog w = .ok (.tuple #[]) W' ∧ WinAt W' g a wide top (List.replicate seen.length false) ∧ Step (fun k => k = g ∨ k = a) w W' := by
  have hz : ∀ w, (zeroValue 4).run Try.prog w = .ok (.bool false) w := fun w => by go_simp
  have hc := Lib.run_clear_slice (P := Try.prog) w 49 4 ty (.bool false) Try.underlying49 hz rfl rfl a 0 seen.length seen.length h0l
    (fun j hj => by have := h.cell j hj; simp [this]) (fun j hj => by have := h.fra j; simpa using this)
  obtain ⟨s', h1, h2, h3, h4⟩ := set_run g a wide top seen.length 0 w seen h
  refine ⟨_, hc, ?_, h4⟩
  have e : s' = List.replicate seen.length false := by
    apply List.ext_getElem
    · simp [h2]
    · intro i h5 h6
      have := h3 i
      simp only [List.getD_eq_getElem?_getD, List.getElem?_eq_getElem h5, Option.getD_some] at this
      rw [this, if_pos (by omega)]
      simp
  rw [e] at h1
  exact h1
set_option maxHeartbeats 1000000 in
theorem accept_far (h : WinAt w g a wide top seen) (hl : seen.length ≤ 1024) (h0l : 0 < seen.length) (n : Nat) (hn : top < n) (ht : n < 18446744073709551616) (hfar : seen.length ≤ n - top)
    (hcall : Calls Try.prog 25 #[.pointer (some ⟨g, 0, none⟩), .int .u64 (n : Int)] w fun e w' => e = .returned (.int .i64 0) ∧ ∃ m, w' = w.drewN m) :
    Calls Try.prog 21 #[.pointer (some ⟨g, 0, none⟩), .int .u64 (n : Int)] w fun e w' => e = .returned (.int .i64 0) ∧ WinAt w' g a wide n ((List.replicate seen.length false).set (n % seen.length) true) ∧ Step (fun k => k = g ∨ k = a) w w' := by
  have HC := Aside0.mk hcall
  have H := Aside0.mk h
  have h1 := h.c1
  have h2 := h.c2
  have c2 : decide ((top : Int) < (n : Int)) = true := by simp; omega
  have hsz := Aside0.mk fun (W : World) (hW : WinAt W g a wide top seen) => size_walk hW hl
  obtain ⟨F, hF⟩ := Classical.axiomOfChoice (fun k : Nat => clear_run (h.drewN k) h0l 0)
  have hF1 := fun k => (hF k).1
  have HF2 := Aside0.mk fun k => (hF k).2.1
  have HF3 := Aside0.mk fun k => (hF k).2.2
  have HFr := Aside0.mk h.fr
  obtain ⟨L, hL⟩ : ∃ L, seen.length = L := ⟨_, rfl⟩
  rw [hL] at h2 hl h0l hfar hsz HF2 ⊢
  simp only [hL] at hF1
  have c4 : decide ((L : Int) ≤ IntKind.u64.wrap ((n : Int) - (top : Int))) = true := by rw [IntKind.wrap_u64]; simp; omega
  have HPl : Aside0 (∀ W, WinAt W g a wide n (List.replicate L false) → Calls Try.prog 32 #[.pointer (some ⟨g, 0, none⟩), .int .u64 (n : Int)] W fun e w' => e = .returned (.pointer (some ⟨a, n % L, none⟩)) ∧ ∃ m, w' = W.drewN m) := Aside0.mk fun W hW => by
    have := place_walk hW (by simpa using hl) (by simpa using h0l) n
    simpa using this
  have hq1 := Nat.mod_lt n h0l
  obtain ⟨q, hq⟩ : ∃ q, n % L = q := ⟨_, rfl⟩
  rw [hq] at HPl ⊢ hq1
  have hFc := fun k => (HF2.out k).c1
  have hFf := fun k => (HF2.out k).fr 1
  have hFa := fun k => (HF2.out k).fra q
  have hne := h.ne
  have hFb := fun k => (HF2.out k).cell q (by simpa using hq1)
  simp only [List.getD_eq_getElem?_getD, List.getElem?_replicate, hq1, if_true, Option.getD_some] at hFb
  clear hcall h hq hF
  go_enter Try.func21, Try.ntmps21
  go_wp2_with (first | (go_at_call 25; refine HC.out.mono ?_; rintro e w1 ⟨rfl, m, rfl⟩))
  go_quiet (first | (go_at_call 31; exact (hsz.out _ (H.out.drewN _)).mono fun _ _ h => ⟨h.1, _, h.2⟩))
  go_wp2_with (first | (go_at_call 32; refine (HPl.out _ ((HF2.out _).set_top n)).mono ?_; rintro e w1 ⟨rfl, m2, rfl⟩))
  go_ret
  exact ⟨rfl, (((HF2.out _).set_top n).drewN m2).set_at q true, ((((Step.refl _ w).drewN _).trans (HF3.out _)).set g 1 _ (Or.inl rfl)).drewN m2 |>.set a q _ (Or.inr rfl)⟩
set_option maxHeartbeats 2000000 in
theorem accept_up (h : WinAt w g a wide top seen) (hl : seen.length ≤ 1024) (h0l : 0 < seen.length) (n : Nat) (hn : top < n) (ht : n < 18446744073709551616) (hfar : n - top < seen.length)
    (hcall : Calls Try.prog 25 #[.pointer (some ⟨g, 0, none⟩), .int .u64 (n : Int)] w fun e w' => e = .returned (.int .i64 0) ∧ ∃ m, w' = w.drewN m) :
    Calls Try.prog 21 #[.pointer (some ⟨g, 0, none⟩), .int .u64 (n : Int)] w fun e w' => e = .returned (.int .i64 0) ∧ WinAt w' g a wide n ((wipe (top + 1) (n - top - 1) seen).set (n % seen.length) true) ∧ Step (fun k => k = g ∨ k = a) w w' := by
  have HC := Aside0.mk hcall
  have H := Aside0.mk h
  have h1 := h.c1
  have h2 := h.c2
  have c2 : decide ((top : Int) < (n : Int)) = true := by simp; omega
  have hsz := Aside0.mk fun (W : World) (hW : WinAt W g a wide top seen) => size_walk hW hl
  obtain ⟨L, hL⟩ : ∃ L, seen.length = L := ⟨_, rfl⟩
  have HL := Aside0.mk hL
  rw [hL] at h2 hl h0l hfar hsz ⊢
  have c4 : decide ((L : Int) ≤ IntKind.u64.wrap ((n : Int) - (top : Int))) = false := by rw [IntKind.wrap_u64]; simp; omega
  have e5 : IntKind.u64.wrap ((top : Int) + 1) = ((top + 1 : Nat) : Int) := by rw [IntKind.wrap_u64]; omega
  have HPl : Aside0 (∀ W t s (k : Nat), s.length = L → WinAt W g a wide t s → Calls Try.prog 32 #[.pointer (some ⟨g, 0, none⟩), .int .u64 (k : Int)] W fun e w' => e = .returned (.pointer (some ⟨a, k % L, none⟩)) ∧ ∃ m, w' = W.drewN m) := Aside0.mk fun W t s k hs hW => by
    subst hs
    exact place_walk hW hl h0l k
  clear hcall h hL
  go_enter Try.func21, Try.ntmps21
  go_wp2_with (first | (go_at_call 25; refine HC.out.mono ?_; rintro e w1 ⟨rfl, m, rfl⟩))
  go_quiet (first | (go_at_call 31; exact (hsz.out _ (H.out.drewN _)).mono fun _ _ h => ⟨h.1, _, h.2⟩))
  go_wp2
  go_loopw [6] (fun i wr => ∃ c : Nat, c ≤ n - top - 1 ∧ i = .int .u64 ((top + 1 + c : Nat) : Int) ∧ Aside0 (WinAt wr g a wide top (wipe (top + 1) c seen)) ∧ Aside0 (Step (fun k => k = g ∨ k = a) w wr)) (fun i _ => n - (intOf i).toNat)
  case atStart => exact ⟨0, by omega, by simp, Aside0.mk (H.out.drewN _), Aside0.mk ((Step.refl _ _).drewN _)⟩
  case round =>
    obtain ⟨c, hc, rfl, HW, HS⟩ := hrel
    have hlen : (wipe (top + 1) c seen).length = L := by rw [wipe_length]; exact HL.out
    obtain ⟨K, hK⟩ : ∃ K, top + 1 + c = K := ⟨_, rfl⟩
    have HK := Aside0.mk hK
    rw [hK]
    by_cases hlt : K < n
    · have d1 : decide ((K : Int) < (n : Int)) = true := by simp; omega
      have e6 : IntKind.u64.wrap ((K : Int) + 1) = ((K + 1 : Nat) : Int) := by rw [IntKind.wrap_u64]; omega
      have hq1 : K % L < (wipe (top + 1) c seen).length := by rw [hlen]; exact Nat.mod_lt _ h0l
      have hcell := HW.out.cell (K % L) hq1
      have hfr := HW.out.fra (K % L)
      obtain ⟨B, hB⟩ : ∃ B, (wipe (top + 1) c seen).getD (K % L) false = B := ⟨_, rfl⟩
      rw [hB] at hcell
      have HP := Aside0.mk (HPl.out wr top _ K hlen HW.out)
      obtain ⟨q, hq⟩ : ∃ q, K % L = q := ⟨_, rfl⟩
      rw [hq] at hcell hfr HP
      have HQ := Aside0.mk hq
      clear hq hB hq1 hlen
      go_wp2_with (first | (go_at_call 32; refine HP.out.mono ?_; rintro e w1 ⟨rfl, m2, rfl⟩))
      go_round
      case rel =>
        refine ⟨c + 1, by omega, by rw [← HK.out]; rfl, Aside0.mk ?_, Aside0.mk ((HS.out.drewN _).set a q _ (Or.inr rfl))⟩
        have := (HW.out.drewN m2).set_at q false
        rw [← HQ.out, ← HK.out, ← HL.out] at this ⊢
        exact this
      case measure => simp [intOf]; omega
    · have d1 : decide ((K : Int) < (n : Int)) = false := by simp; omega
      have hce : c = n - top - 1 := by omega
      have HP := Aside0.mk (HPl.out _ n _ n hlen (HW.out.set_top n))
      have hq1 : n % L < (wipe (top + 1) c seen).length := by rw [hlen]; exact Nat.mod_lt _ h0l
      have hcell := HW.out.cell (n % L) hq1
      have hfr := HW.out.fra (n % L)
      have hfr1 := HW.out.fr 1
      have hct := HW.out.c1
      have hne := HW.out.ne
      obtain ⟨B, hB⟩ : ∃ B, (wipe (top + 1) c seen).getD (n % L) false = B := ⟨_, rfl⟩
      rw [hB] at hcell
      obtain ⟨q, hq⟩ : ∃ q, n % L = q := ⟨_, rfl⟩
      rw [hq] at hcell hfr HP
      have HQ := Aside0.mk hq
      have HE := Aside0.mk hce
      clear hq hB hq1 hlen hce hc
      go_wp2_with (first | (go_at_call 32; refine HP.out.mono ?_; rintro e w1 ⟨rfl, m2, rfl⟩))
      go_ret
      rw [HQ.out, ← HE.out]
      exact ⟨rfl, ((HW.out.set_top n).drewN m2).set_at q true, ((HS.out.set g 1 _ (Or.inl rfl)).drewN m2).set a q _ (Or.inr rfl)⟩
theorem step_drew (S : Nat → Prop) (w : World) (m : Nat) : Step S w (w.drewN m) := (Step.refl _ _).drewN _
/-- What Accept does. -/
theorem accept_walk (h : WinAt w g a wide top seen) (hl : seen.length ≤ 1024) (h0l : 0 < seen.length) (n : Nat) (ht : top < 18446744073709551616) (hn : n < 18446744073709551616) :
    Calls Try.prog 21 #[.pointer (some ⟨g, 0, none⟩), .int .u64 (n : Int)] w fun e w' => e = .returned (.int .i64 (checkE wide top n seen)) ∧
      WinAt w' g a wide (if checkE wide top n seen = 0 then max top n else top) (if checkE wide top n seen = 0 then accSeen top n seen else seen) ∧ Step (fun k => k = g ∨ k = a) w w' := by
  have hc := check_walk h hl h0l n ht
  by_cases h0 : checkE wide top n seen = 0
  · rw [h0] at hc ⊢
    simp only [if_true]
    unfold accSeen
    by_cases hle : n ≤ top
    · rw [if_pos hle, Nat.max_eq_left hle]
      exact accept_low h hl h0l n hle ht hc
    · rw [if_neg hle, Nat.max_eq_right (by omega)]
      by_cases hf : seen.length ≤ n - top
      · rw [if_pos hf]
        exact accept_far h hl h0l n (by omega) hn hf hc
      · rw [if_neg hf]
        exact accept_up h hl h0l n (by omega) hn (by omega) hc
  · rw [if_neg h0, if_neg h0]
    refine (accept_no (some ⟨g, 0, none⟩) n _ h0 hc).mono ?_
    rintro e w' ⟨rfl, m, rfl⟩
    exact ⟨rfl, h.drewN m, step_drew _ _ _⟩
theorem accept_nil (n : Nat) : Calls Try.prog 21 #[.pointer none, .int .u64 (n : Int)] w fun e w' => e = .returned (.int .i64 3) ∧ ∃ m, w' = w.drewN m :=
  accept_no none n 3 (by decide) ((check_nil w n).mono fun _ _ h => ⟨h.1, 0, h.2⟩)
end
end Go.Proofs.Ytddkcepofoifdaa.Win

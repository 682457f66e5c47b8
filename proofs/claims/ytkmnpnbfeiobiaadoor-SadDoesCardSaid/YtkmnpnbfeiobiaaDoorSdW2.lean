/- A window's calls in one word, Win; its plain law. -/
import Derived.Test.YtkmnpnbfeiobiaaDoorSdW1
namespace Go.Proofs.YtkmnpnbfeiobiaaDoor.Win
open Go.RowKit Go.Proofs.YtkmnpnbfeiobiaaDoorW.PrintWords Go.Proofs.YtkmnpnbfeiobiaaDoorW.PrintLast Go.Proofs.YtkmnpnbfeiobiaaDoorW.PrintMore
set_option linter.unusedVariables false
set_option linter.unusedSimpArgs false

/-- The state behind Accept. -/
def acc (wide : Bool) (st : Nat × List Bool) (n : Nat) : Nat × List Bool := if checkE wide st.1 n st.2 = 0 then (max st.1 n, accSeen st.1 n st.2) else st
def chk (wide : Bool) (st : Nat × List Bool) (n : Nat) : Int := checkE wide st.1 n st.2
/-- A state that a window of that size can be in. -/
def Good (L : Nat) (st : Nat × List Bool) : Prop := st.2.length = L ∧ st.1 < 18446744073709551616
theorem accSeen_length (top n : Nat) (l : List Bool) : (accSeen top n l).length = l.length := by
  unfold accSeen
  split
  · simp
  · split
    · simp
    · simp [wipe_length]
theorem Good.acc {L : Nat} {st : Nat × List Bool} (h : Good L st) (wide : Bool) (n : Nat) (hn : n < 18446744073709551616) : Good L (acc wide st n) := by
  unfold Win.acc
  split
  · exact ⟨by simp only [accSeen_length]; exact h.1, by simp only; have := h.2; omega⟩
  · exact h
/-- All that a window's call keeps, in one word: what was there before base is as it was. -/
structure Win (base L : Nat) (w0 w : World) (g a : Nat) (wide : Bool) (st : Nat × List Bool) : Prop where
  at_ : WinAt w g a wide st.1 st.2
  good : Good L st
  hL : 64 ≤ L ∧ L ≤ 1024
  below : Below base w0 w
  hg : base ≤ g
  ha : base ≤ a
theorem Below.step {base g a : Nat} {w0 w w' : World} (h : Below base w0 w) (hg : base ≤ g) (ha : base ≤ a) (hs : Step (fun k => k = g ∨ k = a) w w') (hlt : base ≤ w.heap.size) : Below base w0 w' :=
  h.trans ⟨hs.b.os, hs.b.tape, hs.b.output, hs.b.size, fun k hk => hs.k.2 k (by omega) (by omega)⟩
section
variable {base L g a : Nat} {w0 w : World} {wide : Bool} {st : Nat × List Bool}
theorem Win.lt (h : Win base L w0 w g a wide st) : base ≤ w.heap.size := Nat.le_of_lt (Nat.lt_of_le_of_lt h.hg (blk_lt h.at_.hs))
theorem Win.drewN (h : Win base L w0 w g a wide st) (m : Nat) : Win base L w0 (w.drewN m) g a wide st := ⟨h.at_.drewN m, h.good, h.hL, pw_below_drewN h.below m, h.hg, h.ha⟩
theorem Win.step (h : Win base L w0 w g a wide st) {w' : World} {st' : Nat × List Bool} (hw : WinAt w' g a wide st'.1 st'.2) (hs : Step (fun k => k = g ∨ k = a) w w') (hgood : Good L st') : Win base L w0 w' g a wide st' :=
  ⟨hw, hgood, h.hL, Below.step h.below h.hg h.ha hs h.lt, h.hg, h.ha⟩
theorem Win.below_ (h : Win base L w0 w g a wide st) {w' : World} (hb : Below w.heap.size w w') : Win base L w0 w' g a wide st :=
  ⟨⟨blk_below h.at_.hs hb, blk_below h.at_.ha hb, h.at_.ne⟩, h.good, h.hL, h.below.trans (hb.mono h.lt), h.hg, h.ha⟩
theorem Win.new (L : Nat) (h0 : 64 ≤ L) (h1 : L ≤ 1024) (wide : Bool) (hb : Below base w0 w) (hbase : base ≤ w.heap.size) :
    Calls Tryd.prog 25 #[.int .i64 (L : Int), .bool wide] w fun e w' => ∃ g a, e = .returned (.tuple #[.pointer (some ⟨g, 0, none⟩), .int .i64 0]) ∧ Win base L w0 w' g a wide (0, List.replicate L false) := by
  refine (new_ok L h0 h1 wide w).mono ?_
  rintro e w' ⟨rfl, h, hbl, hs⟩
  exact ⟨_, _, rfl, ⟨h, ⟨by simp, by simp⟩, ⟨h0, h1⟩, hb.trans (hbl.mono hbase), by omega, by omega⟩⟩
theorem Win.check (h : Win base L w0 w g a wide st) (n : Nat) :
    Calls Tryd.prog 33 #[.pointer (some ⟨g, 0, none⟩), .int .u64 (n : Int)] w fun e w' => e = .returned (.int .i64 (chk wide st n)) ∧ Win base L w0 w' g a wide st := by
  refine (check_walk h.at_ (by rw [h.good.1]; exact h.hL.2) (by have := h.good.1; have := h.hL.1; omega) n h.good.2).mono ?_
  rintro e w' ⟨rfl, m, rfl⟩
  exact ⟨rfl, h.drewN m⟩
theorem Win.accept (h : Win base L w0 w g a wide st) (n : Nat) (hn : n < 18446744073709551616) :
    Calls Tryd.prog 31 #[.pointer (some ⟨g, 0, none⟩), .int .u64 (n : Int)] w fun e w' => e = .returned (.int .i64 (chk wide st n)) ∧ Win base L w0 w' g a wide (acc wide st n) := by
  refine (accept_walk h.at_ (by rw [h.good.1]; exact h.hL.2) (by have := h.good.1; have := h.hL.1; omega) n h.good.2 hn).mono ?_
  rintro e w' ⟨rfl, h2, h3⟩
  refine ⟨rfl, h.step ?_ h3 (h.good.acc wide n hn)⟩
  unfold acc
  split <;> simp_all
theorem Win.infer (h : Win base L w0 w g a wide st) (low : Int) :
    Calls Tryd.prog 32 #[.pointer (some ⟨g, 0, none⟩), .int .i64 low] w fun e w' => e = .returned (.tuple #[.int .u64 (inferE wide st.1 L low).1, .int .i64 (inferE wide st.1 L low).2]) ∧ Win base L w0 w' g a wide st := by
  have := infer_walk h.at_ low (by rw [h.good.1]; exact h.hL.2) h.good.2
  rw [h.good.1] at this
  refine this.mono ?_
  rintro e w' ⟨rfl, m, rfl⟩
  exact ⟨rfl, h.drewN m⟩
end
theorem u64_nat {n : Int} (h : (Lit.int .u64 n).wf = true) : ∃ m : Nat, n = (m : Int) ∧ m < 18446744073709551616 := by
  have : 0 ≤ n ∧ n ≤ 18446744073709551615 := by
    simpa [Lit.wf, IntKind.min, IntKind.max, IntKind.signed, IntKind.bits] using h
  exact ⟨n.toNat, by omega, by omega⟩
theorem good_new (L : Nat) : Good L (0, List.replicate L false) := ⟨by simp, by simp⟩
theorem wf_i64 {n : Int} (h : (Lit.int .i64 n).wf = true) : -9223372036854775808 ≤ n ∧ n ≤ 9223372036854775807 := by
  simpa [Lit.wf, IntKind.min, IntKind.max, IntKind.signed, IntKind.bits] using h
section
variable {base L g a : Nat} {w0 w : World} {wide : Bool} {st : Nat × List Bool}
/-- The blocks of a window. -/
def Of (g a : Nat) : Nat → Prop := fun k => k = g ∨ k = a
theorem Win.check2 (h : Win base L w0 w g a wide st) (n : Nat) :
    Calls Tryd.prog 33 #[.pointer (some ⟨g, 0, none⟩), .int .u64 (n : Int)] w fun e w' => e = .returned (.int .i64 (chk wide st n)) ∧ ∃ m, w' = w.drewN m :=
  check_walk h.at_ (by rw [h.good.1]; exact h.hL.2) (by have := h.good.1; have := h.hL.1; omega) n h.good.2
theorem Win.accept2 (h : Win base L w0 w g a wide st) (n : Nat) (hn : n < 18446744073709551616) :
    Calls Tryd.prog 31 #[.pointer (some ⟨g, 0, none⟩), .int .u64 (n : Int)] w fun e w' => e = .returned (.int .i64 (chk wide st n)) ∧ Win base L w0 w' g a wide (acc wide st n) ∧ Step (Of g a) w w' := by
  refine (accept_walk h.at_ (by rw [h.good.1]; exact h.hL.2) (by have := h.good.1; have := h.hL.1; omega) n h.good.2 hn).mono ?_
  rintro e w' ⟨rfl, h2, h3⟩
  refine ⟨rfl, h.step ?_ h3 (h.good.acc wide n hn), h3⟩
  unfold acc
  split <;> simp_all
theorem Win.grown (h : Win base L w0 w g a wide st) {w1 : World} {row : Option Nat} (hg : w.grownBy w1 row) (h1 : some g ≠ row) (h2 : some a ≠ row) (hb : Below base w0 w1) : Win base L w0 w1 g a wide st :=
  ⟨⟨blk_grown h.at_.hs hg h1, blk_grown h.at_.ha hg h2, h.at_.ne⟩, h.good, h.hL, hb, h.hg, h.ha⟩
theorem Win.alloc (h : Win base L w0 w g a wide st) (o : Obj) : Win base L w0 (w.alloc o) g a wide st := h.below_ (below_alloc (Below.refl _ _) o)
theorem Win.lg (h : Win base L w0 w g a wide st) : g < w.heap.size := blk_lt h.at_.hs
theorem Win.la (h : Win base L w0 w g a wide st) : a < w.heap.size := blk_lt h.at_.ha
/-- A list of naturals as the program's numbers. -/
def natl (l : List Nat) : List Int := l.map (fun n : Nat => (n : Int))
theorem info37 : (Tryd.prog.info? 37).map (fun i => (i.zero, i.size, i.bytes)) = some (some (.int .u64 0), 1, 8) := by kernel_rfl
theorem natl_of (l : List Int) (h : ∀ x ∈ l, (Lit.int .u64 x).wf = true) : ∃ k : List Nat, l = natl k ∧ ∀ x ∈ k, x < 18446744073709551616 := by
  induction l with
  | nil => exact ⟨[], rfl, by simp⟩
  | cons x l ih =>
    obtain ⟨k, rfl, hk⟩ := ih (fun y hy => h y (List.mem_cons_of_mem _ hy))
    obtain ⟨m, rfl, hm⟩ := u64_nat (h x (List.mem_cons_self ..))
    exact ⟨m :: k, rfl, by intro y hy; rcases List.mem_cons.mp hy with rfl | hy <;> simp_all⟩
theorem natl_cell {w : World} {ad : Addr} {k : List Nat} (h : ReadsInt w .u64 (some ad) (natl k).length (natl k)) (j : Nat) (hj : j < k.length) : w.cell? (ad.add j) = some (.int .u64 ((k.getD j 0 : Nat) : Int)) := by
  have hl : (natl k).length = k.length := by simp [natl]
  obtain ⟨ad', e, hc⟩ := h.2.2 (by omega)
  cases e
  have := hc j (by omega)
  rw [this]
  simp [natl, List.getD_eq_getElem?_getD, hj]
theorem natl_append (a b : List Nat) : natl (a ++ b) = natl a ++ natl b := by simp [natl]
theorem natl_length (a : List Nat) : (natl a).length = a.length := by simp [natl]
theorem row_shape {k : IntKind} {e : Nat} {W : World} {base : Nat} {ok : Nat → Prop} {v : Value} {xs : List Int} (h : Kd.R (Kd.int k) e W base ok v xs) (h0 : 0 < xs.length) :
    ∃ b cap, v = .slice (some ⟨b, 0, none⟩) xs.length cap := by
  obtain ⟨_, inner, ⟨_, ho⟩, _⟩ := h
  rcases ho with ⟨_, h2⟩ | ⟨b, cap, cur, rfl, _⟩
  · omega
  · exact ⟨b, cap, rfl⟩
theorem natl_R_cell {e : Nat} {W : World} {base : Nat} {ok : Nat → Prop} {b cap n : Nat} {l : List Nat} (h : Kd.R (Kd.int .u64) e W base ok (.slice (some ⟨b, 0, none⟩) n cap) (natl l)) (hn : n = l.length) (j : Nat) (hj : j < n) :
    W.cell? ⟨b, j, none⟩ = some (.int .u64 ((l.getD j 0 : Nat) : Int)) ∧ W.frozen? ⟨b, j, none⟩ = false := by
  have := Kd.R_celln (0 : Int) h (j : Int) (by omega) (by omega)
  simp only [Int.toNat_natCast] at this
  refine ⟨?_, this.2⟩
  rw [this.1]
  simp [rdOf, natl, List.getD_eq_getElem?_getD, show j < l.length by omega]
end
/-! The plain law: the row of Bools tells which numbers near the top were accepted. -/
open Classical in
theorem wipe_getD (s : Nat) (L : Nat) : ∀ (c : Nat) (l : List Bool) (j : Nat), l.length = L → (wipe s c l).getD j false = (if (∃ k, s ≤ k ∧ k < s + c ∧ k % L = j) then false else l.getD j false)
  | 0, l, j, _ => by rw [if_neg (by rintro ⟨k, h1, h2, _⟩; omega)]; rfl
  | c + 1, l, j, hl => by
    have ih := wipe_getD s L c l j hl
    simp only [wipe, List.getD_eq_getElem?_getD] at *
    rw [hl]
    by_cases hj : (s + c) % L = j
    · rw [if_pos ⟨s + c, by omega, by omega, hj⟩]
      by_cases hlt : j < (wipe s c l).length
      · rw [hj, List.getElem?_set_self hlt]; rfl
      · rw [List.getElem?_eq_none (by simpa using hlt)]; rfl
    · rw [List.getElem?_set_ne hj, ih]
      by_cases hex : ∃ k, s ≤ k ∧ k < s + c ∧ k % L = j
      · obtain ⟨k, h1, h2, h3⟩ := hex
        rw [if_pos ⟨k, h1, h2, h3⟩, if_pos ⟨k, h1, by omega, h3⟩]
      · rw [if_neg hex, if_neg]
        rintro ⟨k, h1, h2, h3⟩
        by_cases e : k = s + c
        · subst e; exact hj h3
        · exact hex ⟨k, h1, by omega, h3⟩
theorem set_getD (l : List Bool) (i j : Nat) (b : Bool) (hi : i < l.length) : (l.set i b).getD j false = if i = j then b else l.getD j false := by
  simp only [List.getD_eq_getElem?_getD]
  by_cases e : i = j
  · subst e; rw [if_pos rfl, List.getElem?_set_self hi]; rfl
  · rw [if_neg e, List.getElem?_set_ne e]
/-- Two numbers less than L apart lie in two places. -/
theorem mod_inj {L a b : Nat} (h1 : a ≤ b) (h2 : b < a + L) (h : a % L = b % L) : a = b := by
  have ha := Nat.div_add_mod a L
  have hb := Nat.div_add_mod b L
  rw [← h] at hb
  have hq : a / L = b / L := by
    rcases Nat.lt_trichotomy (a / L) (b / L) with hq | hq | hq
    · have : L * (a / L + 1) ≤ L * (b / L) := Nat.mul_le_mul_left _ hq
      rw [Nat.mul_add] at this
      omega
    · exact hq
    · have : L * (b / L + 1) ≤ L * (a / L) := Nat.mul_le_mul_left _ hq
      rw [Nat.mul_add] at this
      omega
  rw [hq] at ha
  omega
/-- The numbers of xs are those that were accepted. -/
structure Inv (L : Nat) (st : Nat × List Bool) (xs : List Nat) : Prop where
  len : st.2.length = L
  mem : ∀ x ∈ xs, x ≠ 0 ∧ x ≤ st.1
  top : st.1 = 0 ∨ st.1 ∈ xs
  seen : ∀ m, m ≠ 0 → m ≤ st.1 → st.1 < m + L → (st.2.getD (m % L) false = true ↔ m ∈ xs)
theorem Inv.new (L : Nat) : Inv L (0, List.replicate L false) [] := ⟨by simp, by simp, Or.inl rfl, fun m h0 h1 _ => absurd (Nat.le_zero.mp h1) h0⟩
theorem Inv.chk {L : Nat} {st : Nat × List Bool} {xs : List Nat} (h : Inv L st xs) (wide : Bool) (n : Nat) :
    chk wide st n = if (!wide && decide (4294967295 < n)) = true then 1 else if st.1 < n then 0 else if n = 0 ∨ n + L ≤ st.1 ∨ n ∈ xs then 120 else 0 := by
  unfold Win.chk checkE old
  rw [h.len]
  by_cases hA : (!wide && decide (4294967295 < n)) = true
  · rw [if_pos hA, if_pos hA]
  · rw [if_neg hA, if_neg hA]
    by_cases hB : st.1 < n
    · rw [if_pos hB, if_pos hB]
    · rw [if_neg hB, if_neg hB]
      congr 1
      simp only [Bool.or_eq_true, decide_eq_true_eq, eq_iff_iff]
      by_cases h0 : n = 0
      · simp [h0]
      · by_cases hf : n + L ≤ st.1
        · have : L ≤ st.1 - n := by omega
          simp [hf, this]
        · have h1 : ¬ L ≤ st.1 - n := by omega
          have := h.seen n h0 (by omega) (by omega)
          rw [List.getD_eq_getElem?_getD] at this
          simp [h0, hf, h1, this]
theorem Inv.acc {L : Nat} {st : Nat × List Bool} {xs : List Nat} (h : Inv L st xs) (hL : 0 < L) (wide : Bool) (n : Nat) (h0 : Win.chk wide st n = 0) : Inv L (Win.acc wide st n) (xs ++ [n]) := by
  have hn := h.chk wide n
  rw [h0] at hn
  have e : Win.acc wide st n = (max st.1 n, accSeen st.1 n st.2) := by
    unfold Win.acc
    unfold Win.chk at h0
    rw [if_pos h0]
  have hq := Nat.mod_lt n hL
  have hA : ¬ (!wide && decide (4294967295 < n)) = true := by
    intro hA
    rw [if_pos hA] at hn
    exact absurd hn (by decide)
  rw [if_neg hA] at hn
  rw [e]
  by_cases hB : st.1 < n
  · have hmax : max st.1 n = n := Nat.max_eq_right (by omega)
    rw [hmax]
    refine ⟨by simp [accSeen_length, h.len], ?_, Or.inr (by simp), ?_⟩
    · intro x hx
      rcases List.mem_append.mp hx with hx | hx
      · have := h.mem x hx; exact ⟨this.1, by simp only; omega⟩
      · simp only [List.mem_singleton] at hx
        subst hx
        exact ⟨by omega, Nat.le_refl _⟩
    · intro m hm0 hm1 hm2
      simp only at hm1 hm2 ⊢
      unfold accSeen
      rw [if_neg (by omega), h.len]
      by_cases hf : L ≤ n - st.1
      · rw [if_pos hf, set_getD _ _ _ _ (by simpa using hq)]
        by_cases em : m = n
        · subst em; simp
        · have hne : ¬ n % L = m % L := fun he => em (mod_inj hm1 hm2 he.symm)
          rw [if_neg hne]
          have : m ∉ xs := fun hx => by have := h.mem m hx; omega
          have hm2 := Nat.mod_lt m hL
          simp [this, em, List.getD_eq_getElem?_getD, List.getElem?_replicate, hm2]
      · rw [if_neg hf, set_getD _ _ _ _ (by rw [wipe_length, h.len]; exact hq), wipe_getD _ L _ _ _ h.len]
        by_cases em : m = n
        · subst em; simp
        · have hne : ¬ n % L = m % L := fun he => em (mod_inj hm1 hm2 he.symm)
          rw [if_neg hne]
          by_cases hmt : m ≤ st.1
          · rw [if_neg]
            · have := h.seen m hm0 hmt (by omega)
              rw [this]
              simp [em]
            · rintro ⟨k, h1, h2, h3⟩
              have := mod_inj (L := L) (a := m) (b := k) (by omega) (by omega) h3.symm
              omega
          · rw [if_pos ⟨m, by omega, by omega, rfl⟩]
            have : m ∉ xs := fun hx => by have := h.mem m hx; omega
            simp [this, em]
  · rw [if_neg hB] at hn
    have hno : ¬ (n = 0 ∨ n + L ≤ st.1 ∨ n ∈ xs) := by
      intro hc
      rw [if_pos hc] at hn
      exact absurd hn (by decide)
    have hmax : max st.1 n = st.1 := Nat.max_eq_left (by omega)
    rw [hmax]
    refine ⟨by simp [accSeen_length, h.len], ?_, ?_, ?_⟩
    · intro x hx
      rcases List.mem_append.mp hx with hx | hx
      · exact h.mem x hx
      · simp only [List.mem_singleton] at hx
        subst hx
        exact ⟨fun h0 => hno (Or.inl h0), by simp only; omega⟩
    · rcases h.top with ht | ht
      · exact Or.inl ht
      · exact Or.inr (List.mem_append.mpr (Or.inl ht))
    · intro m hm0 hm1 hm2
      simp only at hm1 hm2 ⊢
      unfold accSeen
      rw [if_pos (by omega), h.len, set_getD _ _ _ _ (by rw [h.len]; exact hq)]
      have hs := h.seen m hm0 hm1 hm2
      by_cases em : m = n
      · subst em; simp
      · have hne : ¬ n % L = m % L := fun he => em (by
          have hnear : ¬ n + L ≤ st.1 := fun hc => hno (Or.inr (Or.inl hc))
          rcases Nat.le_total m n with hmn | hmn
          · exact mod_inj hmn (by omega) he.symm
          · exact (mod_inj hmn (by omega) he).symm)
        rw [if_neg hne, hs]
        simp [em]
theorem Inv.no {L : Nat} {st : Nat × List Bool} {xs : List Nat} (h : Inv L st xs) (wide : Bool) (n : Nat) (h0 : Win.chk wide st n ≠ 0) : Win.acc wide st n = st := by
  unfold Win.acc
  unfold Win.chk at h0
  rw [if_neg h0]
end Go.Proofs.YtkmnpnbfeiobiaaDoor.Win

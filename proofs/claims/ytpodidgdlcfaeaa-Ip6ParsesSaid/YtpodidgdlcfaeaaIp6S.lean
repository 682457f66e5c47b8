/- Plain: what is laid down is read as itself; what is read is laid down as the same bytes. -/
import Derived.Test.YtpodidgdlcfaeaaIp6K
namespace Go.Proofs.Ytpodidgdlcfaeaa.Ip6
open Go.RowKit Go.Proofs.YtpodidgdlcfaeaaW.PrintWords Go.Proofs.YtpodidgdlcfaeaaW.PrintLast Go.Proofs.YtpodidgdlcfaeaaW.PrintMore Go.Proofs.Ytpodidgdlcfaeaa.PIp6Lays
set_option linter.unusedVariables false
set_option linter.unusedSimpArgs false
theorem bytes_str (l : List Int) (h : ∀ x ∈ l, 0 ≤ x ∧ x ≤ 255) : bytesOf (strOfNums l) = l := by
  unfold bytesOf
  rw [strOfNums_data, List.map_map]
  conv => rhs; rw [← List.map_id l]
  refine List.map_congr_left fun x hx => ?_
  have := h x hx
  show ((UInt8.ofNat x.toNat).toNat : Int) = x
  rw [UInt8.toNat_ofNat']
  omega
/-- The kind that stands ahead: of the first header, or what follows. -/
def fk : List S43 → Int → Int
  | [], n => n
  | x :: _, _ => x.f0
/-- A header's own bytes behind its first one. -/
def own1 (x : S43) : List Int := (if x.f0 = 44 then [] else [(((x.f1.size + 2) / 8 - 1 : Nat) : Int)]) ++ bytesOf x.f1
def enc : List S43 → Int → List Int
  | [], _ => []
  | x :: l, n => fk l n :: (own1 x ++ enc l n)
theorem piece_at (l1 : List S43) (x : S43) (l2 : List S43) (n : Int) : piece (l1 ++ x :: l2) n l1.length = fk l2 n :: own1 x := by
  have e1 : (l1 ++ x :: l2).getD l1.length z43 = x := by simp [List.getD_eq_getElem?_getD]
  have e2 : rd (kinds (l1 ++ x :: l2) ++ [n]) ((l1.length + 1 : Nat) : Int) = fk l2 n := by
    unfold rd kinds
    rw [Int.toNat_natCast, List.map_append, List.getD_eq_getElem?_getD, List.append_assoc, List.getElem?_append_right (by simp)]
    simp only [List.length_map, List.map_cons, List.cons_append]
    rw [show l1.length + 1 - l1.length = 1 by omega]
    cases l2 with
    | nil => rfl
    | cons y l => rfl
  unfold piece own1
  rw [e1, e2]
  congr 2
  split <;> rfl
theorem pre_enc (n : Int) : ∀ (l2 l1 : List S43), pre (l1 ++ l2) n (l1 ++ l2).length = pre (l1 ++ l2) n l1.length ++ enc l2 n
  | [], l1 => by simp [enc]
  | x :: l2, l1 => by
    have h := pre_enc n l2 (l1 ++ [x])
    have e : l1 ++ [x] ++ l2 = l1 ++ x :: l2 := by simp
    rw [e] at h
    rw [h, List.length_append, List.length_singleton, pre_succ, piece_at, enc]
    simp
theorem pre_all (l : List S43) (n : Int) : pre l n l.length = enc l n := by
  have := pre_enc n l []
  simpa [pre] using this
theorem own1_len (x : S43) : (own1 x).length + 1 = xsz x := by
  unfold own1 xsz ahd
  split <;> simp [bytesOf_length] <;> omega
theorem enc_len (n : Int) : ∀ l : List S43, (enc l n).length = sumx l
  | [] => rfl
  | x :: l => by
    have := own1_len x
    have ih := enc_len n l
    rw [enc]
    simp only [List.length_cons, List.length_append, ih]
    unfold sumx at *
    simp only [List.map_cons, List.sum_cons]
    omega
theorem hsz_enc (x : S43) (l : List S43) (n : Int) (dat : List Int) (i : Nat) (h : xok i x = true) : hsz x.f0 (fk l n :: (own1 x ++ enc l n) ++ dat) = xsz x ∧ 8 ≤ xsz x ∧ ¬ (x.f0 = 0 ∧ 0 < i) ∧ btw x.f0 = true := by
  unfold xok at h
  simp only [Bool.and_eq_true, Bool.not_eq_true', decide_eq_false_iff_not, decide_eq_true_eq] at h
  obtain ⟨⟨⟨h1, h2⟩, h3⟩, h4⟩ := h
  have hp : 1 ≤ xsz x := by unfold xsz ahd; split <;> omega
  refine ⟨?_, by omega, h2, h1⟩
  unfold hsz
  by_cases h44 : x.f0 = 44
  · rw [if_pos h44]
    have : ¬ (xsz x ≠ 8) := fun hc => h4 ⟨h44, hc⟩
    omega
  · rw [if_neg h44]
    have e : (fk l n :: (own1 x ++ enc l n) ++ dat).getD 1 0 = (((x.f1.size + 2) / 8 - 1 : Nat) : Int) := by
      unfold own1
      rw [if_neg h44]
      rfl
    rw [e, Int.toNat_natCast]
    have hx : xsz x = x.f1.size + 2 := by unfold xsz ahd; rw [if_neg h44]
    omega
theorem read_enc (n : Int) (dat : List Int) (hn : btw n = false) : ∀ (l : List S43) (i f : Nat), wok i l = true → (enc l n ++ dat).length < f → btwE f i (fk l n) (enc l n ++ dat) = some (l, n, dat)
  | [], i, f, _, hf => by
    obtain ⟨f, rfl⟩ : ∃ m, f = m + 1 := ⟨f - 1, by omega⟩
    rw [btwE, fk, if_pos hn]
    rfl
  | x :: l, i, f, hw, hf => by
    rw [wok, Bool.and_eq_true] at hw
    obtain ⟨f, rfl⟩ : ∃ m, f = m + 1 := ⟨f - 1, by omega⟩
    obtain ⟨e1, h8, h0, hb⟩ := hsz_enc x l n dat i hw.1
    have hol := own1_len x
    rw [enc] at hf ⊢
    have hll : (fk l n :: (own1 x ++ enc l n) ++ dat).length = xsz x + (enc l n ++ dat).length := by
      simp only [List.length_cons, List.length_append]
      omega
    have ih := read_enc n dat hn l (i + 1) f hw.2 (by rw [hll] at hf; omega)
    have hk : fk (x :: l) n = x.f0 := rfl
    rw [btwE, hk, if_neg (by rw [hb]; decide), if_neg (by rw [hll]; rintro (h | h); omega; exact h0 h), e1, if_neg (by rw [hll]; omega)]
    have hd : (fk l n :: (own1 x ++ enc l n) ++ dat).drop (xsz x) = enc l n ++ dat := by
      rw [show fk l n :: (own1 x ++ enc l n) ++ dat = (fk l n :: own1 x) ++ (enc l n ++ dat) by simp, show xsz x = (fk l n :: own1 x).length by rw [List.length_cons]; omega, List.drop_left]
    have ht : ((fk l n :: (own1 x ++ enc l n) ++ dat).take (xsz x)).drop (ahd x.f0) = bytesOf x.f1 := by
      rw [show fk l n :: (own1 x ++ enc l n) ++ dat = (fk l n :: own1 x) ++ (enc l n ++ dat) by simp, show xsz x = (fk l n :: own1 x).length by rw [List.length_cons]; omega, List.take_left]
      unfold own1 ahd
      split <;> rfl
    have hg : (fk l n :: (own1 x ++ enc l n) ++ dat).getD 0 0 = fk l n := rfl
    rw [hd, ht, hg, ih, str_bytes]
    rfl
/-- What is laid down is read as itself. -/
theorem read_laid (p : Pk) (hp : Small p) (h : checkE p = 0) : parseE (bytesE p) = (0, p) := by
  have L := lay p h
  have hh := headOk_of h
  obtain ⟨⟨hc, hho, hn, hl⟩, hs, hd, hb⟩ := hh
  have hr : (bytesE p).drop 40 = enc p.ex p.nxt ++ p.dat := by rw [L.rest, pre_all]
  have h6 : (bytesE p).getD 6 0 = fk p.ex p.nxt := by
    rw [L.b6]
    cases p.ex with
    | nil => rfl
    | cons x l => simp [fk]
  have hlen := L.len
  have htop := L.top
  have hrd := read_enc p.nxt p.dat hb p.ex 0 ((bytesE p).length + 1) (wok_of h) (by
    rw [← hr, List.length_drop]; omega)
  unfold parseE
  rw [if_neg (by omega), L.b0, L.b4, L.b5, if_neg (by omega), if_neg (by omega), if_neg (by omega), h6, hr, hrd]
  simp only
  rw [L.b1, L.b2, L.b3, L.b7, L.src, L.dst]
  congr 1
  obtain ⟨cls, lab, hop, src, dst, ex, nxt, dat⟩ := p
  simp only at hc hl ⊢
  congr 1 <;> omega
/-- A byte's row, in order: what reading back gives. -/
theorem back_enc : ∀ (f i : Nat) (nx : Int) (bl : List Int) (r : List S43 × Int × List Int), (∀ x ∈ bl, 0 ≤ x ∧ x ≤ 255) → (0 ≤ nx ∧ nx ≤ 255) → btwE f i nx bl = some r →
    wok i r.1 = true ∧ btw r.2.1 = false ∧ (0 ≤ r.2.1 ∧ r.2.1 ≤ 255) ∧ bl = enc r.1 r.2.1 ++ r.2.2 ∧ nx = fk r.1 r.2.1
  | 0, _, _, _, _, _, _, h => by simp [btwE] at h
  | f + 1, i, nx, bl, r, hby, hnx, h => by
    rw [btwE] at h
    by_cases hb : btw nx = false
    · rw [if_pos hb] at h
      injection h with h
      subst h
      exact ⟨rfl, hb, hnx, rfl, rfl⟩
    · rw [if_neg hb] at h
      by_cases h8 : bl.length < 8 ∨ (nx = 0 ∧ 0 < i)
      · rw [if_pos h8] at h; cases h
      · rw [if_neg h8] at h
        by_cases hz : bl.length < hsz nx bl
        · rw [if_pos hz] at h; cases h
        · rw [if_neg hz, Option.map_eq_some_iff] at h
          obtain ⟨r', hr', rfl⟩ := h
          have hb' : btw nx = true := by simpa using hb
          have hl8 : 8 ≤ bl.length := by omega
          have hg : ∀ k, k < bl.length → 0 ≤ bl.getD k 0 ∧ bl.getD k 0 ≤ 255 := fun k hk => hby _ (by
            rw [List.getD_eq_getElem?_getD, List.getElem?_eq_getElem hk]; exact List.getElem_mem hk)
          obtain ⟨i1, i2, i3, i4, i5⟩ := back_enc f (i + 1) (bl.getD 0 0) (bl.drop (hsz nx bl)) r' (fun x hx => hby x (List.mem_of_mem_drop hx)) (hg 0 (by omega)) hr'
          have hhs : 8 ≤ hsz nx bl ∧ hsz nx bl % 8 = 0 ∧ hsz nx bl ≤ 2048 ∧ (nx = 44 → hsz nx bl = 8) := by
            have h1 := hg 1 (by omega)
            unfold hsz
            split
            · omega
            · omega
          have hah : 1 ≤ ahd nx ∧ ahd nx ≤ 2 := by unfold ahd; split <;> omega
          -- the string
          have hdl : ((bl.take (hsz nx bl)).drop (ahd nx)).length = hsz nx bl - ahd nx := by rw [List.length_drop, List.length_take]; omega
          have hsb : bytesOf (strOfNums ((bl.take (hsz nx bl)).drop (ahd nx))) = (bl.take (hsz nx bl)).drop (ahd nx) := bytes_str _ (fun x hx => hby x (List.mem_of_mem_take (List.mem_of_mem_drop hx)))
          have hss : (strOfNums ((bl.take (hsz nx bl)).drop (ahd nx))).size = hsz nx bl - ahd nx := by rw [← bytesOf_length, hsb, hdl]
          have hxz : xsz ⟨nx, strOfNums ((bl.take (hsz nx bl)).drop (ahd nx))⟩ = hsz nx bl := by unfold xsz; simp only; rw [hss]; omega
          refine ⟨?_, i2, i3, ?_, rfl⟩
          · rw [wok, i1, Bool.and_true]
            unfold xok
            rw [hxz]
            simp only [hb', Bool.true_and, Bool.and_eq_true, Bool.not_eq_true', decide_eq_false_iff_not, decide_eq_true_eq]
            exact ⟨⟨fun hc => h8 (Or.inr hc), hhs.2.1, hhs.2.2.1⟩, fun hc => hc.2 (hhs.2.2.2 hc.1)⟩
          · have hsplit : bl = bl.take (hsz nx bl) ++ bl.drop (hsz nx bl) := (List.take_append_drop _ _).symm
            have hown : own1 ⟨nx, strOfNums ((bl.take (hsz nx bl)).drop (ahd nx))⟩ = (bl.take (hsz nx bl)).drop 1 := by
              unfold own1
              simp only
              rw [hss, hsb]
              unfold ahd
              by_cases h44 : nx = 44
              · rw [if_pos h44, if_pos h44]; rfl
              · rw [if_neg h44, if_neg h44]
                have h1 := hg 1 (by omega)
                have hq : (((hsz nx bl - 2 + 2) / 8 - 1 : Nat) : Int) = bl.getD 1 0 := by
                  have hh : hsz nx bl = 8 + 8 * (bl.getD 1 0).toNat := by unfold hsz; rw [if_neg h44]
                  omega
                rw [hq]
                have hl : 2 ≤ (bl.take (hsz nx bl)).length := by rw [List.length_take]; omega
                have h1' : (bl.take (hsz nx bl)).getD 1 0 = bl.getD 1 0 := by
                  rw [List.getD_eq_getElem?_getD, List.getElem?_take_of_lt (by omega), List.getD_eq_getElem?_getD]
                rw [← h1', List.drop_eq_getElem_cons (show 1 < (bl.take (hsz nx bl)).length by omega), List.getD_eq_getElem?_getD, List.getElem?_eq_getElem (show 1 < (bl.take (hsz nx bl)).length by omega)]
                rfl
            have hcons : bl.take (hsz nx bl) = bl.getD 0 0 :: (bl.take (hsz nx bl)).drop 1 := by
              have hl : 0 < (bl.take (hsz nx bl)).length := by rw [List.length_take]; omega
              have h0' : (bl.take (hsz nx bl)).getD 0 0 = bl.getD 0 0 := by
                rw [List.getD_eq_getElem?_getD, List.getElem?_take_of_lt (by omega), List.getD_eq_getElem?_getD]
              rw [← h0', List.getD_eq_getElem?_getD, List.getElem?_eq_getElem hl]
              have := List.drop_eq_getElem_cons hl
              rw [List.drop_zero] at this
              exact this
            show bl = enc (_ :: r'.1) r'.2.1 ++ r'.2.2
            rw [enc, ← i5, hown]
            calc bl = bl.take (hsz nx bl) ++ bl.drop (hsz nx bl) := hsplit
              _ = (bl.getD 0 0 :: (bl.take (hsz nx bl)).drop 1) ++ (enc r'.1 r'.2.1 ++ r'.2.2) := by rw [← hcons, ← i4]
              _ = _ := by simp
theorem wok_each : ∀ (i : Nat) (l : List S43), wok i l = true → ∀ x ∈ l, x.f1.size ≤ 4000
  | _, [], _, x, hx => by cases hx
  | i, y :: l, h, x, hx => by
    rw [wok, Bool.and_eq_true] at h
    rcases List.mem_cons.mp hx with rfl | hx
    · have := (hsz_enc x l 0 [] i h.1).2.1
      have h1 := h.1
      unfold xok at h1
      simp only [Bool.and_eq_true, decide_eq_true_eq] at h1
      have h2 := h1.1.2.2
      unfold xsz at h2
      omega
    · exact wok_each (i + 1) l h.2 x hx
theorem sumx_count : ∀ (i : Nat) (l : List S43), wok i l = true → 8 * l.length ≤ sumx l
  | _, [], _ => by simp [sumx]
  | i, y :: l, h => by
    rw [wok, Bool.and_eq_true] at h
    have h8 := (hsz_enc y l 0 [] i h.1).2.1
    have ih := sumx_count (i + 1) l h.2
    unfold sumx at *
    simp only [List.length_cons, List.map_cons, List.sum_cons]
    omega
theorem split6 (b : List Int) (h : 40 ≤ b.length) : b = [b.getD 0 0, b.getD 1 0, b.getD 2 0, b.getD 3 0, b.getD 4 0, b.getD 5 0, b.getD 6 0, b.getD 7 0] ++ (b.take 24).drop 8 ++ (b.take 40).drop 24 ++ b.drop 40 := by
  have e1 : b = b.take 8 ++ (b.take 24).drop 8 ++ (b.take 40).drop 24 ++ b.drop 40 := by
    have a1 : b.take 24 = b.take 8 ++ (b.take 24).drop 8 := by
      conv => lhs; rw [← List.take_append_drop 8 (b.take 24)]
      rw [List.take_take]
      rfl
    have a2 : b.take 40 = b.take 24 ++ (b.take 40).drop 24 := by
      conv => lhs; rw [← List.take_append_drop 24 (b.take 40)]
      rw [List.take_take]
      rfl
    conv => lhs; rw [← List.take_append_drop 40 b, a2, a1]
  have e2 : b.take 8 = [b.getD 0 0, b.getD 1 0, b.getD 2 0, b.getD 3 0, b.getD 4 0, b.getD 5 0, b.getD 6 0, b.getD 7 0] := by
    rcases b with _ | ⟨a0, _ | ⟨a1, _ | ⟨a2, _ | ⟨a3, _ | ⟨a4, _ | ⟨a5, _ | ⟨a6, _ | ⟨a7, b⟩⟩⟩⟩⟩⟩⟩⟩ <;> simp at h ⊢ <;> omega
  rw [← e2]
  exact e1
/-- What is read, is laid down as the same bytes; what is not read is nothing. -/
theorem laid_read (b : List Int) (hby : ∀ x ∈ b, 0 ≤ x ∧ x ≤ 255) (hl : b.length ≤ 4000) : ((parseE b).1 = 0 → Small (parseE b).2 ∧ checkE (parseE b).2 = 0 ∧ bytesE (parseE b).2 = b) ∧ ((parseE b).1 ≠ 0 → (parseE b).2 = zPk) := by
  unfold parseE
  by_cases h40 : b.length < 40
  · rw [if_pos h40]
    exact ⟨fun h => absurd h (by decide), fun _ => rfl⟩
  rw [if_neg h40]
  have hg : ∀ k, k < b.length → 0 ≤ b.getD k 0 ∧ b.getD k 0 ≤ 255 := fun k hk => hby _ (by
    rw [List.getD_eq_getElem?_getD, List.getElem?_eq_getElem hk]; exact List.getElem_mem hk)
  have g0 := hg 0 (by omega)
  have g1 := hg 1 (by omega)
  have g2 := hg 2 (by omega)
  have g3 := hg 3 (by omega)
  have g4 := hg 4 (by omega)
  have g5 := hg 5 (by omega)
  have g6 := hg 6 (by omega)
  have g7 := hg 7 (by omega)
  by_cases hv : b.getD 0 0 / 16 ≠ 6
  · rw [if_pos hv]
    exact ⟨fun h => absurd h (by decide), fun _ => rfl⟩
  rw [if_neg hv]
  by_cases hs : (b.length : Int) < 40 + b.getD 4 0 * 256 + b.getD 5 0
  · rw [if_pos hs]
    exact ⟨fun h => absurd h (by decide), fun _ => rfl⟩
  rw [if_neg hs]
  by_cases hg' : 40 + b.getD 4 0 * 256 + b.getD 5 0 < (b.length : Int)
  · rw [if_pos hg']
    exact ⟨fun h => absurd h (by decide), fun _ => rfl⟩
  rw [if_neg hg']
  cases hr : btwE (b.length + 1) 0 (b.getD 6 0) (b.drop 40) with
  | none => exact ⟨fun h => absurd (show (4 : Int) = 0 from h) (by decide), fun _ => rfl⟩
  | some r =>
    refine ⟨fun _ => ?_, fun h => absurd rfl h⟩
    obtain ⟨i1, i2, i3, i4, i5⟩ := back_enc _ 0 _ _ r (fun x hx => hby x (List.mem_of_mem_drop hx)) g6 hr
    obtain ⟨ex, nxt, dat⟩ := r
    simp only at i1 i2 i3 i4 i5 ⊢
    have hlen : (b.drop 40).length = sumx ex + dat.length := by rw [i4, List.length_append, enc_len]
    rw [List.length_drop] at hlen
    have hcnt := sumx_count 0 ex i1
    have ls : (strOfNums ((b.take 24).drop 8)).size = 16 := by rw [strOfNums_size, List.length_drop, List.length_take]; omega
    have ld : (strOfNums ((b.take 40).drop 24)).size = 16 := by rw [strOfNums_size, List.length_drop, List.length_take]; omega
    have wf : ∀ n : Int, 0 ≤ n → n ≤ 9223372036854775807 → (Lit.int .i64 n).wf = true := fun n h1 h2 => by
      simp [Lit.wf, IntKind.min, IntKind.max, IntKind.signed, IntKind.bits]
      omega
    refine ⟨⟨by simp only; omega, wok_each 0 ex i1, by simp only; omega, by simp only; omega, by simp only; omega, wf _ (by simp only; omega) (by simp only; omega), wf _ (by simp only; omega) (by simp only; omega), wf _ (by simp only; omega) (by simp only; omega), wf _ (by simp only; omega) (by simp only; omega), fun x hx => hby x (List.mem_of_mem_drop (by rw [i4]; exact List.mem_append_right _ hx))⟩, ?_, ?_⟩
    · unfold checkE
      have ho : headOk ⟨b.getD 0 0 % 16 * 16 + b.getD 1 0 / 16, b.getD 1 0 % 16 * 65536 + b.getD 2 0 * 256 + b.getD 3 0, b.getD 7 0, strOfNums ((b.take 24).drop 8), strOfNums ((b.take 40).drop 24), ex, nxt, dat⟩ := ⟨⟨by simp only; omega, by simp only; omega, by simp only; omega, by simp only; omega⟩, ls, ld, i2⟩
      rw [if_pos (show _ ∧ _ from ⟨ho, i1⟩), if_neg (by simp only; omega)]
    · conv => rhs; rw [split6 b (by omega)]
      unfold bytesE headE
      simp only
      rw [pre_all, bytes_str _ (fun x hx => hby x (List.mem_of_mem_take (List.mem_of_mem_drop hx))), bytes_str _ (fun x hx => hby x (List.mem_of_mem_take (List.mem_of_mem_drop hx))), i4]
      have hk : rd (kinds ex ++ [nxt]) 0 = b.getD 6 0 := by
        rw [i5]
        cases ex with
        | nil => rfl
        | cons x l => rfl
      rw [hk]
      have hM : ((sumx ex + dat.length : Nat) : Int) = b.getD 4 0 * 256 + b.getD 5 0 := by omega
      rw [hM]
      have c0 : 96 + (b.getD 0 0 % 16 * 16 + b.getD 1 0 / 16) / 16 = b.getD 0 0 := by omega
      have c1 : (b.getD 0 0 % 16 * 16 + b.getD 1 0 / 16) % 16 * 16 + (b.getD 1 0 % 16 * 65536 + b.getD 2 0 * 256 + b.getD 3 0) / 65536 = b.getD 1 0 := by omega
      have c2 : (b.getD 1 0 % 16 * 65536 + b.getD 2 0 * 256 + b.getD 3 0) / 256 % 256 = b.getD 2 0 := by omega
      have c3 : (b.getD 1 0 % 16 * 65536 + b.getD 2 0 * 256 + b.getD 3 0) % 256 = b.getD 3 0 := by omega
      have c4 : (b.getD 4 0 * 256 + b.getD 5 0) / 256 = b.getD 4 0 := by omega
      have c5 : (b.getD 4 0 * 256 + b.getD 5 0) % 256 = b.getD 5 0 := by omega
      rw [c0, c1, c2, c3, c4, c5]
      simp
end Go.Proofs.Ytpodidgdlcfaeaa.Ip6

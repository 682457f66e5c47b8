/- ip6.whole: what is wrong with headers between, and how many bytes they are. -/
import Derived.Test.YtpodidgdlcfaeaaIp6A
import Derived.Test.YtpodidgdlcfaeaaIp6P
import Derived.BigQuiet
import Derived.Lib.EndianBits
namespace Go.Proofs.Ytpodidgdlcfaeaa.Ip6
open Go.RowKit Go.Proofs.YtpodidgdlcfaeaaW.PrintWords Go.Proofs.YtpodidgdlcfaeaaW.PrintLast Go.Proofs.YtpodidgdlcfaeaaW.PrintMore Go.Proofs.Ytpodidgdlcfaeaa.PIp6Lays
set_option linter.unusedVariables false
set_option linter.unusedSimpArgs false
/-- An error value: none, or a wrong of a code. -/
def ErrV (c : Int) (v : Value) : Prop := (c = 0 ∧ v = .nilIface) ∨ (c ≠ 0 ∧ ∃ s : ByteArray, v = .iface 61 (.agg #[.string s, .int .i64 c]))
def ahd (k : Int) : Nat := if k = 44 then 1 else 2
def btw (k : Int) : Bool := decide (k = 0 ∨ k = 43 ∨ k = 44 ∨ k = 60)
def xsz (x : S43) : Nat := x.f1.size + ahd x.f0
def xok (i : Nat) (x : S43) : Bool := btw x.f0 && !(decide (x.f0 = 0 ∧ 0 < i)) && decide (xsz x % 8 = 0 ∧ xsz x ≤ 2048) && !(decide (x.f0 = 44 ∧ xsz x ≠ 8))
def sumx (l : List S43) : Nat := (l.map xsz).sum
/-- Are headers between, of which the first is in place i, whole? -/
def wok : Nat → List S43 → Bool
  | _, [] => true
  | i, x :: l => xok i x && wok (i + 1) l
/-- What whole answers. -/
def WholeP (l : List S43) (n : Int) (v : Value) : Prop := (wok 0 l = true ∧ n = ((sumx l : Nat) : Int) ∧ v = .nilIface) ∨ (wok 0 l = false ∧ ErrV 1 v ∧ n = 0)
theorem btw_f (k : Int) : ip6_Between.f k = some (btw k) := by
  unfold ip6_Between.f btw
  by_cases h0 : k = 0 <;> by_cases h1 : k = 43 <;> by_cases h2 : k = 44 <;> by_cases h3 : k = 60 <;> simp_all
theorem ahd_f (k : Int) : ip6_ahead.f k = some ((ahd k : Nat) : Int) := by
  unfold ip6_ahead.f ahd
  split <;> rfl
theorem btw_walk (k : Int) (w : World) : Calls Try.prog 17 #[.int .i64 k] w fun e w' => e = .returned (.bool (btw k)) ∧ ∃ m, w' = w.drewN m :=
  (ip6_Between.calls k _ w (btw_f k)).mono fun _ _ h => ⟨h.1, h.2.out⟩
theorem ahd_walk (k : Int) (w : World) : Calls Try.prog 31 #[.int .i64 k] w fun e w' => e = .returned (.int .i64 ((ahd k : Nat) : Int)) ∧ ∃ m, w' = w.drewN m :=
  (ip6_ahead.calls k _ w (ahd_f k)).mono fun _ _ h => ⟨h.1, h.2.out⟩
theorem wok_take (l : List S43) (j : Nat) (hj : j < l.length) (i : Nat) : wok i (l.take (j + 1)) = (wok i (l.take j) && xok (i + j) (l.getD j z43)) := by
  induction l generalizing i j with
  | nil => simp at hj
  | cons x l ih =>
    cases j with
    | zero => simp [wok]
    | succ j =>
      have := ih j (by simpa using hj) (i + 1)
      simp only [List.take_succ_cons, wok, this, List.getD_cons_succ]
      rw [Bool.and_assoc, show i + 1 + j = i + (j + 1) by omega]
theorem wok_false (l : List S43) (j : Nat) (hj : j < l.length) (i : Nat) (h : xok (i + j) (l.getD j z43) = false) : wok i l = false := by
  induction l generalizing i j with
  | nil => simp at hj
  | cons x l ih =>
    cases j with
    | zero =>
      have : xok i x = false := by simpa using h
      simp [wok, this]
    | succ j =>
      have := ih j (by simpa using hj) (i + 1) (by rw [show i + 1 + j = i + (j + 1) by omega]; simpa using h)
      simp [wok, this]
theorem sumx_take (l : List S43) (j : Nat) (hj : j < l.length) : sumx (l.take (j + 1)) = sumx (l.take j) + xsz (l.getD j z43) := by
  unfold sumx
  rw [List.take_add_one, List.getElem?_eq_getElem hj, List.getD_eq_getElem?_getD, List.getElem?_eq_getElem hj, List.map_append, List.sum_append]
  simp
theorem wr_add {a b c : Nat} (h : a + b = c) (hc : c ≤ 9000000000000000000) : wrap64 ((a : Int) + (b : Int)) = (c : Int) := by
  rw [show (a : Int) + (b : Int) = (c : Int) by omega]
  exact IntWalk.wrap64_in _ (by omega)
theorem sumx_le (l : List S43) (h : ∀ x ∈ l, x.f1.size ≤ 4000) : ∀ j, sumx (l.take j) ≤ 4002 * j := by
  intro j
  induction j with
  | zero => simp [sumx]
  | succ j ih =>
    by_cases hj : j < l.length
    · rw [sumx_take l j hj]
      have hm : l.getD j z43 ∈ l := by
        rw [List.getD_eq_getElem?_getD, List.getElem?_eq_getElem hj]
        exact List.getElem_mem hj
      have := h _ hm
      have ha : ahd (l.getD j z43).f0 ≤ 2 := by unfold ahd; split <;> omega
      have hx : xsz (l.getD j z43) = (l.getD j z43).f1.size + ahd (l.getD j z43).f0 := rfl
      omega
    · rw [List.take_of_length_le (by omega)]
      rw [List.take_of_length_le (by omega)] at ih
      omega
/-- An element of a row that is read. -/
theorem ext_cells {w : World} {A : Option Addr} {l : List S43} (h : Kd.C k43 w A l.length l) (j : Nat) (hj : j < l.length) :
    ∃ ad, A = some ad ∧ w.cell? (ad.add (j * 2)) = some (.int .i64 (l.getD j z43).f0) ∧ w.cell? { block := (ad.add (j * 2)).block, off := (ad.add (j * 2)).off + 1 } = some (.string (l.getD j z43).f1) := by
  obtain ⟨ad, c, rfl, hl, hK, hc⟩ := Kd.C_get h z43 (j : Int) (by omega) (by omega)
  have e := k43_open hK
  subst e
  simp only [Int.toNat_natCast] at hc
  have h0 := hc 0 _ rfl
  have h1 := hc 1 _ rfl
  refine ⟨ad, rfl, by simpa [show k43.sz = 2 from rfl] using h0, ?_⟩
  have e2 : ad.add (j * k43.sz + 1) = { block := (ad.add (j * 2)).block, off := (ad.add (j * 2)).off + 1 } := by
    show ad.add (j * 2 + 1) = _
    unfold Addr.add
    by_cases hj0 : j * 2 = 0 <;> simp [hj0, Nat.add_assoc]
  rw [e2] at h1
  exact h1
theorem ext_stored {w0 w3 : World} {q : Nat} (hb : w3.heap[q]? = some (.cells #[.int .i64 0, .string ByteArray.empty] 43 (0, 0))) (h : Below w0.heap.size w0 w3) (hq : w0.heap.size ≤ q) (k : Int) (s : ByteArray) :
    ((w3.setCell ⟨q, 0, none⟩ (.int .i64 k)).setCell ⟨q, 1, none⟩ (.string s)).heap[q]? = some (.cells #[.int .i64 k, .string s] 43 (0, 0)) ∧ Below w0.heap.size w0 ((w3.setCell ⟨q, 0, none⟩ (.int .i64 k)).setCell ⟨q, 1, none⟩ (.string s)) :=
  ⟨(blk_set ((blk_set hb 0 _).trans rfl) 1 _).trans rfl, Below.setCell (Below.setCell h hq _) hq _⟩
set_option maxHeartbeats 8000000 in
set_option maxRecDepth 100000 in
theorem whole_walk (A : Option Addr) (c : Nat) (l : List S43) (hl : l.length ≤ 1000) (hs : ∀ x ∈ l, x.f1.size ≤ 4000) (w : World) (hr : Kd.C k43 w A l.length l) :
    Calls Try.prog 33 #[.slice A l.length c] w fun e w' => (∃ (n : Int) (v : Value), e = .returned (.tuple #[.int .i64 n, v]) ∧ WholeP l n v) ∧ Below w.heap.size w w' := by
  have R := Aside0.mk hr
  have HS := Aside0.mk hs
  obtain ⟨N, hN⟩ : ∃ N, l.length = N := ⟨_, rfl⟩
  have HN := Aside0.mk hN
  rw [hN] at hl ⊢
  clear hr hs hN
  go_enter Try.func33, Try.ntmps33
  go_wp2
  go_loopw [4, 10] (fun t i wr => ∃ j : Nat, j ≤ N ∧ i = .int .i64 j ∧ t = .int .i64 ((sumx (l.take j) : Nat) : Int) ∧ Aside0 (wok 0 (l.take j) = true) ∧ Aside0 (Below w.heap.size w wr)) (fun _ i _ => N - (intOf i).toNat)
  case atStart => exact ⟨0, by omega, rfl, rfl, Aside0.mk rfl, Aside0.mk (Below.refl _ _)⟩
  case round =>
    obtain ⟨j, hj, rfl, rfl, HW, HB⟩ := hrel
    by_cases hjl : j < N
    · have hd : decide ((j : Int) < (N : Int)) = true := by simp; omega
      have hjn : j < l.length := by rw [HN.out]; exact hjl
      obtain ⟨ad, rfl, hc0', hc1'⟩ := ext_cells R.out j hjn
      have hc0 := pw_cell_below HB.out hc0'
      have hc1 := pw_cell_below HB.out hc1'
      have hsum := sumx_take l j hjn
      have hwok := wok_take l j hjn 0
      have hwno := wok_false l j hjn 0
      have hmem : l.getD j z43 ∈ l := by
        rw [List.getD_eq_getElem?_getD, List.getElem?_eq_getElem hjn]
        exact List.getElem_mem hjn
      have hsz := HS.out _ hmem
      obtain ⟨⟨k, s⟩, hx⟩ : ∃ x, l.getD j z43 = x := ⟨_, rfl⟩
      rw [hx] at hc0 hc1 hsum hwok hwno hsz
      clear hc0' hc1' hmem hx hjn
      have hah : ahd k = 1 ∨ ahd k = 2 := by unfold ahd; split <;> simp
      have BT := Aside0.mk fun (W : World) => btw_walk k W
      have AH := Aside0.mk fun (W : World) => ahd_walk k W
      have hT : sumx (l.take j) ≤ 4002 * j := Nat.le_trans (sumx_le l (fun x hx => HS.out x hx) j) (Nat.le_refl _)
      have hz : xsz ⟨k, s⟩ = s.size + ahd k := rfl
      have hxo : xok j ⟨k, s⟩ = (btw k && !(decide (k = 0 ∧ 0 < j)) && decide (xsz ⟨k, s⟩ % 8 = 0 ∧ xsz ⟨k, s⟩ ≤ 2048) && !(decide (k = 44 ∧ xsz ⟨k, s⟩ ≠ 8))) := rfl
      rw [Nat.zero_add] at hwok hwno
      obtain ⟨z, hzz⟩ : ∃ z, xsz ⟨k, s⟩ = z := ⟨_, rfl⟩
      obtain ⟨a, haa⟩ : ∃ a, ahd k = a := ⟨_, rfl⟩
      obtain ⟨b, hbb⟩ : ∃ b, btw k = b := ⟨_, rfl⟩
      obtain ⟨T, hTT⟩ : ∃ T, sumx (l.take j) = T := ⟨_, rfl⟩
      have hsz' : s.size ≤ 4000 := hsz
      obtain ⟨S, hSS⟩ : ∃ S, s.size = S := ⟨_, rfl⟩
      have hes : (s.size : Int) = (S : Int) := by rw [hSS]
      rw [hzz] at hz hxo hsum
      rw [haa] at hz hah AH
      rw [hbb] at hxo BT
      rw [hTT] at hT hsum ⊢
      rw [hSS] at hz hsz'
      have E1 := Aside0.mk (wr_add (a := S) (b := a) (c := z) hz.symm (by omega))
      have E2 := Aside0.mk (wr_add (a := T) (b := z) (c := T + z) rfl (by omega))
      have e3 : Int.tmod (z : Int) 8 = ((z % 8 : Nat) : Int) := (Int.ofNat_tmod z 8).symm
      have E := Aside0.mk (And.intro hz (And.intro hxo (And.intro hah (And.intro hsz' hT))))
      have HWOK := Aside0.mk hwok
      have HWNO := Aside0.mk hwno
      have HSUM := Aside0.mk hsum
      have HSS := Aside0.mk hSS
      clear hz hxo hah hsz' hsz hT hsum hwok hwno hSS haa hbb hTT hzz
      go_wp2_with (first | ((with_reducible refine gate_dst (N := 6) rfl ?_); refine box_event ?hg (N := 6) ?hd (cs := #[.int .i64 0, .string ByteArray.empty]) (t := 43) ?hr ?_; (case hd => rfl); (case hg => rfl); (case hr => first | (go_simp; done) | (go_simp; rfl)); intro q hq w3 hbox hb3; have BK := Aside0.mk hbox; have HB3 := Aside0.mk hb3; have HQ := Aside0.mk hq; clear hbox hb3 hq) | ((with_reducible refine gate_store (t := 43) (p := 6) rfl ?_); have hz0 : w3.cell? ⟨q, 0, none⟩ = some (.int .i64 0) := (blk_cell BK.out 0).trans rfl; have hz1 : w3.cell? ⟨q, 1, none⟩ = some (.string ByteArray.empty) := (blk_cell BK.out 1).trans rfl; have hf0 := blk_frozen BK.out 0; have hf1 := blk_frozen BK.out 1; refine store_event (t := 43) (p := 6) (v := ?vo) (w1 := (w3.setCell ⟨q, 0, none⟩ (.int .i64 k)).setCell ⟨q, 1, none⟩ (.string s)) ?hg ?ho ?hn ?hr ?_; (case ho => rfl); (case hg => rfl); (case hn => rfl); (case hr => first | (go_simp; done) | (go_simp; rfl)); intro w4 hw; have HX4 := Aside0.mk (show w4.heap[q]? = some (.cells #[.int .i64 k, .string s] 43 (0, 0)) ∧ Below wr.heap.size wr w4 from by rw [hw]; exact ext_stored BK.out HB3.out (by rw [HQ.out]; exact Nat.le_refl _) k s); clear hw hz0 hz1 hf0 hf1; have hq0 : w4.cell? ⟨q, 0, none⟩ = some (.int .i64 k) := (blk_cell HX4.out.1 0).trans rfl; have hq1 : w4.cell? ⟨q, 1, none⟩ = some (.string s) := (blk_cell HX4.out.1 1).trans rfl; have HB4 := Aside0.mk (HB.out.trans (HX4.out.2.mono HB.out.size))))
      have e1 := E1.out
      have e2 := E2.out
      go_quiet (first | (go_at_call 31; exact Calls.quiet_of (AH.out _)))
      cases b
      · have hdummy := True.intro
        have HNO := Aside0.mk (HWNO.out (by rw [E.out.2.1]; simp))
        clear HWNO HWOK
        go_wp2_with (first | (go_at_call 17; refine (BT.out _).mono ?_; rintro e w5 ⟨rfl, m1, rfl⟩))
        go_ret2
        exact ⟨⟨_, _, rfl, Or.inr ⟨HNO.out, Or.inr ⟨by decide, _, rfl⟩, rfl⟩⟩, pw_below_drewN HB4.out _⟩
      · by_cases k0 : k = 0
        · subst k0
          by_cases j0 : 0 < j
          · have c1 : decide ((0 : Int) < (j : Int)) = true := decide_eq_true (by omega)
            have HNO := Aside0.mk (HWNO.out (by rw [E.out.2.1]; simp [j0]))
            clear HWNO HWOK
            go_wp2_with (first | (go_at_call 17; refine (BT.out _).mono ?_; rintro e w5 ⟨rfl, m1, rfl⟩))
            go_ret2
            exact ⟨⟨_, _, rfl, Or.inr ⟨HNO.out, Or.inr ⟨by decide, _, rfl⟩, rfl⟩⟩, pw_below_drewN HB4.out _⟩
          · have c1 : decide ((0 : Int) < (j : Int)) = false := decide_eq_false (by omega)
            by_cases z8 : z % 8 = 0
            · have d1 : (((z % 8 : Nat) : Int) != 0) = false := by rw [z8]; rfl
              by_cases zb : z ≤ 2048
              · have d2 : decide ((2048 : Int) < (z : Int)) = false := decide_eq_false (by omega)
                have d3 : ((z : Int) == 0) = false := beq_eq_false_iff_ne.mpr (by have := E.out; omega)
                have HYES := Aside0.mk (show xok j ⟨0, s⟩ = true from by rw [E.out.2.1]; simp [j0, z8, zb])
                clear HWNO
                go_wp2_with (first | (go_at_call 17; refine (BT.out _).mono ?_; rintro e w5 ⟨rfl, m1, rfl⟩))
                go_round
                case rel => exact ⟨j + 1, hjl, by go_num, by rw [HSUM.out, E2.out], Aside0.mk (by rw [HWOK.out, HYES.out, HW.out]; rfl), Aside0.mk (pw_below_drewN HB4.out _)⟩
                case measure => simp [intOf]; omega
              · have d2 : decide ((2048 : Int) < (z : Int)) = true := decide_eq_true (by omega)
                have d3 : ((z : Int) == 0) = false := beq_eq_false_iff_ne.mpr (by have := E.out; omega)
                have HNO := Aside0.mk (HWNO.out (by rw [E.out.2.1]; simp [j0, z8, zb]))
                clear HWNO HWOK
                go_wp2_with (first | (go_at_call 17; refine (BT.out _).mono ?_; rintro e w5 ⟨rfl, m1, rfl⟩))
                go_ret2
                exact ⟨⟨_, _, rfl, Or.inr ⟨HNO.out, Or.inr ⟨by decide, _, rfl⟩, rfl⟩⟩, pw_below_drewN HB4.out _⟩
            · have d1 : (((z % 8 : Nat) : Int) != 0) = true := bne_iff_ne.mpr (by omega)
              have HNO := Aside0.mk (HWNO.out (by rw [E.out.2.1]; simp [j0, z8]))
              clear HWNO HWOK
              go_wp2_with (first | (go_at_call 17; refine (BT.out _).mono ?_; rintro e w5 ⟨rfl, m1, rfl⟩))
              go_ret2
              exact ⟨⟨_, _, rfl, Or.inr ⟨HNO.out, Or.inr ⟨by decide, _, rfl⟩, rfl⟩⟩, pw_below_drewN HB4.out _⟩
        · have c1 : (k == 0) = false := beq_eq_false_iff_ne.mpr k0
          by_cases z8 : z % 8 = 0
          · have d1 : (((z % 8 : Nat) : Int) != 0) = false := by rw [z8]; rfl
            by_cases zb : z ≤ 2048
            · have d2 : decide ((2048 : Int) < (z : Int)) = false := decide_eq_false (by omega)
              have d3 : ((z : Int) == 0) = false := beq_eq_false_iff_ne.mpr (by have := E.out; omega)
              by_cases k44 : k = 44
              · subst k44
                by_cases z88 : z = 8
                · have d5 : ((z : Int) != 8) = false := by rw [z88]; rfl
                  have HYES := Aside0.mk (show xok j ⟨44, s⟩ = true from by rw [E.out.2.1]; simp [k0, z8, zb, z88])
                  clear HWNO z88
                  go_wp2_with (first | (go_at_call 17; refine (BT.out _).mono ?_; rintro e w5 ⟨rfl, m1, rfl⟩))
                  go_round
                  case rel => exact ⟨j + 1, hjl, by go_num, by rw [HSUM.out, E2.out], Aside0.mk (by rw [HWOK.out, HYES.out, HW.out]; rfl), Aside0.mk (pw_below_drewN HB4.out _)⟩
                  case measure => simp [intOf]; omega
                · have d5 : ((z : Int) != 8) = true := bne_iff_ne.mpr (by omega)
                  have HNO := Aside0.mk (HWNO.out (by rw [E.out.2.1]; simp [k0, z8, zb, z88]))
                  clear HWNO HWOK
                  go_wp2_with (first | (go_at_call 17; refine (BT.out _).mono ?_; rintro e w5 ⟨rfl, m1, rfl⟩))
                  go_ret2
                  exact ⟨⟨_, _, rfl, Or.inr ⟨HNO.out, Or.inr ⟨by decide, _, rfl⟩, rfl⟩⟩, pw_below_drewN HB4.out _⟩
              · have d4 : (k == 44) = false := beq_eq_false_iff_ne.mpr k44
                have HYES := Aside0.mk (show xok j ⟨k, s⟩ = true from by rw [E.out.2.1]; simp [k0, z8, zb, k44])
                clear HWNO
                go_wp2_with (first | (go_at_call 17; refine (BT.out _).mono ?_; rintro e w5 ⟨rfl, m1, rfl⟩))
                go_round
                case rel => exact ⟨j + 1, hjl, by go_num, by rw [HSUM.out, E2.out], Aside0.mk (by rw [HWOK.out, HYES.out, HW.out]; rfl), Aside0.mk (pw_below_drewN HB4.out _)⟩
                case measure => simp [intOf]; omega
            · have d2 : decide ((2048 : Int) < (z : Int)) = true := decide_eq_true (by omega)
              have d3 : ((z : Int) == 0) = false := beq_eq_false_iff_ne.mpr (by have := E.out; omega)
              have HNO := Aside0.mk (HWNO.out (by rw [E.out.2.1]; simp [k0, z8, zb]))
              clear HWNO HWOK
              go_wp2_with (first | (go_at_call 17; refine (BT.out _).mono ?_; rintro e w5 ⟨rfl, m1, rfl⟩))
              go_ret2
              exact ⟨⟨_, _, rfl, Or.inr ⟨HNO.out, Or.inr ⟨by decide, _, rfl⟩, rfl⟩⟩, pw_below_drewN HB4.out _⟩
          · have d1 : (((z % 8 : Nat) : Int) != 0) = true := bne_iff_ne.mpr (by omega)
            have HNO := Aside0.mk (HWNO.out (by rw [E.out.2.1]; simp [k0, z8]))
            clear HWNO HWOK
            go_wp2_with (first | (go_at_call 17; refine (BT.out _).mono ?_; rintro e w5 ⟨rfl, m1, rfl⟩))
            go_ret2
            exact ⟨⟨_, _, rfl, Or.inr ⟨HNO.out, Or.inr ⟨by decide, _, rfl⟩, rfl⟩⟩, pw_below_drewN HB4.out _⟩
    · have hd : decide ((j : Int) < (N : Int)) = false := by simp; omega
      have htk : l.take j = l := List.take_of_length_le (by have := HN.out; omega)
      rw [htk] at HW ⊢
      have HT := Aside0.mk htk
      clear htk
      go_wp2
      go_ret2
      exact ⟨⟨_, _, rfl, Or.inl ⟨HW.out, rfl, rfl⟩⟩, HB.out⟩
end Go.Proofs.Ytpodidgdlcfaeaa.Ip6

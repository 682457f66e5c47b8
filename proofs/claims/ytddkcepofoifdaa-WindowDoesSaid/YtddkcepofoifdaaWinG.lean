/- The walk of the law WindowSlides: for every input it answers true. -/
import Derived.Test.YtddkcepofoifdaaWinF
import Derived.Test.YtddkcepofoifdaaWinL
import Derived.Test.YtddkcepofoifdaaCame
namespace Go.Proofs.Ytddkcepofoifdaa.Win
open Go.RowKit Go.Proofs.YtddkcepofoifdaaW.PrintWords Go.Proofs.YtddkcepofoifdaaW.PrintLast Go.Proofs.YtddkcepofoifdaaW.PrintMore
set_option linter.unusedVariables false
set_option linter.unusedSimpArgs false
attribute [local go_sem] max2_int min2_int max_two min_two max_three min_three max_four min_four
/-- A slice of Bools that came in: its cells. -/
theorem bools_came {H : Type} {enc : TypeId × Value → H} {W : World} {A : Option Addr} {len cap : Nat} {d : DataW H} {ps : List MemPlace}
    (h : DataW.Trod enc Try.prog W 0 (fun _ => true) true 49 (.slice A len cap) d ps) :
    ∃ s : List Bool, len = s.length ∧ len ≤ cap ∧ (0 < len → ∃ a, A = some a ∧ ∀ i, i < len → W.cell? (a.add i) = some (.bool (s.getD i false))) := by
  obtain ⟨fuel, hf⟩ := h
  rcases DataW.trod_slice Try.underlying49 hf with ⟨hcs, _⟩ | ⟨a, len', cap', elems, rest, n, _, hcs, _, _, hl, _, hlen, hel, _, _⟩
  · simp [Value.cells] at hcs
    obtain ⟨rfl, rfl, rfl⟩ := hcs
    exact ⟨[], rfl, Nat.le_refl _, fun h => absurd h (by decide)⟩
  · simp [Value.cells] at hcs
    obtain ⟨rfl, rfl, rfl⟩ := hcs
    have hc : Try.prog.cellsOf 4 = 1 := by kernel_rfl
    have each : ∀ i, i < len → ∃ b, W.cell? (a.add i) = some (.bool b) := by
      intro i hi
      have := hel i hi
      rw [hc, Nat.mul_one, List.getElem?_eq_getElem (by omega), Option.bind_eq_some_iff] at this
      obtain ⟨cs', h1, h2⟩ := this
      obtain ⟨b, rfl, _⟩ := DataW.trod_bool Try.underlying4 h2
      exact ⟨b, Go.ChangeShapes.cell_of_cells?_one h1⟩
    refine ⟨(List.range len).map (fun i => match W.cell? (a.add i) with | some (.bool b) => b | _ => false), by simp, hl, fun _ => ⟨a, rfl, fun i hi => ?_⟩⟩
    obtain ⟨b, hb⟩ := each i hi
    rw [hb]
    simp [List.getD_eq_getElem?_getD, hi, hb]
theorem row_shape {k : IntKind} {e : Nat} {W : World} {base : Nat} {ok : Nat → Prop} {v : Value} {xs : List Int} (h : Kd.R (Kd.int k) e W base ok v xs) (h0 : 0 < xs.length) :
    ∃ b cap, v = .slice (some ⟨b, 0, none⟩) xs.length cap := by
  obtain ⟨_, inner, ⟨_, ho⟩, _⟩ := h
  rcases ho with ⟨_, h2⟩ | ⟨b, cap, cur, rfl, _⟩
  · omega
  · exact ⟨b, cap, rfl⟩
/-- 1, 2, .. k. -/
def up (k : Nat) : List Nat := (List.range k).map (· + 1)
theorem up_succ (k : Nat) : up (k + 1) = up k ++ [k + 1] := by simp [up, List.range_succ]
theorem up_length (k : Nat) : (up k).length = k := by simp [up]
theorem up_nodup (k : Nat) : (up k).Nodup := by
  unfold up
  have h : (List.range k).Nodup := List.nodup_range
  unfold List.Nodup at h ⊢
  rw [List.pairwise_map]
  exact h.imp (by intro a b hab; omega)
theorem up_mem (k x : Nat) : x ∈ up k ↔ 1 ≤ x ∧ x ≤ k := by
  simp only [up, List.mem_map, List.mem_range]
  constructor
  · rintro ⟨a, h, rfl⟩; omega
  · rintro ⟨h1, h2⟩; exact ⟨x - 1, by omega, by omega⟩
theorem swap_perm (l : List Nat) (j : Nat) (h : j + 1 < l.length) : ((l.set j (l.getD (j + 1) 0)).set (j + 1) (l.getD j 0)).Perm l := by
  have := List.set_set_perm («as» := l) (i := j) (j := j + 1) (by omega) h
  simpa [List.getD_eq_getElem?_getD, h, show j < l.length by omega] using this
theorem natl_set (l : List Nat) (j x : Nat) : (natl l).set j (x : Int) = natl (l.set j x) := by simp [natl, List.map_set]
theorem Win.setFar {base L g a : Nat} {w0 w : World} {wide : Bool} {st : Nat × List Bool} (h : Win base L w0 w g a wide st) {p : Addr} (hp : ¬ Of g a p.block) (hb : base ≤ p.block) (u : Value) : Win base L w0 (w.setCell p u) g a wide st :=
  ⟨⟨blk_far h.at_.hs (fun e => hp (Or.inl e.symm)) u, blk_far h.at_.ha (fun e => hp (Or.inr e.symm)) u, h.at_.ne⟩, h.good, h.hL, h.below.setCell hb u, h.hg, h.ha⟩
theorem row_base {k : IntKind} {e : Nat} {W : World} {base : Nat} {ok : Nat → Prop} {b n cap : Nat} {xs : List Int} (h : Kd.R (Kd.int k) e W base ok (.slice (some ⟨b, 0, none⟩) n cap) xs) : base ≤ b ∧ ok b := by
  obtain ⟨h1, inner, ⟨_, ho⟩, _⟩ := h
  rcases ho with ⟨h2, _⟩ | ⟨b', cap', cur, h2, hb, _⟩
  · cases h2
  · cases h2
    exact ⟨hb, h1 b rfl⟩
theorem natl_R_cell {e : Nat} {W : World} {base : Nat} {ok : Nat → Prop} {b cap n : Nat} {l : List Nat} (h : Kd.R (Kd.int .u64) e W base ok (.slice (some ⟨b, 0, none⟩) n cap) (natl l)) (hn : n = l.length) (j : Nat) (hj : j < n) :
    W.cell? ⟨b, j, none⟩ = some (.int .u64 ((l.getD j 0 : Nat) : Int)) ∧ W.frozen? ⟨b, j, none⟩ = false := by
  have := Kd.R_celln (0 : Int) h (j : Int) (by omega) (by omega)
  simp only [Int.toNat_natCast] at this
  refine ⟨?_, this.2⟩
  rw [this.1]
  simp [rdOf, natl, List.getD_eq_getElem?_getD, show j < l.length by omega]
theorem w64_nat (x : Nat) (h : x ≤ 300) : wrap64 (x : Int) = (x : Int) := by unfold wrap64; omega
theorem w64_sub (a b : Nat) (hab : b ≤ a) (h : a ≤ 300) : wrap64 ((a : Int) - (b : Int)) = ((a - b : Nat) : Int) := by unfold wrap64; omega
set_option maxHeartbeats 8000000 in
set_option maxRecDepth 100000 in
theorem slides_main (M : Nat) (sw : List Bool) (A : Option Addr) (c : Nat) (w : World) (L : Nat) (h0 : 64 ≤ L) (h1 : L ≤ 1024) (hM1 : 1 ≤ M) (hM : M ≤ 300) (h400 : sw.length ≤ 400) (hr : 0 < sw.length → ∃ a, A = some a ∧ ∀ i, i < sw.length → w.cell? (a.add i) = some (.bool (sw.getD i false))) (hc : sw.length ≤ c) :
    Calls Try.prog 11 #[.int .i64 (L : Int), .int .i64 (M : Int), .slice A sw.length c] w fun e w' => e = .returned (.bool true) ∧ Below w.heap.size w w' := by
  have AW := Aside0.mk awake_walk
  have NB := Aside0.mk (Win.new (base := w.heap.size) (w0 := w) L h0 h1 true (Below.refl _ _) (Nat.le_refl _))
  have HR := Aside0.mk hr
  clear hr
  have c1 : decide ((M : Int) < 0) = false := by simp
  have c2 : decide ((300 : Int) < (M : Int)) = false := by simp; omega
  have c3 : decide ((400 : Int) < (sw.length : Int)) = false := by simp; omega
  go_enter Try.func11, Try.ntmps11
  go_wp2_with (first | (go_at_call 20; refine NB.out.mono ?_; rintro e w1 ⟨g, a, rfl, hw⟩; have HW := Aside0.mk hw; clear hw))
  go_loopw [9, 10] (fun v i wr => ∃ j : Nat, j ≤ M ∧ i = .int .i64 ((j + 1 : Nat) : Int) ∧ Aside0 (Win w.heap.size L w wr g a true (0, List.replicate L false)) ∧ Aside0 (Kd.R (Kd.int .u64) 34 wr w.heap.size (fun k => ¬ Of g a k) v (natl (up j)))) (fun _ i _ => M + 1 - (intOf i).toNat)
  case atStart => exact ⟨0, by omega, rfl, HW, Aside0.mk (Kd.R_nil _ _ _ _ _)⟩
  case round =>
    obtain ⟨j, hj, rfl, HWr, HRow⟩ := hrel
    clear HW
    obtain ⟨A9, c9, rfl⟩ := Kd.R_slice HRow.out
    have hlj : (natl (up j)).length = j := by rw [natl_length, up_length]
    have hlc := (Kd.R_reads' HRow.out).2.1
    rw [hlj] at hlc
    simp only [hlj]
    rw [hlj] at HRow
    by_cases hjl : j < M
    · have hd : decide (((j + 1 : Nat) : Int) ≤ (M : Int)) = true := by simp; omega
      obtain ⟨n, hn⟩ : ∃ n, j + 1 = n := ⟨_, rfl⟩
      have hcap : j < 140737488355328 := by omega
      rw [hn] at hd ⊢
      have hnM : n ≤ M := by omega
      have e1 : IntKind.u64.wrap (n : Int) = (n : Int) := by rw [IntKind.wrap_u64]; omega
      have HN := Aside0.mk hn
      clear hn
      go_wp2_with (first | ((with_reducible refine gate_builtin (b := .append) (xs := #[.tmp 54, .tmp 57]) rfl ?_); at_builtin; refine Kd.R_append (Kd.int .u64) (w0 := w) w.heap.size rfl (.tmp 54) (.tmp 57) 42 34 (.int .u64 0) 8 rfl Try.underlying42 info34 rfl (by decide) (by omega) (.slice A9 j c9) (natl (up j)) (n : Int) [.int .u64 (n : Int)] (fun k => ¬ Of g a k) (fun _ => False) rfl rfl ?aP (fun _ hk => hk.elim) ?aF ?aO ?aB ?aS ?aL ?_; (case aP => exact rfl); (case aB => exact HWr.out.below); (case aF => exact (fun k hk h => by have := HWr.out.lg; have := HWr.out.la; rcases h with h | h <;> omega)); (case aO => exact HRow.out); (case aS => exact HWr.out.lt); (case aL => rw [natl_length, up_length]; omega); intro v113 w10 ho hb1 hg hat; have HO2 := Aside0.mk ho; have HV2 := Aside0.mk (HWr.out.grown hg (fun e => HRow.out.1 g (e.symm) (Or.inl rfl)) (fun e => HRow.out.1 a (e.symm) (Or.inr rfl)) hb1); clear ho hg hat hb1))
      go_round
      case rel => exact ⟨j + 1, by omega, by rw [← HN.out]; go_num, HV2, Aside0.mk (by rw [up_succ, natl_append, HN.out]; exact HO2.out)⟩
      case measure => simp [intOf]; have := HN.out; omega
    · have hd : decide (((j + 1 : Nat) : Int) ≤ (M : Int)) = false := by simp; omega
      have hjM : j = M := by omega
      have hnK : ¬ j + 1 ≤ M := by omega
      obtain ⟨K, hK⟩ : ∃ K, j + 1 = K := ⟨_, rfl⟩
      rw [hK] at hd hnK ⊢
      clear hK
      subst hjM
      obtain ⟨b9, cap9, hv⟩ := row_shape HRow.out (by rw [natl_length, up_length]; omega)
      rw [hlj] at hv
      cases hv
      have hbs := row_base HRow.out
      obtain ⟨hb9, hok9⟩ := hbs
      have HOK := Aside0.mk hok9
      clear hok9
      go_wp2
      go_loopw [11] (fun i wr => ∃ (q : Nat) (l : List Nat), q < j ∧ i = .int .i64 q ∧ Aside0 (l.Perm (up j)) ∧ Aside0 (Win w.heap.size L w wr g a true (0, List.replicate L false)) ∧ Aside0 (Kd.R (Kd.int .u64) 34 wr w.heap.size (fun k => ¬ Of g a k) (.slice (some ⟨b9, 0, none⟩) j c9) (natl l))) (fun i _ => j - (intOf i).toNat)
      case atStart => exact ⟨0, up j, by omega, rfl, Aside0.mk (List.Perm.refl _), HWr, HRow⟩
      case round =>
        clear HWr HRow
        obtain ⟨q, l, hq, rfl, HP, HWr, HRow⟩ := hrel
        have hlen : l.length = j := by rw [HP.out.length_eq, up_length]
        have e1 : IntKind.i64.wrap ((q : Int) + 1) = ((q + 1 : Nat) : Int) := by rw [IntWalk.i64_in _ (by omega)]; rfl
        by_cases hqj : q + 1 < j
        · have hd2 : decide (((q + 1 : Nat) : Int) < (j : Int)) = true := by simp; omega
          have hkk : ∀ wr', Aside0 (Win w.heap.size L w wr' g a true (0, List.replicate L false)) → True := fun _ _ => trivial
          by_cases hs1 : q < sw.length
          · obtain ⟨ad, rfl⟩ : ∃ ad, A = some ad := by
              obtain ⟨ad, e, _⟩ := HR.out (by omega)
              exact ⟨ad, e⟩
            have hcs : w.cell? (ad.add q) = some (.bool (sw.getD q false)) := by
              obtain ⟨ad', e, hcc⟩ := HR.out (by omega)
              cases e
              exact hcc q hs1
            have hcw := HWr.out.below.cell (p := ad.add q) (World.block_lt_of_cell? w _ hcs) |>.trans hcs
            obtain ⟨bb, hbb⟩ : ∃ bb, sw.getD q false = bb := ⟨_, rfl⟩
            rw [hbb] at hcw
            have hs2 : decide ((q : Int) < (sw.length : Int)) = true := by simp; omega
            clear hcs hbb
            cases bb
            · go_wp2
              go_round
              case rel => exact ⟨q + 1, l, by omega, rfl, HP, HWr, HRow⟩
              case measure => simp [intOf]; omega
            · have hk1 := natl_R_cell HRow.out hlen.symm q (by omega)
              have hk2 := natl_R_cell HRow.out hlen.symm (q + 1) hqj
              obtain ⟨hc1, hf1⟩ := hk1
              obtain ⟨hc2, hf2⟩ := hk2
              have hSW := Aside0.mk (swap_perm l q (by omega))
              obtain ⟨x1, hx1⟩ : ∃ x, l.getD q 0 = x := ⟨_, rfl⟩
              obtain ⟨x2, hx2⟩ : ∃ x, l.getD (q + 1) 0 = x := ⟨_, rfl⟩
              rw [hx1] at hc1 hSW
              rw [hx2] at hc2 hSW
              clear hx1 hx2
              have HC1 := Aside0.mk (Kd.R_putn HRow.out (q : Int) (x2 : Int))
              have HC2 := Aside0.mk (Kd.R_putn HC1.out ((q + 1 : Nat) : Int) (x1 : Int))
              simp only [Int.toNat_natCast, natl_set] at HC2
              have HV2 := Aside0.mk ((HWr.out.setFar (p := ⟨b9, q, none⟩) HOK.out hb9 (.int .u64 (x2 : Int))).setFar (p := ⟨b9, q + 1, none⟩) HOK.out hb9 (.int .u64 (x1 : Int)))
              clear HC1
              go_wp2
              go_round
              case rel => exact ⟨q + 1, _, by omega, rfl, Aside0.mk (hSW.out.trans HP.out), HV2, HC2⟩
              case measure => simp [intOf]; omega
          · have hs2 : decide ((q : Int) < (sw.length : Int)) = false := by simp; omega
            go_wp2
            go_round
            case rel => exact ⟨q + 1, l, by omega, rfl, HP, HWr, HRow⟩
            case measure => simp [intOf]; omega
        · have hd2 : decide (((q + 1 : Nat) : Int) < (j : Int)) = false := by simp; omega
          have hl1 : ∀ x ∈ l, 1 ≤ x ∧ x ≤ j := fun x hx => (up_mem j x).mp (HP.out.mem_iff.mp hx)
          have HMEM := Aside0.mk hl1
          have hj300 : j ≤ 300 := hM
          have HJL := Aside0.mk (HP.out.mem_iff.mpr ((up_mem j j).mpr ⟨by omega, Nat.le_refl _⟩))
          have HND := Aside0.mk ((HP.out.nodup_iff).mpr (up_nodup j))
          clear hl1 HP
          go_wp2
          go_loopw [13, 14] (fun h i wr => ∃ (p : Nat) (st : Nat × List Bool) (ns : List Nat), p ≤ j ∧ i = .int .i64 p ∧ h = .int .i64 (st.1 : Int) ∧ Aside0 (Win w.heap.size L w wr g a true st) ∧ Aside0 (Inv L st ns) ∧ Aside0 (∀ x ∈ ns, x ∈ l.take p) ∧ Aside0 (∀ x ∈ l.take p, x ≤ st.1) ∧ Aside0 (Kd.R (Kd.int .u64) 34 wr w.heap.size (fun k => ¬ Of g a k) (.slice (some ⟨b9, 0, none⟩) j c9) (natl l))) (fun _ i _ => j - (intOf i).toNat)
          case atStart => exact ⟨0, _, [], by omega, rfl, rfl, HWr, Aside0.mk (Inv.new L), Aside0.mk (by simp), Aside0.mk (by simp), HRow⟩
          case round =>
            clear HWr HRow
            obtain ⟨p, st, ns, hp, rfl, rfl, HWr, HI, HS1, HS2, HRow⟩ := hrel
            have hns : ∀ x ∈ ns, 1 ≤ x ∧ x ≤ j := fun x hx => HMEM.out x (List.mem_of_mem_take (HS1.out x hx))
            have htj : st.1 ≤ j := by
              rcases HI.out.top with h | h
              · omega
              · exact (hns _ h).2
            have HNS := Aside0.mk hns
            clear hns
            by_cases hpj : p < j
            · have hd3 : decide ((p : Int) < (j : Int)) = true := by simp; omega
              have hck := natl_R_cell HRow.out hlen.symm p hpj
              have hget : l.getD p 0 ∈ l := by
                rw [List.getD_eq_getElem?_getD, List.getElem?_eq_getElem (by omega)]
                exact List.getElem_mem _
              have htake : l.take (p + 1) = l.take p ++ [l.getD p 0] := by
                rw [List.take_add_one, List.getElem?_eq_getElem (by omega), List.getD_eq_getElem?_getD, List.getElem?_eq_getElem (by omega)]
                rfl
              have hfresh : l.getD p 0 ∉ l.take p := by
                have := HND.out.sublist (List.take_sublist (p + 1) l)
                rw [htake, List.nodup_append] at this
                intro hx
                exact this.2.2 _ hx _ (by simp) rfl
              obtain ⟨x, hx⟩ : ∃ x, l.getD p 0 = x := ⟨_, rfl⟩
              rw [hx] at hck hget htake hfresh
              have hxr := HMEM.out x hget
              obtain ⟨hcx, _⟩ := hck
              obtain ⟨hx1, hx2⟩ := hxr
              have HTK := Aside0.mk htake
              have HFR := Aside0.mk hfresh
              clear hx htake hfresh hget
              have hx300 : x ≤ 300 := Nat.le_trans hx2 hj300
              have hchk := HI.out.chk true x
              rw [if_neg (by simp)] at hchk
              have AC := Aside0.mk (HWr.out.accept2 x (by omega))
              by_cases hup : st.1 < x
              · rw [if_pos hup] at hchk
                have HJ := Aside0.mk (HI.out.acc (by omega) true x hchk)
                have htop : (acc true st x).1 = x := by
                  unfold acc
                  unfold chk at hchk
                  rw [if_pos hchk]
                  exact Nat.max_eq_right (by omega)
                rw [hchk] at AC
                have HUP := Aside0.mk hup
                clear hchk
                obtain ⟨st2, hst2⟩ : ∃ st2, acc true st x = st2 := ⟨_, rfl⟩
                rw [hst2] at AC HJ htop
                have HTOP := Aside0.mk htop
                clear htop hst2
                have d1 : decide ((L : Int) ≤ 0) = false := by simp; omega
                have d2 : ¬ L ≤ 0 := by omega
                have d3 : ¬ L = 0 := by omega
                go_wp2_with (first | (go_at_call 21; refine AC.out.mono ?_; rintro e wV ⟨rfl, hw, hs⟩; have HV := Aside0.mk hw; have HS := Aside0.mk hs; clear hw hs))
                go_round
                case rel => exact ⟨p + 1, st2, ns ++ [x], by omega, by go_num, by rw [HTOP.out], HV, HJ, Aside0.mk (fun y hy => by
                  rw [HTK.out]
                  rcases List.mem_append.mp hy with h | h
                  · exact List.mem_append.mpr (Or.inl (HS1.out y h))
                  · exact List.mem_append.mpr (Or.inr h)), Aside0.mk (fun y hy => by
                  rw [HTK.out] at hy
                  rw [HTOP.out]
                  rcases List.mem_append.mp hy with h | h
                  · exact Nat.le_trans (HS2.out y h) (Nat.le_of_lt HUP.out)
                  · rw [List.mem_singleton.mp h]; exact Nat.le_refl _), Aside0.mk (Kd.R_kept HRow.out HS.out.k (fun k hk => hk))⟩
                case measure => simp [intOf]; omega
              · rw [if_neg hup] at hchk
                have ht300 : st.1 ≤ 300 := Nat.le_trans htj hj300
                have hmem : ¬ x ∈ ns := fun h => HFR.out (HS1.out x h)
                by_cases hfar : x + L ≤ st.1
                · rw [if_pos (Or.inr (Or.inl hfar))] at hchk
                  have hno := HI.out.no true x (by rw [hchk]; decide)
                  rw [hchk, hno] at AC
                  have d1 : decide ((L : Int) ≤ (st.1 : Int) - (x : Int)) = true := by simp; omega
                  have d2 : (L : Int) ≤ (st.1 : Int) - (x : Int) := by omega
                  have HUP := Aside0.mk hup
                  clear hchk hno hfar
                  go_wp2_with (first | (go_at_call 21; refine AC.out.mono ?_; rintro e wV ⟨rfl, hw, hs⟩; have HV := Aside0.mk hw; have HS := Aside0.mk hs; clear hw hs))
                  go_round
                  case rel => exact ⟨p + 1, st, ns, by omega, by go_num, rfl, HV, HI, Aside0.mk (fun y hy => by
                    rw [HTK.out]
                    exact List.mem_append.mpr (Or.inl (HS1.out y hy))), Aside0.mk (fun y hy => by
                    rw [HTK.out] at hy
                    rcases List.mem_append.mp hy with h | h
                    · exact HS2.out y h
                    · rw [List.mem_singleton.mp h]; exact Nat.le_of_not_lt HUP.out), Aside0.mk (Kd.R_kept HRow.out HS.out.k (fun k hk => hk))⟩
                  case measure => simp [intOf]; omega
                · rw [if_neg (by rintro (h | h | h) <;> first | exact absurd h (Nat.one_le_iff_ne_zero.mp hx1) | exact hfar h | exact hmem h)] at hchk
                  have HJ := Aside0.mk (HI.out.acc (by omega) true x hchk)
                  have htop : (acc true st x).1 = st.1 := by
                    unfold acc
                    unfold chk at hchk
                    rw [if_pos hchk]
                    exact Nat.max_eq_left (Nat.le_of_not_lt hup)
                  rw [hchk] at AC
                  have d1 : decide ((L : Int) ≤ (st.1 : Int) - (x : Int)) = false := by simp; omega
                  have d2 : ¬ (L : Int) ≤ (st.1 : Int) - (x : Int) := by omega
                  have HUP := Aside0.mk hup
                  clear hchk hfar
                  obtain ⟨st2, hst2⟩ : ∃ st2, acc true st x = st2 := ⟨_, rfl⟩
                  rw [hst2] at AC HJ htop
                  have HTOP := Aside0.mk htop
                  clear htop hst2
                  go_wp2_with (first | (go_at_call 21; refine AC.out.mono ?_; rintro e wV ⟨rfl, hw, hs⟩; have HV := Aside0.mk hw; have HS := Aside0.mk hs; clear hw hs))
                  go_round
                  case rel => exact ⟨p + 1, st2, ns ++ [x], by omega, by go_num, by rw [HTOP.out], HV, HJ, Aside0.mk (fun y hy => by
                    rw [HTK.out]
                    rcases List.mem_append.mp hy with h | h
                    · exact List.mem_append.mpr (Or.inl (HS1.out y h))
                    · exact List.mem_append.mpr (Or.inr h)), Aside0.mk (fun y hy => by
                    rw [HTK.out] at hy
                    rw [HTOP.out]
                    rcases List.mem_append.mp hy with h | h
                    · exact HS2.out y h
                    · rw [List.mem_singleton.mp h]; exact Nat.le_of_not_lt HUP.out), Aside0.mk (Kd.R_kept HRow.out HS.out.k (fun k hk => hk))⟩
                  case measure => simp [intOf]; omega
            · have hd3 : decide ((p : Int) < (j : Int)) = false := by simp; omega
              have hpe : p = j := by omega
              have htop : st.1 = j := by
                have := HS2.out j (by rw [hpe, List.take_of_length_le (by omega)]; exact HJL.out)
                omega
              have TP := Aside0.mk fun (W : World) (hb : Below wr.heap.size wr W) => (HWr.out.below_ hb).top
              rw [htop] at TP
              clear hpe htop
              have e4 : IntKind.i64.wrap (j : Int) = (j : Int) := IntWalk.i64_in _ (by omega)
              go_wp2_with (first | (go_at_call 22; refine (AW.out _).mono ?_; rintro e w1 ⟨rfl, hb⟩; have HB := Aside0.mk hb; clear hb) | (go_at_call 28; refine (TP.out _ HB.out).mono ?_; rintro e w1 ⟨rfl, rfl⟩))
              go_ret
              exact ⟨rfl, HWr.out.aw HB.out⟩
set_option maxHeartbeats 4000000 in
set_option maxRecDepth 100000 in
theorem slides_bad (size many : Int) (A : Option Addr) (len c : Nat) (w : World) (hs : size < 64 ∨ 1024 < size) :
    Calls Try.prog 11 #[.int .i64 size, .int .i64 many, .slice A len c] w fun e w' => e = .returned (.bool true) ∧ Below w.heap.size w w' := by
  have AW := Aside0.mk awake_walk
  have NB := Aside0.mk (new_bad size hs true w)
  clear hs
  go_enter Try.func11, Try.ntmps11
  go_wp2_with (first | (go_at_call 22; refine (AW.out _).mono ?_; rintro e w1 ⟨rfl, hb⟩; have HB := Aside0.mk hb; clear hb) | (go_at_call 20; refine NB.out.mono ?_; rintro e w1 ⟨rfl, rfl⟩))
  go_ret
  exact ⟨rfl, HB.out⟩
set_option maxHeartbeats 4000000 in
set_option maxRecDepth 100000 in
theorem slides_skip (L : Nat) (h0 : 64 ≤ L) (h1 : L ≤ 1024) (many : Int) (A : Option Addr) (len c : Nat) (w : World) (hs : many < 0 ∨ 300 < many ∨ 400 < len) :
    Calls Try.prog 11 #[.int .i64 (L : Int), .int .i64 many, .slice A len c] w fun e w' => e = .returned (.bool true) ∧ Below w.heap.size w w' := by
  have AW := Aside0.mk awake_walk
  have NB := Aside0.mk (Win.new (base := w.heap.size) (w0 := w) L h0 h1 true (Below.refl _ _) (Nat.le_refl _))
  clear h0 h1
  by_cases k1 : many < 0
  · have c1 : decide (many < 0) = true := by simpa using k1
    clear hs
    go_enter Try.func11, Try.ntmps11
    go_wp2_with (first | (go_at_call 22; refine (AW.out _).mono ?_; rintro e w1 ⟨rfl, hb⟩; have HB := Aside0.mk hb; clear hb) | (go_at_call 20; refine NB.out.mono ?_; rintro e w1 ⟨g, a, rfl, hw⟩; have HW := Aside0.mk hw; clear hw))
    go_ret
    exact ⟨rfl, HW.out.aw HB.out⟩
  · have c1 : decide (many < 0) = false := by simpa using k1
    by_cases k2 : 300 < many
    · have c2 : decide (300 < many) = true := by simpa using k2
      clear hs
      go_enter Try.func11, Try.ntmps11
      go_wp2_with (first | (go_at_call 22; refine (AW.out _).mono ?_; rintro e w1 ⟨rfl, hb⟩; have HB := Aside0.mk hb; clear hb) | (go_at_call 20; refine NB.out.mono ?_; rintro e w1 ⟨g, a, rfl, hw⟩; have HW := Aside0.mk hw; clear hw))
      go_ret
      exact ⟨rfl, HW.out.aw HB.out⟩
    · have c2 : decide (300 < many) = false := by simpa using k2
      have c3 : decide ((400 : Int) < (len : Int)) = true := by simp; omega
      clear hs
      go_enter Try.func11, Try.ntmps11
      go_wp2_with (first | (go_at_call 22; refine (AW.out _).mono ?_; rintro e w1 ⟨rfl, hb⟩; have HB := Aside0.mk hb; clear hb) | (go_at_call 20; refine NB.out.mono ?_; rintro e w1 ⟨g, a, rfl, hw⟩; have HW := Aside0.mk hw; clear hw))
      go_ret
      exact ⟨rfl, HW.out.aw HB.out⟩
set_option maxHeartbeats 4000000 in
set_option maxRecDepth 100000 in
theorem slides_zero (L : Nat) (h0 : 64 ≤ L) (h1 : L ≤ 1024) (A : Option Addr) (len c : Nat) (w : World) (hs : len ≤ 400) :
    Calls Try.prog 11 #[.int .i64 (L : Int), .int .i64 0, .slice A len c] w fun e w' => e = .returned (.bool true) ∧ Below w.heap.size w w' := by
  have AW := Aside0.mk awake_walk
  have NB := Aside0.mk (Win.new (base := w.heap.size) (w0 := w) L h0 h1 true (Below.refl _ _) (Nat.le_refl _))
  have c3 : decide ((400 : Int) < (len : Int)) = false := by simp; omega
  clear h0 h1 hs
  go_enter Try.func11, Try.ntmps11
  go_wp2_with (first | (go_at_call 20; refine NB.out.mono ?_; rintro e w1 ⟨g, a, rfl, hw⟩; have HW := Aside0.mk hw; clear hw))
  go_loopw [9, 10] (fun v i wr => v = .slice none 0 0 ∧ i = .int .i64 1 ∧ Aside0 (Win w.heap.size L w wr g a true (0, List.replicate L false))) (fun _ _ _ => 0)
  case atStart => exact ⟨rfl, rfl, HW⟩
  case round =>
    obtain ⟨rfl, rfl, HW1⟩ := hrel
    go_wp2
    go_loopw [11] (fun i wr => i = .int .i64 0 ∧ Aside0 (Win w.heap.size L w wr g a true (0, List.replicate L false))) (fun _ _ => 0)
    case atStart => exact ⟨rfl, HW1⟩
    case round =>
      obtain ⟨rfl, HW2⟩ := hrel
      go_wp2
      go_loopw [13, 14] (fun h i wr => h = .int .i64 0 ∧ i = .int .i64 0 ∧ Aside0 (Win w.heap.size L w wr g a true (0, List.replicate L false))) (fun _ _ _ => 0)
      case atStart => exact ⟨rfl, rfl, HW2⟩
      case round =>
        obtain ⟨rfl, rfl, HW3⟩ := hrel
        go_wp2_with (first | (go_at_call 22; refine (AW.out _).mono ?_; rintro e w1 ⟨rfl, hb⟩; have HB := Aside0.mk hb; clear hb) | (go_at_call 28; refine (HW3.out.below_ HB.out).top.mono ?_; rintro e w1 ⟨rfl, rfl⟩))
        go_ret
        exact ⟨rfl, HW3.out.aw HB.out⟩
section
variable {H : Type} {enc : TypeId × Value → H} {e0 : DataW H} {ps : List MemPlace}
theorem slides_walk (size many : Int) (A : Option Addr) (len cap : Nat) (w : World) (h1 : (Lit.int .i64 size).wf = true) (h2 : (Lit.int .i64 many).wf = true) (k0 : DataW.Trod enc Try.prog w 0 (fun _ => true) true 49 (.slice A len cap) e0 ps) (wt : ∀ n ∈ e0.weights Try.prog 49, n ≤ 140737488351232) :
    Calls Try.prog 11 #[.int .i64 size, .int .i64 many, .slice A len cap] w fun e w' => e = .returned (.bool true) ∧ Below w.heap.size w w' := by
  by_cases hs : size < 64 ∨ 1024 < size
  · exact slides_bad size many A len cap w hs
  · obtain ⟨L, rfl⟩ : ∃ L : Nat, size = (L : Int) := ⟨size.toNat, by omega⟩
    by_cases hk : many < 0 ∨ 300 < many ∨ 400 < len
    · exact slides_skip L (by omega) (by omega) many A len cap w hk
    · obtain ⟨M, rfl⟩ : ∃ M : Nat, many = (M : Int) := ⟨many.toNat, by omega⟩
      by_cases hM : M = 0
      · subst hM
        exact slides_zero L (by omega) (by omega) A len cap w (by omega)
      · obtain ⟨s, rfl, hc, hr⟩ := bools_came k0
        exact slides_main M s A cap w L (by omega) (by omega) (by omega) (by omega) (by omega) hr hc
end
end Go.Proofs.Ytddkcepofoifdaa.Win

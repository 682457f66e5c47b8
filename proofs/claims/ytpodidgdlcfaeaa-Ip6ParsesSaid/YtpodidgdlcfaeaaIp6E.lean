/- slices.Clone of bytes; ip6.between. -/
import Derived.Test.YtpodidgdlcfaeaaIp6C
import Derived.WalkLawsBesides
namespace Go.Proofs.Ytpodidgdlcfaeaa.Ip6
open Go.RowKit Go.Proofs.YtpodidgdlcfaeaaW.PrintWords Go.Proofs.YtpodidgdlcfaeaaW.PrintLast Go.Proofs.YtpodidgdlcfaeaaW.PrintMore Go.Proofs.Ytpodidgdlcfaeaa.PIp6Lays
set_option linter.unusedVariables false
set_option linter.unusedSimpArgs false
theorem info5' : (Try.prog.info? 5).map (fun i => (i.zero, i.size, i.bytes)) = some (some (.int .u8 0), 1, 1) := by kernel_rfl
set_option maxHeartbeats 8000000 in
set_option maxRecDepth 100000 in
theorem clone_walk (A0 : Option Addr) (c0 : Nat) (l0 : List Int) (w : World) (hr0 : ReadsInt w .u8 A0 l0.length l0) (hlim : l0.length ≤ 1000000) :
    Calls Try.prog 22 #[.slice A0 l0.length c0] w fun e w' => (∃ v, e = .returned v ∧ Kd.R (Kd.int .u8) 5 w' w.heap.size (fun _ => True) v l0) ∧ Below w.heap.size w w' := by
  have HB := Aside0.mk (Below.refl w.heap.size w)
  have HR := Aside0.mk (Kd.C_of_reads (enc := Value.int .u8) (d := (0 : Int)) (h1 := fun _ => rfl) hr0)
  have hn0 := hr0.2.2
  clear hr0
  rcases A0 with _ | ad
  · have hl0 : l0 = [] := by
      rcases Nat.eq_zero_or_pos l0.length with h0 | h0
      · exact List.eq_nil_of_length_eq_zero h0
      · obtain ⟨ad, e, _⟩ := hn0 h0
        cases e
    subst hl0
    clear hn0
    have hnil := fun (W : World) => Lib.run_eql_slice_nil (P := Try.prog) W 22 5 none 0 c0 0 0 Try.underlying22
    go_enter Try.func22, Try.ntmps22
    go_wp2
    go_ret
    exact ⟨⟨_, rfl, Kd.R_nil _ _ _ _ _⟩, HB.out⟩
  · clear hn0
    have hnil := fun (W : World) => Lib.run_eql_slice_nil (P := Try.prog) W 22 5 (some ad) l0.length c0 0 0 Try.underlying22
    have HL := Aside0.mk hlim
    clear hlim
    go_enter Try.func22, Try.ntmps22
    go_wp2_with (first | ((with_reducible refine gate_builtin (b := .append) (xs := #[.tmp 5, .tmp 6]) rfl ?_); at_builtin; refine Kd.R_append_rows (Kd.int .u8) (w0 := w) w.heap.size rfl (.tmp 5) (.tmp 6) 22 5 (.int .u8 0) 1 rfl Try.underlying22 info5' rfl (by decide) (by omega) _ [] l0 _ _ _ (fun _ => True) (fun _ => False) rfl rfl ?aO ?aR (fun _ _ h => h) (fun _ h => h.elim) ?aF ?aB ?aS ?aL ?_; (case aO => exact Kd.R_of_own (own_lit w w.heap.size 5 .u8 [] (Nat.le_refl _) (by simp)) (fun _ _ => trivial)); (case aR => exact Kd.C_below HR.out (below_alloc HB.out _)); (case aF => exact fun _ _ => trivial); (case aB => exact below_alloc HB.out _); (case aS => exact (below_alloc HB.out _).size); (case aL => have := HL.out; simp; omega); intro v1 w1 ho hb hg hat; have HO := Aside0.mk ho; have HB2 := Aside0.mk hb; clear ho hb hg hat))
    go_ret
    exact ⟨⟨_, rfl, HO.out⟩, HB2.out⟩
theorem readsInt_below {w W : World} {k : IntKind} {A : Option Addr} {n : Nat} {l : List Int} (h : ReadsInt w k A n l) (hb : Below w.heap.size w W) : ReadsInt W k A n l :=
  ⟨h.1, h.2.1, fun hn => let ⟨ad, e, hc⟩ := h.2.2 hn; ⟨ad, e, fun j hj => pw_cell_below hb (hc j hj)⟩⟩
theorem results_tmp4 {fn : Func} {t u v x : Tmp} (h : fn.results = #[.tmp t, .tmp u, .tmp v, .tmp x]) (tmps : Array Value) (P : Program) (w : World) :
    (results fn tmps).run P w = .ok (.tuple #[tmps.getD t undef, tmps.getD u undef, tmps.getD v undef, tmps.getD x undef]) w := by
  simp [results, h]
/-- How many bytes a header between has, of its own telling. -/
def hsz (next : Int) (b : List Int) : Nat := if next = 44 then 8 else 8 + 8 * (b.getD 1 0).toNat
/-- The headers between: those that are read, what follows them, what stands behind. -/
def btwE : Nat → Nat → Int → List Int → Option (List S43 × Int × List Int)
  | 0, _, _, _ => none
  | f + 1, i, next, b =>
    if btw next = false then some ([], next, b)
    else if b.length < 8 ∨ (next = 0 ∧ 0 < i) then none
    else if b.length < hsz next b then none
    else (btwE f (i + 1) (b.getD 0 0) (b.drop (hsz next b))).map fun r => (⟨next, strOfNums ((b.take (hsz next b)).drop (ahd next))⟩ :: r.1, r.2)
def lenOf : Value → Nat
  | .slice _ n _ => n
  | _ => 0
theorem info43 : (Try.prog.info? 43).map (fun i => (i.zero, i.size, i.bytes)) = some (some (.agg #[.int .i64 0, .string ByteArray.empty]), 2, 24) := by kernel_rfl
/-- What between answers. -/
def BtwP (w0 w : World) (o : Option (List S43 × Int × List Int)) (e : Ending) : Prop :=
  match o with
  | none => ∃ v, e = .returned (.tuple #[.slice none 0 0, .int .i64 0, .slice none 0 0, v]) ∧ ErrV 4 v
  | some r => ∃ ov A c, e = .returned (.tuple #[ov, .int .i64 r.2.1, .slice A r.2.2.length c, .nilIface]) ∧ k43.R 43 w w0.heap.size (fun _ => True) ov r.1 ∧ ReadsInt w .u8 A r.2.2.length r.2.2 ∧ r.2.2.length ≤ c
/-- No row, where the list is empty; else one. -/
def OutV (ov : Value) (xs : List S43) : Prop := (xs = [] ∧ ov = .slice none 0 0) ∨ (xs ≠ [] ∧ ∃ a n c, ov = .slice (some a) n c)
theorem outV_of {w : World} {base : Nat} {ok : Nat → Prop} {v : Value} {xs : List S43} (h : k43.R 43 w base ok v xs) (hp : 0 < xs.length) : OutV v xs := by
  obtain ⟨g, cap, hv, _⟩ := Kd.R_form h hp
  exact Or.inr ⟨by rintro rfl; simp at hp, _, _, _, hv⟩
set_option maxHeartbeats 8000000 in
set_option maxRecDepth 100000 in
theorem between_walk (nx0 : Int) (A0 : Option Addr) (c0 : Nat) (b0 : List Int) (w : World) (hr : ReadsInt w .u8 A0 b0.length b0) (hc : b0.length ≤ c0) (hl : b0.length ≤ 100000) (hby : ∀ x ∈ b0, 0 ≤ x ∧ x ≤ 255) (f0 : Nat) (hf : b0.length < f0) :
    Calls Try.prog 20 #[.int .i64 nx0, .slice A0 b0.length c0] w fun e w' => BtwP w w' (btwE f0 0 nx0 b0) e ∧ Below w.heap.size w w' := by
  have HR := Aside0.mk hr
  have HBY := Aside0.mk hby
  have HF := Aside0.mk hf
  obtain ⟨res, hres⟩ : ∃ r, btwE f0 0 nx0 b0 = r := ⟨_, rfl⟩
  have HRES := Aside0.mk hres
  rw [hres]
  obtain ⟨N0, hN0⟩ : ∃ n, b0.length = n := ⟨_, rfl⟩
  have HN0 := Aside0.mk hN0
  rw [hN0] at hc hl ⊢
  have HL0 := Aside0.mk hl
  clear hr hby hf hres hN0
  go_enter Try.func20, Try.ntmps20
  go_wp2
  go_loopw [0, 1, 8] (fun nv bv ov wr => ∃ (xs : List S43) (nx : Int) (A : Option Addr) (bl : List Int) (n c f : Nat), nv = .int .i64 nx ∧ bv = .slice A n c ∧ n ≤ c ∧ n ≤ 100000 ∧ Aside0 (bl.length = n) ∧ Aside0 (ReadsInt w .u8 A n bl) ∧ Aside0 (∀ x ∈ bl, 0 ≤ x ∧ x ≤ 255) ∧ Aside0 (OutV ov xs) ∧
    Aside0 (k43.R 43 wr w.heap.size (fun _ => True) ov xs) ∧ Aside0 (Below w.heap.size w wr) ∧ Aside0 (n < f ∧ xs.length + n ≤ N0) ∧ Aside0 (res = (btwE f xs.length nx bl).map fun r => (xs ++ r.1, r.2))) (fun _ bv _ _ => lenOf bv)
  case atStart => exact ⟨[], nx0, A0, b0, N0, c0, f0, rfl, rfl, hc, hl, HN0, Aside0.mk (by rw [← HN0.out]; exact HR.out), HBY, Aside0.mk (Or.inl ⟨rfl, rfl⟩), Aside0.mk (Kd.R_nil _ _ _ _ _), Aside0.mk (Below.refl _ _), Aside0.mk ⟨by rw [← HN0.out]; exact HF.out, by simp⟩, Aside0.mk (by rw [HRES.out.symm]; cases btwE f0 0 nx0 b0 <;> rfl)⟩
  case round =>
    clear HR HBY HF HRES hc hl
    obtain ⟨xs, nx, A, bl, n, c, f, rfl, rfl, hnc, hn, HLEN, HR, HBY, HOV, HO, HB, HFN, HE⟩ := hrel
    have BT := Aside0.mk fun (W : World) => btw_walk nx W
    have AH := Aside0.mk fun (W : World) => ahd_walk nx W
    obtain ⟨f, rfl⟩ : ∃ f', f = f' + 1 := ⟨f - 1, by have := HFN.out; omega⟩
    cases hb : btw nx with
    | false =>
      rw [hb] at BT
      have HE2 := Aside0.mk (show res = some (xs, nx, bl) from by rw [HE.out, btwE, if_pos hb]; simp)
      have HRW := Aside0.mk (fun W (hW : Below w.heap.size w W) => readsInt_below HR.out hW)
      clear hb HE
      go_wp2_with (first | (go_at_call 17; refine (BT.out _).mono ?_; rintro e w5 ⟨rfl, m1, rfl⟩))
      (try simp only [Exit.inBlock, Exit.then])
      refine bodyPost_ret (results_tmp4 rfl _ _ _) rfl ?_
      rw [HE2.out]
      exact ⟨⟨_, A, c, by rw [HLEN.out]; rfl, Kd.R_drewN HO.out _, by rw [HLEN.out]; exact HRW.out _ (pw_below_drewN HB.out _), by rw [HLEN.out]; exact hnc⟩, pw_below_drewN HB.out _⟩
    | true =>
      rw [hb] at BT
      have HBT := Aside0.mk hb
      clear hb
      by_cases h8 : n < 8
      · have d8 : decide ((n : Int) < 8) = true := decide_eq_true (by omega)
        have HE2 := Aside0.mk (show res = none from by rw [HE.out, btwE, if_neg (by rw [HBT.out]; decide), if_pos (Or.inl (by have := HLEN.out; omega))]; rfl)
        clear HE h8
        go_wp2_with (first | (go_at_call 17; refine (BT.out _).mono ?_; rintro e w5 ⟨rfl, m1, rfl⟩))
        (try simp only [Exit.inBlock, Exit.then])
        refine bodyPost_ret (results_tmp4 rfl _ _ _) rfl ?_
        rw [HE2.out]
        exact ⟨⟨_, rfl, Or.inr ⟨by decide, _, rfl⟩⟩, pw_below_drewN HB.out _⟩
      · have d8 : decide ((n : Int) < 8) = false := decide_eq_false (by omega)
        have hn8 : 8 ≤ bl.length := by have := HLEN.out; omega
        -- the first two bytes
        obtain ⟨ad, hA, hcell⟩ := HR.out.2.2 (by omega)
        subst hA
        have hc0 := hcell 0 (by omega)
        have hc1 := hcell 1 (by omega)
        have hm0 : bl.getD 0 0 ∈ bl := by rw [List.getD_eq_getElem?_getD, List.getElem?_eq_getElem (by omega)]; exact List.getElem_mem (by omega)
        have hm1 : bl.getD 1 0 ∈ bl := by rw [List.getD_eq_getElem?_getD, List.getElem?_eq_getElem (by omega)]; exact List.getElem_mem (by omega)
        obtain ⟨B, hB⟩ : ∃ B : Nat, bl.getD 1 0 = (B : Int) := ⟨(bl.getD 1 0).toNat, by have := (HBY.out _ hm1).1; omega⟩
        have hB2 : B ≤ 255 := by have := (HBY.out _ hm1).2; omega
        obtain ⟨nn, hnn⟩ : ∃ nn, bl.getD 0 0 = nn := ⟨_, rfl⟩
        have hnn2 : 0 ≤ nn ∧ nn ≤ 255 := by rw [← hnn]; exact HBY.out _ hm0
        have hz : hsz nx bl = if nx = 44 then 8 else 8 + 8 * B := by unfold hsz; rw [hB]; rfl
        rw [hB] at hc1
        rw [hnn] at hc0
        have HC0 := Aside0.mk (fun W (hW : Below w.heap.size w W) => (pw_cell_below hW hc0 : W.cell? ad = some (.int .u8 nn)))
        have HC1 := Aside0.mk (fun W (hW : Below w.heap.size w W) => (pw_cell_below hW hc1 : W.cell? { block := ad.block, off := ad.off + 1 } = some (.int .u8 (B : Int))))
        have HNN := Aside0.mk hnn
        have hnw : IntKind.i64.wrap nn = nn := IntWalk.i64_in _ (by omega)
        have d0 : decide ((0 : Int) < (n : Int)) = true := decide_eq_true (by omega)
        have d1 : decide ((1 : Int) < (n : Int)) = true := decide_eq_true (by omega)
        have hn1 : 1 < n := by omega
        have hrule := True.intro
        clear hcell hc0 hc1 hm0 hm1 hB hnn hnn2 h8
        by_cases k44 : nx = 44
        · subst k44
          obtain ⟨z, hze⟩ : ∃ z, 8 = z := ⟨_, rfl⟩
          have hzz : hsz 44 bl = z := by rw [hz, if_pos rfl, hze]
          have hz8 : 8 ≤ z := by omega
          have hzn : z ≤ n := by have := HLEN.out; omega
          obtain ⟨a, hah⟩ : ∃ a, ahd 44 = a := ⟨_, rfl⟩
          have ha2 : a ≤ 2 := by rw [← hah]; unfold ahd; split <;> omega
          rw [hah] at AH
          have hnh : ¬ ((44 : Int) = 0 ∧ 0 < xs.length) := fun h => absurd h.1 (by decide)
          have z8c : ((8 : Int)) = (z : Int) := by omega
          have dz : decide ((n : Int) < (z : Int)) = false := decide_eq_false (by omega)
          obtain ⟨i5, hi5, _, hsz5, _⟩ := info_parts info5'
          obtain ⟨A', hmid, hmidr, _⟩ := print_mid_int (P := Try.prog) (k := .u8) 22 5 Try.underlying22 hi5 hsz5 (some ad) c bl (a : Int) (z : Int) (by omega) (by omega) (by have := HLEN.out; omega) (by have := HLEN.out; omega)
          obtain ⟨A2, hdrop, hdropr, hdropc⟩ := print_drop_of (P := Try.prog) (Value.int .u8) (0 : Int) 22 5 .i64 Try.underlying22 hi5 hsz5 (some ad) c bl (z : Int) (by omega) (by have := HLEN.out; omega) (by have := HLEN.out; omega)
          rw [HLEN.out] at hmid hmidr hdrop hdropr
          simp only [Int.toNat_natCast] at hmid hmidr hdrop hdropr hdropc
          obtain ⟨st, hst⟩ : ∃ st, strOfNums ((bl.take z).drop a) = st := ⟨_, rfl⟩
          have CV := Aside0.mk (fun W (hW : Below w.heap.size w W) => by have := string_of_reads (P := Try.prog) (c := c - a) Try.underlying22 Try.underlying5 Try.underlying9 (hmidr W (readsInt_below HR.out hW)); rw [hst] at this; exact this)
          obtain ⟨LM, hLM⟩ : ∃ LM, ((bl.take z).drop a).length = LM := ⟨_, rfl⟩
          rw [hLM] at hmid CV
          have hLD : (bl.drop z).length = n - z := by rw [List.length_drop, HLEN.out]
          rw [hLD] at hdrop hdropr hdropc
          have HDR := Aside0.mk hdropr
          have HDC := Aside0.mk hdropc
          have HLD := Aside0.mk hLD
          have HZN := Aside0.mk (And.intro hzn hz8)
          have ALEN := Aside0.mk (show (xs.length + 1) * 24 ≤ 140737488355328 from by have := HFN.out.2; have := HL0.out; omega)
          have HE3 := Aside0.mk (show res = (btwE f (xs ++ [(⟨44, st⟩ : S43)]).length nn (bl.drop z)).map (fun r => ((xs ++ [(⟨44, st⟩ : S43)]) ++ r.1, r.2)) from by
            rw [HE.out, btwE, if_neg (by rw [HBT.out]; decide), if_neg (by rintro (h | h); exact absurd h (by omega); exact hnh h), if_neg (by rw [hzz]; have := HLEN.out; omega), hzz, hah, hst, HNN.out, Option.map_map, List.length_append]
            congr 1
            funext r
            simp)
          have HFN2 := Aside0.mk (show n - z < f ∧ (xs ++ [(⟨44, st⟩ : S43)]).length + (n - z) ≤ N0 from by have := HFN.out; rw [List.length_append]; simp only [List.length_cons, List.length_nil]; omega)
          clear hmidr hdropr hdropc hst hLM hLD HE hz hrule hzz hah hnh hn8 hzn hz8
          have hzc : (z : Int) = 8 := z8c.symm
          clear z8c hze
          simp only [hzc] at dz hdrop hmid
          go_wp2_with (first | (go_at_call 17; refine (BT.out _).mono ?_; rintro e w5 ⟨rfl, m1, rfl⟩; have hb0 := HC0.out _ (pw_below_drewN HB.out m1)) | (go_at_call 31; refine (AH.out _).mono ?_; rintro e w6 ⟨rfl, m2, rfl⟩; have hcv := CV.out _ (pw_below_drewN HB.out (m1 + m2))) | ((with_reducible refine gate_builtin (b := .append) (xs := #[.tmp 40, .tmp 49]) rfl ?_); at_builtin; refine Kd.R_append k43 (w0 := w) w.heap.size rfl (.tmp 40) (.tmp 49) 24 43 (.agg #[.int .i64 0, .string ByteArray.empty]) 24 rfl Try.underlying24 info43 rfl (by decide) (by decide) u8 xs (⟨44, st⟩ : S43) [.int .i64 44, .string st] (fun _ => True) (fun _ => False) rfl rfl ?aP (fun _ h => h.elim) ?aF ?aO ?aB ?aS ?aL ?_; (case aP => exact k43_mkM _ _ _ (⟨44, st⟩ : S43)); (case aF => exact fun _ _ => trivial); (case aO => exact Kd.R_drewN HO.out _); (case aB => exact pw_below_drewN HB.out _); (case aS => exact HB.out.size); (case aL => exact ALEN.out); intro v7 w7 ho hb7 _ _; have HO7 := Aside0.mk ho; have HB7 := Aside0.mk hb7; have hb0 := HC0.out _ HB7.out; clear ho hb7))
          go_quiet (fail)
          go_wp2_with (fail)
          go_round
          case rel => exact ⟨xs ++ [(⟨44, st⟩ : S43)], nn, A2, bl.drop z, n - z, c - z, f, rfl, rfl, HDC.out, by omega, HLD, Aside0.mk (HDR.out w HR.out), Aside0.mk (fun x hx => HBY.out x (List.mem_of_mem_drop hx)), Aside0.mk (outV_of HO7.out (by simp)), Aside0.mk (Kd.R_drewN HO7.out _), Aside0.mk (pw_below_drewN HB7.out _), HFN2, HE3⟩
          case measure => have := HZN.out; simp [lenOf]; omega
        · have e44 : (nx != 44) = true := bne_iff_ne.mpr k44
          by_cases k0 : nx = 0
          · subst k0
            by_cases hxs : xs = []
            · have hov : u8 = .slice none 0 0 := by rcases HOV.out with h | h; exact h.2; exact absurd hxs h.1
              subst hov
              have hnil := fun (W : World) => Go.run_neq_slice_nil (P := Try.prog) W 24 43 none 0 0 Try.underlying24
              obtain ⟨z, hze⟩ : ∃ z, 8 + 8 * B = z := ⟨_, rfl⟩
              have hzz : hsz (0 : Int) bl = z := by rw [hz, if_neg (by decide), hze]
              have hz8 : 8 ≤ z := by omega
              have k2 : IntKind.i64.wrap (B : Int) = (B : Int) := IntWalk.i64_in _ (by omega)
              have k3 : wrap64 (8 * (B : Int)) = 8 * (B : Int) := IntWalk.wrap64_in _ (by omega)
              have k4 : wrap64 (8 + 8 * (B : Int)) = (z : Int) := by rw [IntWalk.wrap64_in _ (by omega)]; omega
              have K234 := Aside0.mk (And.intro k2 (And.intro k3 k4))
              clear k2 k3 k4
              by_cases hzn : z ≤ n
              · have dz : decide ((n : Int) < (z : Int)) = false := decide_eq_false (by omega)
                obtain ⟨a, hah⟩ : ∃ a, ahd (0 : Int) = a := ⟨_, rfl⟩
                have ha2 : a ≤ 2 := by rw [← hah]; unfold ahd; split <;> omega
                rw [hah] at AH
                have hnh : ¬ ((0 : Int) = 0 ∧ 0 < xs.length) := by rintro ⟨_, h⟩; rw [hxs] at h; simp at h
                obtain ⟨i5, hi5, _, hsz5, _⟩ := info_parts info5'
                obtain ⟨A', hmid, hmidr, _⟩ := print_mid_int (P := Try.prog) (k := .u8) 22 5 Try.underlying22 hi5 hsz5 (some ad) c bl (a : Int) (z : Int) (by omega) (by omega) (by have := HLEN.out; omega) (by have := HLEN.out; omega)
                obtain ⟨A2, hdrop, hdropr, hdropc⟩ := print_drop_of (P := Try.prog) (Value.int .u8) (0 : Int) 22 5 .i64 Try.underlying22 hi5 hsz5 (some ad) c bl (z : Int) (by omega) (by have := HLEN.out; omega) (by have := HLEN.out; omega)
                rw [HLEN.out] at hmid hmidr hdrop hdropr
                simp only [Int.toNat_natCast] at hmid hmidr hdrop hdropr hdropc
                obtain ⟨st, hst⟩ : ∃ st, strOfNums ((bl.take z).drop a) = st := ⟨_, rfl⟩
                have CV := Aside0.mk (fun W (hW : Below w.heap.size w W) => by have := string_of_reads (P := Try.prog) (c := c - a) Try.underlying22 Try.underlying5 Try.underlying9 (hmidr W (readsInt_below HR.out hW)); rw [hst] at this; exact this)
                obtain ⟨LM, hLM⟩ : ∃ LM, ((bl.take z).drop a).length = LM := ⟨_, rfl⟩
                rw [hLM] at hmid CV
                have hLD : (bl.drop z).length = n - z := by rw [List.length_drop, HLEN.out]
                rw [hLD] at hdrop hdropr hdropc
                have HDR := Aside0.mk hdropr
                have HDC := Aside0.mk hdropc
                have HLD := Aside0.mk hLD
                have HZN := Aside0.mk (And.intro hzn hz8)
                have ALEN := Aside0.mk (show (xs.length + 1) * 24 ≤ 140737488355328 from by have := HFN.out.2; have := HL0.out; omega)
                have HE3 := Aside0.mk (show res = (btwE f (xs ++ [(⟨(0 : Int), st⟩ : S43)]).length nn (bl.drop z)).map (fun r => ((xs ++ [(⟨(0 : Int), st⟩ : S43)]) ++ r.1, r.2)) from by
                  rw [HE.out, btwE, if_neg (by rw [HBT.out]; decide), if_neg (by rintro (h | h); exact absurd h (by omega); exact hnh h), if_neg (by rw [hzz]; have := HLEN.out; omega), hzz, hah, hst, HNN.out, Option.map_map, List.length_append]
                  congr 1
                  funext r
                  simp)
                have HFN2 := Aside0.mk (show n - z < f ∧ (xs ++ [(⟨(0 : Int), st⟩ : S43)]).length + (n - z) ≤ N0 from by have := HFN.out; rw [List.length_append]; simp only [List.length_cons, List.length_nil]; omega)
                clear hmidr hdropr hdropc hst hLM hLD HE hz hrule hzz hah hnh hn8 hzn hz8
                obtain ⟨k2, k3, k4⟩ := K234.out
                clear K234
                have hzc : (z : Int) = 8 + 8 * (B : Int) := by omega
                clear k4 hze
                simp only [hzc] at dz hdrop hmid
                go_wp2_with (first | (go_at_call 17; refine (BT.out _).mono ?_; rintro e w5 ⟨rfl, m1, rfl⟩; have hb0 := HC0.out _ (pw_below_drewN HB.out m1); have hb1 := HC1.out _ (pw_below_drewN HB.out m1)) | (go_at_call 31; refine (AH.out _).mono ?_; rintro e w6 ⟨rfl, m2, rfl⟩; have hcv := CV.out _ (pw_below_drewN HB.out (m1 + m2))) | ((with_reducible refine gate_builtin (b := .append) (xs := #[.tmp 40, .tmp 49]) rfl ?_); at_builtin; refine Kd.R_append k43 (w0 := w) w.heap.size rfl (.tmp 40) (.tmp 49) 24 43 (.agg #[.int .i64 0, .string ByteArray.empty]) 24 rfl Try.underlying24 info43 rfl (by decide) (by decide) (.slice none 0 0) xs (⟨(0 : Int), st⟩ : S43) [.int .i64 (0 : Int), .string st] (fun _ => True) (fun _ => False) rfl rfl ?aP (fun _ h => h.elim) ?aF ?aO ?aB ?aS ?aL ?_; (case aP => exact k43_mkM _ _ _ (⟨(0 : Int), st⟩ : S43)); (case aF => exact fun _ _ => trivial); (case aO => exact Kd.R_drewN HO.out _); (case aB => exact pw_below_drewN HB.out _); (case aS => exact HB.out.size); (case aL => exact ALEN.out); intro v7 w7 ho hb7 _ _; have HO7 := Aside0.mk ho; have HB7 := Aside0.mk hb7; have hb0 := HC0.out _ HB7.out; clear ho hb7))
                go_quiet (fail)
                go_wp2_with (fail)
                go_round
                case rel => exact ⟨xs ++ [(⟨(0 : Int), st⟩ : S43)], nn, A2, bl.drop z, n - z, c - z, f, rfl, rfl, HDC.out, by omega, HLD, Aside0.mk (HDR.out w HR.out), Aside0.mk (fun x hx => HBY.out x (List.mem_of_mem_drop hx)), Aside0.mk (outV_of HO7.out (by simp)), Aside0.mk (Kd.R_drewN HO7.out _), Aside0.mk (pw_below_drewN HB7.out _), HFN2, HE3⟩
                case measure => have := HZN.out; simp [lenOf]; omega
              · have dz : decide ((n : Int) < (z : Int)) = true := decide_eq_true (by omega)
                have HE2 := Aside0.mk (show res = none from by rw [HE.out, btwE, if_neg (by rw [HBT.out]; decide), if_neg (by rintro (h | h); exact absurd h (by omega); exact (by rw [hxs] at h; exact absurd h.2 (by simp))), if_pos (by rw [hzz]; have := HLEN.out; omega)]; rfl)
                clear HE hz hrule
                obtain ⟨k2, k3, k4⟩ := K234.out
                clear K234
                have hzc : (z : Int) = 8 + 8 * (B : Int) := by omega
                clear k4 hze
                simp only [hzc] at dz
                go_wp2_with (first | (go_at_call 17; refine (BT.out _).mono ?_; rintro e w5 ⟨rfl, m1, rfl⟩; have hb0 := HC0.out _ (pw_below_drewN HB.out m1); have hb1 := HC1.out _ (pw_below_drewN HB.out m1)))
                (try simp only [Exit.inBlock, Exit.then])
                refine bodyPost_ret (results_tmp4 rfl _ _ _) rfl ?_
                rw [HE2.out]
                exact ⟨⟨_, rfl, Or.inr ⟨by decide, _, rfl⟩⟩, pw_below_drewN HB.out _⟩
            · obtain ⟨_, oa, on, oc, rfl⟩ : xs ≠ [] ∧ ∃ a n c, u8 = .slice (some a) n c := by rcases HOV.out with h | h; exact absurd h.1 hxs; exact h
              have hnil := fun (W : World) => Go.run_neq_slice_nil (P := Try.prog) W 24 43 (some oa) on oc Try.underlying24
              have hxl : 0 < xs.length := List.length_pos_iff.mpr hxs
              have HE2 := Aside0.mk (show res = none from by rw [HE.out, btwE, if_neg (by rw [HBT.out]; decide), if_pos (Or.inr ⟨rfl, hxl⟩)]; rfl)
              clear HE hz hrule
              go_wp2_with (first | (go_at_call 17; refine (BT.out _).mono ?_; rintro e w5 ⟨rfl, m1, rfl⟩; have hb0 := HC0.out _ (pw_below_drewN HB.out m1); have hb1 := HC1.out _ (pw_below_drewN HB.out m1)))
              (try simp only [Exit.inBlock, Exit.then])
              refine bodyPost_ret (results_tmp4 rfl _ _ _) rfl ?_
              rw [HE2.out]
              exact ⟨⟨_, rfl, Or.inr ⟨by decide, _, rfl⟩⟩, pw_below_drewN HB.out _⟩
          · have e0 : (nx == 0) = false := beq_eq_false_iff_ne.mpr k0
            obtain ⟨z, hze⟩ : ∃ z, 8 + 8 * B = z := ⟨_, rfl⟩
            have hzz : hsz nx bl = z := by rw [hz, if_neg (by exact k44), hze]
            have hz8 : 8 ≤ z := by omega
            have k2 : IntKind.i64.wrap (B : Int) = (B : Int) := IntWalk.i64_in _ (by omega)
            have k3 : wrap64 (8 * (B : Int)) = 8 * (B : Int) := IntWalk.wrap64_in _ (by omega)
            have k4 : wrap64 (8 + 8 * (B : Int)) = (z : Int) := by rw [IntWalk.wrap64_in _ (by omega)]; omega
            have K234 := Aside0.mk (And.intro k2 (And.intro k3 k4))
            clear k2 k3 k4
            by_cases hzn : z ≤ n
            · have dz : decide ((n : Int) < (z : Int)) = false := decide_eq_false (by omega)
              obtain ⟨a, hah⟩ : ∃ a, ahd nx = a := ⟨_, rfl⟩
              have ha2 : a ≤ 2 := by rw [← hah]; unfold ahd; split <;> omega
              rw [hah] at AH
              have hnh : ¬ (nx = 0 ∧ 0 < xs.length) := fun h => k0 h.1
              obtain ⟨i5, hi5, _, hsz5, _⟩ := info_parts info5'
              obtain ⟨A', hmid, hmidr, _⟩ := print_mid_int (P := Try.prog) (k := .u8) 22 5 Try.underlying22 hi5 hsz5 (some ad) c bl (a : Int) (z : Int) (by omega) (by omega) (by have := HLEN.out; omega) (by have := HLEN.out; omega)
              obtain ⟨A2, hdrop, hdropr, hdropc⟩ := print_drop_of (P := Try.prog) (Value.int .u8) (0 : Int) 22 5 .i64 Try.underlying22 hi5 hsz5 (some ad) c bl (z : Int) (by omega) (by have := HLEN.out; omega) (by have := HLEN.out; omega)
              rw [HLEN.out] at hmid hmidr hdrop hdropr
              simp only [Int.toNat_natCast] at hmid hmidr hdrop hdropr hdropc
              obtain ⟨st, hst⟩ : ∃ st, strOfNums ((bl.take z).drop a) = st := ⟨_, rfl⟩
              have CV := Aside0.mk (fun W (hW : Below w.heap.size w W) => by have := string_of_reads (P := Try.prog) (c := c - a) Try.underlying22 Try.underlying5 Try.underlying9 (hmidr W (readsInt_below HR.out hW)); rw [hst] at this; exact this)
              obtain ⟨LM, hLM⟩ : ∃ LM, ((bl.take z).drop a).length = LM := ⟨_, rfl⟩
              rw [hLM] at hmid CV
              have hLD : (bl.drop z).length = n - z := by rw [List.length_drop, HLEN.out]
              rw [hLD] at hdrop hdropr hdropc
              have HDR := Aside0.mk hdropr
              have HDC := Aside0.mk hdropc
              have HLD := Aside0.mk hLD
              have HZN := Aside0.mk (And.intro hzn hz8)
              have ALEN := Aside0.mk (show (xs.length + 1) * 24 ≤ 140737488355328 from by have := HFN.out.2; have := HL0.out; omega)
              have HE3 := Aside0.mk (show res = (btwE f (xs ++ [(⟨nx, st⟩ : S43)]).length nn (bl.drop z)).map (fun r => ((xs ++ [(⟨nx, st⟩ : S43)]) ++ r.1, r.2)) from by
                rw [HE.out, btwE, if_neg (by rw [HBT.out]; decide), if_neg (by rintro (h | h); exact absurd h (by omega); exact hnh h), if_neg (by rw [hzz]; have := HLEN.out; omega), hzz, hah, hst, HNN.out, Option.map_map, List.length_append]
                congr 1
                funext r
                simp)
              have HFN2 := Aside0.mk (show n - z < f ∧ (xs ++ [(⟨nx, st⟩ : S43)]).length + (n - z) ≤ N0 from by have := HFN.out; rw [List.length_append]; simp only [List.length_cons, List.length_nil]; omega)
              clear hmidr hdropr hdropc hst hLM hLD HE hz hrule hzz hah hnh hn8 hzn hz8
              obtain ⟨k2, k3, k4⟩ := K234.out
              clear K234
              have hzc : (z : Int) = 8 + 8 * (B : Int) := by omega
              clear k4 hze
              simp only [hzc] at dz hdrop hmid
              go_wp2_with (first | (go_at_call 17; refine (BT.out _).mono ?_; rintro e w5 ⟨rfl, m1, rfl⟩; have hb0 := HC0.out _ (pw_below_drewN HB.out m1); have hb1 := HC1.out _ (pw_below_drewN HB.out m1)) | (go_at_call 31; refine (AH.out _).mono ?_; rintro e w6 ⟨rfl, m2, rfl⟩; have hcv := CV.out _ (pw_below_drewN HB.out (m1 + m2))) | ((with_reducible refine gate_builtin (b := .append) (xs := #[.tmp 40, .tmp 49]) rfl ?_); at_builtin; refine Kd.R_append k43 (w0 := w) w.heap.size rfl (.tmp 40) (.tmp 49) 24 43 (.agg #[.int .i64 0, .string ByteArray.empty]) 24 rfl Try.underlying24 info43 rfl (by decide) (by decide) u8 xs (⟨nx, st⟩ : S43) [.int .i64 nx, .string st] (fun _ => True) (fun _ => False) rfl rfl ?aP (fun _ h => h.elim) ?aF ?aO ?aB ?aS ?aL ?_; (case aP => exact k43_mkM _ _ _ (⟨nx, st⟩ : S43)); (case aF => exact fun _ _ => trivial); (case aO => exact Kd.R_drewN HO.out _); (case aB => exact pw_below_drewN HB.out _); (case aS => exact HB.out.size); (case aL => exact ALEN.out); intro v7 w7 ho hb7 _ _; have HO7 := Aside0.mk ho; have HB7 := Aside0.mk hb7; have hb0 := HC0.out _ HB7.out; clear ho hb7))
              go_quiet (fail)
              go_wp2_with (fail)
              go_round
              case rel => exact ⟨xs ++ [(⟨nx, st⟩ : S43)], nn, A2, bl.drop z, n - z, c - z, f, rfl, rfl, HDC.out, by omega, HLD, Aside0.mk (HDR.out w HR.out), Aside0.mk (fun x hx => HBY.out x (List.mem_of_mem_drop hx)), Aside0.mk (outV_of HO7.out (by simp)), Aside0.mk (Kd.R_drewN HO7.out _), Aside0.mk (pw_below_drewN HB7.out _), HFN2, HE3⟩
              case measure => have := HZN.out; simp [lenOf]; omega
            · have dz : decide ((n : Int) < (z : Int)) = true := decide_eq_true (by omega)
              have HE2 := Aside0.mk (show res = none from by rw [HE.out, btwE, if_neg (by rw [HBT.out]; decide), if_neg (by rintro (h | h); exact absurd h (by omega); exact k0 h.1), if_pos (by rw [hzz]; have := HLEN.out; omega)]; rfl)
              clear HE hz hrule
              obtain ⟨k2, k3, k4⟩ := K234.out
              clear K234
              have hzc : (z : Int) = 8 + 8 * (B : Int) := by omega
              clear k4 hze
              simp only [hzc] at dz
              go_wp2_with (first | (go_at_call 17; refine (BT.out _).mono ?_; rintro e w5 ⟨rfl, m1, rfl⟩; have hb0 := HC0.out _ (pw_below_drewN HB.out m1); have hb1 := HC1.out _ (pw_below_drewN HB.out m1)))
              (try simp only [Exit.inBlock, Exit.then])
              refine bodyPost_ret (results_tmp4 rfl _ _ _) rfl ?_
              rw [HE2.out]
              exact ⟨⟨_, rfl, Or.inr ⟨by decide, _, rfl⟩⟩, pw_below_drewN HB.out _⟩
end Go.Proofs.Ytpodidgdlcfaeaa.Ip6

/- The law SadAges. -/
import Derived.Test.YtkmnpnbfeiobiaaDoorSdAs
namespace Go.Proofs.YtkmnpnbfeiobiaaDoor.Sd
open Go.RowKit Go.Proofs.YtkmnpnbfeiobiaaDoorW.PrintWords Go.Proofs.YtkmnpnbfeiobiaaDoorW.PrintLast Go.Proofs.YtkmnpnbfeiobiaaDoorW.PrintMore Go.Proofs.YtkmnpnbfeiobiaaDoor.QSa
open Go.Proofs.YtkmnpnbfeiobiaaDoor
set_option linter.unusedVariables false
set_option linter.unusedSimpArgs false
set_option maxHeartbeats 6400000 in
set_option maxRecDepth 100000 in
theorem ages_main {w : World} (hL : Laid w) (A : Option Addr) (l : List S40) (c : Nat) (rule : Int) (hr : Kd.C k40 w A l.length l) (hm : l.length ≤ maxLen) (hz : ∀ i, i < l.length → Sized40 (l.getD i z40)) (hs : ∀ i, i < l.length → ∃ m : Nat, (l.getD i z40).f7 = (m : Int) ∧ m < 18446744073709551616) :
    Calls Tryd.prog 5 #[.slice A l.length c, .int .i64 rule] w fun e w' => e = .returned (.bool true) ∧ Below w.heap.size w w' := by
  have FW := Aside0.mk (few_walk A c l w hr hm hz)
  have HR := Aside0.mk fun (W : World) (hb : Below w.heap.size w W) => Kd.C_below hr hb
  have HS := Aside0.mk hs
  have N0 := Aside0.mk fun (W : World) (hb : Below w.heap.size w W) => one_new hL hb
  obtain ⟨n, hn⟩ : ∃ n, l.length = n := ⟨_, rfl⟩
  have HN := Aside0.mk hn
  rw [hn] at FW HR HS hm ⊢
  clear hr hn hz hs hL
  unfold maxLen at hm
  go_enter Tryd.func5, Tryd.ntmps5
  go_wp2_with (fail)
  refine FW.out.mono ?_
  rintro e w1 ⟨⟨b1, rfl, hfew⟩, hb⟩
  have HF := Aside0.mk hfew
  have HB1 := Aside0.mk hb
  clear hb hfew
  cases b1
  · go_wp2_with (fail)
    go_ret
    exact ⟨rfl, HB1.out⟩
  have HFW := Aside0.mk (HF.out rfl)
  have hn150 : n ≤ 150 := by have := HFW.out.1; rw [HN.out] at this; exact this
  clear HF
  go_wp2_with (fail)
  refine (N0.out w1 HB1.out).mono ?_
  rintro e w2 ⟨q, rfl, _, _, h⟩
  have S2 := Aside0.mk (show AgS w w2 q 0 [] from ⟨h, fun e he => absurd he (by simp), Nat.zero_le _, List.nodup_nil⟩)
  have R02 := Aside0.mk (show (0 : Int) ≤ 0 ∧ (0 : Int) ≤ 1000000000 from ⟨by decide, by decide⟩)
  clear h
  go_wp2_with (fail)
  go_loopw [7, 6] (fun iv nv wr => ∃ (j : Nat) (nw : Int) (es : List En), j ≤ n ∧ iv = .int .i64 j ∧ nv = .int .i64 nw ∧ Aside0 (0 ≤ nw ∧ nw ≤ 1000000000) ∧ Aside0 (AgS w wr q j es)) (fun iv _ _ => n - (intOf iv).toNat)
  case atStart => exact ⟨0, 0, [], by omega, rfl, rfl, R02, S2⟩
  case round =>
    clear S2 R02
    obtain ⟨j, nw, es, hjn, rfl, rfl, HNW, S⟩ := hrel
    by_cases hlt : j < n
    · have hltI : (j : Int) < (n : Int) := by omega
      have hltN : decide (j < n) = true := decide_eq_true hlt
      obtain ⟨ad, hA, LD⟩ := row40 (HR.out _ S.out.one.below) j hlt
      subst hA
      obtain ⟨sq, hsq, hsq2⟩ := HS.out j hlt
      have hfw := HFW.out.2 j (by rw [HN.out]; exact hlt)
      obtain ⟨x, hx⟩ : ∃ x, l.getD j z40 = x := ⟨_, rfl⟩
      rw [hx] at LD hsq hfw
      obtain ⟨CS, hCS⟩ : ∃ CS, (enc40 x).toArray = CS := ⟨_, rfl⟩
      obtain ⟨ob, hob⟩ : ∃ b, x.f6 = b := ⟨_, rfl⟩
      have HOB := Aside0.mk hob
      have H1 := Aside0.mk (show CS.all (·.oneCell') = true from by rw [← hCS]; exact one40 x)
      have HSZ := Aside0.mk (show CS.size = 20 from by rw [← hCS]; rfl)
      have HCS := Aside0.mk hCS
      have HFX := Aside0.mk hfw
      have HSQ := Aside0.mk hsq2
      have HSQ7 := Aside0.mk hsq
      rw [hCS] at LD
      have hi1 : IntKind.i64.wrap ((j : Int) + 1) = ((j + 1 : Nat) : Int) := by rw [IntWalk.i64_in _ (by omega)]; omega
      clear hx hCS hfw hsq hsq2 hob
      go_upto_region 11 with (first | ((with_reducible refine gate_dst (N := 39) rfl ?_); refine Kd.event_run (v := .agg CS) (w1 := wr) ?hg (load_runA 40 (.tmp 38) (ad.add (j * 20)) CS ?ho ?hx LD) ?_; (case hg => rfl); (case ho => rfl); (case hx => rfl); clear LD) | ((with_reducible refine gate_dst (N := 8) rfl ?_); refine box_event ?hg (N := 8) ?hd (cs := #[.int .i64 0, .int .i64 0, .int .i64 0, .int .i64 0, .int .i64 0, .int .i64 0, .bool false, .int .u64 0, .int .i64 0, .string ByteArray.empty, .string ByteArray.empty, .string ByteArray.empty, .bool false, .int .i64 0, .int .i64 0, .bool false, .int .i64 0, .int .i64 0, .int .i64 0, .int .i64 0]) (t := 40) ?hr ?_; (case hd => rfl); (case hg => rfl); (case hr => first | (go_simp; done) | (go_simp; rfl)); intro q8 hq w1 hbox hb; have BKq8 := Aside0.mk hbox; have HQq8 := Aside0.mk (show wr.heap.size ≤ q8 from by rw [hq]; exact Nat.le_refl _); have HC1 := Aside0.mk hb; clear hbox hb hq) | ((with_reducible refine gate_store (t := 40) (p := 8) rfl ?_); refine store_rowE ?hg 40 (.tmp 8) (.tmp 39) ?ho ?hN q8 CS ?hx ?hy 40 _ BKq8.out ?hi ?hold H1.out ?_; (case hg => rfl); (case ho => rfl); (case hN => rfl); (case hx => rfl); (case hy => rfl); (case hi => rw [HSZ.out]; exact isz40); (case hold => rw [HSZ.out]; rfl); intro w2 hw; have HC2 := Aside0.mk (show Below wr.heap.size wr w2 from by rw [hw]; exact below_setRow HC1.out HQq8.out _); have BKq8 := Aside0.mk (show w2.heap[q8]? = some (.cells CS 40 (0, 0)) from by rw [hw]; exact setRow_heap _ _ _ _ _ _ BKq8.out); clear hw))
      have S2 := Aside0.mk (S.out.step HC2.out)
      have Z := Aside0.mk (fun (W : World) (hW : W.heap[q8]? = some (.cells CS 40 (0, 0))) => (show W.cell? ⟨q8, 0, none⟩ = some (.int .i64 x.f0) ∧ W.cell? ⟨q8, 1, none⟩ = some (.int .i64 x.f1) ∧ W.cell? ⟨q8, 2, none⟩ = some (.int .i64 x.f2) ∧ W.cell? ⟨q8, 4, none⟩ = some (.int .i64 x.f4) ∧ W.cell? ⟨q8, 5, none⟩ = some (.int .i64 x.f5) ∧ W.cell? ⟨q8, 6, none⟩ = some (.bool ob) ∧ W.cell? ⟨q8, 7, none⟩ = some (.int .u64 (sq : Int)) ∧ (loadVar 27 ⟨q8, 8, none⟩).run Tryd.prog W = .ok (.agg #[.int .i64 x.f8.f0.f0, .string x.f8.f0.f1, .string x.f8.f0.f2, .string x.f8.f0.f3, .bool x.f8.f0.f4, .int .i64 x.f8.f0.f5, .int .i64 x.f8.f1, .bool x.f8.f2, .int .i64 x.f8.f3, .int .i64 x.f8.f4, .int .i64 x.f8.f5, .int .i64 x.f8.f6]) W from by
        rw [← HCS.out] at hW
        exact ⟨(blk_cell hW 0).trans rfl, (blk_cell hW 1).trans rfl, (blk_cell hW 2).trans rfl, (blk_cell hW 4).trans rfl, (blk_cell hW 5).trans rfl, (blk_cell hW 6).trans (by rw [← HOB.out]; rfl), (blk_cell hW 7).trans (by rw [← HSQ7.out]; rfl), load27c hW⟩))
      obtain ⟨x0, x1, x2, x4, x5, x6, x7, x8⟩ := Z.out w2 BKq8.out
      clear S x8
      obtain ⟨mx, hmx⟩ : ∃ m, (if x.f1 > nw then x.f1 else nw) = m := ⟨_, rfl⟩
      have HMX := Aside0.mk (show 0 ≤ mx ∧ mx ≤ 1000000000 from by have h1 := HNW.out; have h2 := HFX.out; rw [← hmx]; split <;> omega)
      obtain ⟨a, e1, hag⟩ : ∃ a e1, ageF es mx x.f2 ob = (a, e1) := ⟨_, _, rfl⟩
      have HE : Aside0 (e1 = 0 ∨ e1 = 6) := ⟨by
        rcases age_cases es mx x.f2 ob with ⟨a', h⟩ | h
        · rw [h] at hag; injection hag with _ h2; exact .inl h2.symm
        · rw [h] at hag; injection hag with _ h2; exact .inr h2.symm⟩
      have A1 := Aside0.mk (fun (W : World) (h : AgS w W q j es) => h.age HMX.out hag)
      have HAG := Aside0.mk hag
      clear hag
      go_wp2_with (fail)
      refine (A1.out _ S2.out).mono ?_
      rintro e w3 ⟨rfl, h⟩
      have S3 := Aside0.mk h.st
      have BK3 := Aside0.mk (h.keep _ _ BKq8.out)
      clear h hmx x0 x1 x2 x4 x5 x6 x7 A1 S2 BKq8 HC1 HC2 H1 HSZ HCS
      obtain ⟨y0, y1, y2, y4, y5, y6, y7, y8⟩ := Z.out w3 BK3.out
      go_upto_block 2 with fail
      refine sw_walk (by omega) HMX ⟨HFX.out.1⟩ HSQ HE HAG ⟨Z.out⟩ BK3 S3 ?_
      intro v11 v12 v13 v14 v15 v16 v17 v56 v57 v58 v59 v60 v61 v62 v63 v64 v65 v66 v67 v68 v69 v70 v71 v72 v73 v74 v75 v76 v77 v78 v79 v80 v81 v82 v83 v84 v85 v86 v87 v88 v89 v90 v91 v92 v93 v94 v95 v96 v97 v98 v99 v100 v101 v102 v103 v104 v105 v106 v107 v108 v109 v110 v111 v112 v113 v114 v115 v116 v117 v118 v119 v120 v121 v122 v123 v124 v125 v126 v127 v128 v129 v130 v131 v132 v133 v134 v135 v136 v137 v138 v139 v140 v141 v142 v143 wc h4
      obtain ⟨es', h4⟩ := h4
      have S4 := Aside0.mk h4.st
      have HG := Aside0.mk h4.grow
      have BK4 := Aside0.mk (h4.keep _ _ BK3.out)
      clear h4 y0 y1 y2 y4 y5 y6 y7 y8
      obtain ⟨y0, y1, y2, y4, y5, y6, y7, y8⟩ := Z.out wc BK4.out
      clear y8
      obtain ⟨b, g, hbg⟩ : ∃ b g, ageF es' mx x.f2 ob = (b, g) := ⟨_, _, rfl⟩
      obtain ⟨sp, h, hph⟩ : ∃ s h, pickF es' mx rule = (s, h) := ⟨_, _, rfl⟩
      obtain ⟨cg, jj, hcj⟩ : ∃ c j, ageF es' mx sp true = (c, j) := ⟨_, _, rfl⟩
      have A4 := Aside0.mk (fun (W : World) (h : AgS w W q (j + 1) es') => h.age HMX.out hbg)
      have P4 := Aside0.mk (fun (W : World) (h : AgS w W q (j + 1) es') => h.pick HMX.out hph)
      have A6 := Aside0.mk (fun (W : World) (h : AgS w W q (j + 1) es') => h.age HMX.out hcj)
      have HP : h = 161 ∨ (h = 0 ∧ jj = 0 ∧ cg ≤ 1) := by
        have := S4.out.lst.pick mx rule
        rw [hph] at this
        rcases this with h1 | ⟨h1, c', h2, h3⟩
        · exact .inl h1
        · have h2' : ageF es' mx sp true = (c', 0) := h2
          rw [hcj] at h2'
          injection h2' with e1 e2
          exact .inr ⟨h1, e2, by rw [e1]; exact h3⟩
      have HB : e1 = 6 ∨ (e1 = 0 ∧ g = 0 ∧ ¬ b < a) := by
        rcases HE.out with h1 | h1
        · refine .inr ⟨h1, ?_⟩
          have := HAG.out
          rw [h1] at this
          obtain ⟨b', h2, h3⟩ := age_grow HG.out this
          rw [hbg] at h2
          injection h2 with e1 e2
          exact ⟨e2, by omega⟩
        · exact .inl h1
      clear hbg hph hcj HE HAG HG
      have HBB := Aside0.mk HB
      have HPP := Aside0.mk HP
      clear HB HP
      go_wp2_with (fail)
      refine (A4.out _ S4.out).mono ?_
      rintro e w5 ⟨rfl, h⟩
      have S5 := Aside0.mk h.st
      clear h y0 y1 y2 y4 y5 y6 y7
      go_upto_region 29 with (fail)
      go_cut [164] from 30 to 196 (fun v wd => v = .bool false ∧ wd = w5)
      case first =>
        rcases HBB.out with rfl | ⟨rfl, rfl, hba⟩
        · go_wp2_with (fail)
          go_meet
          case rel => exact ⟨rfl, rfl⟩
        · have hbab : decide (b < a) = false := decide_eq_false (by omega)
          clear hba
          go_wp2_with (fail)
          go_meet
          case rel => exact ⟨rfl, rfl⟩
      case rest =>
        obtain ⟨rfl, rfl⟩ := hcut
        go_wp2_with (fail)
        refine (P4.out _ S5.out).mono ?_
        rintro e w6 ⟨rfl, h⟩
        have S6 := Aside0.mk h.st
        clear h
        go_wp2_with (fail)
        refine (A6.out _ S6.out).mono ?_
        rintro e w7 ⟨rfl, h⟩
        have S7 := Aside0.mk h.st
        clear h
        go_upto_region 33 with (fail)
        go_cut [196] from 30 to 196 (fun v wd => v = .bool false ∧ wd = w7)
        case first =>
          rcases HPP.out with rfl | ⟨rfl, rfl, hc1⟩
          · go_wp2_with (fail)
            go_meet
            case rel => exact ⟨rfl, rfl⟩
          · have hcgb : decide (1 < cg) = false := decide_eq_false (by omega)
            clear hc1
            go_wp2_with (fail)
            go_meet
            case rel => exact ⟨rfl, rfl⟩
        case rest =>
          obtain ⟨rfl, rfl⟩ := hcut
          go_wp2_with (fail)
          go_roundw
          case rel => exact ⟨j + 1, mx, es', by omega, by go_num, rfl, HMX, S7⟩
          case measure => simp [intOf]; omega
    · have hltI : ¬ (j : Int) < (n : Int) := by omega
      have hltN : decide (j < n) = false := decide_eq_false hlt
      have AW := Aside0.mk (awake_walk S.out.one.laid)
      go_wp2_with (fail)
      refine AW.out.mono ?_
      rintro e w8 ⟨rfl, hb⟩
      have HB8 := Aside0.mk (S.out.one.step hb).below
      clear hb
      go_wp2_with (fail)
      go_ret
      exact ⟨rfl, HB8.out⟩
end Go.Proofs.YtkmnpnbfeiobiaaDoor.Sd

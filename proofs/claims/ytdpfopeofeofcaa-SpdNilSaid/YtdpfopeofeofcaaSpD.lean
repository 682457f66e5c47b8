/- spd.Check answers. -/
import Derived.Test.YtdpfopeofeofcaaSpR
import Derived.Deep.DeepCutAuto
namespace Go.Proofs.Ytdpfopeofeofcaa.Sp
open Go.RowKit Go.Proofs.YtdpfopeofeofcaaW.PrintWords Go.Proofs.YtdpfopeofeofcaaW.PrintLast Go.Proofs.YtdpfopeofeofcaaW.PrintMore Go.Proofs.Ytdpfopeofeofcaa.QSp
open Go.Proofs.Ytdpfopeofeofcaa
set_option linter.unusedVariables false
set_option linter.unusedSimpArgs false
/-- Do the ends fit? -/
def endsE (tu : Bool) (ac : Int) (se pe : ByteArray) : Bool := if tu = true then (if ac = 3 then (if (se.size : Int) = (pe.size : Int) then decide ((se.size : Int) = 4 ∨ (se.size : Int) = 16) else false) else false) else se.toList.isEmpty && pe.toList.isEmpty
def checkB (nm pc : Int) (ou inn : Bool) (ac : Int) (en : Bool) : Int := if nm < 0 then 1 else if pc = 0 then (if ou = false ∧ inn = false then 1 else if ac < 1 then 1 else if ac > 3 then 1 else if en = true then 0 else 1) else 1
/-- What spd.Check answers. -/
def checkE (r : S35) : Int := checkB r.f0 (pcheckE r.f1) r.f2 r.f3 r.f4 (endsE r.f5 r.f4 r.f6 r.f7)
def v35 (r : S35) : Value := .agg #[.int .i64 r.f0, .string r.f1.f0.f0, .string r.f1.f0.f1, .string r.f1.f1.f0, .string r.f1.f1.f1, .int .i64 r.f1.f2, .int .i64 r.f1.f3.f0, .int .i64 r.f1.f3.f1, .int .i64 r.f1.f4.f0, .int .i64 r.f1.f4.f1, .bool r.f2, .bool r.f3, .int .i64 r.f4, .bool r.f5, .string r.f6, .string r.f7]
set_option maxHeartbeats 3200000 in
set_option maxRecDepth 100000 in
theorem spdcheck_aux (nm : Int) (a1 a2 a3 a4 : ByteArray) (a5 a6 a7 a8 a9 : Int) (ou inn : Bool) (ac : Int) (tu : Bool) (se pe : ByteArray) (pc : Int) (w : World) (PW : Aside0 (∀ W : World, Calls Try.prog 22 #[.agg #[.string a1, .string a2, .string a3, .string a4, .int .i64 a5, .int .i64 a6, .int .i64 a7, .int .i64 a8, .int .i64 a9]] W fun e w' => e = .returned (.int .i64 pc) ∧ Below W.heap.size W w')) :
    Calls Try.prog 17 #[.agg #[.int .i64 nm, .string a1, .string a2, .string a3, .string a4, .int .i64 a5, .int .i64 a6, .int .i64 a7, .int .i64 a8, .int .i64 a9, .bool ou, .bool inn, .int .i64 ac, .bool tu, .string se, .string pe]] w fun e w' => e = .returned (.int .i64 (checkB nm pc ou inn ac (endsE tu ac se pe))) ∧ Below w.heap.size w w' := by
  have hu35 := Try.underlying35
  have hu33 := Try.underlying33
  go_enter Try.func17, Try.ntmps17
  go_upto_region 1 with (first | ((with_reducible refine gate_dst (N := 1) rfl ?_); refine box_event ?hg (N := 1) ?hd (cs := #[.int .i64 nm, .string a1, .string a2, .string a3, .string a4, .int .i64 a5, .int .i64 a6, .int .i64 a7, .int .i64 a8, .int .i64 a9, .bool ou, .bool inn, .int .i64 ac, .bool tu, .string se, .string pe]) (t := 35) ?hr ?_; (case hd => rfl); (case hg => rfl); (case hr => first | (go_simp; done) | (go_simp; rfl)); intro q1 hq w1 hbox hb; have BKq1 := Aside0.mk hbox; have HQq1 := Aside0.mk (show w.heap.size ≤ q1 from by rw [hq]; exact Nat.le_refl _); have HB1 := Aside0.mk hb; clear hbox hb hq; have z0 : w1.cell? ⟨q1, 0, none⟩ = some (.int .i64 nm) := (blk_cell BKq1.out 0).trans rfl; have z1 : w1.cell? ⟨q1, 1, none⟩ = some (.string a1) := (blk_cell BKq1.out 1).trans rfl; have z2 : w1.cell? ⟨q1, 2, none⟩ = some (.string a2) := (blk_cell BKq1.out 2).trans rfl; have z3 : w1.cell? ⟨q1, 3, none⟩ = some (.string a3) := (blk_cell BKq1.out 3).trans rfl; have z4 : w1.cell? ⟨q1, 4, none⟩ = some (.string a4) := (blk_cell BKq1.out 4).trans rfl; have z5 : w1.cell? ⟨q1, 5, none⟩ = some (.int .i64 a5) := (blk_cell BKq1.out 5).trans rfl; have z6 : w1.cell? ⟨q1, 6, none⟩ = some (.int .i64 a6) := (blk_cell BKq1.out 6).trans rfl; have z7 : w1.cell? ⟨q1, 7, none⟩ = some (.int .i64 a7) := (blk_cell BKq1.out 7).trans rfl; have z8 : w1.cell? ⟨q1, 8, none⟩ = some (.int .i64 a8) := (blk_cell BKq1.out 8).trans rfl; have z9 : w1.cell? ⟨q1, 9, none⟩ = some (.int .i64 a9) := (blk_cell BKq1.out 9).trans rfl; have z10 : w1.cell? ⟨q1, 10, none⟩ = some (.bool ou) := (blk_cell BKq1.out 10).trans rfl; have z11 : w1.cell? ⟨q1, 11, none⟩ = some (.bool inn) := (blk_cell BKq1.out 11).trans rfl; have z12 : w1.cell? ⟨q1, 12, none⟩ = some (.int .i64 ac) := (blk_cell BKq1.out 12).trans rfl; have z13 : w1.cell? ⟨q1, 13, none⟩ = some (.bool tu) := (blk_cell BKq1.out 13).trans rfl; have z14 : w1.cell? ⟨q1, 14, none⟩ = some (.string se) := (blk_cell BKq1.out 14).trans rfl; have z15 : w1.cell? ⟨q1, 15, none⟩ = some (.string pe) := (blk_cell BKq1.out 15).trans rfl; have f0 : w1.frozen? ⟨q1, 0, none⟩ = false := blk_frozen BKq1.out 0; have f1 : w1.frozen? ⟨q1, 1, none⟩ = false := blk_frozen BKq1.out 1; have f2 : w1.frozen? ⟨q1, 2, none⟩ = false := blk_frozen BKq1.out 2; have f3 : w1.frozen? ⟨q1, 3, none⟩ = false := blk_frozen BKq1.out 3; have f4 : w1.frozen? ⟨q1, 4, none⟩ = false := blk_frozen BKq1.out 4; have f5 : w1.frozen? ⟨q1, 5, none⟩ = false := blk_frozen BKq1.out 5; have f6 : w1.frozen? ⟨q1, 6, none⟩ = false := blk_frozen BKq1.out 6; have f7 : w1.frozen? ⟨q1, 7, none⟩ = false := blk_frozen BKq1.out 7; have f8 : w1.frozen? ⟨q1, 8, none⟩ = false := blk_frozen BKq1.out 8; have f9 : w1.frozen? ⟨q1, 9, none⟩ = false := blk_frozen BKq1.out 9; have f10 : w1.frozen? ⟨q1, 10, none⟩ = false := blk_frozen BKq1.out 10; have f11 : w1.frozen? ⟨q1, 11, none⟩ = false := blk_frozen BKq1.out 11; have f12 : w1.frozen? ⟨q1, 12, none⟩ = false := blk_frozen BKq1.out 12; have f13 : w1.frozen? ⟨q1, 13, none⟩ = false := blk_frozen BKq1.out 13; have f14 : w1.frozen? ⟨q1, 14, none⟩ = false := blk_frozen BKq1.out 14; have f15 : w1.frozen? ⟨q1, 15, none⟩ = false := blk_frozen BKq1.out 15))
  go_cut [3] (fun v3 wc => Aside0 (v3 = .bool (se.toList.isEmpty && pe.toList.isEmpty)) ∧ Aside0 (wc = w1))
  case first =>
    by_cases hs : se.toList = []
    · have hs1 : se.toList.isEmpty = true := by rw [hs]; rfl
      clear hs
      by_cases hp : pe.toList = []
      · have hp1 : pe.toList.isEmpty = true := by rw [hp]; rfl
        clear hp
        go_wp2
        go_meet
        case rel => exact ⟨⟨by first | rfl | (simp [hs1, hp1]; done)⟩, ⟨rfl⟩⟩
      · have hp1 : pe.toList.isEmpty = false := by cases hh : pe.toList with | nil => exact absurd hh hp | cons x xs => rfl
        clear hp
        go_wp2
        go_meet
        case rel => exact ⟨⟨by first | rfl | (simp [hs1, hp1]; done)⟩, ⟨rfl⟩⟩
    · have hs1 : se.toList.isEmpty = false := by cases hh : se.toList with | nil => exact absurd hh hs | cons x xs => rfl
      clear hs
      go_wp2
      go_meet
      case rel => exact ⟨⟨by first | rfl | (simp [hs1]; done)⟩, ⟨rfl⟩⟩
  case rest =>
    obtain ⟨h3, hw⟩ := hcut
    obtain rfl := h3.out
    obtain rfl := hw.out
    clear h3 hw
    obtain ⟨e1, he1⟩ : ∃ e1, (se.toList.isEmpty && pe.toList.isEmpty) = e1 := ⟨_, rfl⟩
    rw [he1]
    have HE := Aside0.mk he1
    clear he1
    go_upto_if 13 with (fail)
    go_cut [3] (fun v3 wz => Aside0 (v3 = .bool (endsE tu ac se pe)) ∧ Aside0 (wz = wc))
    case first =>
      cases tu
      · go_wp2
        go_meet
        case rel => exact ⟨⟨by unfold endsE; rw [if_neg (by decide), HE.out]⟩, ⟨rfl⟩⟩
      · clear HE
        by_cases h1 : ac = 3
        · by_cases h2 : (se.size : Int) = (pe.size : Int)
          · have h2b : ((se.size : Int) == (pe.size : Int)) = true := by rw [beq_iff_eq]; exact h2
            by_cases h3 : (se.size : Int) = 4
            · have h3b : ((se.size : Int) == 4) = true := by rw [beq_iff_eq]; exact h3
              have HH := Aside0.mk h2
              have HJ := Aside0.mk h3
              have HK := Aside0.mk h1
              have h1b : (ac == 3) = true := by rw [beq_iff_eq]; exact h1
              clear h1 h2 h3
              go_wp2
              go_meet
              case rel => exact ⟨⟨by unfold endsE; rw [if_pos rfl, if_pos HK.out, if_pos HH.out, decide_eq_true (Or.inl HJ.out)]⟩, ⟨rfl⟩⟩
            · have h3b : ((se.size : Int) == 4) = false := by rw [beq_eq_false_iff_ne]; exact h3
              have HH := Aside0.mk h2
              have HJ := Aside0.mk h3
              have HK := Aside0.mk h1
              have h1b : (ac == 3) = true := by rw [beq_iff_eq]; exact h1
              clear h1 h2 h3
              go_wp2
              go_meet
              case rel => exact ⟨⟨by
                unfold endsE
                rw [if_pos rfl, if_pos HK.out, if_pos HH.out]
                by_cases h : (se.size : Int) = 16
                · simp [h]
                · simp [h, HJ.out]⟩, ⟨rfl⟩⟩
          · have h2b : ((se.size : Int) == (pe.size : Int)) = false := by rw [beq_eq_false_iff_ne]; exact h2
            have HH := Aside0.mk h2
            have HK := Aside0.mk h1
            have h1b : (ac == 3) = true := by rw [beq_iff_eq]; exact h1
            clear h1 h2
            go_wp2
            go_meet
            case rel => exact ⟨⟨by unfold endsE; rw [if_pos rfl, if_pos HK.out, if_neg HH.out]⟩, ⟨rfl⟩⟩
        · have HH := Aside0.mk h1
          have h1b : (ac == 3) = false := by rw [beq_eq_false_iff_ne]; exact h1
          clear h1
          go_wp2
          go_meet
          case rel => exact ⟨⟨by unfold endsE; rw [if_pos rfl, if_neg HH.out]⟩, ⟨rfl⟩⟩
    case rest =>
      obtain ⟨h3, hw⟩ := hcut
      obtain rfl := h3.out
      obtain rfl := hw.out
      clear h3 hw HE
      obtain ⟨en, hen⟩ : ∃ en, endsE tu ac se pe = en := ⟨_, rfl⟩
      rw [hen]
      have HEN := Aside0.mk hen
      clear hen
      by_cases h1 : nm < 0
      · have h1d : decide (nm < 0) = true := decide_eq_true h1
        have HF := Aside0.mk (show checkB nm pc ou inn ac en = 1 from by unfold checkB; rw [if_pos h1])
        clear h1
        go_wp2
        go_ret
        exact ⟨by rw [HEN.out, HF.out] <;> rfl, HB1.out⟩
      · have h1d : decide (nm < 0) = false := decide_eq_false h1
        have HN := Aside0.mk h1
        clear h1
        have b0 : checkB nm pc ou inn ac en = if pc = 0 then (if ou = false ∧ inn = false then 1 else if ac < 1 then 1 else if ac > 3 then 1 else if en = true then 0 else 1) else 1 := by unfold checkB; rw [if_neg HN.out]
        have HF := Aside0.mk b0
        clear b0
        go_wp2_with (fail)
        refine (PW.out _).mono ?_
        rintro e w2 ⟨rfl, hb⟩
        have BKq1 := Aside0.mk (blk_below BKq1.out hb)
        have HB2 := Aside0.mk (HB1.out.trans (hb.mono HB1.out.size))
        clear hb z0 f0 z1 f1 z2 f2 z3 f3 z4 f4 z5 f5 z6 f6 z7 f7 z8 f8 z9 f9 z10 f10 z11 f11 z12 f12 z13 f13 z14 f14 z15 f15
        have z0 : w2.cell? ⟨q1, 0, none⟩ = some (.int .i64 nm) := (blk_cell BKq1.out 0).trans rfl; have z1 : w2.cell? ⟨q1, 1, none⟩ = some (.string a1) := (blk_cell BKq1.out 1).trans rfl; have z2 : w2.cell? ⟨q1, 2, none⟩ = some (.string a2) := (blk_cell BKq1.out 2).trans rfl; have z3 : w2.cell? ⟨q1, 3, none⟩ = some (.string a3) := (blk_cell BKq1.out 3).trans rfl; have z4 : w2.cell? ⟨q1, 4, none⟩ = some (.string a4) := (blk_cell BKq1.out 4).trans rfl; have z5 : w2.cell? ⟨q1, 5, none⟩ = some (.int .i64 a5) := (blk_cell BKq1.out 5).trans rfl; have z6 : w2.cell? ⟨q1, 6, none⟩ = some (.int .i64 a6) := (blk_cell BKq1.out 6).trans rfl; have z7 : w2.cell? ⟨q1, 7, none⟩ = some (.int .i64 a7) := (blk_cell BKq1.out 7).trans rfl; have z8 : w2.cell? ⟨q1, 8, none⟩ = some (.int .i64 a8) := (blk_cell BKq1.out 8).trans rfl; have z9 : w2.cell? ⟨q1, 9, none⟩ = some (.int .i64 a9) := (blk_cell BKq1.out 9).trans rfl; have z10 : w2.cell? ⟨q1, 10, none⟩ = some (.bool ou) := (blk_cell BKq1.out 10).trans rfl; have z11 : w2.cell? ⟨q1, 11, none⟩ = some (.bool inn) := (blk_cell BKq1.out 11).trans rfl; have z12 : w2.cell? ⟨q1, 12, none⟩ = some (.int .i64 ac) := (blk_cell BKq1.out 12).trans rfl; have z13 : w2.cell? ⟨q1, 13, none⟩ = some (.bool tu) := (blk_cell BKq1.out 13).trans rfl; have z14 : w2.cell? ⟨q1, 14, none⟩ = some (.string se) := (blk_cell BKq1.out 14).trans rfl; have z15 : w2.cell? ⟨q1, 15, none⟩ = some (.string pe) := (blk_cell BKq1.out 15).trans rfl; have f0 : w2.frozen? ⟨q1, 0, none⟩ = false := blk_frozen BKq1.out 0; have f1 : w2.frozen? ⟨q1, 1, none⟩ = false := blk_frozen BKq1.out 1; have f2 : w2.frozen? ⟨q1, 2, none⟩ = false := blk_frozen BKq1.out 2; have f3 : w2.frozen? ⟨q1, 3, none⟩ = false := blk_frozen BKq1.out 3; have f4 : w2.frozen? ⟨q1, 4, none⟩ = false := blk_frozen BKq1.out 4; have f5 : w2.frozen? ⟨q1, 5, none⟩ = false := blk_frozen BKq1.out 5; have f6 : w2.frozen? ⟨q1, 6, none⟩ = false := blk_frozen BKq1.out 6; have f7 : w2.frozen? ⟨q1, 7, none⟩ = false := blk_frozen BKq1.out 7; have f8 : w2.frozen? ⟨q1, 8, none⟩ = false := blk_frozen BKq1.out 8; have f9 : w2.frozen? ⟨q1, 9, none⟩ = false := blk_frozen BKq1.out 9; have f10 : w2.frozen? ⟨q1, 10, none⟩ = false := blk_frozen BKq1.out 10; have f11 : w2.frozen? ⟨q1, 11, none⟩ = false := blk_frozen BKq1.out 11; have f12 : w2.frozen? ⟨q1, 12, none⟩ = false := blk_frozen BKq1.out 12; have f13 : w2.frozen? ⟨q1, 13, none⟩ = false := blk_frozen BKq1.out 13; have f14 : w2.frozen? ⟨q1, 14, none⟩ = false := blk_frozen BKq1.out 14; have f15 : w2.frozen? ⟨q1, 15, none⟩ = false := blk_frozen BKq1.out 15
        by_cases h2 : pc = 0
        · subst h2
          cases ou
          · cases inn
            · go_wp2
              go_ret
              exact ⟨congrArg (fun x => Ending.returned (.int .i64 x)) (show (1 : Int) = _ from by rw [HEN.out, HF.out]; simp), HB2.out⟩
            · by_cases h4 : ac < 1
              · have h4d : decide (ac < 1) = true := decide_eq_true h4
                have H4 := Aside0.mk h4
                clear h4
                go_wp2
                go_ret
                exact ⟨congrArg (fun x => Ending.returned (.int .i64 x)) (show (1 : Int) = _ from by rw [HEN.out, HF.out]; have h4 := H4.out; (repeat' split) <;> first | rfl | omega | (exfalso; simp_all; done)), HB2.out⟩
              · have h4d : decide (ac < 1) = false := decide_eq_false h4
                have H4 := Aside0.mk h4
                clear h4
                by_cases h5 : 3 < ac
                · have h5d : decide (3 < ac) = true := decide_eq_true h5
                  have H5 := Aside0.mk h5
                  clear h5
                  go_wp2
                  go_ret
                  exact ⟨congrArg (fun x => Ending.returned (.int .i64 x)) (show (1 : Int) = _ from by rw [HEN.out, HF.out]; have h4 := H4.out; have h5 := H5.out; (repeat' split) <;> first | rfl | omega | (exfalso; simp_all; done)), HB2.out⟩
                · have h5d : decide (3 < ac) = false := decide_eq_false h5
                  have H5 := Aside0.mk h5
                  clear h5
                  cases en
                  · go_wp2
                    go_ret
                    exact ⟨congrArg (fun x => Ending.returned (.int .i64 x)) (show (1 : Int) = _ from by rw [HEN.out, HF.out]; have h4 := H4.out; have h5 := H5.out; (repeat' split) <;> first | rfl | omega | (exfalso; simp_all; done)), HB2.out⟩
                  · go_wp2
                    go_ret
                    exact ⟨congrArg (fun x => Ending.returned (.int .i64 x)) (show (0 : Int) = _ from by rw [HEN.out, HF.out]; have h4 := H4.out; have h5 := H5.out; (repeat' split) <;> first | rfl | omega | (exfalso; simp_all; done)), HB2.out⟩
          · by_cases h4 : ac < 1
            · have h4d : decide (ac < 1) = true := decide_eq_true h4
              have H4 := Aside0.mk h4
              clear h4
              go_wp2
              go_ret
              exact ⟨congrArg (fun x => Ending.returned (.int .i64 x)) (show (1 : Int) = _ from by rw [HEN.out, HF.out]; have h4 := H4.out; (repeat' split) <;> first | rfl | omega | (exfalso; simp_all; done)), HB2.out⟩
            · have h4d : decide (ac < 1) = false := decide_eq_false h4
              have H4 := Aside0.mk h4
              clear h4
              by_cases h5 : 3 < ac
              · have h5d : decide (3 < ac) = true := decide_eq_true h5
                have H5 := Aside0.mk h5
                clear h5
                go_wp2
                go_ret
                exact ⟨congrArg (fun x => Ending.returned (.int .i64 x)) (show (1 : Int) = _ from by rw [HEN.out, HF.out]; have h4 := H4.out; have h5 := H5.out; (repeat' split) <;> first | rfl | omega | (exfalso; simp_all; done)), HB2.out⟩
              · have h5d : decide (3 < ac) = false := decide_eq_false h5
                have H5 := Aside0.mk h5
                clear h5
                cases en
                · go_wp2
                  go_ret
                  exact ⟨congrArg (fun x => Ending.returned (.int .i64 x)) (show (1 : Int) = _ from by rw [HEN.out, HF.out]; have h4 := H4.out; have h5 := H5.out; (repeat' split) <;> first | rfl | omega | (exfalso; simp_all; done)), HB2.out⟩
                · go_wp2
                  go_ret
                  exact ⟨congrArg (fun x => Ending.returned (.int .i64 x)) (show (0 : Int) = _ from by rw [HEN.out, HF.out]; have h4 := H4.out; have h5 := H5.out; (repeat' split) <;> first | rfl | omega | (exfalso; simp_all; done)), HB2.out⟩
        · have h2b : (pc != 0) = true := by rw [bne_iff_ne]; exact h2
          have H2 := Aside0.mk h2
          clear h2
          go_wp2
          go_ret
          exact ⟨by rw [HEN.out, HF.out, if_neg H2.out] <;> rfl, HB2.out⟩
theorem spdcheck_walk (r : S35) (w : World) : Calls Try.prog 17 #[v35 r] w fun e w' => e = .returned (.int .i64 (checkE r)) ∧ Below w.heap.size w w' :=
  spdcheck_aux _ _ _ _ _ _ _ _ _ _ _ _ _ _ _ _ (pcheckE r.f1) w (Aside0.mk fun W => pcheck_walk r.f1 W)
end Go.Proofs.Ytdpfopeofeofcaa.Sp

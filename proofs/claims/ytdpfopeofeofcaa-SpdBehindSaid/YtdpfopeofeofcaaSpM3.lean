/- spd.Check answers. The map of what was found: its operations. A policy in memory: New, List, Remove, Add. (Texts of this session, put together by wip/tools/merge.py.) -/
import Derived.Test.YtdpfopeofeofcaaSpM2
import Derived.Deep.DeepCutAuto
import Derived.Test.YtdpfopeofeofcaaQSpx2
namespace Go.Proofs.Ytdpfopeofeofcaa.Sp
open Go.RowKit Go.Proofs.YtdpfopeofeofcaaW.PrintWords Go.Proofs.YtdpfopeofeofcaaW.PrintLast Go.Proofs.YtdpfopeofeofcaaW.PrintMore Go.Proofs.Ytdpfopeofeofcaa.QSp
open Go.Proofs.Ytdpfopeofeofcaa
set_option linter.unusedVariables false
set_option linter.unusedSimpArgs false
/-- Do the ends fit? -/
def endsE (tu : Bool) (ac : Int) (se pe : ByteArray) : Bool := if tu = true then (if ac = 3 then (if (se.size : Int) = (pe.size : Int) then decide ((se.size : Int) = 4 ∨ (se.size : Int) = 16) else false) else false) else se.toList.isEmpty && pe.toList.isEmpty
def checkB (nm pc : Int) (ou inn : Bool) (ac : Int) (en : Bool) : Int := if nm < 0 then 1 else if pc = 0 then (if ou = false ∧ inn = false then 1 else if ac < 1 then 1 else if ac > 3 then 1 else if en = true then 0 else 1) else 1
/-- What spd.Check answers. -/
def checkE (r : S35) : Int := checkB r.f0 (pcheckE r.f1) r.f2 r.f3 r.f4 (endsE r.f5 r.f4 r.f6 r.f7)
def v35 (r : S35) : Value := .agg #[.int .i64 r.f0, .string r.f1.f0.f0, .string r.f1.f0.f1, .string r.f1.f1.f0, .string r.f1.f1.f1, .int .i64 r.f1.f2, .int .i64 r.f1.f3.f0, .int .i64 r.f1.f3.f1, .int .i64 r.f1.f4.f0, .int .i64 r.f1.f4.f1, .bool r.f2, .bool r.f3, .int .i64 r.f4, .bool r.f5, .string r.f6, .string r.f7]
set_option maxHeartbeats 3200000 in
set_option maxRecDepth 100000 in
theorem spdcheck_aux (nm : Int) (a1 a2 a3 a4 : ByteArray) (a5 a6 a7 a8 a9 : Int) (ou inn : Bool) (ac : Int) (tu : Bool) (se pe : ByteArray) (pc : Int) (w : World) (PW : Aside0 (∀ W : World, Calls Try.prog 22 #[.agg #[.string a1, .string a2, .string a3, .string a4, .int .i64 a5, .int .i64 a6, .int .i64 a7, .int .i64 a8, .int .i64 a9]] W fun e w' => e = .returned (.int .i64 pc) ∧ Below W.heap.size W w')) :
    Calls Try.prog 17 #[.agg #[.int .i64 nm, .string a1, .string a2, .string a3, .string a4, .int .i64 a5, .int .i64 a6, .int .i64 a7, .int .i64 a8, .int .i64 a9, .bool ou, .bool inn, .int .i64 ac, .bool tu, .string se, .string pe]] w fun e w' => e = .returned (.int .i64 (checkB nm pc ou inn ac (endsE tu ac se pe))) ∧ Below w.heap.size w w' := by
  have hu35 := Try.underlying35
  have hu33 := Try.underlying33
  go_enter Try.func17, Try.ntmps17
  go_upto_region 1 with (first | ((with_reducible refine gate_dst (N := 1) rfl ?_); refine box_event ?hg (N := 1) ?hd (cs := #[.int .i64 nm, .string a1, .string a2, .string a3, .string a4, .int .i64 a5, .int .i64 a6, .int .i64 a7, .int .i64 a8, .int .i64 a9, .bool ou, .bool inn, .int .i64 ac, .bool tu, .string se, .string pe]) (t := 35) ?hr ?_; (case hd => rfl); (case hg => rfl); (case hr => first | (go_simp; done) | (go_simp; rfl)); intro q1 hq w1 hbox hb; have BKq1 := Aside0.mk hbox; have HQq1 := Aside0.mk (show w.heap.size ≤ q1 from by rw [hq]; exact Nat.le_refl _); have HB1 := Aside0.mk hb; clear hbox hb hq; have z0 : w1.cell? ⟨q1, 0, none⟩ = some (.int .i64 nm) := (blk_cell BKq1.out 0).trans rfl; have z1 : w1.cell? ⟨q1, 1, none⟩ = some (.string a1) := (blk_cell BKq1.out 1).trans rfl; have z2 : w1.cell? ⟨q1, 2, none⟩ = some (.string a2) := (blk_cell BKq1.out 2).trans rfl; have z3 : w1.cell? ⟨q1, 3, none⟩ = some (.string a3) := (blk_cell BKq1.out 3).trans rfl; have z4 : w1.cell? ⟨q1, 4, none⟩ = some (.string a4) := (blk_cell BKq1.out 4).trans rfl; have z5 : w1.cell? ⟨q1, 5, none⟩ = some (.int .i64 a5) := (blk_cell BKq1.out 5).trans rfl; have z6 : w1.cell? ⟨q1, 6, none⟩ = some (.int .i64 a6) := (blk_cell BKq1.out 6).trans rfl; have z7 : w1.cell? ⟨q1, 7, none⟩ = some (.int .i64 a7) := (blk_cell BKq1.out 7).trans rfl; have z8 : w1.cell? ⟨q1, 8, none⟩ = some (.int .i64 a8) := (blk_cell BKq1.out 8).trans rfl; have z9 : w1.cell? ⟨q1, 9, none⟩ = some (.int .i64 a9) := (blk_cell BKq1.out 9).trans rfl; have z10 : w1.cell? ⟨q1, 10, none⟩ = some (.bool ou) := (blk_cell BKq1.out 10).trans rfl; have z11 : w1.cell? ⟨q1, 11, none⟩ = some (.bool inn) := (blk_cell BKq1.out 11).trans rfl; have z12 : w1.cell? ⟨q1, 12, none⟩ = some (.int .i64 ac) := (blk_cell BKq1.out 12).trans rfl; have z13 : w1.cell? ⟨q1, 13, none⟩ = some (.bool tu) := (blk_cell BKq1.out 13).trans rfl; have z14 : w1.cell? ⟨q1, 14, none⟩ = some (.string se) := (blk_cell BKq1.out 14).trans rfl; have z15 : w1.cell? ⟨q1, 15, none⟩ = some (.string pe) := (blk_cell BKq1.out 15).trans rfl; have f0 : w1.frozen? ⟨q1, 0, none⟩ = false := blk_frozen BKq1.out 0; have f1 : w1.frozen? ⟨q1, 1, none⟩ = false := blk_frozen BKq1.out 1; have f2 : w1.frozen? ⟨q1, 2, none⟩ = false := blk_frozen BKq1.out 2; have f3 : w1.frozen? ⟨q1, 3, none⟩ = false := blk_frozen BKq1.out 3; have f4 : w1.frozen? ⟨q1, 4, none⟩ = false := blk_frozen BKq1.out 4; have f5 : w1.frozen? ⟨q1, 5, none⟩ = false := blk_frozen BKq1.out 5; have f6 : w1.frozen? ⟨q1, 6, none⟩ = false := blk_frozen BKq1.out 6; have f7 : w1.frozen? ⟨q1, 7, none⟩ = false := blk_frozen BKq1.out 7; have f8 : w1.frozen? ⟨q1, 8, none⟩ = false := blk_frozen BKq1.out 8; have f9 : w1.frozen? ⟨q1, 9, none⟩ = false := blk_frozen BKq1.out 9; have f10 : w1.frozen? ⟨q1, 10, none⟩ = false := blk_frozen BKq1.out 10; have f11 : w1.frozen? ⟨q1, 11, none⟩ = false := blk_frozen BKq1.out 11; have f12 : w1.frozen? ⟨q1, 12, none⟩ = false := blk_frozen BKq1.out 12; have f13 : w1.frozen? ⟨q1, 13, none⟩ = false := blk_frozen BKq1.out 13; have f14 : w1.frozen? ⟨q1, 14, none⟩ = false := blk_frozen BKq1.out 14; have f15 : w1.frozen? ⟨q1, 15, none⟩ = false := blk_frozen BKq1.out 15))
  go_cut [3] (fun v3 wc => Aside0 (v3 = .bool (se.toList.isEmpty && pe.toList.isEmpty)) ∧ Aside0 (wc = w1))
  case first =>
    by_cases hs : se.toList = []
    · have hs1 : se.toList.isEmpty = true := by rw [hs]; rfl
      clear hs
      by_cases hp : pe.toList = []
      · have hp1 : pe.toList.isEmpty = true := by rw [hp]; rfl
        clear hp
        go_wp2
        go_meet
        case rel => exact ⟨⟨by first | rfl | (simp [hs1, hp1]; done)⟩, ⟨rfl⟩⟩
      · have hp1 : pe.toList.isEmpty = false := by cases hh : pe.toList with | nil => exact absurd hh hp | cons x xs => rfl
        clear hp
        go_wp2
        go_meet
        case rel => exact ⟨⟨by first | rfl | (simp [hs1, hp1]; done)⟩, ⟨rfl⟩⟩
    · have hs1 : se.toList.isEmpty = false := by cases hh : se.toList with | nil => exact absurd hh hs | cons x xs => rfl
      clear hs
      go_wp2
      go_meet
      case rel => exact ⟨⟨by first | rfl | (simp [hs1]; done)⟩, ⟨rfl⟩⟩
  case rest =>
    obtain ⟨h3, hw⟩ := hcut
    obtain rfl := h3.out
    obtain rfl := hw.out
    clear h3 hw
    obtain ⟨e1, he1⟩ : ∃ e1, (se.toList.isEmpty && pe.toList.isEmpty) = e1 := ⟨_, rfl⟩
    rw [he1]
    have HE := Aside0.mk he1
    clear he1
    go_upto_if 13 with (fail)
    go_cut [3] (fun v3 wz => Aside0 (v3 = .bool (endsE tu ac se pe)) ∧ Aside0 (wz = wc))
    case first =>
      cases tu
      · go_wp2
        go_meet
        case rel => exact ⟨⟨by unfold endsE; rw [if_neg (by decide), HE.out]⟩, ⟨rfl⟩⟩
      · clear HE
        by_cases h1 : ac = 3
        · by_cases h2 : (se.size : Int) = (pe.size : Int)
          · have h2b : ((se.size : Int) == (pe.size : Int)) = true := by rw [beq_iff_eq]; exact h2
            by_cases h3 : (se.size : Int) = 4
            · have h3b : ((se.size : Int) == 4) = true := by rw [beq_iff_eq]; exact h3
              have HH := Aside0.mk h2
              have HJ := Aside0.mk h3
              have HK := Aside0.mk h1
              have h1b : (ac == 3) = true := by rw [beq_iff_eq]; exact h1
              clear h1 h2 h3
              go_wp2
              go_meet
              case rel => exact ⟨⟨by unfold endsE; rw [if_pos rfl, if_pos HK.out, if_pos HH.out, decide_eq_true (Or.inl HJ.out)]⟩, ⟨rfl⟩⟩
            · have h3b : ((se.size : Int) == 4) = false := by rw [beq_eq_false_iff_ne]; exact h3
              have HH := Aside0.mk h2
              have HJ := Aside0.mk h3
              have HK := Aside0.mk h1
              have h1b : (ac == 3) = true := by rw [beq_iff_eq]; exact h1
              clear h1 h2 h3
              go_wp2
              go_meet
              case rel => exact ⟨⟨by
                unfold endsE
                rw [if_pos rfl, if_pos HK.out, if_pos HH.out]
                by_cases h : (se.size : Int) = 16
                · simp [h]
                · simp [h, HJ.out]⟩, ⟨rfl⟩⟩
          · have h2b : ((se.size : Int) == (pe.size : Int)) = false := by rw [beq_eq_false_iff_ne]; exact h2
            have HH := Aside0.mk h2
            have HK := Aside0.mk h1
            have h1b : (ac == 3) = true := by rw [beq_iff_eq]; exact h1
            clear h1 h2
            go_wp2
            go_meet
            case rel => exact ⟨⟨by unfold endsE; rw [if_pos rfl, if_pos HK.out, if_neg HH.out]⟩, ⟨rfl⟩⟩
        · have HH := Aside0.mk h1
          have h1b : (ac == 3) = false := by rw [beq_eq_false_iff_ne]; exact h1
          clear h1
          go_wp2
          go_meet
          case rel => exact ⟨⟨by unfold endsE; rw [if_pos rfl, if_neg HH.out]⟩, ⟨rfl⟩⟩
    case rest =>
      obtain ⟨h3, hw⟩ := hcut
      obtain rfl := h3.out
      obtain rfl := hw.out
      clear h3 hw HE
      obtain ⟨en, hen⟩ : ∃ en, endsE tu ac se pe = en := ⟨_, rfl⟩
      rw [hen]
      have HEN := Aside0.mk hen
      clear hen
      by_cases h1 : nm < 0
      · have h1d : decide (nm < 0) = true := decide_eq_true h1
        have HF := Aside0.mk (show checkB nm pc ou inn ac en = 1 from by unfold checkB; rw [if_pos h1])
        clear h1
        go_wp2
        go_ret
        exact ⟨by rw [HEN.out, HF.out] <;> rfl, HB1.out⟩
      · have h1d : decide (nm < 0) = false := decide_eq_false h1
        have HN := Aside0.mk h1
        clear h1
        have b0 : checkB nm pc ou inn ac en = if pc = 0 then (if ou = false ∧ inn = false then 1 else if ac < 1 then 1 else if ac > 3 then 1 else if en = true then 0 else 1) else 1 := by unfold checkB; rw [if_neg HN.out]
        have HF := Aside0.mk b0
        clear b0
        go_wp2_with (fail)
        refine (PW.out _).mono ?_
        rintro e w2 ⟨rfl, hb⟩
        have BKq1 := Aside0.mk (blk_below BKq1.out hb)
        have HB2 := Aside0.mk (HB1.out.trans (hb.mono HB1.out.size))
        clear hb z0 f0 z1 f1 z2 f2 z3 f3 z4 f4 z5 f5 z6 f6 z7 f7 z8 f8 z9 f9 z10 f10 z11 f11 z12 f12 z13 f13 z14 f14 z15 f15
        have z0 : w2.cell? ⟨q1, 0, none⟩ = some (.int .i64 nm) := (blk_cell BKq1.out 0).trans rfl; have z1 : w2.cell? ⟨q1, 1, none⟩ = some (.string a1) := (blk_cell BKq1.out 1).trans rfl; have z2 : w2.cell? ⟨q1, 2, none⟩ = some (.string a2) := (blk_cell BKq1.out 2).trans rfl; have z3 : w2.cell? ⟨q1, 3, none⟩ = some (.string a3) := (blk_cell BKq1.out 3).trans rfl; have z4 : w2.cell? ⟨q1, 4, none⟩ = some (.string a4) := (blk_cell BKq1.out 4).trans rfl; have z5 : w2.cell? ⟨q1, 5, none⟩ = some (.int .i64 a5) := (blk_cell BKq1.out 5).trans rfl; have z6 : w2.cell? ⟨q1, 6, none⟩ = some (.int .i64 a6) := (blk_cell BKq1.out 6).trans rfl; have z7 : w2.cell? ⟨q1, 7, none⟩ = some (.int .i64 a7) := (blk_cell BKq1.out 7).trans rfl; have z8 : w2.cell? ⟨q1, 8, none⟩ = some (.int .i64 a8) := (blk_cell BKq1.out 8).trans rfl; have z9 : w2.cell? ⟨q1, 9, none⟩ = some (.int .i64 a9) := (blk_cell BKq1.out 9).trans rfl; have z10 : w2.cell? ⟨q1, 10, none⟩ = some (.bool ou) := (blk_cell BKq1.out 10).trans rfl; have z11 : w2.cell? ⟨q1, 11, none⟩ = some (.bool inn) := (blk_cell BKq1.out 11).trans rfl; have z12 : w2.cell? ⟨q1, 12, none⟩ = some (.int .i64 ac) := (blk_cell BKq1.out 12).trans rfl; have z13 : w2.cell? ⟨q1, 13, none⟩ = some (.bool tu) := (blk_cell BKq1.out 13).trans rfl; have z14 : w2.cell? ⟨q1, 14, none⟩ = some (.string se) := (blk_cell BKq1.out 14).trans rfl; have z15 : w2.cell? ⟨q1, 15, none⟩ = some (.string pe) := (blk_cell BKq1.out 15).trans rfl; have f0 : w2.frozen? ⟨q1, 0, none⟩ = false := blk_frozen BKq1.out 0; have f1 : w2.frozen? ⟨q1, 1, none⟩ = false := blk_frozen BKq1.out 1; have f2 : w2.frozen? ⟨q1, 2, none⟩ = false := blk_frozen BKq1.out 2; have f3 : w2.frozen? ⟨q1, 3, none⟩ = false := blk_frozen BKq1.out 3; have f4 : w2.frozen? ⟨q1, 4, none⟩ = false := blk_frozen BKq1.out 4; have f5 : w2.frozen? ⟨q1, 5, none⟩ = false := blk_frozen BKq1.out 5; have f6 : w2.frozen? ⟨q1, 6, none⟩ = false := blk_frozen BKq1.out 6; have f7 : w2.frozen? ⟨q1, 7, none⟩ = false := blk_frozen BKq1.out 7; have f8 : w2.frozen? ⟨q1, 8, none⟩ = false := blk_frozen BKq1.out 8; have f9 : w2.frozen? ⟨q1, 9, none⟩ = false := blk_frozen BKq1.out 9; have f10 : w2.frozen? ⟨q1, 10, none⟩ = false := blk_frozen BKq1.out 10; have f11 : w2.frozen? ⟨q1, 11, none⟩ = false := blk_frozen BKq1.out 11; have f12 : w2.frozen? ⟨q1, 12, none⟩ = false := blk_frozen BKq1.out 12; have f13 : w2.frozen? ⟨q1, 13, none⟩ = false := blk_frozen BKq1.out 13; have f14 : w2.frozen? ⟨q1, 14, none⟩ = false := blk_frozen BKq1.out 14; have f15 : w2.frozen? ⟨q1, 15, none⟩ = false := blk_frozen BKq1.out 15
        by_cases h2 : pc = 0
        · subst h2
          cases ou
          · cases inn
            · go_wp2
              go_ret
              exact ⟨congrArg (fun x => Ending.returned (.int .i64 x)) (show (1 : Int) = _ from by rw [HEN.out, HF.out]; simp), HB2.out⟩
            · by_cases h4 : ac < 1
              · have h4d : decide (ac < 1) = true := decide_eq_true h4
                have H4 := Aside0.mk h4
                clear h4
                go_wp2
                go_ret
                exact ⟨congrArg (fun x => Ending.returned (.int .i64 x)) (show (1 : Int) = _ from by rw [HEN.out, HF.out]; have h4 := H4.out; (repeat' split) <;> first | rfl | omega | (exfalso; simp_all; done)), HB2.out⟩
              · have h4d : decide (ac < 1) = false := decide_eq_false h4
                have H4 := Aside0.mk h4
                clear h4
                by_cases h5 : 3 < ac
                · have h5d : decide (3 < ac) = true := decide_eq_true h5
                  have H5 := Aside0.mk h5
                  clear h5
                  go_wp2
                  go_ret
                  exact ⟨congrArg (fun x => Ending.returned (.int .i64 x)) (show (1 : Int) = _ from by rw [HEN.out, HF.out]; have h4 := H4.out; have h5 := H5.out; (repeat' split) <;> first | rfl | omega | (exfalso; simp_all; done)), HB2.out⟩
                · have h5d : decide (3 < ac) = false := decide_eq_false h5
                  have H5 := Aside0.mk h5
                  clear h5
                  cases en
                  · go_wp2
                    go_ret
                    exact ⟨congrArg (fun x => Ending.returned (.int .i64 x)) (show (1 : Int) = _ from by rw [HEN.out, HF.out]; have h4 := H4.out; have h5 := H5.out; (repeat' split) <;> first | rfl | omega | (exfalso; simp_all; done)), HB2.out⟩
                  · go_wp2
                    go_ret
                    exact ⟨congrArg (fun x => Ending.returned (.int .i64 x)) (show (0 : Int) = _ from by rw [HEN.out, HF.out]; have h4 := H4.out; have h5 := H5.out; (repeat' split) <;> first | rfl | omega | (exfalso; simp_all; done)), HB2.out⟩
          · by_cases h4 : ac < 1
            · have h4d : decide (ac < 1) = true := decide_eq_true h4
              have H4 := Aside0.mk h4
              clear h4
              go_wp2
              go_ret
              exact ⟨congrArg (fun x => Ending.returned (.int .i64 x)) (show (1 : Int) = _ from by rw [HEN.out, HF.out]; have h4 := H4.out; (repeat' split) <;> first | rfl | omega | (exfalso; simp_all; done)), HB2.out⟩
            · have h4d : decide (ac < 1) = false := decide_eq_false h4
              have H4 := Aside0.mk h4
              clear h4
              by_cases h5 : 3 < ac
              · have h5d : decide (3 < ac) = true := decide_eq_true h5
                have H5 := Aside0.mk h5
                clear h5
                go_wp2
                go_ret
                exact ⟨congrArg (fun x => Ending.returned (.int .i64 x)) (show (1 : Int) = _ from by rw [HEN.out, HF.out]; have h4 := H4.out; have h5 := H5.out; (repeat' split) <;> first | rfl | omega | (exfalso; simp_all; done)), HB2.out⟩
              · have h5d : decide (3 < ac) = false := decide_eq_false h5
                have H5 := Aside0.mk h5
                clear h5
                cases en
                · go_wp2
                  go_ret
                  exact ⟨congrArg (fun x => Ending.returned (.int .i64 x)) (show (1 : Int) = _ from by rw [HEN.out, HF.out]; have h4 := H4.out; have h5 := H5.out; (repeat' split) <;> first | rfl | omega | (exfalso; simp_all; done)), HB2.out⟩
                · go_wp2
                  go_ret
                  exact ⟨congrArg (fun x => Ending.returned (.int .i64 x)) (show (0 : Int) = _ from by rw [HEN.out, HF.out]; have h4 := H4.out; have h5 := H5.out; (repeat' split) <;> first | rfl | omega | (exfalso; simp_all; done)), HB2.out⟩
        · have h2b : (pc != 0) = true := by rw [bne_iff_ne]; exact h2
          have H2 := Aside0.mk h2
          clear h2
          go_wp2
          go_ret
          exact ⟨by rw [HEN.out, HF.out, if_neg H2.out] <;> rfl, HB2.out⟩
theorem spdcheck_walk (r : S35) (w : World) : Calls Try.prog 17 #[v35 r] w fun e w' => e = .returned (.int .i64 (checkE r)) ∧ Below w.heap.size w w' :=
  spdcheck_aux _ _ _ _ _ _ _ _ _ _ _ _ _ _ _ _ (pcheckE r.f1) w (Aside0.mk fun W => pcheck_walk r.f1 W)
end Go.Proofs.Ytdpfopeofeofcaa.Sp
namespace Go.Proofs.Ytdpfopeofeofcaa.Sp
open Go.RowKit Go.Proofs.YtdpfopeofeofcaaW.PrintWords Go.Proofs.YtdpfopeofeofcaaW.PrintLast Go.Proofs.YtdpfopeofeofcaaW.PrintMore Go.Proofs.Ytdpfopeofeofcaa.QSp
open Go.Proofs.Ytdpfopeofeofcaa
set_option linter.unusedVariables false
set_option linter.unusedSimpArgs false
theorem eqA24 (d : Nat) (w : World) (x0 y0 : ByteArray) (x1 y1 : ByteArray) (x2 y2 : Int) (x3 y3 : Int) (x4 y4 : Int) :
    (Op.equalIn (d + 2) 24 (.agg #[.string x0, .string x1, .int .i64 x2, .int .i64 x3, .int .i64 x4]) (.agg #[.string y0, .string y1, .int .i64 y2, .int .i64 y3, .int .i64 y4])).run Try.prog w = .ok (x0.toList == y0.toList && (x1.toList == y1.toList && (x2 == y2 && (x3 == y3 && (x4 == y4))))) w := by
  refine eqA_of Try.underlying24 (by kernel_rfl) ?_
  refine eqf_cons (by rfl) (by go_simp; rfl) (by go_simp; rfl) (by go_simp) ?_
  refine eqf_cons (by rfl) (by go_simp; rfl) (by go_simp; rfl) (by go_simp) ?_
  refine eqf_cons (by rfl) (by go_simp; rfl) (by go_simp; rfl) (by go_simp) ?_
  refine eqf_cons (by rfl) (by go_simp; rfl) (by go_simp; rfl) (by go_simp) ?_
  exact eqf_last (by rfl) (by go_simp; rfl) (by go_simp; rfl) (by go_simp)
/-- A key. -/
def keyV (f : S24) (o : Bool) : Value := .agg #[.string f.f0, .string f.f1, .int .i64 f.f2, .int .i64 f.f3, .int .i64 f.f4, .bool o]
def keyEq (f g : S24) (o p : Bool) : Bool := (f.f0.toList == g.f0.toList && (f.f1.toList == g.f1.toList && (f.f2 == g.f2 && (f.f3 == g.f3 && (f.f4 == g.f4))))) && (o == p)
theorem eqA62 (d : Nat) (w : World) (f g : S24) (o p : Bool) :
    (Op.equalIn (d + 3) 62 (keyV f o) (keyV g p)).run Try.prog w = .ok (keyEq f g o p) w := by
  unfold keyV
  refine eqA_of Try.underlying62 (by kernel_rfl) ?_
  refine eqf_cons (by rfl) (by go_simp) (by go_simp) (eqA24 (d + 0) w _ _ _ _ _ _ _ _ _ _) ?_
  exact eqf_last (by rfl) (by go_simp; rfl) (by go_simp; rfl) (by go_simp)
theorem keyEq_iff {f g : S24} {o p : Bool} (h : keyEq f g o p = true) : f = g ∧ o = p := by
  unfold keyEq at h
  simp only [Bool.and_eq_true, beq_iff_eq] at h
  obtain ⟨⟨h0, h1, h2, h3, h4⟩, h5⟩ := h
  have e0 : f.f0 = g.f0 := by rw [ByteArray.toList_eq, ByteArray.toList_eq] at h0; exact ByteArray.ext (Array.ext' h0)
  have e1 : f.f1 = g.f1 := by rw [ByteArray.toList_eq, ByteArray.toList_eq] at h1; exact ByteArray.ext (Array.ext' h1)
  cases f; cases g
  simp_all
theorem check62 (em : Bool) (n : Nat) (f : S24) (o : Bool) (w : World) : (Instr.checkKey em (n + 3) 62 (keyV f o)).run Try.prog w = .ok () w := by
  have hu62 := Try.underlying62
  have hu24 := Try.underlying24
  have h24 : ∀ w, (Instr.checkKey em (n + 2) 24 (.agg #[.string f.f0, .string f.f1, .int .i64 f.f2, .int .i64 f.f3, .int .i64 f.f4])).run Try.prog w = .ok () w := fun w => by
    have h3 : ∀ x w, (Instr.checkKey em (n + 1) 3 (.int .i64 x)).run Try.prog w = .ok () w := fun x w => by
      rw [Instr.checkKey]
      go_simp
    have h9 : ∀ x w, (Instr.checkKey em (n + 1) 9 (.string x)).run Try.prog w = .ok () w := fun x w => by
      rw [Instr.checkKey]
      go_simp
    rw [Instr.checkKey]
    go_simp
  have h4 : ∀ w, (Instr.checkKey em (n + 2) 4 (.bool o)).run Try.prog w = .ok () w := fun w => by
    rw [Instr.checkKey]
    go_simp
  unfold keyV
  rw [Instr.checkKey]
  go_simp
/-- The rule is for the flow. -/
def hitB (f : S24) (o : Bool) (r : S35) : Bool := (o && r.f2 || !o && r.f3) && matchE r.f1 f
def idxF (l : List S35) (f : S24) (o : Bool) : Int := if l.findIdx (hitB f o) < l.length then (l.findIdx (hitB f o) : Int) else -1
/-- What is kept is right. -/
def Kept (l : List S35) (es : List MapEntry) : Prop := ∀ e ∈ es, ∃ f o, e.key = keyV f o ∧ e.val = .int .i64 (idxF l f o)
theorem find62 (l : List S35) (f : S24) (o : Bool) : ∀ (es : List MapEntry) (i : Nat), Kept l es → ∃ r, (∀ w, (Instr.findAsking 62 (keyV f o) es i).run Try.prog w = .ok r w) ∧ (r = none ∨ ∃ j, r = some (j, .int .i64 (idxF l f o)))
  | [], i, h => ⟨none, fun w => by simp [Instr.findAsking], .inl rfl⟩
  | e :: es, i, h => by
    obtain ⟨g, p, hk, hv⟩ := h e (by simp)
    have e1 : ∀ w, (Op.equal 62 (keyV f o) e.key).run Try.prog w = .ok (keyEq f g o p) w := fun w => by
      rw [hk]
      exact eqA62 _ w f g o p
    by_cases hq : keyEq f g o p = true
    · refine ⟨some (i, e.val), fun w => ?_, .inr ⟨i, ?_⟩⟩
      · rw [Instr.findAsking]
        simp only [Sem.run_bind, e1, Result.andThen_ok, hq, if_true, Sem.run_pure]
      · obtain ⟨rfl, rfl⟩ := keyEq_iff hq
        rw [hv]
    · obtain ⟨r, hr, hr'⟩ := find62 l f o es (i + 1) (fun e' he' => h e' (by simp [he']))
      refine ⟨r, fun w => ?_, hr'⟩
      rw [Instr.findAsking]
      simp only [Sem.run_bind, e1, Result.andThen_ok]
      rw [if_neg hq]
      exact hr w
theorem findK (f : S24) (o : Bool) (es : List MapEntry) (w : World) : (Instr.findKey 62 (keyV f o) es).run Try.prog w = (Instr.findAsking 62 (keyV f o) es).run Try.prog w :=
  run_findKey_eq w (by rw [Try.underlying62]) _ _
/-- The map is laid anew. -/
def putM (w : World) (m : Nat) (es : Array MapEntry) (clock : Nat) : World := { w with heap := w.heap.setIfInBounds m (.map es clock) }
theorem look54 {l : List S35} {es : Array MapEntry} (h : Kept l es.toList) (f : S24) (o : Bool) :
    ∃ v ok, (∀ m clock w, w.heap[m]? = some (.map es clock) → (Instr.lookup 54 (.map (some m)) (keyV f o) true).run Try.prog w = .ok (.tuple #[.int .i64 v, .bool ok]) w) ∧ (ok = true → v = idxF l f o) ∧ (ok = false → ∀ w, (Instr.findAsking 62 (keyV f o) es.toList).run Try.prog w = .ok none w) := by
  have hu54 := Try.underlying54
  obtain ⟨r, hr, hr'⟩ := find62 l f o es.toList 0 h
  rcases hr' with rfl | ⟨j, rfl⟩
  · refine ⟨0, false, fun m clock w hb => ?_, (fun h => by cases h), fun _ => hr⟩
    have hz : (zeroValue 3).run Try.prog w = .ok (.int .i64 0) w := by go_simp
    have hg := run_getObj_map (P := Try.prog) w m es clock hb
    have hc := check62 es.isEmpty 9997 f o w
    simp only [Instr.lookup, Sem.run_bind, run_underlying hu54, Result.andThen_ok, hg, Sem.run_pure, hc, findK, hr, hz]
    rfl
  · refine ⟨idxF l f o, true, fun m clock w hb => ?_, fun _ => rfl, (fun h => by cases h)⟩
    have hg := run_getObj_map (P := Try.prog) w m es clock hb
    have hc := check62 es.isEmpty 9997 f o w
    simp only [Instr.lookup, Sem.run_bind, run_underlying hu54, Result.andThen_ok, hg, Sem.run_pure, hc, findK, hr]
    rfl
theorem upd54 {es : Array MapEntry} (f : S24) (o : Bool) (h : ∀ w, (Instr.findAsking 62 (keyV f o) es.toList).run Try.prog w = .ok none w) (v : Value) (m clock : Nat) (w : World) (hb : w.heap[m]? = some (.map es clock)) :
    (Instr.mapUpdate 54 (.map (some m)) (keyV f o) v).run Try.prog w = .ok () (putM w m (es.push { key := keyV f o, val := v, born := clock }) (clock + 1)) := by
  have hu54 := Try.underlying54
  have hg := run_getObj_map (P := Try.prog) w m es clock hb
  have hc := check62 false 9997 f o w
  have hs : (setObj m (.map (es.push { key := keyV f o, val := v, born := clock }) (clock + 1))).run Try.prog w = .ok () (putM w m (es.push { key := keyV f o, val := v, born := clock }) (clock + 1)) := MapKept.run_setObj_map _ hb
  simp only [Instr.mapUpdate, Sem.run_bind, run_underlying hu54, Result.andThen_ok, hg, hc, findK, h, hs]
theorem clear54 (ty : TypeId) {es : Array MapEntry} (m clock : Nat) (w : World) (hb : w.heap[m]? = some (.map es clock)) :
    (Builtin.clear_ #[54] ty #[.map (some m)]).run Try.prog w = .ok (.tuple #[]) (putM w m #[] clock) := by
  have hu54 := Try.underlying54
  have hg := run_getObj_map (P := Try.prog) w m es clock hb
  have hs : (setObj m (.map #[] clock)).run Try.prog w = .ok () (putM w m #[] clock) := MapKept.run_setObj_map _ hb
  simp [Builtin.clear_, Sem.run_bind, run_underlying hu54, Result.andThen_ok, hg, hs]
theorem putM_blk {w : World} {m : Nat} {es es' : Array MapEntry} {clock clock' : Nat} (hb : w.heap[m]? = some (.map es clock)) : (putM w m es' clock').heap[m]? = some (.map es' clock') := by
  have hm := (Array.getElem?_eq_some_iff.1 hb).1
  show (w.heap.setIfInBounds m _)[m]? = _
  rw [Array.getElem?_setIfInBounds_self_of_lt hm]
theorem putM_far {w : World} {m k : Nat} (es : Array MapEntry) (clock : Nat) (h : k ≠ m) : (putM w m es clock).heap[k]? = w.heap[k]? := by
  show (w.heap.setIfInBounds m _)[k]? = _
  rw [Array.getElem?_setIfInBounds_ne (Ne.symm h)]
theorem putM_size (w : World) (m : Nat) (es : Array MapEntry) (clock : Nat) : (putM w m es clock).heap.size = w.heap.size := by
  show (w.heap.setIfInBounds m _).size = _
  simp
end Go.Proofs.Ytdpfopeofeofcaa.Sp
namespace Go.Proofs.Ytdpfopeofeofcaa.Sp
open Go.RowKit Go.Proofs.YtdpfopeofeofcaaW.PrintWords Go.Proofs.YtdpfopeofeofcaaW.PrintLast Go.Proofs.YtdpfopeofeofcaaW.PrintMore Go.Proofs.Ytdpfopeofeofcaa.QSp
open Go.Proofs.Ytdpfopeofeofcaa
set_option linter.unusedVariables false
set_option linter.unusedSimpArgs false
/-- A call of a function value. -/
theorem goesV_ {P : Program} {ops : Array Oper} {Q : Exit → Act → World → Prop} {oi : Oper} {N : Option Tmp} {a : Act} {w : World} {K : Act → World → Prop} {f : FuncId} {fn : Func} {x : Operand} {xs : Array Operand} {ts : Array TypeId} (hf : P.funcs[f]? = some fn) (hname : (fn.name == "runtime.NumGoroutine") = false) (hb : fn.body.isSome = true) (args : Array Value)
    (hw : Region.wanted oi (yielded ops a.tmps) = true) (hN : oi.dst = N) (hop : oi.op = .call { callee := .value x, args := xs, argTypes := ts }) (hx : a.eval x = .func (.func f) #[] #[]) (hargs : xs.map a.eval = args)
    (h : Calls P f args w fun e w' => ∃ v, e = .returned v ∧ K (a.put N v) w') : if Region.wanted oi (yielded ops a.tmps) = true then Oper.wp P oi a w K Q else K (a.put oi.dst undef) w := by
  subst hN
  refine call_ f args hw rfl ?_ h
  have he := enters_ hf hname hb args w
  unfold execOp
  simp [hop, resolve, Deferred.ofValue, invoke, hx, hargs, he]
theorem load_run {P : Program} {o : Oper} {a : Act} {W : World} (ty : TypeId) (x : Operand) (g : Nat) (cs : Array Value) (ho : o.op = .load ty x) (hx : a.eval x = .pointer (some ⟨g, 0, none⟩)) (h : (loadVar ty ⟨g, 0, none⟩).run P W = .ok (.agg cs) W) : (execOp a.eval o).run P W = .ok (.value (.agg cs)) W := by
  unfold execOp
  simp only [ho, hx, Instr.loadAt, Instr.sureAddr, Sem.run_bind, Sem.run_pure, Result.andThen_ok, h]
/-- A policy in memory: its block, its row, its map. -/
structure SpdO (w : World) (base q m : Nat) (v : Value) (l : List S35) : Prop where
  blk : w.heap[q]? = some (.cells #[v, .map (some m)] 56 (0, 0))
  map : ∃ es clock, w.heap[m]? = some (.map es clock) ∧ Kept l es.toList
  own : OwnT w base v l
  low : base ≤ q
  lom : base ≤ m
/-- What a call may turn: the policy's block, its map and its row. -/
structure Turn (w w' : World) (q m : Nat) (v v' : Value) : Prop where
  os : w'.os = w.os
  tape : w'.tape = w.tape
  output : w'.output = w.output
  size : w.heap.size ≤ w'.heap.size
  block : ∀ k, k < w.heap.size → k ≠ q → k ≠ m → some k ≠ v.ownBlock → w'.heap[k]? = w.heap[k]?
  row : ∀ k, v'.ownBlock = some k → v.ownBlock = some k ∨ w.heap.size ≤ k
theorem Turn.of_below {w w' : World} (h : Below w.heap.size w w') (q m : Nat) (v : Value) : Turn w w' q m v v := ⟨h.os, h.tape, h.output, h.size, fun k hk _ _ _ => h.block k hk, fun k hk => .inl hk⟩
theorem SpdO.below {w w' : World} {base q m : Nat} {v : Value} {l : List S35} (h : SpdO w base q m v l) (hb : Below w.heap.size w w') : SpdO w' base q m v l :=
  ⟨blk_below h.blk hb, (let ⟨es, c, h1, h2⟩ := h.map; ⟨es, c, blk_below h1 hb, h2⟩), pw_own_below h.own hb, h.low, h.lom⟩
theorem own_slice' {w : World} {base : Nat} {v : Value} {l : List S35} (h : OwnT w base v l) : ∃ A c, v = .slice A l.length c ∧ l.length ≤ c ∧ c ≤ maxLen := by
  rcases h.2 with ⟨e, h1⟩ | ⟨g, cap, cur, hv, hb, hh, h1, h2, h3, h4⟩
  · exact ⟨none, 0, by rw [e, h1], by omega, by unfold maxLen; omega⟩
  · exact ⟨_, cap, hv, h1, h2⟩
theorem own_neT {w : World} {base q : Nat} {v : Value} {l : List S35} {cs : Array Value} {t : TypeId} (h : OwnT w base v l) (hb : w.heap[q]? = some (.cells cs t (0, 0))) (ht : 35 ≠ t) : some q ≠ v.ownBlock := own_ne h hb ht
theorem own_neM {w : World} {base m clock : Nat} {v : Value} {l : List S35} {es : Array MapEntry} (h : OwnT w base v l) (hb : w.heap[m]? = some (.map es clock)) : some m ≠ v.ownBlock := by
  rcases h.2 with ⟨rfl, _⟩ | ⟨g', cap, cur, rfl, _, hh, _⟩
  · simp [Value.ownBlock]
  · intro he
    have : m = g' := by simpa [Value.ownBlock] using he
    subst this
    rw [hh] at hb
    cases hb
theorem blk_neM {w : World} {q m clock : Nat} {es : Array MapEntry} {cs : Array Value} {t : TypeId} (h : w.heap[q]? = some (.cells cs t (0, 0))) (hb : w.heap[m]? = some (.map es clock)) : q ≠ m := by
  rintro rfl
  rw [h] at hb
  cases hb
theorem kept_nil (l : List S35) : Kept l [] := fun e he => by simp at he
/-- The row and the block stand; the map is laid anew. -/
theorem SpdO.lay {w w9 : World} {base q m clock clock' : Nat} {v v' : Value} {l' : List S35} {es es' : Array MapEntry} (hb : w9.heap[q]? = some (.cells #[v', .map (some m)] 56 (0, 0))) (hm : w9.heap[m]? = some (.map es clock)) (ho : OwnT w9 base v' l') (low : base ≤ q) (lom : base ≤ m) (hk : Kept l' es'.toList)
    (ht : Turn w w9 q m v v') : SpdO (putM w9 m es' clock') base q m v' l' ∧ Turn w (putM w9 m es' clock') q m v v' := by
  refine ⟨⟨(putM_far _ _ (blk_neM hb hm)).trans hb, ⟨es', clock', putM_blk hm, hk⟩, own_move ho fun k hk => putM_far _ _ (fun e => own_neM ho hm (by rw [← e, hk])), low, lom⟩, ht.os, ht.tape, ht.output, ?_, fun k hk h1 h2 h3 => (putM_far _ _ h2).trans (ht.block k hk h1 h2 h3), ht.row⟩
  rw [putM_size]
  exact ht.size
theorem isz35 : (Try.prog.info? 35).map (·.size) = some 16 := by kernel_rfl
/-- The calls' answers. -/
def addF (l : List S35) (i : Int) (r : S35) : List S35 × Int :=
  if checkE r = 0 then (if i < 0 then (l, 1) else if (l.length : Int) < i then (l, 1) else if (64 : Int) ≤ (l.length : Int) then (l, 7) else (l.take i.toNat ++ r :: l.drop i.toNat, 0)) else (l, 1)
def remF (l : List S35) (i : Int) : List S35 × Int := if i < 0 then (l, 6) else if (l.length : Int) ≤ i then (l, 6) else (l.eraseIdx i.toNat, 0)
def SpCall (F : List S35 × Int) (w : World) (base q m : Nat) (v : Value) (e : Ending) (w' : World) : Prop := ∃ v', e = .returned (.int .i64 F.2) ∧ SpdO w' base q m v' F.1 ∧ Turn w w' q m v v'
set_option maxHeartbeats 1600000 in
set_option maxRecDepth 100000 in
theorem new_call (w : World) : Calls Try.prog 8 #[] w fun e w' => (∃ q m, e = .returned (.pointer (some ⟨q, 0, none⟩)) ∧ w.heap.size ≤ q ∧ SpdO w' w.heap.size q m (.slice none 0 0) []) ∧ Below w.heap.size w w' := by
  have hmm := @run_makeMap Try.prog
  go_enter Try.func8, Try.ntmps8
  go_wp2
  go_ret
  refine ⟨⟨_, w.heap.size, rfl, by simp, ?_, ⟨#[], 0, ?_, kept_nil _⟩, ⟨rfl, .inl ⟨rfl, rfl⟩⟩, by simp, Nat.le_refl _⟩, below_alloc (below_alloc (Below.refl _ _) _) _⟩
  · have h := blk_new (w.alloc (.map #[] 0)) (.cells #[.slice none 0 0, .map (some w.heap.size)] 56)
    simpa using h
  · have h := blk_new w (.map #[] 0)
    rw [heap_alloc_old _ _ (blk_lt h)]
    exact h
set_option maxHeartbeats 1600000 in
set_option maxRecDepth 100000 in
theorem list_call {w : World} {base q m : Nat} {v : Value} {l : List S35} (h : SpdO w base q m v l) (hlim : l.length ≤ 1000) : Calls Try.prog 11 #[.pointer (some ⟨q, 0, none⟩)] w fun e w' => (∃ v', e = .returned v' ∧ k35.R 35 w' w.heap.size (fun _ => True) v' l) ∧ Below w.heap.size w w' := by
  obtain ⟨A, c, rfl, _, _⟩ := own_slice' h.own
  have CW := Aside0.mk (clone_walk A c l w (Kd.R_reads' (R_of_own h.own)).2.2 (by omega))
  have c0 : w.cell? ⟨q, 0, none⟩ = some (.slice A l.length c) := (blk_cell h.blk 0).trans rfl
  clear h hlim
  go_enter Try.func11, Try.ntmps11
  go_wp2_with (fail)
  refine CW.out.mono ?_
  rintro e w1 ⟨⟨v', rfl, hr⟩, hb⟩
  have HR := Aside0.mk hr
  clear hr
  go_wp2_with (fail)
  go_ret
  exact ⟨⟨_, rfl, HR.out⟩, hb⟩
set_option maxHeartbeats 1600000 in
set_option maxRecDepth 100000 in
theorem list_nil (w : World) : Calls Try.prog 11 #[.pointer none] w fun e w' => e = .returned (.slice none 0 0) ∧ Below w.heap.size w w' := by
  go_enter Try.func11, Try.ntmps11
  go_wp2
  go_ret
  exact ⟨rfl, Below.refl _ _⟩
set_option maxHeartbeats 1600000 in
set_option maxRecDepth 100000 in
theorem rem_nil (i : Int) (w : World) : Calls Try.prog 9 #[.pointer none, .int .i64 i] w fun e w' => e = .returned (.int .i64 3) ∧ Below w.heap.size w w' := by
  go_enter Try.func9, Try.ntmps9
  go_wp2
  go_ret
  exact ⟨rfl, Below.refl _ _⟩
set_option maxHeartbeats 1600000 in
set_option maxRecDepth 100000 in
theorem add_nil (i : Int) (r : S35) (w : World) : Calls Try.prog 10 #[.pointer none, .int .i64 i, v35 r] w fun e w' => e = .returned (.int .i64 3) ∧ Below w.heap.size w w' := by
  unfold v35
  obtain ⟨f0, ⟨⟨p0, p1⟩, ⟨p2, p3⟩, p4, ⟨p5, p6⟩, ⟨p7, p8⟩⟩, f2, f3, f4, f5, f6, f7⟩ := r
  dsimp only
  go_enter Try.func10, Try.ntmps10
  go_wp2_with (first | ((with_reducible refine gate_dst (N := 5) rfl ?_); refine box_event ?hg (N := 5) ?hd (cs := #[.int .i64 f0, .string p0, .string p1, .string p2, .string p3, .int .i64 p4, .int .i64 p5, .int .i64 p6, .int .i64 p7, .int .i64 p8, .bool f2, .bool f3, .int .i64 f4, .bool f5, .string f6, .string f7]) (t := 35) ?hr ?_; (case hd => rfl); (case hg => rfl); (case hr => first | (go_simp; done) | (go_simp; rfl)); intro q1 hq w1 hbox hb; have BKq1 := Aside0.mk hbox; have HQq1 := Aside0.mk (show w.heap.size ≤ q1 from by rw [hq]; exact Nat.le_refl _); have HB1 := Aside0.mk hb; clear hbox hb hq))
  go_ret
  exact ⟨rfl, HB1.out⟩
set_option maxHeartbeats 1600000 in
set_option maxRecDepth 100000 in
theorem rem_call {w : World} {base q m : Nat} {v : Value} {l : List S35} (h : SpdO w base q m v l) (hlim : l.length ≤ 1000) (i : Int) : Calls Try.prog 9 #[.pointer (some ⟨q, 0, none⟩), .int .i64 i] w (SpCall (remF l i) w base q m v) := by
  obtain ⟨A, c, rfl, _, _⟩ := own_slice' h.own
  have HO := Aside0.mk h
  have c0 : w.cell? ⟨q, 0, none⟩ = some (.slice A l.length c) := (blk_cell h.blk 0).trans rfl
  obtain ⟨n, hn⟩ : ∃ n, l.length = n := ⟨_, rfl⟩
  have HN := Aside0.mk hn
  by_cases h1 : i < 0
  · have hF := Aside0.mk (show remF l i = (l, 6) from if_pos h1)
    have d1 : decide (i < 0) = true := decide_eq_true h1
    clear h h1
    rw [hn] at c0 hlim HO ⊢
    clear hn
    go_enter Try.func9, Try.ntmps9
    go_wp2
    go_ret
    refine ⟨_, by rw [hF.out] <;> rfl, by rw [hF.out]; exact HO.out, Turn.of_below (Below.refl _ _) _ _ _⟩
  · have d1 : decide (i < 0) = false := decide_eq_false h1
    by_cases h2 : (n : Int) ≤ i
    · have hF := Aside0.mk (show remF l i = (l, 6) from (if_neg h1).trans (if_pos (by rw [hn]; exact h2)))
      have d2 : decide ((n : Int) ≤ i) = true := decide_eq_true h2
      clear h h1 h2
      rw [hn] at c0 hlim HO ⊢
      clear hn
      go_enter Try.func9, Try.ntmps9
      go_wp2
      go_ret
      refine ⟨_, by rw [hF.out] <;> rfl, by rw [hF.out]; exact HO.out, Turn.of_below (Below.refl _ _) _ _ _⟩
    · have d2 : decide ((n : Int) ≤ i) = false := decide_eq_false h2
      have hF := Aside0.mk (show remF l i = (l.eraseIdx i.toNat, 0) from (if_neg h1).trans (if_neg (by rw [hn]; exact h2)))
      obtain ⟨j, rfl⟩ : ∃ j : Nat, i = (j : Int) := ⟨i.toNat, by omega⟩
      rw [Int.toNat_natCast] at hF
      have hj : j < l.length := by omega
      obtain ⟨g, cur, hA, hnl, _, _, _, _, _, _⟩ := own_form h.own (by omega)
      subst hA
      obtain ⟨es, clock, hm, hk⟩ := h.map
      have HM := Aside0.mk hm
      have DW := Aside0.mk (delete_walk base g c l j w h.own hlim hj (by have := h.low; have := blk_lt h.blk; omega))
      have hj1 : IntKind.i64.wrap ((j : Int) + 1) = (j : Int) + 1 := IntWalk.i64_in _ (by omega)
      rw [hn] at DW
      have d2n : decide (n ≤ j) = false := decide_eq_false (by omega)
      clear h h1 h2 hnl hj hm hk
      rw [hn] at c0 hlim HO ⊢
      clear hn
      go_enter Try.func9, Try.ntmps9
      go_wp2_with (fail)
      refine DW.out.mono ?_
      rintro e w5 ⟨rfl, ho, hg⟩
      have HO5 := Aside0.mk ho
      have HG5 := Aside0.mk hg
      have BK5 := Aside0.mk (blk_grown HO.out.blk hg (fun e => own_neT HO.out.own HO.out.blk (by decide) e))
      have BM5 := Aside0.mk (blk_grown HM.out hg (fun e => own_neM HO.out.own HM.out e))
      clear ho hg c0
      have c0 : w5.cell? ⟨q, 0, none⟩ = some (.slice (some ⟨g, 0, none⟩) n c) := (blk_cell BK5.out 0).trans rfl
      have f0 : w5.frozen? ⟨q, 0, none⟩ = false := blk_frozen BK5.out 0
      have B6 := Aside0.mk (show (w5.setCell ⟨q, 0, none⟩ (.slice (some ⟨g, 0, none⟩) (n - 1) c)).heap[q]? = some (.cells #[.slice (some ⟨g, 0, none⟩) (n - 1) c, .map (some m)] 56 (0, 0)) from (blk_set BK5.out 0 _).trans rfl)
      have M6 := Aside0.mk (show (w5.setCell ⟨q, 0, none⟩ (.slice (some ⟨g, 0, none⟩) (n - 1) c)).heap[m]? = some (.map es clock) from (Below.heap_setCell w5 ⟨q, 0, none⟩ _ m (Ne.symm (blk_neM BK5.out BM5.out))).trans BM5.out)
      have HT := Aside0.mk (show OwnT (w5.setCell ⟨q, 0, none⟩ (.slice (some ⟨g, 0, none⟩) (n - 1) c)) base (.slice (some ⟨g, 0, none⟩) (n - 1) c) (l.eraseIdx j) ∧ Turn w (w5.setCell ⟨q, 0, none⟩ (.slice (some ⟨g, 0, none⟩) (n - 1) c)) q m (.slice (some ⟨g, 0, none⟩) n c) (.slice (some ⟨g, 0, none⟩) (n - 1) c) from by
        have hq : some q ≠ (Value.slice (some ⟨g, 0, none⟩) (n - 1) c).ownBlock := own_neT HO5.out BK5.out (by decide)
        refine ⟨own_setCell HO5.out hq _, HG5.out.os, HG5.out.tape, HG5.out.output, ?_, fun k hk h1 h2 h3 => ?_, fun k hk => .inl hk⟩
        · have e : (w5.setCell ⟨q, 0, none⟩ (.slice (some ⟨g, 0, none⟩) (n - 1) c)).heap.size = w5.heap.size := by simp [World.setCell]
          rw [e]
          exact HG5.out.size
        · exact (Below.heap_setCell w5 ⟨q, 0, none⟩ _ k h1).trans (HG5.out.block k hk h3))
      obtain ⟨w6, hw6⟩ : ∃ w6, w5.setCell ⟨q, 0, none⟩ (.slice (some ⟨g, 0, none⟩) (n - 1) c) = w6 := ⟨_, rfl⟩
      rw [hw6] at B6 M6 HT
      have c1 : w6.cell? ⟨q, 1, none⟩ = some (.map (some m)) := (blk_cell B6.out 1).trans rfl
      have hcl := fun ty => clear54 ty m clock w6 M6.out
      go_wp2_with (fail)
      go_ret
      obtain ⟨h8, h9⟩ := SpdO.lay (es' := #[]) (clock' := clock) B6.out M6.out HT.out.1 HO.out.low HO.out.lom (kept_nil _) HT.out.2
      exact ⟨_, by rw [hF.out] <;> rfl, by rw [hF.out]; exact h8, h9⟩
set_option maxHeartbeats 3200000 in
set_option maxRecDepth 100000 in
theorem add_1 {w : World} {base q m : Nat} {A : Option Addr} {c : Nat} {l : List S35} (h : SpdO w base q m (.slice A l.length c) l) (hlim : l.length ≤ 1000) (i : Int) (r : S35) (CS : Array Value) (CK : Aside0 (∀ W : World, Calls Try.prog 17 #[.agg CS] W fun e w' => e = .returned (.int .i64 0) ∧ Below W.heap.size W w')) (HER : Aside0 (checkE r = 0)) (h2 : i < 0) (HEN : Aside0 ((enc35 r).toArray = CS)) :
    Calls Try.prog 10 #[.pointer (some ⟨q, 0, none⟩), .int .i64 i, .agg CS] w (SpCall (addF l i r) w base q m (.slice A l.length c)) := by
  have HO := Aside0.mk h
  have HLT := Aside0.mk (show ∀ k, (Value.slice A l.length c).ownBlock = some k → k < w.heap.size from fun k hk => own_lt h.own k hk)
  obtain ⟨es, clock, hm, hk⟩ := h.map
  have HM := Aside0.mk hm
  have LDV := Aside0.mk fun (W : World) (g : Nat) (hb : W.heap[g]? = some (.cells CS 35 (0, 0))) => run_loadVar_row (P := Try.prog) W g 35 35 CS (0, 0) _ hb Try.underlying35 rfl (by rw [← HEN.out]; exact isz35)
  have IW := Aside0.mk fun (j : Nat) (hj : j ≤ l.length) (W : World) (vb : Nat) (hb : Below w.heap.size w W) (hv : W.heap[vb]? = some (.cells CS 35 (0, 0))) (hvb : w.heap.size ≤ vb) =>
    insert_walk base vb A c l r j W (h.below hb).own (by rw [HEN.out]; exact hv) (fun e => by have := own_lt h.own vb e.symm; omega) hlim hj (by have := h.low; have := blk_lt h.blk; have := hb.size; omega)
  obtain ⟨n, hn⟩ : ∃ n, l.length = n := ⟨_, rfl⟩
  have HN := Aside0.mk hn
  simp only [hn] at IW
  rw [hn] at hlim HO HLT ⊢
  have TB := Aside0.mk (show ∀ W, Below w.heap.size w W → W.cell? ⟨q, 0, none⟩ = some (.slice A n c) ∧ W.cell? ⟨q, 1, none⟩ = some (.map (some m)) from fun W hb => ⟨(blk_cell (HO.out.below hb).blk 0).trans rfl, (blk_cell (HO.out.below hb).blk 1).trans rfl⟩)
  have HF := Aside0.mk (show ∀ x w', addF l i r = (l, x) → Below w.heap.size w w' → ∀ e, e = .returned (.int .i64 x) → SpCall (addF l i r) w base q m (.slice A n c) e w' from fun x w' hx hb e he => by
    rw [hx]
    exact ⟨_, he, HO.out.below hb, Turn.of_below hb _ _ _⟩)
  clear h hn hm hk
  have HX := Aside0.mk (show addF l i r = (l, 1) from (if_pos HER.out).trans (if_pos h2))
  have d2 : decide (i < 0) = true := decide_eq_true h2
  clear h2
  go_enter Try.func10, Try.ntmps10
  go_wp2_with (first | ((with_reducible refine gate_dst (N := 5) rfl ?_); refine box_event ?hg (N := 5) ?hd (cs := CS) (t := 35) ?hr ?_; (case hd => rfl); (case hg => rfl); (case hr => first | (go_simp; done) | (go_simp; rfl)); intro q1 hq w1 hbox hb; have BKq1 := Aside0.mk hbox; have HQq1 := Aside0.mk (show w.heap.size ≤ q1 from by rw [hq]; exact Nat.le_refl _); have HB1 := Aside0.mk hb; clear hbox hb hq; have LD1 := LDV.out w1 q1 BKq1.out) | ((with_reducible refine gate_dst (N := 11) rfl ?_); refine Kd.event_run (v := .agg CS) (w1 := w1) ?hg (load_run 35 (.tmp 5) q1 CS ?ho ?hx LD1) ?_; (case hg => rfl); (case ho => rfl); (case hx => rfl); clear LD1))
  refine (CK.out _).mono ?_
  rintro e w2 ⟨rfl, hb⟩
  have BKq1 := Aside0.mk (blk_below BKq1.out hb)
  have HB2 := Aside0.mk (HB1.out.trans (hb.mono HB1.out.size))
  clear hb
  go_wp2_with (fail)
  go_ret
  exact HF.out 1 _ HX.out HB2.out _ rfl
set_option maxHeartbeats 3200000 in
set_option maxRecDepth 100000 in
theorem add_2 {w : World} {base q m : Nat} {A : Option Addr} {c : Nat} {l : List S35} (h : SpdO w base q m (.slice A l.length c) l) (hlim : l.length ≤ 1000) (i : Int) (r : S35) (CS : Array Value) (CK : Aside0 (∀ W : World, Calls Try.prog 17 #[.agg CS] W fun e w' => e = .returned (.int .i64 0) ∧ Below W.heap.size W w')) (HER : Aside0 (checkE r = 0)) (h2 : ¬ i < 0) (h3' : (l.length : Int) < i) (HEN : Aside0 ((enc35 r).toArray = CS)) :
    Calls Try.prog 10 #[.pointer (some ⟨q, 0, none⟩), .int .i64 i, .agg CS] w (SpCall (addF l i r) w base q m (.slice A l.length c)) := by
  have HO := Aside0.mk h
  have HLT := Aside0.mk (show ∀ k, (Value.slice A l.length c).ownBlock = some k → k < w.heap.size from fun k hk => own_lt h.own k hk)
  obtain ⟨es, clock, hm, hk⟩ := h.map
  have HM := Aside0.mk hm
  have LDV := Aside0.mk fun (W : World) (g : Nat) (hb : W.heap[g]? = some (.cells CS 35 (0, 0))) => run_loadVar_row (P := Try.prog) W g 35 35 CS (0, 0) _ hb Try.underlying35 rfl (by rw [← HEN.out]; exact isz35)
  have IW := Aside0.mk fun (j : Nat) (hj : j ≤ l.length) (W : World) (vb : Nat) (hb : Below w.heap.size w W) (hv : W.heap[vb]? = some (.cells CS 35 (0, 0))) (hvb : w.heap.size ≤ vb) =>
    insert_walk base vb A c l r j W (h.below hb).own (by rw [HEN.out]; exact hv) (fun e => by have := own_lt h.own vb e.symm; omega) hlim hj (by have := h.low; have := blk_lt h.blk; have := hb.size; omega)
  obtain ⟨n, hn⟩ : ∃ n, l.length = n := ⟨_, rfl⟩
  have HN := Aside0.mk hn
  simp only [hn] at IW
  rw [hn] at hlim HO HLT ⊢
  have TB := Aside0.mk (show ∀ W, Below w.heap.size w W → W.cell? ⟨q, 0, none⟩ = some (.slice A n c) ∧ W.cell? ⟨q, 1, none⟩ = some (.map (some m)) from fun W hb => ⟨(blk_cell (HO.out.below hb).blk 0).trans rfl, (blk_cell (HO.out.below hb).blk 1).trans rfl⟩)
  have HF := Aside0.mk (show ∀ x w', addF l i r = (l, x) → Below w.heap.size w w' → ∀ e, e = .returned (.int .i64 x) → SpCall (addF l i r) w base q m (.slice A n c) e w' from fun x w' hx hb e he => by
    rw [hx]
    exact ⟨_, he, HO.out.below hb, Turn.of_below hb _ _ _⟩)
  clear h hn hm hk
  have h3 : (n : Int) < i := by rw [← HN.out]; exact h3'
  clear h3'
  have d2 : decide (i < 0) = false := decide_eq_false h2
  have HX := Aside0.mk (show addF l i r = (l, 1) from (if_pos HER.out).trans ((if_neg h2).trans (if_pos (by rw [HN.out]; exact h3))))
  have d3 : decide ((n : Int) < i) = true := decide_eq_true h3
  clear h2 h3
  go_enter Try.func10, Try.ntmps10
  go_wp2_with (first | ((with_reducible refine gate_dst (N := 5) rfl ?_); refine box_event ?hg (N := 5) ?hd (cs := CS) (t := 35) ?hr ?_; (case hd => rfl); (case hg => rfl); (case hr => first | (go_simp; done) | (go_simp; rfl)); intro q1 hq w1 hbox hb; have BKq1 := Aside0.mk hbox; have HQq1 := Aside0.mk (show w.heap.size ≤ q1 from by rw [hq]; exact Nat.le_refl _); have HB1 := Aside0.mk hb; clear hbox hb hq; have LD1 := LDV.out w1 q1 BKq1.out) | ((with_reducible refine gate_dst (N := 11) rfl ?_); refine Kd.event_run (v := .agg CS) (w1 := w1) ?hg (load_run 35 (.tmp 5) q1 CS ?ho ?hx LD1) ?_; (case hg => rfl); (case ho => rfl); (case hx => rfl); clear LD1))
  refine (CK.out _).mono ?_
  rintro e w2 ⟨rfl, hb⟩
  have BKq1 := Aside0.mk (blk_below BKq1.out hb)
  have HB2 := Aside0.mk (HB1.out.trans (hb.mono HB1.out.size))
  clear hb
  obtain ⟨x0, x1⟩ := TB.out _ HB2.out
  go_wp2_with (fail)
  go_ret
  exact HF.out 1 _ HX.out HB2.out _ rfl
set_option maxHeartbeats 3200000 in
set_option maxRecDepth 100000 in
theorem add_3 {w : World} {base q m : Nat} {A : Option Addr} {c : Nat} {l : List S35} (h : SpdO w base q m (.slice A l.length c) l) (hlim : l.length ≤ 1000) (j : Nat) (r : S35) (CS : Array Value) (CK : Aside0 (∀ W : World, Calls Try.prog 17 #[.agg CS] W fun e w' => e = .returned (.int .i64 0) ∧ Below W.heap.size W w')) (HER : Aside0 (checkE r = 0)) (hjn' : j ≤ l.length) (h4' : 64 ≤ l.length) (HEN : Aside0 ((enc35 r).toArray = CS)) :
    Calls Try.prog 10 #[.pointer (some ⟨q, 0, none⟩), .int .i64 (j : Int), .agg CS] w (SpCall (addF l (j : Int) r) w base q m (.slice A l.length c)) := by
  have HO := Aside0.mk h
  have HLT := Aside0.mk (show ∀ k, (Value.slice A l.length c).ownBlock = some k → k < w.heap.size from fun k hk => own_lt h.own k hk)
  obtain ⟨es, clock, hm, hk⟩ := h.map
  have HM := Aside0.mk hm
  have LDV := Aside0.mk fun (W : World) (g : Nat) (hb : W.heap[g]? = some (.cells CS 35 (0, 0))) => run_loadVar_row (P := Try.prog) W g 35 35 CS (0, 0) _ hb Try.underlying35 rfl (by rw [← HEN.out]; exact isz35)
  have IW := Aside0.mk fun (j : Nat) (hj : j ≤ l.length) (W : World) (vb : Nat) (hb : Below w.heap.size w W) (hv : W.heap[vb]? = some (.cells CS 35 (0, 0))) (hvb : w.heap.size ≤ vb) =>
    insert_walk base vb A c l r j W (h.below hb).own (by rw [HEN.out]; exact hv) (fun e => by have := own_lt h.own vb e.symm; omega) hlim hj (by have := h.low; have := blk_lt h.blk; have := hb.size; omega)
  obtain ⟨n, hn⟩ : ∃ n, l.length = n := ⟨_, rfl⟩
  have HN := Aside0.mk hn
  simp only [hn] at IW
  rw [hn] at hlim HO HLT ⊢
  have TB := Aside0.mk (show ∀ W, Below w.heap.size w W → W.cell? ⟨q, 0, none⟩ = some (.slice A n c) ∧ W.cell? ⟨q, 1, none⟩ = some (.map (some m)) from fun W hb => ⟨(blk_cell (HO.out.below hb).blk 0).trans rfl, (blk_cell (HO.out.below hb).blk 1).trans rfl⟩)
  have HF := Aside0.mk (show ∀ x w', addF l (j : Int) r = (l, x) → Below w.heap.size w w' → ∀ e, e = .returned (.int .i64 x) → SpCall (addF l (j : Int) r) w base q m (.slice A n c) e w' from fun x w' hx hb e he => by
    rw [hx]
    exact ⟨_, he, HO.out.below hb, Turn.of_below hb _ _ _⟩)
  clear h hn hm hk
  have h2 : ¬ (j : Int) < 0 := by omega
  have d2 : decide ((j : Int) < 0) = false := decide_eq_false h2
  have hjn : j ≤ n := by rw [← HN.out]; exact hjn'
  have h3 : ¬ (n : Int) < (j : Int) := by omega
  have d3 : decide ((n : Int) < (j : Int)) = false := decide_eq_false h3
  have d3n : decide (n < j) = false := decide_eq_false (by omega)
  have h4 : 64 ≤ n := by rw [← HN.out]; exact h4'
  clear h4' hjn' hjn
  have HX := Aside0.mk (show addF l (j : Int) r = (l, 7) from (if_pos HER.out).trans ((if_neg h2).trans ((if_neg (by rw [HN.out]; exact h3)).trans (if_pos (by rw [HN.out]; omega)))))
  have d4 : decide ((64 : Int) ≤ (n : Int)) = true := decide_eq_true (by omega)
  clear h2 h3 h4
  go_enter Try.func10, Try.ntmps10
  go_wp2_with (first | ((with_reducible refine gate_dst (N := 5) rfl ?_); refine box_event ?hg (N := 5) ?hd (cs := CS) (t := 35) ?hr ?_; (case hd => rfl); (case hg => rfl); (case hr => first | (go_simp; done) | (go_simp; rfl)); intro q1 hq w1 hbox hb; have BKq1 := Aside0.mk hbox; have HQq1 := Aside0.mk (show w.heap.size ≤ q1 from by rw [hq]; exact Nat.le_refl _); have HB1 := Aside0.mk hb; clear hbox hb hq; have LD1 := LDV.out w1 q1 BKq1.out) | ((with_reducible refine gate_dst (N := 11) rfl ?_); refine Kd.event_run (v := .agg CS) (w1 := w1) ?hg (load_run 35 (.tmp 5) q1 CS ?ho ?hx LD1) ?_; (case hg => rfl); (case ho => rfl); (case hx => rfl); clear LD1))
  refine (CK.out _).mono ?_
  rintro e w2 ⟨rfl, hb⟩
  have BKq1 := Aside0.mk (blk_below BKq1.out hb)
  have HB2 := Aside0.mk (HB1.out.trans (hb.mono HB1.out.size))
  clear hb
  obtain ⟨x0, x1⟩ := TB.out _ HB2.out
  go_wp2_with (fail)
  go_ret
  exact HF.out 7 _ HX.out HB2.out _ rfl
set_option maxHeartbeats 3200000 in
set_option maxRecDepth 100000 in
theorem add_4 {w : World} {base q m : Nat} {A : Option Addr} {c : Nat} {l : List S35} (h : SpdO w base q m (.slice A l.length c) l) (hlim : l.length ≤ 1000) (j : Nat) (r : S35) (CS : Array Value) (CK : Aside0 (∀ W : World, Calls Try.prog 17 #[.agg CS] W fun e w' => e = .returned (.int .i64 0) ∧ Below W.heap.size W w')) (HER : Aside0 (checkE r = 0)) (hjn' : j ≤ l.length) (h4' : ¬ 64 ≤ l.length) (HEN : Aside0 ((enc35 r).toArray = CS)) :
    Calls Try.prog 10 #[.pointer (some ⟨q, 0, none⟩), .int .i64 (j : Int), .agg CS] w (SpCall (addF l (j : Int) r) w base q m (.slice A l.length c)) := by
  have HO := Aside0.mk h
  have HLT := Aside0.mk (show ∀ k, (Value.slice A l.length c).ownBlock = some k → k < w.heap.size from fun k hk => own_lt h.own k hk)
  obtain ⟨es, clock, hm, hk⟩ := h.map
  have HM := Aside0.mk hm
  have LDV := Aside0.mk fun (W : World) (g : Nat) (hb : W.heap[g]? = some (.cells CS 35 (0, 0))) => run_loadVar_row (P := Try.prog) W g 35 35 CS (0, 0) _ hb Try.underlying35 rfl (by rw [← HEN.out]; exact isz35)
  have IW := Aside0.mk fun (j : Nat) (hj : j ≤ l.length) (W : World) (vb : Nat) (hb : Below w.heap.size w W) (hv : W.heap[vb]? = some (.cells CS 35 (0, 0))) (hvb : w.heap.size ≤ vb) =>
    insert_walk base vb A c l r j W (h.below hb).own (by rw [HEN.out]; exact hv) (fun e => by have := own_lt h.own vb e.symm; omega) hlim hj (by have := h.low; have := blk_lt h.blk; have := hb.size; omega)
  obtain ⟨n, hn⟩ : ∃ n, l.length = n := ⟨_, rfl⟩
  have HN := Aside0.mk hn
  simp only [hn] at IW
  rw [hn] at hlim HO HLT ⊢
  have TB := Aside0.mk (show ∀ W, Below w.heap.size w W → W.cell? ⟨q, 0, none⟩ = some (.slice A n c) ∧ W.cell? ⟨q, 1, none⟩ = some (.map (some m)) from fun W hb => ⟨(blk_cell (HO.out.below hb).blk 0).trans rfl, (blk_cell (HO.out.below hb).blk 1).trans rfl⟩)
  have HF := Aside0.mk (show ∀ x w', addF l (j : Int) r = (l, x) → Below w.heap.size w w' → ∀ e, e = .returned (.int .i64 x) → SpCall (addF l (j : Int) r) w base q m (.slice A n c) e w' from fun x w' hx hb e he => by
    rw [hx]
    exact ⟨_, he, HO.out.below hb, Turn.of_below hb _ _ _⟩)
  clear h hn hm hk
  have h2 : ¬ (j : Int) < 0 := by omega
  have d2 : decide ((j : Int) < 0) = false := decide_eq_false h2
  have hjn : j ≤ n := by rw [← HN.out]; exact hjn'
  have h3 : ¬ (n : Int) < (j : Int) := by omega
  have d3 : decide ((n : Int) < (j : Int)) = false := decide_eq_false h3
  have d3n : decide (n < j) = false := decide_eq_false (by omega)
  have h4 : ¬ 64 ≤ n := by rw [← HN.out]; exact h4'
  clear h4' hjn'
  have HX := Aside0.mk (show addF l (j : Int) r = (l.take j ++ r :: l.drop j, 0) from (if_pos HER.out).trans ((if_neg h2).trans ((if_neg (by rw [HN.out]; exact h3)).trans (if_neg (by rw [HN.out]; omega)))))
  have d4 : decide ((64 : Int) ≤ (n : Int)) = false := decide_eq_false (by omega)
  clear h2 h3 h4
  obtain ⟨l', hl'⟩ : ∃ l', l.take j ++ r :: l.drop j = l' := ⟨_, rfl⟩
  have IX := Aside0.mk (IW.out j hjn)
  rw [hl'] at IX HX
  clear hl' hjn
  go_enter Try.func10, Try.ntmps10
  go_wp2_with (first | ((with_reducible refine gate_dst (N := 5) rfl ?_); refine box_event ?hg (N := 5) ?hd (cs := CS) (t := 35) ?hr ?_; (case hd => rfl); (case hg => rfl); (case hr => first | (go_simp; done) | (go_simp; rfl)); intro q1 hq w1 hbox hb; have BKq1 := Aside0.mk hbox; have HQq1 := Aside0.mk (show w.heap.size ≤ q1 from by rw [hq]; exact Nat.le_refl _); have HB1 := Aside0.mk hb; clear hbox hb hq; have LD1 := LDV.out w1 q1 BKq1.out) | ((with_reducible refine gate_dst (N := 11) rfl ?_); refine Kd.event_run (v := .agg CS) (w1 := w1) ?hg (load_run 35 (.tmp 5) q1 CS ?ho ?hx LD1) ?_; (case hg => rfl); (case ho => rfl); (case hx => rfl); clear LD1))
  refine (CK.out _).mono ?_
  rintro e w2 ⟨rfl, hb⟩
  have BKq1 := Aside0.mk (blk_below BKq1.out hb)
  have HB2 := Aside0.mk (HB1.out.trans (hb.mono HB1.out.size))
  clear hb
  have hS2 := HO.out.below HB2.out
  have HS2 := Aside0.mk hS2.blk
  have HM2 := Aside0.mk (blk_below HM.out HB2.out)
  obtain ⟨x0, x1⟩ := TB.out _ HB2.out
  clear hS2
  go_wp2_with (fail)
  clear x0 x1
  refine start_ (n := 12) (S := fun W => W.heap[q]? = some (.cells #[.slice A n c, .map (some m)] 56 (0, 0)) ∧ W.heap[q1]? = some (.cells CS 35 (0, 0)) ∧ W.heap[m]? = some (.map es clock)) (ds := [11]) #[false, false, false, false, false, false, false, false, false, false, false, false] (by kernel_rfl) rfl rfl ⟨HS2.out, BKq1.out, HM2.out⟩ (fun hHeld => ?_)
  refine pure_ (i := 0) (N := some 34) (v := ?_) (a' := ?_) #[true, false, false, false, false, false, false, false, false, false, false, false] rfl rfl (by kernel_rfl) (fun _ _ _ h => h) (Or.inl ⟨by rfl, ?_⟩) ?_ ?_
  rotate_left
  · intro w'
    go_simp
    with_reducible rfl
  rotate_left
  · simp only [Act.put, List.setIfInBounds_toArray, List.set_cons_zero, List.set_cons_succ]
    rfl
  refine pure_ (i := 1) (N := some 35) (v := ?_) (a' := ?_) #[true, true, false, false, false, false, false, false, false, false, false, false] rfl rfl (by kernel_rfl) (fun _ _ _ h => h) (Or.inl ⟨by rfl, ?_⟩) ?_ ?_
  rotate_left
  · intro w'
    go_simp
    with_reducible rfl
  rotate_left
  · simp only [Act.put, List.setIfInBounds_toArray, List.set_cons_zero, List.set_cons_succ]
    rfl
  refine pure_ (i := 2) (N := some 36) (v := ?_) (a' := ?_) #[true, true, true, false, false, false, false, false, false, false, false, false] rfl rfl (by kernel_rfl) (fun _ _ _ h => h) (Or.inl ⟨by rfl, ?_⟩) ?_ ?_
  rotate_left
  · intro w'
    go_simp
    with_reducible rfl
  rotate_left
  · simp only [Act.put, List.setIfInBounds_toArray, List.set_cons_zero, List.set_cons_succ]
    rfl
  refine pure_ (i := 3) (N := some 37) (v := ?_) (a' := ?_) #[true, true, true, true, false, false, false, false, false, false, false, false] rfl rfl (by kernel_rfl) (fun _ _ _ h => h) (Or.inl ⟨by rfl, ?_⟩) ?_ ?_
  rotate_left
  · intro w'
    go_simp
    with_reducible rfl
  rotate_left
  · simp only [Act.put, List.setIfInBounds_toArray, List.set_cons_zero, List.set_cons_succ]
    rfl
  refine take_ (i := 4) (N := some 38) (v := ?_) (a' := ?_) #[true, true, true, true, true, false, false, false, false, false, false, false] rfl rfl (by kernel_rfl) (fun _ _ _ h => h) (Or.inl ⟨by rfl, ?_⟩) hHeld ?_ ?_
  rotate_left
  · intro w' s0
    have s1 := Aside0.mk s0.1
    have s2 := Aside0.mk s0.2.1
    clear s0
    have x0 : w'.cell? ⟨q, 0, none⟩ = some (.slice A n c) := (blk_cell s1.out 0).trans rfl
    have LD := LDV.out w' q1 s2.out
    go_simp
    with_reducible rfl
  rotate_left
  · simp only [Act.put, List.setIfInBounds_toArray, List.set_cons_zero, List.set_cons_succ]
    rfl
  refine pure_ (i := 5) (N := some 39) (v := ?_) (a' := ?_) #[true, true, true, true, true, true, false, false, false, false, false, false] rfl rfl (by kernel_rfl) (fun _ _ _ h => h) (Or.inl ⟨by rfl, ?_⟩) ?_ ?_
  rotate_left
  · intro w'
    go_simp
    with_reducible rfl
  rotate_left
  · simp only [Act.put, List.setIfInBounds_toArray, List.set_cons_zero, List.set_cons_succ]
    rfl
  refine take_ (i := 6) (N := some 40) (v := ?_) (a' := ?_) #[true, true, true, true, true, true, true, false, false, false, false, false] rfl rfl (by kernel_rfl) (fun _ _ _ h => h) (Or.inl ⟨by rfl, ?_⟩) hHeld ?_ ?_
  rotate_left
  · intro w' s0
    have s1 := Aside0.mk s0.1
    have s2 := Aside0.mk s0.2.1
    clear s0
    have x0 : w'.cell? ⟨q, 0, none⟩ = some (.slice A n c) := (blk_cell s1.out 0).trans rfl
    have LD := LDV.out w' q1 s2.out
    refine load_run 35 (.tmp 5) q1 CS ?_ ?_ LD
    · rfl
    · rfl
  rotate_left
  · simp only [Act.put, List.setIfInBounds_toArray, List.set_cons_zero, List.set_cons_succ]
    rfl
  refine one_ (i := 7) (N := some 41) #[true, true, true, true, true, true, true, true, false, false, false, false] rfl rfl (by kernel_rfl) (by decide) (fun K hK => ?_)
  refine value_ (v := .slice (some ⟨w2.heap.size, 0, none⟩) 1 1) (w1 := (w2.alloc (.cells CS 35 (0, 0))).drew) (by rfl) rfl ?_ ?_
  · obtain rfl := HEN.out
    unfold enc35
    go_simp
  obtain ⟨vb, hvb⟩ : ∃ vb, w2.heap.size = vb := ⟨_, rfl⟩
  have HB7 := Aside0.mk (show Below w.heap.size w ((w2.alloc (.cells CS 35 (0, 0))).drew) from below_drew (below_alloc HB2.out _))
  have BV := Aside0.mk (show ((w2.alloc (.cells CS 35 (0, 0))).drew).heap[vb]? = some (.cells CS 35 (0, 0)) from by rw [← hvb]; exact heap_alloc_new w2 _)
  have HVB := Aside0.mk (show w.heap.size ≤ vb from by rw [← hvb]; exact HB2.out.size)
  have HB27 := Aside0.mk (show Below w2.heap.size w2 ((w2.alloc (.cells CS 35 (0, 0))).drew) from below_drew (below_alloc (Below.refl _ _) _))
  obtain ⟨W7, hW7⟩ : ∃ W7, (w2.alloc (.cells CS 35 (0, 0))).drew = W7 := ⟨_, rfl⟩
  rw [hW7] at HB7 BV HB27 ⊢
  rw [hvb]
  clear hW7 hvb
  refine hK.out _ _ ⟨blk_below HS2.out HB27.out, blk_below BKq1.out HB27.out, blk_below HM2.out HB27.out⟩ (fun hHeld => ?_)
  clear hK K
  refine norm_ (a' := ?_) ?_ ?_
  rotate_left
  · show Act.put _ (some 41) _ = _
    simp only [Act.put, List.setIfInBounds_toArray, List.set_cons_zero, List.set_cons_succ]
    rfl
  refine one_ (i := 8) (N := some 42) #[true, true, true, true, true, true, true, true, true, false, false, false] rfl rfl (by kernel_rfl) (by decide) (fun K hK => ?_)
  refine goesV_ Try.func18 (by kernel_rfl) rfl #[.slice A n c, .int .i64 j, .slice (some ⟨vb, 0, none⟩) 1 1] (by rfl) rfl rfl (by first | rfl | go_simp) (by first | rfl | simp [Act.eval] | go_simp) ?_
  refine (IX.out _ _ HB7.out BV.out HVB.out).mono ?_
  rintro e w8 ⟨v', rfl, ho, hg, hat⟩
  obtain ⟨A', c', rfl, _, _⟩ := own_slice' ho
  have HO8 := Aside0.mk ho
  have HG8 := Aside0.mk hg
  have HA8 := Aside0.mk hat
  clear ho hg hat
  refine ⟨_, rfl, hK.out _ _ ⟨blk_grown hHeld.1 HG8.out (fun e => own_neT HO.out.own HO.out.blk (by decide) e), blk_grown hHeld.2.1 HG8.out (fun e => by have h1 := HLT.out q1 e.symm; have h2 := HQq1.out; omega), blk_grown hHeld.2.2 HG8.out (fun e => own_neM HO.out.own HM.out e)⟩ (fun hHeld => ?_)⟩
  clear hK K
  refine norm_ (a' := ?_) ?_ ?_
  rotate_left
  · show Act.put _ (some 42) _ = _
    simp only [Act.put, List.setIfInBounds_toArray, List.set_cons_zero, List.set_cons_succ]
    rfl
  refine pure_ (i := 9) (N := some 43) (v := ?_) (a' := ?_) #[true, true, true, true, true, true, true, true, true, true, false, false] rfl rfl (by kernel_rfl) (fun _ _ _ h => h) (Or.inl ⟨by rfl, ?_⟩) ?_ ?_
  rotate_left
  · intro w'
    go_simp
    with_reducible rfl
  rotate_left
  · simp only [Act.put, List.setIfInBounds_toArray, List.set_cons_zero, List.set_cons_succ]
    rfl
  refine pure_ (i := 10) (N := some 44) (v := ?_) (a' := ?_) #[true, true, true, true, true, true, true, true, true, true, true, false] rfl rfl (by kernel_rfl) (fun _ _ _ h => h) (Or.inl ⟨by rfl, ?_⟩) ?_ ?_
  rotate_left
  · intro w'
    go_simp
    with_reducible rfl
  rotate_left
  · simp only [Act.put, List.setIfInBounds_toArray, List.set_cons_zero, List.set_cons_succ]
    rfl
  refine last_ (i := 11) (N := none) #[true, true, true, true, true, true, true, true, true, true, true, true] rfl rfl (by kernel_rfl) (by decide) (fun K hK => ?_)
  refine skip_ (w1 := w8.setCell ⟨q, 0, none⟩ (.slice A' l'.length c')) (by rfl) rfl ?_ ?_
  · have c0 : w8.cell? ⟨q, 0, none⟩ = some (.slice A n c) := (blk_cell hHeld.1 0).trans rfl
    have f0 : w8.frozen? ⟨q, 0, none⟩ = false := blk_frozen hHeld.1 0
    clear hHeld
    go_simp
  have B9 := Aside0.mk (show (w8.setCell ⟨q, 0, none⟩ (.slice A' l'.length c')).heap[q]? = some (.cells #[.slice A' l'.length c', .map (some m)] 56 (0, 0)) from (blk_set hHeld.1 0 _).trans rfl)
  have M9 := Aside0.mk (show (w8.setCell ⟨q, 0, none⟩ (.slice A' l'.length c')).heap[m]? = some (.map es clock) from (Below.heap_setCell w8 ⟨q, 0, none⟩ _ m (Ne.symm (blk_neM hHeld.1 hHeld.2.2))).trans hHeld.2.2)
  have HT := Aside0.mk (show OwnT (w8.setCell ⟨q, 0, none⟩ (.slice A' l'.length c')) base (.slice A' l'.length c') l' ∧ Turn w (w8.setCell ⟨q, 0, none⟩ (.slice A' l'.length c')) q m (.slice A n c) (.slice A' l'.length c') from by
    have hq : some q ≠ (Value.slice A' l'.length c').ownBlock := own_neT HO8.out hHeld.1 (by decide)
    refine ⟨own_setCell HO8.out hq _, HG8.out.os.trans HB7.out.os, HG8.out.tape.trans HB7.out.tape, HG8.out.output.trans HB7.out.output, ?_, fun k hk h1 hm2 h2 => ?_, ?_⟩
    · have e : (w8.setCell ⟨q, 0, none⟩ (.slice A' l'.length c')).heap.size = w8.heap.size := by simp [World.setCell]
      rw [e]
      exact Nat.le_trans HB7.out.size HG8.out.size
    · exact (Below.heap_setCell w8 ⟨q, 0, none⟩ _ k h1).trans ((HG8.out.block k (Nat.lt_of_lt_of_le hk HB7.out.size) h2).trans (HB7.out.block k hk))
    · intro k hk
      rcases HA8.out with h | ⟨b, h1, h2⟩
      · exact .inl (by rw [← h]; exact hk)
      · rw [h1] at hk
        injection hk with hk
        exact .inr (by rw [← hk]; exact Nat.le_trans HB7.out.size h2))
  obtain ⟨w9, hw9⟩ : ∃ w9, w8.setCell ⟨q, 0, none⟩ (.slice A' l'.length c') = w9 := ⟨_, rfl⟩
  rw [hw9] at B9 M9 HT ⊢
  clear hw9
  refine hK.out _ _ ?_
  clear hK K hHeld
  refine done_ (by kernel_rfl) ?_
  (try simp only [Exit.inBlock, Exit.then])
  have c1 : w9.cell? ⟨q, 1, none⟩ = some (.map (some m)) := (blk_cell B9.out 1).trans rfl
  have hcl := fun ty => clear54 ty m clock w9 M9.out
  go_wp2_with (fail)
  go_ret
  obtain ⟨h8, h9⟩ := SpdO.lay (es' := #[]) (clock' := clock) B9.out M9.out HT.out.1 HO.out.low HO.out.lom (kept_nil _) HT.out.2
  exact ⟨_, by rw [HX.out] <;> rfl, by rw [HX.out]; exact h8, h9⟩
set_option maxHeartbeats 3200000 in
set_option maxRecDepth 100000 in
theorem add_5 {w : World} {base q m : Nat} {A : Option Addr} {c : Nat} {l : List S35} (h : SpdO w base q m (.slice A l.length c) l) (hlim : l.length ≤ 1000) (i : Int) (r : S35) (er : Int) (CS : Array Value) (CK : Aside0 (∀ W : World, Calls Try.prog 17 #[.agg CS] W fun e w' => e = .returned (.int .i64 er) ∧ Below W.heap.size W w')) (HER : Aside0 (checkE r = er)) (h1 : er ≠ 0) (HEN : Aside0 ((enc35 r).toArray = CS)) :
    Calls Try.prog 10 #[.pointer (some ⟨q, 0, none⟩), .int .i64 i, .agg CS] w (SpCall (addF l i r) w base q m (.slice A l.length c)) := by
  have HO := Aside0.mk h
  have HLT := Aside0.mk (show ∀ k, (Value.slice A l.length c).ownBlock = some k → k < w.heap.size from fun k hk => own_lt h.own k hk)
  obtain ⟨es, clock, hm, hk⟩ := h.map
  have HM := Aside0.mk hm
  have LDV := Aside0.mk fun (W : World) (g : Nat) (hb : W.heap[g]? = some (.cells CS 35 (0, 0))) => run_loadVar_row (P := Try.prog) W g 35 35 CS (0, 0) _ hb Try.underlying35 rfl (by rw [← HEN.out]; exact isz35)
  have IW := Aside0.mk fun (j : Nat) (hj : j ≤ l.length) (W : World) (vb : Nat) (hb : Below w.heap.size w W) (hv : W.heap[vb]? = some (.cells CS 35 (0, 0))) (hvb : w.heap.size ≤ vb) =>
    insert_walk base vb A c l r j W (h.below hb).own (by rw [HEN.out]; exact hv) (fun e => by have := own_lt h.own vb e.symm; omega) hlim hj (by have := h.low; have := blk_lt h.blk; have := hb.size; omega)
  obtain ⟨n, hn⟩ : ∃ n, l.length = n := ⟨_, rfl⟩
  have HN := Aside0.mk hn
  simp only [hn] at IW
  rw [hn] at hlim HO HLT ⊢
  have TB := Aside0.mk (show ∀ W, Below w.heap.size w W → W.cell? ⟨q, 0, none⟩ = some (.slice A n c) ∧ W.cell? ⟨q, 1, none⟩ = some (.map (some m)) from fun W hb => ⟨(blk_cell (HO.out.below hb).blk 0).trans rfl, (blk_cell (HO.out.below hb).blk 1).trans rfl⟩)
  have HF := Aside0.mk (show ∀ x w', addF l i r = (l, x) → Below w.heap.size w w' → ∀ e, e = .returned (.int .i64 x) → SpCall (addF l i r) w base q m (.slice A n c) e w' from fun x w' hx hb e he => by
    rw [hx]
    exact ⟨_, he, HO.out.below hb, Turn.of_below hb _ _ _⟩)
  clear h hn hm hk
  have HX := Aside0.mk (show addF l i r = (l, 1) from if_neg (by rw [HER.out]; exact h1))
  have h1B : (er != 0) = true := by rw [bne_iff_ne]; exact h1
  clear h1
  go_enter Try.func10, Try.ntmps10
  go_wp2_with (first | ((with_reducible refine gate_dst (N := 5) rfl ?_); refine box_event ?hg (N := 5) ?hd (cs := CS) (t := 35) ?hr ?_; (case hd => rfl); (case hg => rfl); (case hr => first | (go_simp; done) | (go_simp; rfl)); intro q1 hq w1 hbox hb; have BKq1 := Aside0.mk hbox; have HQq1 := Aside0.mk (show w.heap.size ≤ q1 from by rw [hq]; exact Nat.le_refl _); have HB1 := Aside0.mk hb; clear hbox hb hq; have LD1 := LDV.out w1 q1 BKq1.out) | ((with_reducible refine gate_dst (N := 11) rfl ?_); refine Kd.event_run (v := .agg CS) (w1 := w1) ?hg (load_run 35 (.tmp 5) q1 CS ?ho ?hx LD1) ?_; (case hg => rfl); (case ho => rfl); (case hx => rfl); clear LD1))
  refine (CK.out _).mono ?_
  rintro e w2 ⟨rfl, hb⟩
  have BKq1 := Aside0.mk (blk_below BKq1.out hb)
  have HB2 := Aside0.mk (HB1.out.trans (hb.mono HB1.out.size))
  clear hb
  go_wp2_with (fail)
  go_ret
  exact HF.out 1 _ HX.out HB2.out _ rfl
theorem add_call {w : World} {base q m : Nat} {v : Value} {l : List S35} (h : SpdO w base q m v l) (hlim : l.length ≤ 1000) (i : Int) (r : S35) : Calls Try.prog 10 #[.pointer (some ⟨q, 0, none⟩), .int .i64 i, v35 r] w (SpCall (addF l i r) w base q m v) := by
  obtain ⟨A, c, rfl, _, _⟩ := own_slice' h.own
  have CK := fun W => spdcheck_walk r W
  by_cases h1 : checkE r = 0
  · rw [h1] at CK
    by_cases h2 : i < 0
    · exact add_1 h hlim i r (enc35 r).toArray ⟨CK⟩ ⟨h1⟩ h2 ⟨rfl⟩
    · by_cases h3 : (l.length : Int) < i
      · exact add_2 h hlim i r (enc35 r).toArray ⟨CK⟩ ⟨h1⟩ h2 h3 ⟨rfl⟩
      · obtain ⟨j, rfl⟩ : ∃ j : Nat, i = (j : Int) := ⟨i.toNat, by omega⟩
        by_cases h4 : 64 ≤ l.length
        · exact add_3 h hlim j r (enc35 r).toArray ⟨CK⟩ ⟨h1⟩ (by omega) h4 ⟨rfl⟩
        · exact add_4 h hlim j r (enc35 r).toArray ⟨CK⟩ ⟨h1⟩ (by omega) h4 ⟨rfl⟩
  · exact add_5 h hlim i r (checkE r) (enc35 r).toArray ⟨CK⟩ ⟨rfl⟩ h1 ⟨rfl⟩
end Go.Proofs.Ytdpfopeofeofcaa.Sp
